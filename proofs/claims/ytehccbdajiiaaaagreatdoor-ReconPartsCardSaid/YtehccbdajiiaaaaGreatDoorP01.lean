import Derived.Lib.Hide
namespace Go.Proofs.YtehccbdajiiaaaaGreatDoor
set_option maxRecDepth 100000
abbrev Pr:=List UInt8×List UInt8
section
def flat:List (List Pr)->List Pr->List Pr
 |[],_=>[]
 |k::_,[]=>k
 |k::ks,p::ps=>k++p::flat ks ps
def pre:List (List Pr)->List Pr->List Pr
 |k::ks,p::ps=>k++p::pre ks ps
 |_,_=>[]
def post:List Pr->List (List Pr)->List Pr
 |[],_=>[]
 |p::ps,b=>p::flat b ps
theorem sj(k:List Pr)(b:List (List Pr))(y:List Pr):flat (k::b) y=k++post y b:=by cases y<;>simp[flat,post]
theorem vJ: ∀(a:List (List Pr)) (x:List Pr) (b:List (List Pr)) (y:List Pr),a.length=x.length->b≠[]->flat (a++b) (x++y)=pre a x++flat b y
 |[],[],b,y,_,_=>by simp[pre]
 |k::a,p::x,b,y,h,hb=>by have c:=vJ a x b y (by simpa using h) hb;simp[flat,pre,c]
theorem vK{a:List (List Pr)}{x:List Pr}(h:a.length=x.length)(k:List Pr)(b:List (List Pr))(y:List Pr):flat (a++k::b) (x++y)=pre a x++k++post y b:=by rw[vJ a x _ y h (by simp),sj,List.append_assoc]
theorem Dl{a:List (List Pr)}{x:List Pr}(h:a.length=x.length)(l r:List Pr)(m:Pr)(b:List (List Pr))(y:List Pr):flat (a++l::r::b) (x++m::y)=pre a x++(l++m::r)++post y b:=by rw[vJ a x _ _ h (by simp)];simp only[flat];rw[sj];simp
theorem zI{a:List (List Pr)}{x:List Pr}(h:a.length=x.length)(k:List Pr):flat (a++[k]) x=pre a x++k:=by have:=vK h k [] [];simpa[post]using this
def Up(l:List Pr):Prop:=l.Pairwise fun a b=>a.1<b.1
theorem Up.left{a b:List Pr}(h:Up (a++b)):Up a:=(List.pairwise_append.1 h).1
theorem Up.right{a b:List Pr}(h:Up (a++b)):Up b:=(List.pairwise_append.1 h).2.1
theorem fq{a b c:List UInt8}(h:a<b)(d:b<c):a<c:=List.lt_trans h d
theorem aM(a:List UInt8): ¬a<a:=List.lt_irrefl a
theorem su{a b:List UInt8}(h:a<b): ¬b<a:=fun c=>aM a (fq h c)
theorem BB{a b:List UInt8}(h: ¬a<b):b<a\/b=a:=by
 rcases Classical.em (b=a)with e|e
 ·exact .inr e
 ·refine .inl ?_;have:=List.not_lt.1 h;exact Std.lt_of_le_of_ne this e
theorem BC{key:List UInt8}: ∀{a:List (List Pr)} {x:List Pr},Up (pre a x)->(∀q∈x,q.1<key)-> ∀q∈pre a x,q.1<key
 |[],_,_,_,q,b=>by simp[pre]at b
 |_::_,[],_,_,q,b=>by simp[pre]at b
 |k::a,p::x,h,hx,q,b=>by
  simp only[pre]at h b;have c:=List.pairwise_append.1 h;have d:=List.pairwise_cons.1 c.2.1;rcases List.mem_append.1 b with b|b
  ·exact fq (c.2.2 q b p (by simp)) (hx p (by simp))
  ·rcases List.mem_cons.1 b with rfl|b
   ·exact hx _ (by simp)
   ·exact BC d.2 (fun r e=>hx r (by simp[e])) q b
def ins(p:Pr):List Pr->List Pr
 |[]=>[p]
 |q::l=>if q.1<p.1 then q::ins p l else if q.1=p.1 then p::l else p::q::l
def del(key:List UInt8):List Pr->List Pr
 |[]=>[]
 |q::l=>if q.1<key then q::del key l else if q.1=key then l else q::l
def ceil(key:List UInt8):List Pr->Option Pr
 |[]=>none
 |q::l=>if q.1<key then ceil key l else some q
def look(key:List UInt8)(l:List Pr):Option (List UInt8):=match ceil key l with
 |some q=>if q.1=key then some q.2 else none
 |none=>none
theorem oZ{p:Pr}{a b:List Pr}(h: ∀q∈a,q.1<p.1):ins p (a++b)=a++ins p b:=by
 induction a with
 |nil=>rfl
 |cons q a c=>simp[ins,h q (by simp),c (fun r c=>h r (by simp[c]))]
theorem Dm{p:Pr}{a b:List Pr}(h: ∀q,b.head?=some q->p.1<q.1):ins p (a++b)=ins p a++b:=by
 induction a with
 |nil=>
  cases b with
  |nil=>rfl
  |cons q b=>have:=h q rfl;simp[ins,su this];exact fun e=>aM p.1 (e▸this)
 |cons q a c=>
  simp only[List.cons_append,ins];split
  ·simp[c]
  ·split<;>simp
theorem pd{key:List UInt8}{a b:List Pr}(h: ∀q∈a,q.1<key):del key (a++b)=a++del key b:=by
 induction a with
 |nil=>rfl
 |cons q a c=>simp[del,h q (by simp),c (fun r c=>h r (by simp[c]))]
theorem Dn{key:List UInt8}{a b:List Pr}(h: ∀q,b.head?=some q->key<q.1):del key (a++b)=del key a++b:=by
 induction a with
 |nil=>
  cases b with
  |nil=>rfl
  |cons q b=>have:=h q rfl;simp[del,su this];exact fun e=>aM key (e▸this)
 |cons q a c=>
  simp only[List.cons_append,del];split
  ·simp[c]
  ·split<;>simp
theorem vL{key:List UInt8}{a b:List Pr}(h: ∀q∈a,q.1<key):ceil key (a++b)=ceil key b:=by
 induction a with
 |nil=>rfl
 |cons q a c=>simp[ceil,h q (by simp),c (fun r c=>h r (by simp[c]))]
theorem Dp{key:List UInt8}{a b:List Pr}:ceil key (a++b)=(ceil key a).or (ceil key b):=by
 induction a with
 |nil=>simp[ceil]
 |cons q a c=>simp only[List.cons_append,ceil];split<;>simp[c]
theorem Ku{key:List UInt8}{b:List Pr}(h: ∀q,b.head?=some q-> ¬q.1<key):ceil key b=b.head?:=by
 cases b with
 |nil=>rfl
 |cons q b=>simp[ceil,h q rfl]
end
def posOf(key:List UInt8)(ps:List Pr):Nat:=(ps.takeWhile fun p=>decide (p.1<key)).length
theorem eJ(key:List UInt8)(ps:List Pr):posOf key ps<=ps.length:=by unfold posOf;have h:=congrArg List.length (List.takeWhile_append_dropWhile (p:=fun p:Pr=>decide (p.1<key)) (l:=ps));rw[List.length_append]at h;omega
theorem eW(key:List UInt8): ∀(ps:List Pr),∀q∈ps.take (posOf key ps),q.1<key
 |[],q,h=>by simp at h
 |p::ps,q,h=>by
  unfold posOf at h;by_cases a:p.1<key
  ·simp[a]at h;rcases h with rfl|h
   ·exact a
   ·exact eW key ps q h
  ·simp[a]at h
theorem mY(key:List UInt8): ∀(ps:List Pr) (q:Pr),ps[posOf key ps]?=some q-> ¬q.1<key
 |[],q,h=>by simp at h
 |p::ps,q,h=>by
  unfold posOf at h;by_cases a:p.1<key
  ·simp[a]at h;exact mY key ps q h
  ·simp[a]at h;subst h;exact a
def hit(key:List UInt8)(ps:List Pr):Bool:=match ps[posOf key ps]? with
 |some q=>decide (q.1=key)
 |none=>false
theorem fQ{key:List UInt8}{ps:List Pr}(h:hit key ps=true): ∃v,ps[posOf key ps]?=some (key,v):=by
 unfold hit at h;split at h
 ·rename_i q a;simp at h;exact⟨q.2,by rw[a];subst h;rfl⟩
 ·cases h
theorem sw{key:List UInt8}{ps:List Pr}(h:hit key ps=false){q:Pr}(b:ps[posOf key ps]?=some q):key<q.1:=by
 unfold hit at h;rw[b]at h;simp at h;rcases BB (mY key ps q b)with a|a
 ·exact a
 ·exact absurd a.symm h
theorem dP{α:Type}{l:List α}{i:Nat}{x:α}(h:l[i]?=some x):l=l.take i++x::l.drop (i+1):=by have b:=(List.getElem?_eq_some_iff.1 h).1;have a:=(List.getElem?_eq_some_iff.1 h).2;rw[<-a];simp
theorem iU{α:Type}(l:List α)(i:Nat):(l.drop i).head?=l[i]?:=by simp
inductive ND where
 |mk (ps:List Pr) (ks:List ND)
def ND.ps:ND->List Pr
 | .mk a _=>a
def ND.ks:ND->List ND
 | .mk _ a=>a
@[simp] theorem ND.cj (ps:List Pr) (ks:List ND):(ND.mk ps ks).ps=ps:=rfl
@[simp] theorem ND.cS (ps:List Pr) (ks:List ND):(ND.mk ps ks).ks=ks:=rfl
def Dq:ND:=.mk [] []
def bz:Nat->ND->List Pr
 |0,x=>x.ps
 |d+1,x=>flat (x.ks.map (bz d)) x.ps
def fw:(d o lo hi:Nat)->ND->Prop
 |0,_,lo,hi,x=>lo<=x.ps.length/\x.ps.length<=hi/\x.ks=[]
 |d+1,o,lo,hi,x=>lo<=x.ps.length/\x.ps.length<=hi/\x.ks.length=x.ps.length+1/\ ∀k∈x.ks,fw d o (o-1) (2*o-1) k
theorem fw.len{d o lo hi:Nat}{x:ND}(h:fw d o lo hi x):lo<=x.ps.length/\x.ps.length<=hi:=by
 cases d with
 |zero=>exact⟨h.1,h.2.1⟩
 |succ d=>exact⟨h.1,h.2.1⟩
theorem fw.re{d o lo hi lo' hi':Nat}{x:ND}(h:fw d o lo hi x)(a:lo'<=x.ps.length)(b:x.ps.length<=hi'):fw d o lo' hi' x:=by
 cases d with
 |zero=>exact⟨a,b,h.2.2⟩
 |succ d=>exact⟨a,b,h.2.2⟩
theorem uS{d:Nat}{ps:List Pr}{ks:List ND}{i:Nat}{k:ND}(b:ks[i]?=some k)(c:ks.length=ps.length+1)(a:ND):
  bz (d+1) (.mk ps (ks.take i++a::ks.drop (i+1)))=pre ((ks.take i).map (bz d)) (ps.take i)++bz d a++post (ps.drop i) ((ks.drop (i+1)).map (bz d)):=by
 have e:=(List.getElem?_eq_some_iff.1 b).1;have:=vK (a:=(ks.take i).map (bz d)) (x:=ps.take i) (by simp;omega) (bz d a) ((ks.drop (i+1)).map (bz d)) (ps.drop i);rw[List.take_append_drop]at this;simpa[bz,ND.ps,ND.ks]using this
theorem ku{d:Nat}{ps:List Pr}{ks:List ND}{i:Nat}{k:ND}(a:ks[i]?=some k)(b:ks.length=ps.length+1):
  bz (d+1) (.mk ps ks)=pre ((ks.take i).map (bz d)) (ps.take i)++bz d k++post (ps.drop i) ((ks.drop (i+1)).map (bz d)):=by
 rw[<-uS a b k,<-dP a]
theorem uT{d:Nat}{ps ps':List Pr}{ks ks':List ND}{i:Nat}(l m:ND)(p:Pr)(hi:i<=ps.length)(hi':i<=ks.length):
  bz (d+1) (.mk (ps.take i++p::ps') (ks.take i++l::m::ks'))=pre ((ks.take i).map (bz d)) (ps.take i)++(bz d l++p::bz d m)++post ps' (ks'.map (bz d)):=by
 have:=Dl (a:=(ks.take i).map (bz d)) (x:=ps.take i) (by simp;omega) (bz d l) (bz d m) p (ks'.map (bz d)) ps';simpa[bz,ND.ps,ND.ks]using this
theorem mC{y:List Pr}{b:List (List Pr)}:(post y b).head?=y.head?:=by cases y<;>rfl
theorem BD{d:Nat}{key:List UInt8}{ps:List Pr}{ks:List ND}(c:ks.length=ps.length+1)(a:Up (bz (d+1) (.mk ps ks))){k:ND}(b:ks[posOf key ps]?=some k):
  ceil key (bz (d+1) (.mk ps ks))=(ceil key (bz d k)).or ps[posOf key ps]?:=by
 rw[ku b c]at a⊢;rw[List.append_assoc,vL (BC a.left.left (eW key ps)),Dp,Ku (b:=post _ _) (by rw[mC,iU];exact mY key ps),mC,iU]
theorem Dr{d:Nat}{key:List UInt8}{ps:List Pr}{ks:List ND}(e:ks.length=ps.length+1)(a:Up (bz (d+1) (.mk ps ks)))(j:hit key ps=true):
  ceil key (bz (d+1) (.mk ps ks))=ps[posOf key ps]?:=by
 obtain⟨v,c⟩:=fQ j;have i:=(List.getElem?_eq_some_iff.1 c).1;obtain⟨k,b⟩: ∃k,ks[posOf key ps]?=some k:=⟨_,List.getElem?_eq_getElem (by omega)⟩;rw[BD e a b];rw[ku b e]at a;have g:=(List.pairwise_append.1 a).2.2
 have:ceil key (bz d k)=none:=by
  have f: ∀q∈bz d k,q.1<key:=fun q h=>g q (by simp[h]) (key,v) (by
   have h:(post (ps.drop (posOf key ps)) ((ks.drop (posOf key ps+1)).map (bz d))).head?=some (key,v):=by rw[mC,iU,c]
   exact List.mem_of_head? h)
  have:=vL (b:=[]) f;simpa[ceil]using this
 rw[this];simp
theorem mD{key:List UInt8}: ∀(ps:List Pr),ceil key ps=ps[posOf key ps]?
 |[]=>rfl
 |p::ps=>by
  have a:=mD (key:=key) ps;unfold posOf at a⊢;by_cases h:p.1<key
  ·simp[ceil,h,a]
  ·simp[ceil,h]
def jN:(d:Nat)->ND->Nat->ND×Pr×ND
 |0,x,o=>(.mk (x.ps.take (o-1)) [],x.ps[o-1]?.getD ([],[]),.mk (x.ps.drop o) [])
 |_+1,x,o=>(.mk (x.ps.take (o-1)) (x.ks.take o),x.ps[o-1]?.getD ([],[]),.mk (x.ps.drop o) (x.ks.drop o))
def mZ(d:Nat)(x:ND)(i o:Nat):ND:=
 let c:=jN d (x.ks[i]?.getD Dq) o
 .mk (x.ps.take i++c.2.1::x.ps.drop i) (x.ks.take i++c.1::c.2.2::x.ks.drop (i+1))
theorem Jb{d o:Nat}{x:ND}(r:1<=o)(p:fw d o (2*o) (2*o) x):bz d (jN d x o).1++(jN d x o).2.1::bz d (jN d x o).2.2=bz d x:=by
 have e:=p.len
 cases d with
 |zero=>obtain⟨b,a⟩:=x;simp only[ND.cj]at e;have c:b[o-1]?=some (b[o-1]'(by omega)):=List.getElem?_eq_getElem _;have:=dP c;simp only[jN,bz,ND.cj,c,Option.getD_some];rw[show o-1+1=o by omega]at this;exact this.symm
 |succ d=>
  obtain⟨b,a⟩:=x;simp only[ND.cj]at e;obtain⟨_,_,m,_⟩:=p;simp only[ND.cj,ND.cS]at m e;have c:b[o-1]?=some (b[o-1]'(by omega)):=List.getElem?_eq_getElem _;have f:=dP c;rw[show o-1+1=o by omega]at f;have q:a[o-1]?=some (a[o-1]'(by omega)):=List.getElem?_eq_getElem _;have s:a[o]?=some (a[o]'(by omega)):=List.getElem?_eq_getElem _
  have g:a.take o=a.take (o-1)++[a[o-1]'(by omega)]:=by
   conv=>lhs;rw[show o=o-1+1 by omega]
   rw[List.take_succ_eq_append_getElem (by omega)]
  have h:a.drop o=a[o]'(by omega)::a.drop (o+1):=List.drop_eq_getElem_cons (by omega)
  have i:a=a.take (o-1)++a[o-1]'(by omega)::a[o]'(by omega)::a.drop (o+1):=by
   conv=>lhs;rw[<-List.take_append_drop o a,g,h]
   rw[List.append_assoc];rfl
  have k:=uT (d:=d) (ps:=b) (ps':=b.drop o) (ks:=a) (ks':=a.drop (o+1)) (i:=o-1) (a[o-1]'(by omega)) (a[o]'(by omega)) (b[o-1]'(by omega)) (by omega) (by omega);have l:bz (d+1) (.mk b a)=bz (d+1) (.mk (b.take (o-1)++b[o-1]'(by omega)::b.drop o) (a.take (o-1)++a[o-1]'(by omega)::a[o]'(by omega)::a.drop (o+1))):=by rw[<-i,<-f]
  rw[l,k]
  have n:bz (d+1) (.mk (b.take (o-1)) (a.take o))=pre ((a.take (o-1)).map (bz d)) (b.take (o-1))++bz d (a[o-1]'(by omega)):=by rw[g];have:=zI (a:=(a.take (o-1)).map (bz d)) (x:=b.take (o-1)) (by simp;omega) (bz d (a[o-1]'(by omega)));simp only[bz,ND.cj,ND.cS,List.map_append,List.map_cons,List.map_nil];exact this
  have j:bz (d+1) (.mk (b.drop o) (a.drop o))=bz d (a[o]'(by omega))++post (b.drop o) ((a.drop (o+1)).map (bz d)):=by rw[h];simp only[bz,ND.cj,ND.cS,List.map_cons];exact sj _ _ _
  simp only[jN,ND.cj,ND.cS,c,Option.getD_some];rw[n,j];simp
theorem Rq{o:Nat}{x:List Pr}(a:2<=o)(h:2*o<=x.length/\x.length<=2*o):(o-1<=(x.take (o-1)).length/\(x.take (o-1)).length<=2*o-1)/\o-1<=(x.drop o).length/\(x.drop o).length<=2*o-1:=by simp only[List.length_take,List.length_drop];omega
theorem M8{d o:Nat}{x:ND}(h:2<=o)(j:fw d o (2*o) (2*o) x):fw d o (o-1) (2*o-1) (jN d x o).1/\fw d o (o-1) (2*o-1) (jN d x o).2.2:=by
 have b:=j.len
 cases d with
 |zero=>obtain⟨g,f⟩:=x;have a:=Rq h b;exact⟨⟨a.1.1,a.1.2,rfl⟩,a.2.1,a.2.2,rfl⟩
 |succ d=>obtain⟨g,f⟩:=x;simp only[ND.cj]at b;obtain⟨_,_,i,e⟩:=j;simp only[ND.cj,ND.cS]at i e b;simp only[jN,fw,ND.cj,ND.cS];simp only[List.length_take,List.length_drop];exact⟨⟨by omega,by omega,by omega,fun k c=>e k (List.mem_of_mem_take c)⟩,by omega,by omega,by omega,fun k c=>e k (List.mem_of_mem_drop c)⟩
def BF(x:List Pr)(p:Pr):List Pr:=if hit p.1 x then x.take (posOf p.1 x)++p::x.drop (posOf p.1 x+1)else x.take (posOf p.1 x)++p::x.drop (posOf p.1 x)
def gY:(d:Nat)->ND->Pr->Nat->ND
 |0,x,p,_=>.mk (BF x.ps p) []
 |d+1,x,p,o=>
  let i:=posOf p.1 x.ps
  if hit p.1 x.ps then .mk (x.ps.take i++p::x.ps.drop (i+1)) x.ks
  else
   let k:=gY d (x.ks[i]?.getD Dq) p o
   let y:ND:=.mk x.ps (x.ks.take i++k::x.ks.drop (i+1))
   if 2*o-1<k.ps.length then mZ d y i o else y
theorem VL{p:Pr}{ps:List Pr}(h:hit p.1 ps=false):ins p ps=ps.take (posOf p.1 ps)++p::ps.drop (posOf p.1 ps):=by
 conv=>lhs;rw[<-List.take_append_drop (posOf p.1 ps) ps]
 rw[oZ (eW _ _)];have:=Dm (p:=p) (a:=[]) (b:=ps.drop (posOf p.1 ps)) (fun q a=>sw h (by rw[<-iU];exact a));simp[ins]at this;rw[this]
theorem Rs{p:Pr}{ps:List Pr}(h:hit p.1 ps=true):ins p ps=ps.take (posOf p.1 ps)++p::ps.drop (posOf p.1 ps+1):=by
 obtain⟨v,a⟩:=fQ h
 conv=>lhs;rw[dP a]
 rw[oZ (eW _ _)];simp[ins,aM]
theorem M9{o:Nat}(d:2<=o)(p:Pr){lo:Nat}{x:List Pr}(h:lo<=x.length/\x.length<=2*o-1):BF x p=ins p x/\lo<=(BF x p).length/\(BF x p).length<=2*o:=by
 unfold BF;split
 ·rename_i a;obtain⟨v,b⟩:=fQ a;have c:=(List.getElem?_eq_some_iff.1 b).1;refine⟨(Rs a).symm,?_⟩;simp only[List.length_append,List.length_take,List.length_cons,List.length_drop];omega
 ·rename_i a;simp only[Bool.not_eq_true]at a;have c:=eJ p.1 x;refine⟨(VL a).symm,?_⟩;simp only[List.length_append,List.length_take,List.length_cons,List.length_drop];omega
theorem Ds{d o:Nat}{p:Pr}{ps:List Pr}{ks:List ND}(h:hit p.1 ps=true):gY (d+1) (.mk ps ks) p o=.mk (ps.take (posOf p.1 ps)++p::ps.drop (posOf p.1 ps+1)) ks:=if_pos h
theorem Jc{d o:Nat}{p:Pr}{ps:List Pr}{ks:List ND}{k:ND}(h:hit p.1 ps=false)(a:ks[posOf p.1 ps]?=some k):gY (d+1) (.mk ps ks) p o=
  if 2*o-1<(gY d k p o).ps.length then mZ d (.mk ps (ks.take (posOf p.1 ps)++gY d k p o::ks.drop (posOf p.1 ps+1))) (posOf p.1 ps) o else(.mk ps (ks.take (posOf p.1 ps)++gY d k p o::ks.drop (posOf p.1 ps+1))):=by
 have e:ks[posOf p.1 ps]?.getD Dq=k:=by rw[a];rfl
 have:gY (d+1) (.mk ps ks) p o=(if hit p.1 ps=true then _ else _):=rfl;rw[this,if_neg (by simp[h])];simp only[ND.cj,ND.cS,e]
theorem qU{o:Nat}(i:2<=o)(p:Pr): ∀{d lo:Nat} {x:ND},fw d o lo (2*o-1) x->Up (bz d x)->bz d (gY d x p o)=ins p (bz d x)/\fw d o lo (2*o) (gY d x p o)
 |0,lo,.mk ps ks,h,hu=>by have l:=M9 i p ⟨h.1,h.2.1⟩;exact⟨l.1,l.2.1,l.2.2,rfl⟩
 |d+1,lo,.mk ps ks,h,hu=>by
  obtain⟨s,A,g,c⟩:=h;simp only[ND.cj,ND.cS]at s A g c;have j:=eJ p.1 ps;obtain⟨k,b⟩: ∃k,ks[posOf p.1 ps]?=some k:=⟨_,List.getElem?_eq_getElem (by omega)⟩;have w:k∈ks:=List.mem_of_getElem? b;by_cases e:hit p.1 ps=true
  ·rw[Ds e];obtain⟨z,m⟩:=fQ e;have r:=(List.getElem?_eq_some_iff.1 m).1;constructor
   ·rw[ku b g]at hu⊢
    have f:ps.drop (posOf p.1 ps)=(p.1,z)::ps.drop (posOf p.1 ps+1):=by rw[List.drop_eq_getElem_cons r];congr 1;have:=(List.getElem?_eq_some_iff.1 m).2;exact this
    have q:=(List.pairwise_append.1 hu).2.2;have t: ∀y∈pre ((ks.take (posOf p.1 ps)).map (bz d)) (ps.take (posOf p.1 ps))++bz d k,y.1<p.1:=fun y a=>q y a (p.1,z) (by rw[f];simp[post]);rw[oZ t,f];simp only[post,ins,aM,if_true,if_false];have n:=uS (d:=d) (ps:=ps.take (posOf p.1 ps)++p::ps.drop (posOf p.1 ps+1)) b (by simp;omega) k;rw[<-dP b]at n;rw[n];have v:(ps.take (posOf p.1 ps)++p::ps.drop (posOf p.1 ps+1)).take (posOf p.1 ps)=ps.take (posOf p.1 ps):=by simp[Nat.min_eq_left j]
    have u:(ps.take (posOf p.1 ps)++p::ps.drop (posOf p.1 ps+1)).drop (posOf p.1 ps)=p::ps.drop (posOf p.1 ps+1):=by simp[Nat.min_eq_left j]
    rw[v,u];simp[post]
   ·refine⟨?_,?_,?_,c⟩<;>simp[ND.cj,ND.cS]<;>omega
  ·simp only[Bool.not_eq_true]at e;rw[Jc e b];have v:Up (bz d k):=by rw[ku b g]at hu;exact hu.left.right
   obtain⟨C,f⟩:=qU i p (c k w) v
   have n:ins p (bz (d+1) (.mk ps ks))=pre ((ks.take (posOf p.1 ps)).map (bz d)) (ps.take (posOf p.1 ps))++bz d (gY d k p o)++post (ps.drop (posOf p.1 ps)) ((ks.drop (posOf p.1 ps+1)).map (bz d)):=by rw[ku b g]at hu⊢;rw[List.append_assoc,oZ (BC hu.left.left (eW _ _)),Dm (by rw[mC,iU];exact fun y a=>sw e a),C,List.append_assoc]
   by_cases r:2*o-1<(gY d k p o).ps.length
   ·rw[if_pos r];have m:=f.len;have t:=Jb (by omega) (f.re (lo':=2*o) (hi':=2*o) (by omega) (by omega));have q:=M8 i (f.re (lo':=2*o) (hi':=2*o) (by omega) (by omega))
    have u:(ks.take (posOf p.1 ps)++gY d k p o::ks.drop (posOf p.1 ps+1))[posOf p.1 ps]?=some (gY d k p o):=by rw[List.getElem?_append_right (by simp;omega)];simp[Nat.min_eq_left (show posOf p.1 ps<=ks.length by omega)]
    simp only[mZ,ND.cj,ND.cS,u,Option.getD_some]
    have y:(ks.take (posOf p.1 ps)++gY d k p o::ks.drop (posOf p.1 ps+1)).take (posOf p.1 ps)=ks.take (posOf p.1 ps):=by simp[Nat.min_eq_left (show posOf p.1 ps<=ks.length by omega)]
    have B:(ks.take (posOf p.1 ps)++gY d k p o::ks.drop (posOf p.1 ps+1)).drop (posOf p.1 ps+1)=ks.drop (posOf p.1 ps+1):=by simp[List.drop_append,Nat.min_eq_left (show posOf p.1 ps<=ks.length by omega)]
    rw[y,B];constructor
    ·rw[uT _ _ _ j (by omega),t,n]
    ·refine⟨by simp[ND.cj];omega,by simp[ND.cj];omega,by simp[ND.cj,ND.cS];omega,fun z a=>?_⟩;simp only[ND.cS,List.mem_append,List.mem_cons]at a;rcases a with a|rfl|rfl|a
     ·exact c z (List.mem_of_mem_take a)
     ·exact q.1
     ·exact q.2
     ·exact c z (List.mem_of_mem_drop a)
   ·rw[if_neg r];have m:=f.len;constructor
    ·rw[uS b g,n]
    ·refine⟨s,by simp only[ND.cj];omega,by simp[ND.cj,ND.cS];omega,fun z a=>?_⟩;simp only[ND.cS,List.mem_append,List.mem_cons]at a;rcases a with a|rfl|a
     ·exact c z (List.mem_of_mem_take a)
     ·exact f.re m.1 (by omega)
     ·exact c z (List.mem_of_mem_drop a)
def eo:Nat->ND->Pr->ND->ND×Pr×ND
 |0,l,s,r=>(.mk (l.ps.take (l.ps.length-1)) [],l.ps[l.ps.length-1]?.getD ([],[]),.mk (s::r.ps) [])
 |_+1,l,s,r=>(.mk (l.ps.take (l.ps.length-1)) (l.ks.take (l.ks.length-1)),l.ps[l.ps.length-1]?.getD ([],[]),.mk (s::r.ps) (l.ks[l.ks.length-1]?.getD Dq::r.ks))
def gq:Nat->ND->Pr->ND->ND×Pr×ND
 |0,l,s,r=>(.mk (l.ps++[s]) [],r.ps[0]?.getD ([],[]),.mk (r.ps.drop 1) [])
 |_+1,l,s,r=>(.mk (l.ps++[s]) (l.ks++[r.ks[0]?.getD Dq]),r.ps[0]?.getD ([],[]),.mk (r.ps.drop 1) (r.ks.drop 1))
def lR(l:ND)(s:Pr)(r:ND):ND:=.mk (l.ps++s::r.ps) (l.ks++r.ks)
theorem kv{α:Type}{l:List α}(h:1<=l.length):l=l.take (l.length-1)++[l[l.length-1]'(by omega)]:=by have:=dP (List.getElem?_eq_getElem (l:=l) (i:=l.length-1) (by omega));rw[show l.length-1+1=l.length by omega]at this;simpa using this
theorem qy{α:Type}{l:List α}(h:1<=l.length):l=l[0]'(by omega)::l.drop 1:=by have:=dP (List.getElem?_eq_getElem (l:=l) (i:=0) (by omega));simpa using this
theorem zJ{a:List (List Pr)}{x:List Pr}(h:a.length=x.length+1)(s:Pr)(k:List Pr):flat (a++[k]) (x++[s])=flat a x++s::k:=by
 have b:=kv (l:=a) (by omega);generalize a.take (a.length-1)=a1,a[a.length-1]'(by omega)=d at b;subst b;have b:a1.length=x.length:=by simpa using h
 have c:=Dl b d k s [] [];simp only[post,List.append_nil]at c;rw[List.append_assoc];simp only[List.cons_append,List.nil_append];rw[c,zI b];simp
theorem zK: ∀{a b:List (List Pr)} {x y:List Pr},a.length=x.length+1->b≠[]-> ∀s,flat (a++b) (x++s::y)=flat a x++s::flat b y
 |[k],b,[],y,_,hb,s=>by
  cases b with
  |nil=>exact absurd rfl hb
  |cons c b=>simp[flat]
 |k::a,b,p::x,y,h,hb,s=>by have d:=zK (a:=a) (b:=b) (x:=x) (y:=y) (by simpa using h) hb s;simp[flat,d]
 |[],b,x,y,h,hb,s=>by simp at h
 |k::c::a,b,[],y,h,hb,s=>by simp at h
theorem F5{d o lo hi lo' hi':Nat}{l r:ND}{s:Pr}(A:fw d o lo hi l)(z:fw d o lo' hi' r)(C:1<=lo):bz d (eo d l s r).1++(eo d l s r).2.1::bz d (eo d l s r).2.2=bz d l++s::bz d r:=by
 have i:=A.len
 cases d with
 |zero=>
  obtain⟨a,b⟩:=l;simp only[ND.cj]at i;have c:=kv (l:=a) (by omega);have e:a[a.length-1]?=some (a[a.length-1]'(by omega)):=List.getElem?_eq_getElem _;simp only[eo,bz,ND.cj,e,Option.getD_some]
  conv=>rhs;rw[c]
  simp only[List.append_assoc,List.cons_append,List.nil_append]
 |succ d=>
  obtain⟨a,b⟩:=l;obtain⟨B,g⟩:=r;obtain⟨_,_,v,x⟩:=A;obtain⟨_,_,f,n⟩:=z;simp only[ND.cj,ND.cS]at i v x f n;have c:=kv (l:=a) (by omega);have p:=kv (l:=b) (by omega);have e:a[a.length-1]?=some (a[a.length-1]'(by omega)):=List.getElem?_eq_getElem _;have t:b[b.length-1]?=some (b[b.length-1]'(by omega)):=List.getElem?_eq_getElem _;simp only[eo,bz,ND.cj,ND.cS,e,t,Option.getD_some];generalize m:a.take (a.length-1)=j at *;generalize a[a.length-1]'(by omega)=w at *;generalize u:b.take (b.length-1)=h at *;generalize b[b.length-1]'(by omega)=y at *;have k:h.length=j.length+1:=by rw[<-m,<-u];simp;omega
  rw[c,p];have q:=zJ (a:=h.map (bz d)) (x:=j) (by simpa using k) w (bz d y);simp only[List.map_append,List.map_cons,List.map_nil];rw[q]
  cases g with
  |nil=>simp at f
  |cons j g=>simp[flat]
theorem Kv{d o lo hi lo' hi':Nat}{l r:ND}{s:Pr}(y:fw d o lo hi l)(h:fw d o lo' hi' r)(x:1<=lo'):bz d (gq d l s r).1++(gq d l s r).2.1::bz d (gq d l s r).2.2=bz d l++s::bz d r:=by
 have g:=h.len
 cases d with
 |zero=>
  obtain⟨a,b⟩:=r;simp only[ND.cj]at g;have c:=qy (l:=a) (by omega);have e:a[0]?=some (a[0]'(by omega)):=List.getElem?_eq_getElem _;simp only[gq,bz,ND.cj,e,Option.getD_some]
  conv=>rhs;rw[c]
  simp only[List.append_assoc,List.cons_append,List.nil_append]
 |succ d=>obtain⟨a,b⟩:=r;obtain⟨q,n⟩:=l;obtain⟨_,_,p,t⟩:=h;obtain⟨_,_,f,i⟩:=y;simp only[ND.cj,ND.cS]at g p t f i;have c:=qy (l:=a) (by omega);have j:=qy (l:=b) (by omega);have e:a[0]?=some (a[0]'(by omega)):=List.getElem?_eq_getElem _;have m:b[0]?=some (b[0]'(by omega)):=List.getElem?_eq_getElem _;simp only[gq,bz,ND.cj,ND.cS,e,m,Option.getD_some];generalize v:a.drop 1=k at *;generalize a[0]'(by omega)=k at *;generalize w:b.drop 1=k at *;generalize b[0]'(by omega)=u at *;rw[c,j];have k:=zJ (a:=n.map (bz d)) (x:=q) (by simpa using f) s (bz d u);simp only[List.map_append,List.map_cons,List.map_nil];rw[k];simp[flat]
theorem zL{d o lo hi lo' hi':Nat}{l r:ND}{s:Pr}(j:fw d o lo hi l)(h:fw d o lo' hi' r):bz d (lR l s r)=bz d l++s::bz d r:=by
 cases d with
 |zero=>simp[lR,bz]
 |succ d=>obtain⟨g,f⟩:=l;obtain⟨c,e⟩:=r;obtain⟨_,_,b,_⟩:=j;obtain⟨_,_,a,_⟩:=h;simp only[ND.cj,ND.cS]at b a;have:=zK (a:=f.map (bz d)) (b:=e.map (bz d)) (x:=g) (y:=c) (by simpa using b) (by intro i;rw[List.map_eq_nil_iff]at i;rw[i]at a;simp at a) s;simpa[lR,bz]using this
theorem Kw{d o lo hi lo' hi':Nat}{l r:ND}{s:Pr}(q:fw d o lo hi l)(j:fw d o lo' hi' r)(w:1<=lo):fw d o (lo-1) (hi-1) (eo d l s r).1/\fw d o (lo'+1) (hi'+1) (eo d l s r).2.2:=by
 obtain⟨v,b⟩:=l;obtain⟨u,t⟩:=r
 cases d with
 |zero=>obtain⟨h,f,_⟩:=q;obtain⟨e,g,_⟩:=j;simp only[ND.cj]at h f e g;refine⟨⟨?_,?_,rfl⟩,?_,?_,rfl⟩<;>simp[eo]<;>omega
 |succ d=>
  obtain⟨h,f,m,c⟩:=q;obtain⟨e,g,n,i⟩:=j;simp only[ND.cj,ND.cS]at h f m c e g n i;have k:b[b.length-1]?=some (b[b.length-1]'(by omega)):=List.getElem?_eq_getElem _;refine⟨⟨?_,?_,?_,fun p a=>c p ?_⟩,?_,?_,?_,fun p a=>?_⟩
  ·simp[eo];omega
  ·simp[eo];omega
  ·simp[eo];omega
  ·simp only[eo,ND.cS]at a;exact List.mem_of_mem_take a
  ·simp[eo];omega
  ·simp[eo];omega
  ·simp[eo];omega
  ·simp only[eo,ND.cS,k,Option.getD_some]at a;rcases List.mem_cons.1 a with rfl|a
   ·exact c _ (List.getElem_mem _)
   ·exact i p a
theorem Na{d o lo hi lo' hi':Nat}{l r:ND}{s:Pr}(q:fw d o lo hi l)(j:fw d o lo' hi' r)(w:1<=lo'):fw d o (lo+1) (hi+1) (gq d l s r).1/\fw d o (lo'-1) (hi'-1) (gq d l s r).2.2:=by
 obtain⟨v,t⟩:=l;obtain⟨u,i⟩:=r
 cases d with
 |zero=>obtain⟨g,e,_⟩:=q;obtain⟨c,f,_⟩:=j;simp only[ND.cj]at g e c f;refine⟨⟨?_,?_,rfl⟩,?_,?_,rfl⟩<;>simp[gq]<;>omega
 |succ d=>
  obtain⟨g,e,m,h⟩:=q;obtain⟨c,f,n,b⟩:=j;simp only[ND.cj,ND.cS]at g e m h c f n b;have k:i[0]?=some (i[0]'(by omega)):=List.getElem?_eq_getElem _;refine⟨⟨?_,?_,?_,fun p a=>?_⟩,?_,?_,?_,fun p a=>b p ?_⟩
  ·simp[gq];omega
  ·simp[gq];omega
  ·simp[gq];omega
  ·simp only[gq,ND.cS,k,Option.getD_some]at a;rcases List.mem_append.1 a with a|a
   ·exact h p a
   ·rw[List.mem_singleton]at a;subst a;exact b _ (List.getElem_mem _)
  ·simp[gq];omega
  ·simp[gq];omega
  ·simp[gq];omega
  ·simp only[gq,ND.cS]at a;exact List.mem_of_mem_drop a
theorem Dt{d o lo hi lo' hi':Nat}{l r:ND}{s:Pr}(m:fw d o lo hi l)(k:fw d o lo' hi' r):fw d o (lo+lo'+1) (hi+hi'+1) (lR l s r):=by
 obtain⟨u,q⟩:=l;obtain⟨t,p⟩:=r
 cases d with
 |zero=>obtain⟨h,f,b⟩:=m;obtain⟨e,g,c⟩:=k;simp only[ND.cj,ND.cS]at h f e g b c;subst b c;refine⟨?_,?_,rfl⟩<;>simp[lR]<;>omega
 |succ d=>
  obtain⟨h,f,b,j⟩:=m;obtain⟨e,g,c,i⟩:=k;simp only[ND.cj,ND.cS]at h f b j e g c i;refine⟨?_,?_,?_,fun n a=>?_⟩
  ·simp[lR];omega
  ·simp[lR];omega
  ·simp[lR];omega
  ·simp only[lR,ND.cS]at a;rcases List.mem_append.1 a with a|a
   ·exact j n a
   ·exact i n a
def uC(x:ND)(i:Nat)(c:ND×Pr×ND):ND:=.mk (x.ps.take i++c.2.1::x.ps.drop (i+1)) (x.ks.take i++c.1::c.2.2::x.ks.drop (i+2))
def uD(x:ND)(i:Nat)(k:ND):ND:=.mk (x.ps.take i++x.ps.drop (i+1)) (x.ks.take i++k::x.ks.drop (i+2))
def aT(x:ND)(i:Nat):ND:=x.ks[i]?.getD Dq
def gP(x:ND)(i:Nat):Pr:=x.ps[i]?.getD ([],[])
def jJ(d:Nat)(x:ND)(i o:Nat):ND:=
 if o-1<=(aT x i).ps.length then x
 else if 0<i/\o-1<(aT x (i-1)).ps.length then uC x (i-1) (eo d (aT x (i-1)) (gP x (i-1)) (aT x i))
 else if i+1<x.ks.length/\o-1<(aT x (i+1)).ps.length then uC x i (gq d (aT x i) (gP x i) (aT x (i+1)))
 else if 0<i then uD x (i-1) (lR (aT x (i-1)) (gP x (i-1)) (aT x i))
 else uD x i (lR (aT x i) (gP x i) (aT x (i+1)))
theorem dA{x:ND}{i:Nat}(h:i<x.ks.length):x.ks[i]?=some (aT x i):=by unfold aT;rw[List.getElem?_eq_getElem h];rfl
theorem Rt{x:ND}{i:Nat}(h:i<x.ps.length):x.ps[i]?=some (gP x i):=by unfold gP;rw[List.getElem?_eq_getElem h];rfl
theorem dL(x:ND):ND.mk x.ps x.ks=x:=by cases x;rfl
theorem zN{α:Type}{l:List α}{i:Nat}{x y:α}(h:l[i]?=some x)(b:l[i+1]?=some y):l=l.take i++x::y::l.drop (i+2):=by
 have a:=dP h;have c:=(List.getElem?_eq_some_iff.1 b).1
 have d:l.drop (i+1)=y::l.drop (i+2):=by rw[List.drop_eq_getElem_cons c,(List.getElem?_eq_some_iff.1 b).2]
 rw[d]at a;exact a
theorem Du{d:Nat}{x:ND}{i:Nat}(b:x.ks.length=x.ps.length+1)(hi:i<x.ps.length):
  bz (d+1) x=pre ((x.ks.take i).map (bz d)) (x.ps.take i)++(bz d (aT x i)++gP x i::bz d (aT x (i+1)))++post (x.ps.drop (i+1)) ((x.ks.drop (i+2)).map (bz d)):=by
 have a:=uT (d:=d) (ps:=x.ps) (ps':=x.ps.drop (i+1)) (ks:=x.ks) (ks':=x.ks.drop (i+2)) (i:=i) (aT x i) (aT x (i+1)) (gP x i) (by omega) (by omega);rw[<-dP (Rt hi),<-zN (dA (by omega)) (dA (by omega)),dL]at a;exact a
theorem Dv{d:Nat}{x:ND}{i:Nat}{c:ND×Pr×ND}(b:x.ks.length=x.ps.length+1)(hi:i<x.ps.length)(a:bz d c.1++c.2.1::bz d c.2.2=bz d (aT x i)++gP x i::bz d (aT x (i+1))):bz (d+1) (uC x i c)=bz (d+1) x:=by rw[Du b hi,<-a];exact uT (d:=d) c.1 c.2.2 c.2.1 (by omega) (by omega)
theorem Dw{d:Nat}{x:ND}{i:Nat}{k:ND}(b:x.ks.length=x.ps.length+1)(hi:i<x.ps.length)(a:bz d k=bz d (aT x i)++gP x i::bz d (aT x (i+1))):bz (d+1) (uD x i k)=bz (d+1) x:=by rw[Du b hi,<-a];have:=vK (a:=(x.ks.take i).map (bz d)) (x:=x.ps.take i) (by simp;omega) (bz d k) ((x.ks.drop (i+2)).map (bz d)) (x.ps.drop (i+1));simpa[uD,bz]using this
def vM(d o i lo hi:Nat)(x:ND):Prop:=lo<=x.ps.length/\x.ps.length<=hi/\x.ks.length=x.ps.length+1/\i<x.ks.length/\(∀j,j≠i-> ∀k,x.ks[j]?=some k->fw d o (o-1) (2*o-1) k)/\fw d o (o-2) (2*o-1) (aT x i)
theorem vM.kid{d o i lo hi:Nat}{x:ND}(h:vM d o i lo hi x){j:Nat}(b:j≠i)(a:j<x.ks.length):fw d o (o-1) (2*o-1) (aT x j):=h.2.2.2.2.1 j b _ (dA a)
theorem F6{α:Type}{l:List α}{x:α}(h:x∈l): ∃j:Nat,l[j]?=some x:=List.getElem?_of_mem h
theorem vM.all{d o i lo hi:Nat}{x:ND}(h:vM d o i lo hi x)(c:o-1<=(aT x i).ps.length):fw (d+1) o lo hi x:=by
 refine⟨h.1,h.2.1,h.2.2.1,fun k b=>?_⟩;obtain⟨j,a⟩:=F6 b;by_cases e:j=i
 ·subst e;rw[dA (List.getElem?_eq_some_iff.1 a).1]at a;injection a with a;subst a;exact h.2.2.2.2.2.re c h.2.2.2.2.2.len.2
 ·exact h.2.2.2.2.1 j e k a
theorem vM.rest{d o i lo hi:Nat}{x:ND}(h:vM d o i lo hi x){k:ND}{a b:Nat}(l:a<=i)(g:i<b)(e:k∈x.ks.take a\/k∈x.ks.drop b):fw d o (o-1) (2*o-1) k:=by
 rcases e with e|e
 ·obtain⟨j,c⟩:=F6 e;have f:=(List.getElem?_eq_some_iff.1 c).1;rw[List.length_take]at f;exact h.2.2.2.2.1 j (by omega) k (by rw[List.getElem?_take]at c;split at c;exact c;cases c)
 ·obtain⟨j,c⟩:=F6 e;rw[List.getElem?_drop]at c;exact h.2.2.2.2.1 (b+j) (by omega) k c
theorem Jd{d o i m lo hi:Nat}{x:ND}{c:ND×Pr×ND}(h:vM d o m lo hi x)(j:m=i\/m=i+1)(hi':i<x.ps.length)(f:fw d o (o-1) (2*o-1) c.1)(e:fw d o (o-1) (2*o-1) c.2.2):fw (d+1) o lo hi (uC x i c):=by
 have b:=h;obtain⟨l,k,g,_⟩:=h;refine⟨by simp[uC];omega,by simp[uC];omega,by simp[uC];omega,fun n a=>?_⟩;simp only[uC,ND.cS,List.mem_append,List.mem_cons]at a;rcases a with a|rfl|rfl|a
 ·exact b.rest (a:=i) (b:=i+2) (by omega) (by omega) (.inl a)
 ·exact f
 ·exact e
 ·exact b.rest (a:=i) (b:=i+2) (by omega) (by omega) (.inr a)
theorem Je{d o i m lo hi:Nat}{x:ND}{c:ND}(h:vM d o m lo hi x)(g:m=i\/m=i+1)(hi':i<x.ps.length)(e:fw d o (o-1) (2*o-1) c):fw (d+1) o (lo-1) hi (uD x i c):=by
 have b:=h;obtain⟨k,j,f,_⟩:=h;refine⟨by simp[uD];omega,by simp[uD];omega,by simp[uD];omega,fun l a=>?_⟩;simp only[uD,ND.cS,List.mem_append,List.mem_cons]at a;rcases a with a|rfl|a
 ·exact b.rest (a:=i) (b:=i+2) (by omega) (by omega) (.inl a)
 ·exact e
 ·exact b.rest (a:=i) (b:=i+2) (by omega) (by omega) (.inr a)
theorem vN{d o i lo hi:Nat}{x:ND}(y:2<=o)(v:1<=lo)(u:vM d o i lo hi x):bz (d+1) (jJ d x i o)=bz (d+1) x/\fw (d+1) o (lo-1) hi (jJ d x i o):=by
 have b:=u;obtain⟨A,z,k,w,_,r⟩:=u;unfold jJ;by_cases m:o-1<=(aT x i).ps.length
 ·rw[if_pos m];have:=b.all m;exact⟨rfl,this.re (by omega) this.len.2⟩
 ·rw[if_neg m];have c:fw d o (o-2) (o-2) (aT x i):=r.re r.len.1 (by omega);by_cases p:0<i/\o-1<(aT x (i-1)).ps.length
  ·rw[if_pos p];have f:=b.kid (j:=i-1) (by omega) (by omega);have e:=f.re (lo':=o) (hi':=2*o-1) (by omega) f.len.2;have t:i-1+1=i:=by omega
   have j:=F5 (s:=gP x (i-1)) e c (by omega);have a:=Kw (s:=gP x (i-1)) e c (by omega);have g:=a.1.re (lo':=o-1) (hi':=2*o-1) (by have:=a.1.len;omega) (by have:=a.1.len;omega);have l:=a.2.re (lo':=o-1) (hi':=2*o-1) (by have:=a.2.len;omega) (by have:=a.2.len;omega);have h:=Jd (i:=i-1) b (.inr t.symm) (by omega) g l;exact⟨Dv k (by omega) (by rw[t];exact j),h.re (by have:=h.len;omega) h.len.2⟩
  ·rw[if_neg p];by_cases s:i+1<x.ks.length/\o-1<(aT x (i+1)).ps.length
   ·rw[if_pos s];have q:=b.kid (j:=i+1) (by omega) (by omega);have n:=q.re (lo':=o) (hi':=2*o-1) (by omega) q.len.2;have j:=Kv (s:=gP x i) c n (by omega);have a:=Na (s:=gP x i) c n (by omega);have g:=a.1.re (lo':=o-1) (hi':=2*o-1) (by have:=a.1.len;omega) (by have:=a.1.len;omega);have l:=a.2.re (lo':=o-1) (hi':=2*o-1) (by have:=a.2.len;omega) (by have:=a.2.len;omega);have h:=Jd (i:=i) b (.inl rfl) (by omega) g l;exact⟨Dv k (by omega) j,h.re (by have:=h.len;omega) h.len.2⟩
   ·rw[if_neg s];by_cases h:0<i
    ·rw[if_pos h];have f:=b.kid (j:=i-1) (by omega) (by omega);have e:=f.re (lo':=o-1) (hi':=o-1) f.len.1 (by omega);have t:i-1+1=i:=by omega
     have j:=zL (s:=gP x (i-1)) e c;have a:=Dt (s:=gP x (i-1)) e c;have g:=a.re (lo':=o-1) (hi':=2*o-1) (by have:=a.len;omega) (by have:=a.len;omega);exact⟨Dw k (by omega) (by rw[t];exact j),Je (i:=i-1) b (.inr t.symm) (by omega) g⟩
    ·rw[if_neg h];have f:=b.kid (j:=i+1) (by omega) (by omega);have e:=f.re (lo':=o-1) (hi':=o-1) f.len.1 (by omega);have j:=zL (s:=gP x i) c e;have a:=Dt (s:=gP x i) c e;have g:=a.re (lo':=o-1) (hi':=2*o-1) (by have:=a.len;omega) (by have:=a.len;omega);exact⟨Dw k (by omega) j,Je (i:=i) b (.inl rfl) (by omega) g⟩
def qz(x:ND)(i:Nat)(k:ND):ND:=.mk x.ps (x.ks.take i++k::x.ks.drop (i+1))
theorem Jf{x:ND}{i:Nat}(hi:i<x.ks.length)(k:ND)(j:Nat):(qz x i k).ks[j]?=if j=i then some k else x.ks[j]?:=by
 simp only[qz,ND.cS];rw[List.getElem?_append,List.length_take,Nat.min_eq_left (by omega)];by_cases a:j<i
 ·rw[if_pos a,if_neg (by omega),List.getElem?_take,if_pos a]
 ·rw[if_neg a];by_cases b:j=i
  ·subst b;simp
  ·rw[if_neg b,List.getElem?_cons,if_neg (by omega),List.getElem?_drop];congr 1;omega
theorem Dx{x:ND}{i:Nat}(hi:i<x.ks.length)(k:ND):(qz x i k).ks.length=x.ks.length:=by simp[qz];omega
theorem jZ{d o i lo hi:Nat}{x k:ND}(l:fw (d+1) o lo hi x)(hi':i<x.ks.length)(h:fw d o (o-2) (2*o-1) k):vM d o i lo hi (qz x i k):=by
 obtain⟨j,f,c,b⟩:=l;refine⟨j,f,by rw[Dx hi'];exact c,by rw[Dx hi'];exact hi',fun m e g a=>?_,?_⟩
 ·rw[Jf hi',if_neg e]at a;exact b g (List.mem_of_getElem? a)
 ·unfold aT;rw[Jf hi',if_pos rfl];exact h
theorem vO{d i:Nat}{x k:ND}(a:x.ks.length=x.ps.length+1)(hi':i<x.ks.length):bz (d+1) (qz x i k)=pre ((x.ks.take i).map (bz d)) (x.ps.take i)++bz d k++post (x.ps.drop i) ((x.ks.drop (i+1)).map (bz d)):=uS (dA hi') a k
theorem BG{d i:Nat}{x:ND}(a:x.ks.length=x.ps.length+1)(hi':i<x.ks.length):bz (d+1) x=pre ((x.ks.take i).map (bz d)) (x.ps.take i)++bz d (aT x i)++post (x.ps.drop i) ((x.ks.drop (i+1)).map (bz d)):=by have:=ku (d:=d) (dA hi') a;rw[dL]at this;exact this
def gi:Nat->ND->Nat->ND×Pr
 |0,x,_=>(.mk (x.ps.take (x.ps.length-1)) [],x.ps[x.ps.length-1]?.getD ([],[]))
 |d+1,x,o=>
  let r:=gi d (aT x (x.ks.length-1)) o
  (jJ d (qz x (x.ks.length-1) r.1) (x.ks.length-1) o,r.2)
theorem qV{o:Nat}(f:2<=o): ∀{d lo hi:Nat} {x:ND},fw d o lo hi x->1<=lo->bz d x=bz d (gi d x o).1++[(gi d x o).2]/\fw d o (lo-1) hi (gi d x o).1
 |0,lo,hi,.mk ps ks,h,h1=>by obtain⟨g,e,b⟩:=h;simp only[ND.cj]at g e;have i:=kv (l:=ps) (by omega);have k:ps[ps.length-1]?=some (ps[ps.length-1]'(by omega)):=List.getElem?_eq_getElem _;refine⟨?_,by simp[gi];omega,by simp[gi];omega,rfl⟩;simp only[gi,bz,ND.cj,k,Option.getD_some];exact i
 |d+1,lo,hi,x,h,h1=>by
  have m:=h;obtain⟨g,e,b,j⟩:=h;have a:x.ks.length-1<x.ks.length:=by omega
  have l:=j _ (List.mem_of_getElem? (dA a));obtain⟨n,w⟩:=qV f l (by omega);have c:=vN f h1 (jZ m a w);simp only[gi];refine⟨?_,c.2⟩;rw[c.1,vO b a,BG (i:=x.ks.length-1) b a,n];have:x.ps.drop (x.ks.length-1)=[]:=List.drop_eq_nil_of_le (by omega);rw[this];simp[post]
def ot(x:ND)(i:Nat)(p:Pr):ND:=.mk (x.ps.take i++p::x.ps.drop (i+1)) x.ks
def ng:Nat->ND->List UInt8->Nat->ND
 |0,x,key,_=>if hit key x.ps then .mk (x.ps.take (posOf key x.ps)++x.ps.drop (posOf key x.ps+1)) []else x
 |d+1,x,key,o=>
  let i:=posOf key x.ps
  if hit key x.ps then
   let r:=gi d (aT x i) o
   jJ d (qz (ot x i r.2) i r.1) i o
  else jJ d (qz x i (ng d (aT x i) key o)) i o
theorem zO{x:ND}{key:List UInt8}{o:Nat}(h:hit key x.ps=true):ng 0 x key o=.mk (x.ps.take (posOf key x.ps)++x.ps.drop (posOf key x.ps+1)) []:=if_pos h
theorem vP{x:ND}{key:List UInt8}{o:Nat}(h:hit key x.ps=false):ng 0 x key o=x:=if_neg (by simp[h])
theorem Dy{d:Nat}{x:ND}{key:List UInt8}{o:Nat}(h:hit key x.ps=true):ng (d+1) x key o=jJ d (qz (ot x (posOf key x.ps) (gi d (aT x (posOf key x.ps)) o).2) (posOf key x.ps) (gi d (aT x (posOf key x.ps)) o).1) (posOf key x.ps) o:=if_pos h
theorem BH{d:Nat}{x:ND}{key:List UInt8}{o:Nat}(h:hit key x.ps=false):ng (d+1) x key o=jJ d (qz x (posOf key x.ps) (ng d (aT x (posOf key x.ps)) key o)) (posOf key x.ps) o:=if_neg (by simp[h])
theorem VM{key:List UInt8}{ps:List Pr}(h:hit key ps=false):del key ps=ps:=by
 conv=>lhs;rw[<-List.take_append_drop (posOf key ps) ps]
 rw[pd (eW _ _)];have:=Dn (key:=key) (a:=[]) (b:=ps.drop (posOf key ps)) (fun q a=>sw h (by rw[<-iU];exact a));simp[del]at this;rw[this];simp
theorem Ru{key:List UInt8}{ps:List Pr}(h:hit key ps=true):del key ps=ps.take (posOf key ps)++ps.drop (posOf key ps+1):=by
 obtain⟨v,a⟩:=fQ h
 conv=>lhs;rw[dP a]
 rw[pd (eW _ _)];simp[del,aM]
theorem BI{o:Nat}(i:2<=o)(key:List UInt8): ∀{d lo hi:Nat} {x:ND},fw d o lo hi x->1<=lo\/d=0->Up (bz d x)->bz d (ng d x key o)=del key (bz d x)/\fw d o (lo-1) hi (ng d x key o)
 |0,lo,hi,.mk ps ks,h,b,hu=>by
  obtain⟨r,q,e⟩:=h;simp only[ND.cj,ND.cS]at r q e;by_cases a:hit key ps=true
  ·obtain⟨E,g⟩:=fQ a;have k:=(List.getElem?_eq_some_iff.1 g).1;rw[zO (x:=.mk ps ks) a];simp only[ND.cj];exact⟨(Ru a).symm,by simp;omega,by simp;omega,rfl⟩
  ·simp only[Bool.not_eq_true]at a;rw[vP (x:=.mk ps ks) a];exact⟨(VM a).symm,by simp only[ND.cj];omega,by simp only[ND.cj];omega,e⟩
 |d+1,lo,hi,x,h,b,hu=>by
  have b:1<=lo:=by rcases b with b|b;exact b;cases b
  have y:=h;obtain⟨r,q,e,l⟩:=h;have p:=eJ key x.ps;have c:posOf key x.ps<x.ks.length:=by omega
  have n:=l _ (List.mem_of_getElem? (dA c));by_cases a:hit key x.ps=true
  ·obtain⟨E,g⟩:=fQ a;have k:=(List.getElem?_eq_some_iff.1 g).1;obtain⟨B,D⟩:=qV i n (by omega);generalize z:gi d (aT x (posOf key x.ps)) o=s at B D;have u:fw (d+1) o lo hi (ot x (posOf key x.ps) s.2):=⟨by simp[ot];omega,by simp[ot];omega,by simp[ot];omega,l⟩;have f:=vN i b (jZ u (i:=posOf key x.ps) c D);rw[Dy a,z];refine⟨?_,f.2⟩;rw[f.1,vO (x:=ot x (posOf key x.ps) s.2) (by simp[ot];omega) c];rw[BG (i:=posOf key x.ps) e c]at hu⊢
   have m:x.ps.drop (posOf key x.ps)=(key,E)::x.ps.drop (posOf key x.ps+1):=by rw[List.drop_eq_getElem_cons k,(List.getElem?_eq_some_iff.1 g).2]
   have t:=(List.pairwise_append.1 hu).2.2;have v: ∀C∈pre ((x.ks.take (posOf key x.ps)).map (bz d)) (x.ps.take (posOf key x.ps))++bz d (aT x (posOf key x.ps)),C.1<key:=fun C j=>t C j (key,E) (by rw[m];simp[post]);rw[pd v,m,B];have w:(ot x (posOf key x.ps) s.2).ps.take (posOf key x.ps)=x.ps.take (posOf key x.ps):=by simp[ot,Nat.min_eq_left p]
   have A:(ot x (posOf key x.ps) s.2).ps.drop (posOf key x.ps)=s.2::x.ps.drop (posOf key x.ps+1):=by simp[ot,Nat.min_eq_left p]
   rw[w,A];simp[post,del,aM,ot]
  ·simp only[Bool.not_eq_true]at a;have g:Up (bz d (aT x (posOf key x.ps))):=by rw[BG (i:=posOf key x.ps) e c]at hu;exact hu.left.right
   obtain⟨B,D⟩:=BI i key n (.inl (by omega)) g;have f:=vN i b (jZ y (i:=posOf key x.ps) c D);rw[BH a];refine⟨?_,f.2⟩;rw[f.1,vO e c,B];rw[BG (i:=posOf key x.ps) e c]at hu⊢;symm;rw[List.append_assoc,pd (BC hu.left.left (eW _ _)),Dn (by rw[mC,iU];exact fun C j=>sw a j),List.append_assoc]
theorem iV{key:List UInt8}{l:List Pr}{p:Pr}(h:ceil key l=some p):look key l=if p.1=key then some p.2 else none:=by unfold look;rw[h]
theorem pg{key:List UInt8}{l:List Pr}(h:ceil key l=none):look key l=none:=by unfold look;rw[h]
theorem sx{key v:List UInt8}{ps:List Pr}(a:ps[posOf key ps]?=some (key,v)):look key ps=some v:=by rw[iV (by rw[mD];exact a),if_pos rfl]
theorem Dz{key:List UInt8}{ps:List Pr}(h:hit key ps=false):look key ps=none:=by
 cases e:ps[posOf key ps]? with
 |none=>exact pg (by rw[mD];exact e)
 |some q=>rw[iV (by rw[mD];exact e),if_neg];intro a;have:=sw h e;rw[a]at this;exact aM _ this
theorem vQ{d:Nat}{key v:List UInt8}{ps:List Pr}{ks:List ND}(a:ks.length=ps.length+1)(b:Up (bz (d+1) (.mk ps ks)))(h:hit key ps=true)(c:ps[posOf key ps]?=some (key,v)):look key (bz (d+1) (.mk ps ks))=some v:=by rw[iV (by rw[Dr a b h];exact c),if_pos rfl]
theorem BJ{d:Nat}{key:List UInt8}{ps:List Pr}{ks:List ND}{k:ND}(f:ks.length=ps.length+1)(b:Up (bz (d+1) (.mk ps ks)))(h:hit key ps=false)(c:ks[posOf key ps]?=some k):look key (bz (d+1) (.mk ps ks))=look key (bz d k):=by
 have a:=BD f b c
 cases e:ceil key (bz d k)with
 |some q=>rw[e,Option.some_or]at a;rw[iV a,iV e]
 |none=>
  rw[e,Option.none_or]at a;rw[pg e]
  cases e1:ps[posOf key ps]? with
  |none=>exact pg (a.trans e1)
  |some q=>rw[iV (a.trans e1),if_neg];intro g;have:=sw h e1;rw[g]at this;exact aM _ this
theorem Up.kid{d:Nat}{ps:List Pr}{ks:List ND}{i:Nat}{k:ND}(c:ks.length=ps.length+1)(a:Up (bz (d+1) (.mk ps ks)))(b:ks[i]?=some k):Up (bz d k):=by rw[ku b c]at a;exact a.left.right
structure Rw where
 a:Int
 b:Int
 c:Int
 d:Int
 deriving DecidableEq
def Rw.zero:Rw:=⟨0,0,0,0⟩
def Rw.aL(r:Rw):Nat->Int
 |0=>r.a
 |1=>r.b
 |2=>r.c
 |_=>r.d
def be:Nat->Nat->List UInt8
 |0,_=>[]
 |k+1,n=>UInt8.ofNat (n/256^k)::be k (n%256^k)
theorem F7: ∀(k n:Nat),(be k n).length=k
 |0,_=>rfl
 |k+1,n=>by simp[be,F7 k]
theorem Zk{a b:Nat}(c:a<256)(d:b<256):UInt8.ofNat a<UInt8.ofNat b↔a<b:=by rw[UInt8.lt_iff_toNat_lt];simp only[UInt8.toNat_ofNat'];rw[Nat.mod_eq_of_lt (by simpa using c),Nat.mod_eq_of_lt (by simpa using d)]
theorem Zl{a b:Nat}(c:a<256)(d:b<256):UInt8.ofNat a=UInt8.ofNat b↔a=b:=by
 constructor
 ·intro h;have:=congrArg UInt8.toNat h;simp only[UInt8.toNat_ofNat']at this;rwa[Nat.mod_eq_of_lt (by simpa using c),Nat.mod_eq_of_lt (by simpa using d)]at this
 ·rintro rfl;rfl
theorem Kz{K m n:Nat}(b:0<K):(m/K<n/K\/m/K=n/K/\m%K<n%K)↔m<n:=by
 have c:=Nat.div_add_mod m K;have a:=Nat.div_add_mod n K;have g:=Nat.mod_lt m b;have f:=Nat.mod_lt n b;generalize m/K=e at *;generalize n/K=d at *;generalize m%K=r at *;generalize n%K=s at *;subst c a;constructor
 ·rintro(h|⟨rfl,h⟩)
  ·have:K*(e+1)<=K*d:=Nat.mul_le_mul_left K h;rw[Nat.mul_add]at this;omega
  ·omega
 ·intro h;rcases Nat.lt_trichotomy e d with a|a|a
  ·exact .inl a
  ·subst a;exact .inr ⟨rfl,by omega⟩
  ·have:K*(d+1)<=K*e:=Nat.mul_le_mul_left K a;rw[Nat.mul_add]at this;omega
theorem Ux: ∀(k:Nat) {m n:Nat},m<256^k->n<256^k->(be k m<be k n↔m<n)
 |0,m,n,hm,hn=>by
  have:m=0:=by omega
  have:n=0:=by omega
  subst m n;simp[be]
 |k+1,m,n,hm,hn=>by
  have a:0<256^k:=Nat.pow_pos (by decide);have b:m/256^k<256:=by rw[Nat.div_lt_iff_lt_mul a];rw[Nat.pow_succ]at hm;omega
  have c:n/256^k<256:=by rw[Nat.div_lt_iff_lt_mul a];rw[Nat.pow_succ]at hn;omega
  rw[be,be,List.cons_lt_cons_iff,Zk b c,Zl b c,Ux k (Nat.mod_lt _ a) (Nat.mod_lt _ a)];exact Kz a
theorem qA: ∀{a b k l:List UInt8},a.length=b.length->(a++k<b++l↔a<b\/a=b/\k<l)
 |[],[],k,l,_=>by simp
 |x::a,y::b,k,l,h=>by
  have e:=qA (a:=a) (b:=b) (k:=k) (l:=l) (by simpa using h);rw[List.cons_append,List.cons_append,List.cons_lt_cons_iff,List.cons_lt_cons_iff,e,List.cons.injEq];constructor
  ·rintro(h|⟨h,c|⟨c,d⟩⟩)
   ·exact .inl (.inl h)
   ·exact .inl (.inr ⟨h,c⟩)
   ·exact .inr ⟨⟨h,c⟩,d⟩
  ·rintro((h|⟨h,c⟩)|⟨⟨h,c⟩,d⟩)
   ·exact .inl h
   ·exact .inr ⟨h,.inl c⟩
   ·exact .inr ⟨h,.inr ⟨c,d⟩⟩
theorem uU: ∀{a k:List UInt8},a<k++[0]↔a<k\/a=k
 |[],[]=>by simp
 |[],x::k=>by simp
 |x::a,[]=>by
  simp only[List.nil_append,List.cons_lt_cons_iff,List.not_lt_nil,and_false,or_false];constructor
  ·intro h;rw[UInt8.lt_iff_toNat_lt]at h;simp at h
  ·rintro(h|h)
   ·exact absurd h (by simp)
   ·cases h
 |x::a,y::k=>by
  rw[List.cons_append,List.cons_lt_cons_iff,List.cons_lt_cons_iff,uU (a:=a) (k:=k),List.cons.injEq];constructor
  ·rintro(h|⟨h,b|b⟩)
   ·exact .inl (.inl h)
   ·exact .inl (.inr ⟨h,b⟩)
   ·exact .inr ⟨h,b⟩
  ·rintro((h|⟨h,b⟩)|⟨h,b⟩)
   ·exact .inl h
   ·exact .inr ⟨h,.inl b⟩
   ·exact .inr ⟨h,.inr b⟩
def I6(n:Int):Prop:= -9223372036854775808<=n/\n<9223372036854775808
def pfx(n:Int):List UInt8:=be 8 (n+9223372036854775808).toNat
theorem cg(n:Int):(pfx n).length=8:=F7 _ _
theorem sy{a b:Int}(d:I6 a)(c:I6 b):pfx a<pfx b↔a<b:=by unfold pfx;obtain⟨h,e⟩:=d;obtain⟨g,f⟩:=c;rw[Ux 8 (by rw[show(256:Nat)^8=18446744073709551616 by decide];omega) (by rw[show(256:Nat)^8=18446744073709551616 by decide];omega)];omega
theorem Jg{a b:Int}(d:I6 a)(e:I6 b)(h:pfx a=pfx b):a=b:=by
 rcases Int.lt_trichotomy a b with c|c|c
 ·have:=(sy d e).2 c;rw[h]at this;exact absurd this (aM _)
 ·exact c
 ·have:=(sy e d).2 c;rw[h]at this;exact absurd this (aM _)
def dI(v:Int)(k:List UInt8):List UInt8:=pfx v++k
theorem Rv{a b:Int}{k l:List UInt8}(d:I6 a)(e:I6 b):dI a k<dI b l↔a<b\/a=b/\k<l:=by
 unfold dI;rw[qA (by rw[cg,cg]),sy d e];constructor
 ·rintro(h|⟨h,c⟩)
  ·exact .inl h
  ·exact .inr ⟨Jg d e h,c⟩
 ·rintro(h|⟨h,c⟩)
  ·exact .inl h
  ·exact .inr ⟨by rw[h],c⟩
theorem Nb{a b:Int}{k l:List UInt8}(c:I6 a)(d:I6 b)(h:dI a k=dI b l):a=b/\k=l:=by have:=List.append_inj h (by rw[cg,cg]);exact⟨Jg c d this.1,this.2⟩
section
variable{α:Type}
def cK(p:List UInt8×α):List (List UInt8×α)->List (List UInt8×α)
 |[]=>[p]
 |q::l=>if q.1<p.1 then q::cK p l else if q.1=p.1 then p::l else p::q::l
def eU(key:List UInt8):List (List UInt8×α)->List (List UInt8×α)
 |[]=>[]
 |q::l=>if q.1<key then q::eU key l else if q.1=key then l else q::l
def ay(key:List UInt8):List (List UInt8×α)->Option α
 |[]=>none
 |q::l=>if q.1<key then ay key l else if q.1=key then some q.2 else none
def dK(l:List (List UInt8×α)):Prop:=l.Pairwise fun a b=>a.1<b.1
theorem ia{p q:List UInt8×α}: ∀{l:List (List UInt8×α)},q∈cK p l->q=p\/q∈l
 |[],h=>by simp[cK]at h;exact .inl h
 |x::l,h=>by
  simp only[cK]at h;split at h
  ·rcases List.mem_cons.1 h with rfl|h
   ·exact .inr (by simp)
   ·exact(ia h).elim .inl (fun h=>.inr (by simp[h]))
  ·split at h
   ·rcases List.mem_cons.1 h with rfl|h
    ·exact .inl rfl
    ·exact .inr (by simp[h])
   ·rcases List.mem_cons.1 h with rfl|h
    ·exact .inl rfl
    ·exact .inr h
theorem mE{key:List UInt8}{q:List UInt8×α}: ∀{l:List (List UInt8×α)},q∈eU key l->q∈l
 |[],h=>by simp[eU]at h
 |x::l,h=>by
  simp only[eU]at h;split at h
  ·rcases List.mem_cons.1 h with rfl|h
   ·simp
   ·simp[mE h]
  ·split at h
   ·simp[h]
   ·exact h
theorem eX{p:List UInt8×α}: ∀{l:List (List UInt8×α)},dK l->dK (cK p l)
 |[],_=>by simp[cK,dK]
 |x::l,h=>by
  have b:=List.pairwise_cons.1 h;simp only[cK];split
  ·rename_i c;refine List.pairwise_cons.2 ⟨fun q a=>?_,eX b.2⟩;rcases ia a with rfl|a
   ·exact c
   ·exact b.1 q a
  ·rename_i c;split
   ·rename_i f;exact List.pairwise_cons.2 ⟨fun q a=>by rw[<-f];exact b.1 q a,b.2⟩
   ·rename_i f;have d:p.1<x.1:=(BB c).elim id (fun e=>absurd e.symm f);refine List.pairwise_cons.2 ⟨fun q a=>?_,h⟩;rcases List.mem_cons.1 a with rfl|a
    ·exact d
    ·exact fq d (b.1 q a)
theorem fR{key:List UInt8}: ∀{l:List (List UInt8×α)},dK l->dK (eU key l)
 |[],_=>by simp[eU,dK]
 |x::l,h=>by
  have a:=List.pairwise_cons.1 h;simp only[eU];split
  ·exact List.pairwise_cons.2 ⟨fun q b=>a.1 q (mE b),fR a.2⟩
  ·split
   ·exact a.2
   ·exact h
theorem aU{key:List UInt8}: ∀{l:List (List UInt8×α)},dK l->(ay key l=none↔ ∀q∈l,q.1≠key)
 |[],_=>by simp[ay]
 |x::l,h=>by
  have e:=List.pairwise_cons.1 h;simp only[ay];split
  ·rename_i c;rw[aU e.2];constructor
   ·intro b q a;rcases List.mem_cons.1 a with rfl|a
    ·exact fun f=>aM _ (f▸c)
    ·exact b q a
   ·exact fun b q a=>b q (by simp[a])
  ·rename_i c;split
   ·rename_i f;simp only[reduceCtorEq,false_iff];exact fun b=>b x (by simp) f
   ·rename_i f;have g:key<x.1:=(BB c).elim id (fun d=>absurd d.symm f);simp only[true_iff];intro q a;rcases List.mem_cons.1 a with rfl|a
    ·exact f
    ·exact fun d=>aM key (by have:=fq g (e.1 q a);rwa[d]at this)
theorem aD{key:List UInt8}{r:α}: ∀{l:List (List UInt8×α)},dK l->(ay key l=some r↔(key,r)∈l)
 |[],_=>by simp[ay]
 |x::l,h=>by
  have d:=List.pairwise_cons.1 h;simp only[ay];split
  ·rename_i c;rw[aD d.2];constructor
   ·exact fun a=>by simp[a]
   ·intro a;rcases List.mem_cons.1 a with e|a
    ·rw[<-e]at c;exact absurd c (aM _)
    ·exact a
  ·rename_i c;split
   ·rename_i e;constructor
    ·intro a;injection a with a;rw[<-e,<-a];simp
    ·intro a;rcases List.mem_cons.1 a with b|a
     ·rw[<-b]
     ·have:=d.1 _ a;rw[e]at this;exact absurd this (aM _)
   ·rename_i e;have f:key<x.1:=(BB c).elim id (fun b=>absurd b.symm e);constructor
    ·intro a;cases a
    ·intro a;rcases List.mem_cons.1 a with b|a
     ·rw[<-b]at e;exact absurd rfl e
     ·have:=fq f (d.1 _ a);exact absurd this (aM _)
theorem gT{p:List UInt8×α}: ∀{l:List (List UInt8×α)},ay p.1 l=none->(cK p l).Perm (p::l)
 |[],_=>List.Perm.refl _
 |x::l,h=>by
  simp only[ay]at h;simp only[cK];split
  ·rename_i a;rw[if_pos a]at h;exact(List.Perm.cons x (gT h)).trans (List.Perm.swap _ _ _)
  ·rename_i a;rw[if_neg a]at h;split
   ·rename_i e;rw[if_pos e]at h;cases h
   ·exact List.Perm.refl _
theorem fS{key:List UInt8}{r:α}: ∀{l:List (List UInt8×α)},ay key l=some r->l.Perm ((key,r)::eU key l)
 |[],h=>by simp[ay]at h
 |x::l,h=>by
  simp only[ay]at h;simp only[eU];split
  ·rename_i a;rw[if_pos a]at h;exact(List.Perm.cons x (fS h)).trans (List.Perm.swap _ _ _)
  ·rename_i a;rw[if_neg a]at h;split
   ·rename_i e;rw[if_pos e]at h;injection h with h;rw[<-h,<-e]
   ·rename_i e;rw[if_neg e]at h;cases h
theorem gU{key:List UInt8}: ∀{l:List (List UInt8×α)},ay key l=none->eU key l=l
 |[],_=>rfl
 |x::l,h=>by
  simp only[ay]at h;simp only[eU];split
  ·rename_i a;rw[if_pos a]at h;rw[gU h]
  ·rename_i a;rw[if_neg a]at h;split
   ·rename_i e;rw[if_pos e]at h;cases h
   ·rfl
theorem mF{key:List UInt8}{l:List (List UInt8×α)}(h:dK l):ay key (eU key l)=none:=by
 rw[aU (fR h)]
 cases e:ay key l with
 |none=>rw[gU e];exact(aU h).1 e
 |some r=>
  have d:=fS e;have g:dK l:=h;intro q j i;have c:=g
  have f:((key,r)::eU key l).Pairwise (fun a b=>a.1≠b.1):=by refine List.Perm.pairwise d ?_ (fun h=>Ne.symm h);exact List.Pairwise.imp (R:=fun a b:List UInt8×α=>a.1<b.1) (fun{a b} (h:a.1<b.1) (e:a.1=b.1)=>aM b.1 (by rw[e]at h;exact h)) c
  exact(List.pairwise_cons.1 f).1 q j i.symm
theorem qW{p:List UInt8×α}: ∀{l:List (List UInt8×α)},dK l->cK p (eU p.1 l)=cK p l
 |[],_=>rfl
 |x::l,h=>by
  have c:=List.pairwise_cons.1 h;simp only[eU,cK];split
  ·rename_i b;simp only[cK,if_pos b];rw[qW c.2]
  ·rename_i b;split
   ·rename_i e
    cases l with
    |nil=>rfl
    |cons y l=>have a:=c.1 y (by simp);rw[e]at a;simp only[cK];rw[if_neg (su a),if_neg (fun d=>aM p.1 (by rw[d]at a;exact a))]
   ·rename_i e;simp only[cK,if_neg b,if_neg e]
theorem mG{p:List UInt8×α}{key:List UInt8}{l:List (List UInt8×α)}(h:dK l):ay key (cK p l)=if key=p.1 then some p.2 else ay key l:=by
 have c:=eX (p:=p) h
 have a:(cK p l).Perm (p::eU p.1 l):=by rw[<-qW h];exact gT (mF h)
 split
 ·rename_i g;subst g;exact(aD c).2 (a.mem_iff.2 (by simp))
 ·rename_i g
  have e: ∀r,(key,r)∈eU p.1 l↔(key,r)∈l:=by
   intro r
   cases e':ay p.1 l with
   |none=>rw[gU e']
   |some s=>
    rw[(fS e').mem_iff,List.mem_cons];constructor
    ·exact .inr
    ·rintro(b|b)
     ·exact absurd (congrArg Prod.fst b) g
     ·exact b
  cases e':ay key l with
  |some r=>exact(aD c).2 (a.mem_iff.2 (by rw[List.mem_cons,e];exact .inr ((aD h).1 e')))
  |none=>
   rw[aU c];intro q d f;rcases List.mem_cons.1 (a.mem_iff.1 d)with rfl|d
   ·exact g f.symm
   ·subst f;exact(aU h).1 e' q ((e q.2).1 d) rfl
theorem vR{p key:List UInt8}{l:List (List UInt8×α)}(h:dK l):ay key (eU p l)=if key=p then none else ay key l:=by
 split
 ·rename_i e;subst e;exact mF h
 ·rename_i e
  cases e':ay p l with
  |none=>rw[gU e']
  |some s=>
   have b:=fS e'
   cases e2:ay key l with
   |some r=>
    rw[aD (fR h)];have:=b.mem_iff.1 ((aD h).1 e2);rcases List.mem_cons.1 this with a|a
    ·exact absurd (congrArg Prod.fst a) e
    ·exact a
   |none=>rw[aU (fR h)];exact fun q c=>(aU h).1 e2 q (mE c)
theorem kE{p:List UInt8×α}{l:List (List UInt8×α)}(h:dK l):(cK p l).length=if(ay p.1 l).isSome then l.length else l.length+1:=by
 cases e:ay p.1 l with
 |none=>simpa using(gT e).length_eq
 |some r=>rw[<-qW h,(gT (mF h)).length_eq];have:=(fS e).length_eq;simp at this⊢;omega
theorem qX{key:List UInt8}{r:α}{l:List (List UInt8×α)}(h:ay key l=some r):(eU key l).length+1=l.length:=by have:=(fS h).length_eq;simpa using this.symm
theorem mH: ∀{a b:List (List UInt8×α)},dK a->dK b->a.Perm b->a=b
 |[],b,_,_,h=>by rw[List.nil_perm]at h;exact h.symm
 |x::a,[],_,_,h=>by have:=h.length_eq;simp at this
 |x::a,y::b,ha,hb,h=>by
  have d:=List.pairwise_cons.1 ha;have c:=List.pairwise_cons.1 hb
  have e:x=y:=by
   rcases List.mem_cons.1 (h.mem_iff.1 (List.mem_cons_self (a:=x)))with i|f
   ·exact i
   ·rcases List.mem_cons.1 (h.mem_iff.2 (List.mem_cons_self (a:=y)))with i|g
    ·exact i.symm
    ·exact absurd (fq (d.1 y g) (c.1 x f)) (aM _)
  subst e;rw[mH d.2 c.2 h.cons_inv]
end
theorem ou(p:Pr): ∀l:List Pr,ins p l=cK p l
 |[]=>rfl
 |q::l=>by simp only[ins,cK,ou p l]
theorem del_eq(k:List UInt8): ∀l:List Pr,del k l=eU k l
 |[]=>rfl
 |q::l=>by simp only[del,eU,del_eq k l]
theorem look_eq(k:List UInt8): ∀l:List Pr,look k l=ay k l
 |[]=>rfl
 |q::l=>by
  have b:=look_eq k l;unfold look at b⊢;simp only[ceil,ay];split
  ·rename_i h;split at h
   ·rename_i a;rw[if_pos a,<-b,h]
   ·rename_i a;rw[if_neg a];injection h with h;rw[h]
  ·rename_i h;split at h
   ·rename_i a;rw[if_pos a,<-b,h]
   ·cases h
abbrev az:=List (List UInt8×Rw)
section
variable(enc:Rw->List UInt8)
def yH(q:List UInt8×Rw):Pr:=(q.1,enc q.2)
theorem Jh(p:List UInt8×Rw): ∀l:az,ins (yH enc p) (l.map (yH enc))=(cK p l).map (yH enc)
 |[]=>rfl
 |q::l=>by
  have b:=Jh p l;simp only[List.map_cons,ins,cK];show(if q.1<p.1 then _ else _)=_;by_cases h:q.1<p.1
  ·rw[if_pos h,if_pos h,List.map_cons,<-b]
  ·rw[if_neg h,if_neg h];show(if q.1=p.1 then _ else _)=_;by_cases a:q.1=p.1
   ·rw[if_pos a,if_pos a,List.map_cons]
   ·rw[if_neg a,if_neg a,List.map_cons,List.map_cons]
theorem Ji(k:List UInt8): ∀l:az,del k (l.map (yH enc))=(eU k l).map (yH enc)
 |[]=>rfl
 |q::l=>by
  have b:=Ji k l;simp only[List.map_cons,del,eU];show(if q.1<k then _ else _)=_;by_cases h:q.1<k
  ·rw[if_pos h,if_pos h,List.map_cons,<-b]
  ·rw[if_neg h,if_neg h];show(if q.1=k then _ else _)=_;by_cases a:q.1=k
   ·rw[if_pos a,if_pos a]
   ·rw[if_neg a,if_neg a,List.map_cons]
theorem DA(k:List UInt8): ∀l:az,look k (l.map (yH enc))=(ay k l).map enc
 |[]=>rfl
 |q::l=>by
  have a:=DA k l;rw[look_eq]at a⊢;simp only[List.map_cons,ay,a,yH];split
  ·rfl
  ·split<;>rfl
end
def ni(c:Nat)(q:List UInt8×Rw):Pr:=(dI (q.2.aL c) q.1,[])
def sA(c:Nat):az->List Pr
 |[]=>[]
 |q::l=>cK (ni c q) (sA c l)
def RowsFit(l:az):Prop:= ∀q∈l,∀c,I6 (q.2.aL c)
theorem iW(c:Nat): ∀l:az,Up (sA c l)
 |[]=>by simp[sA,Up]
 |q::l=>eX (iW c l)
theorem DB{c:Nat}{p q:List UInt8×Rw}(a:I6 (p.2.aL c))(b:I6 (q.2.aL c))(h:(ni c p).1=(ni c q).1):p.1=q.1:=(Nb a b h).2
theorem fh(c:Nat): ∀{l:az},dK l->RowsFit l->(sA c l).Perm (l.map (ni c))
 |[],_,_=>List.Perm.refl _
 |q::l,h,hf=>by have e:=List.pairwise_cons.1 h;have f:=fh c e.2 (fun p a=>hf p (by simp[a]));refine(gT ?_).trans (List.Perm.cons _ f);rw[aU (iW c l)];intro p a i;obtain⟨d,b,rfl⟩:=List.mem_map.1 (f.mem_iff.1 a);have g:=DB (hf d (by simp[b]) c) (hf q (by simp) c) i;have:=e.1 d b;rw[g]at this;exact aM _ this
theorem BK{c:Nat}{l:az}{a:List Pr}(h:dK l)(b:RowsFit l)(e:Up a)(d:a.Perm (l.map (ni c))):a=sA c l:=
 mH e (iW c l) (d.trans (fh c h b).symm)
theorem Jj{c:Nat}{l:az}(h:dK l)(a:RowsFit l):(sA c l).length=l.length:=by rw[(fh c h a).length_eq,List.length_map]
theorem RowsFit.ins{p:List UInt8×Rw}{l:az}(h:RowsFit l)(a: ∀c,I6 (p.2.aL c)):RowsFit (cK p l):=fun q b=>(ia b).elim (fun e=>by subst e;exact a) (h q)
theorem RowsFit.del{k:List UInt8}{l:az}(h:RowsFit l):RowsFit (eU k l):=fun q a=>h q (mE a)
theorem BL{c:Nat}{l:az}{p:List UInt8×Rw}(h:dK l)(d:RowsFit l)(e:I6 (p.2.aL c))(f:ay p.1 l=none):ay (ni c p).1 (sA c l)=none:=by rw[aU (iW c l)];intro q g i;obtain⟨b,a,rfl⟩:=List.mem_map.1 ((fh c h d).mem_iff.1 g);exact(aU h).1 f b a (DB (d b a c) e i)
theorem qY{c:Nat}{l:az}{k:List UInt8}{r:Rw}(h:dK l)(b:RowsFit l)(a:ay k l=some r):ay (ni c (k,r)).1 (sA c l)=some []:=by rw[aD (iW c l)];exact(fh c h b).mem_iff.2 (List.mem_map.2 ⟨(k,r),(aD h).1 a,rfl⟩)
theorem Nc{c:Nat}{l:az}{p:List UInt8×Rw}(h:dK l)(a:RowsFit l)(d: ∀c,I6 (p.2.aL c))(b:ay p.1 l=none):cK (ni c p) (sA c l)=sA c (cK p l):=by refine BK (eX h) (a.ins d) (eX (iW c l)) ?_;refine(gT (BL h a (d c) b)).trans ?_;refine(List.Perm.cons _ (fh c h a)).trans ?_;exact((gT b).map (ni c)).symm
theorem Ng{c:Nat}{l:az}{k:List UInt8}{r:Rw}(h:dK l)(a:RowsFit l)(d:ay k l=some r):eU (dI (r.aL c) k) (sA c l)=sA c (eU k l):=by refine BK (fR h) a.del (fR (iW c l)) ?_;have e:=fS (qY (c:=c) h a d);have b:=((fh c h a).symm.trans e).symm.trans ((fS d).map (ni c));rw[List.map_cons]at b;exact List.Perm.cons_inv b
theorem Jk{c:Nat}{l:az}{k:List UInt8}{r old:Rw}(h:dK l)(a:RowsFit l)(d: ∀c,I6 (r.aL c))(b:ay k l=some old):cK (dI (r.aL c) k,[]) (eU (dI (old.aL c) k) (sA c l))=sA c (cK (k,r) l):=by rw[Ng h a b];have:=Nc (c:=c) (p:=(k,r)) (fR (key:=k) h) a.del d (mF h);rw[qW (p:=(k,r)) h]at this;exact this
theorem Rx{c:Nat}{l:az}{k:List UInt8}{r old:Rw}(h:dK l)(a:RowsFit l)(f: ∀c,I6 (r.aL c))(d:ay k l=some old)(e:old.aL c=r.aL c):sA c l=sA c (cK (k,r) l):=by rw[<-Jk h a f d,e];have b:=qY (c:=c) h a d;rw[show(ni c (k,old)).1=dI (r.aL c) k by rw[<-e];rfl]at b;refine mH (iW c l) (eX (fR (iW c l))) ?_;exact(fS b).trans (gT (p:=(dI (r.aL c) k,[])) (mF (iW c l))).symm
def cU(key:List UInt8)(l:List Pr):List Pr:=l.dropWhile fun p=>decide (p.1<key)
theorem pj(key:List UInt8): ∀l:List Pr,ceil key l=(cU key l).head?
 |[]=>rfl
 |q::l=>by
  have a:=pj key l;unfold cU at a⊢;by_cases h:q.1<key
  ·simp[ceil,h,a]
  ·simp[ceil,h]
theorem KC{key:List UInt8}: ∀{l:List Pr},(∀q∈l,¬q.1<key)->cU key l=l
 |[],_=>rfl
 |q::l,h=>by unfold cU;simp[h q (by simp)]
theorem sB{key:List UInt8}{l:List Pr}{q:Pr}(h:q∈cU key l):q∈l:=(List.dropWhile_sublist _).subset h
theorem zP{key:List UInt8}{p:Pr}{b:List Pr}: ∀{l:List Pr},Up l->cU key l=p::b->cU (p.1++[0]) l=b
 |[],_,h=>by simp[cU]at h
 |q::l,hu,h=>by
  have a:=List.pairwise_cons.1 hu;by_cases g:q.1<key
  ·have c:cU key l=p::b:=by
    unfold cU at h⊢;simpa[g]using h
   have e:p∈l:=sB (key:=key) (by rw[c];simp);have d:q.1<p.1++[0]:=uU.2 (.inl (a.1 p e));have:=zP a.2 c;unfold cU at this⊢;simpa[d]using this
  ·have c:q=p/\l=b:=by
    unfold cU at h;simp[g]at h;exact h
   obtain⟨rfl,rfl⟩:=c;have d:q.1<q.1++[0]:=uU.2 (.inr rfl)
   have e:cU (q.1++[0]) l=l:=KC fun y f i=>by
    rcases uU.1 i with i|i
    ·exact aM _ (fq i (a.1 y f))
    ·have:=a.1 y f;rw[i]at this;exact aM _ this
   unfold cU at e⊢;simpa[d]using e
theorem Nh{key:List UInt8}{l:List Pr}(h:Up l):Up (cU key l):=h.sublist (List.dropWhile_sublist _)
theorem qZ{key:List UInt8}: ∀{l:List Pr},Up l->cU key l=l.filter fun p=>decide (¬p.1<key)
 |[],_=>rfl
 |q::l,hu=>by
  have c:=List.pairwise_cons.1 hu;by_cases a:q.1<key
  ·have b:=qZ (key:=key) c.2;unfold cU at b⊢;simp[a,b]
  ·rw[List.filter_eq_self.2]
   ·unfold cU;simp[a]
   ·intro y b;simp only[decide_eq_true_eq];rcases List.mem_cons.1 b with rfl|b
    ·exact a
    ·exact fun e=>a (fq (c.1 y b) e)
def jO(a:List UInt8)(p:Pr):Bool:=decide (a=[])||decide (p.1<a)
theorem tI{b:List UInt8}: ∀{l:List Pr},Up l->l.takeWhile (jO b)=l.filter (jO b)
 |[],_=>rfl
 |q::l,hu=>by
  have e:=List.pairwise_cons.1 hu;by_cases c:jO b q=true
  ·simp[c,tI e.2]
  ·have:(q::l).filter (jO b)=[]:=by
    rw[List.filter_eq_nil_iff];intro y d a;rcases List.mem_cons.1 d with rfl|d
    ·exact c a
    ·apply c;unfold jO at a⊢;simp only[Bool.or_eq_true,decide_eq_true_eq]at a⊢;exact a.imp id (fun f=>fq (e.1 y d) f)
   rw[this];simp[c]
def Ry(lo a:List UInt8)(l:List Pr):List Pr:=(cU lo l).takeWhile (jO a)
theorem DC{lo a:List UInt8}{l:List Pr}(h:Up l):Ry lo a l=l.filter fun p=>jO a p&&decide (¬p.1<lo):=by unfold Ry;rw[tI (Nh h),qZ h,List.filter_filter]
def DD(hi:Int):List UInt8:=if hi<9223372036854775807 then pfx (hi+1)else[]
def DF(c:Nat)(lo hi:Int)(q:List UInt8×Rw):Bool:=decide (lo<=q.2.aL c)&&decide (q.2.aL c<=hi)
theorem vS{a b k:List UInt8}(h:a.length=b.length):a++k<b↔a<b:=by have:=qA (k:=k) (l:=[]) h;rw[List.append_nil]at this;rw[this];simp
theorem Rz{c:Nat}{lo hi:Int}{q:List UInt8×Rw}(a:I6 (q.2.aL c))(b:I6 lo)(d:I6 hi):(jO (DD hi) (ni c q)&&decide (¬(ni c q).1<pfx lo))=DF c lo hi q:=by
 have h:(ni c q).1<pfx lo↔q.2.aL c<lo:=by show dI _ _<_↔_;unfold dI;rw[vS (by rw[cg,cg]),sy a b]
 have g:jO (DD hi) (ni c q)=decide (q.2.aL c<=hi):=by
  unfold jO DD;split
  ·rename_i j;have e:pfx (hi+1)≠[]:=fun i=>by have:=cg (hi+1);rw[i]at this;simp at this
   have f:(ni c q).1<pfx (hi+1)↔q.2.aL c<hi+1:=by show dI _ _<_↔_;unfold dI;rw[vS (by rw[cg,cg]),sy a ⟨by have:=d.1;omega,by omega⟩]
   simp only[e,decide_false,Bool.false_or];rw[decide_eq_decide,f];omega
  ·rename_i j;have:=a.2;simp;omega
 rw[g];unfold DF;rw[Bool.and_comm];congr 1;rw[decide_eq_decide,h];omega
theorem RowsFit.filter{l:az}(h:RowsFit l)(f:List UInt8×Rw->Bool):RowsFit (l.filter f):=fun q a=>h q (List.mem_filter.1 a).1
theorem dK.filter{α:Type}{l:List (List UInt8×α)}(h:dK l)(f:List UInt8×α->Bool):dK (l.filter f):=h.sublist List.filter_sublist
theorem RA{c:Nat}{l:az}{lo hi:Int}(h:dK l)(a:RowsFit l)(b:I6 lo)(d:I6 hi):Ry (pfx lo) (DD hi) (sA c l)=sA c (l.filter (DF c lo hi)):=by
 rw[DC (iW c l)];refine BK (h.filter _) (a.filter _) ((iW c l).sublist List.filter_sublist) ?_;refine((fh c h a).filter _).trans ?_;rw[List.filter_map]
 have:l.filter ((fun p=>jO (DD hi) p&&decide (¬p.1<pfx lo))∘ni c)=l.filter (DF c lo hi):=by refine List.filter_congr fun q e=>?_;exact Rz (a q e c) b d
 rw[this]
def cO(c:Nat)(lo hi:Int)(l:az):List (List UInt8):=(sA c (l.filter (DF c lo hi))).map fun p=>p.1.drop 8
theorem ov(v:Int)(k:List UInt8):(dI v k).drop 8=k:=by unfold dI;rw[List.drop_append_of_le_length (by rw[cg];omega),List.drop_eq_nil_of_le (by rw[cg];omega)];rfl
theorem kg{c:Nat}{lo hi:Int}{l:az}(h:dK l)(d:RowsFit l){k:List UInt8}:k∈cO c lo hi l↔ ∃r,(k,r)∈l/\lo<=r.aL c/\r.aL c<=hi:=by
 unfold cO;rw[List.mem_map];constructor
 ·rintro⟨p,e,rfl⟩;obtain⟨q,f,rfl⟩:=List.mem_map.1 ((fh c (h.filter _) (d.filter _)).mem_iff.1 e);obtain⟨b,a⟩:=List.mem_filter.1 f;unfold DF at a;simp only[Bool.and_eq_true,decide_eq_true_eq]at a;refine⟨q.2,?_,a⟩;show((dI _ _).drop 8,_)∈l;rw[ov];exact b
 ·rintro⟨r,e,b,a⟩;refine⟨ni c (k,r),(fh c (h.filter _) (d.filter _)).mem_iff.2 (List.mem_map.2 ⟨(k,r),List.mem_filter.2 ⟨e,by simp[DF,b,a]⟩,rfl⟩),ov _ _⟩
theorem zQ{c:Nat}{lo hi:Int}{l:az}(h:dK l)(a:RowsFit l):(cO c lo hi l).length<=l.length:=by unfold cO;rw[List.length_map,Jj (h.filter _) (a.filter _)];exact List.length_filter_le _ _
end Go.Proofs.YtehccbdajiiaaaaGreatDoor
