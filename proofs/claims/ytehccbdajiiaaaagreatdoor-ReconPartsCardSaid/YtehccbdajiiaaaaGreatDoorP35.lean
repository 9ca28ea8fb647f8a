import Derived.Test.YtehccbdajiiaaaaGreatDoorP33
namespace Go.Proofs.YtehccbdajiiaaaaGreatDoor
open Go.Proofs.Tryz
set_option maxRecDepth 100000
set_option maxHeartbeats 16000000
open Go.RowKit
def XG(b B5 B6 X1 X2:Nat)(w:World):Prop:=w.cell? ⟨B5,0,none⟩=some (.func (.func 148) #[] #[r7 X1])/\w.cell? ⟨B6,0,none⟩=some (.func (.func 148) #[] #[r7 X2])/\w.cell? ⟨X1,0,none⟩=some (.func (.func 86) #[r7 b] #[])/\w.cell? ⟨X2,0,none⟩=some (.func (.func 87) #[r7 b] #[])
def XH(T B5 B6 X1 X2:Nat):Prop:=B5≠T/\B6≠T/\X1≠T/\X2≠T
theorem XG.only{b B5 B6 X1 X2:Nat}{w w':World}{S:Nat->Prop}(h:XG b B5 B6 X1 X2 w)(a:Only S w w')(d: ¬S B5)(e: ¬S B6)(f: ¬S X1)(c: ¬S X2):XG b B5 B6 X1 X2 w':=
 ⟨a.cell (p:=⟨B5,0,none⟩) h.1 d,a.cell (p:=⟨B6,0,none⟩) h.2.1 e,a.cell (p:=⟨X1,0,none⟩) h.2.2.1 f,a.cell (p:=⟨X2,0,none⟩) h.2.2.2 c⟩
def jL(F:Nat->Prop)(b:Nat)(all:List UInt8)(B5 B6 X1 X2 T:Nat)(t:TypeId)(p:Nat)(cs:Array Value)(w:World):Prop:=
 bp w F b all p/\XG b B5 B6 X1 X2 w/\w.heap[T]?=some (.cells cs t (0,0))/\ ¬F T/\XH b B5 B6 X1 X2/\XH T B5 B6 X1 X2/\ ∀k,F k->k<w.heap.size
section
variable{F:Nat->Prop}{b:Nat}{all:List UInt8}{B5 B6 X1 X2 T:Nat}{t:TypeId}{p:Nat}{cs:Array Value}{w w':World}
theorem jL.below(h:jL F b all B5 B6 X1 X2 T t p cs w)(a:Below w.heap.size w w'):jL F b all B5 B6 X1 X2 T t p cs w':=
 ⟨h.1.below a,h.2.1.only (ri a) id id id id,(ri a).heap h.2.2.1 id,h.2.2.2.1,h.2.2.2.2.1,h.2.2.2.2.2.1,fun k c=>da (h.2.2.2.2.2.2 k c) a.size⟩
def Kf(d:List UInt8->Option (Int×List UInt8))(F:Nat->Prop)(b:Nat)(all:List UInt8)(B5 B6 X1 X2 T:Nat)(t:TypeId)(p:Nat)(os:List Nat)(cs:Array Value)(w:World)(e:Ending)(w':World):Prop:=
 Only (fun k=>k=b\/k=T) w w'/\match dJ d os.length (all.drop p)with
  |some (ns,rest)=>e=.returned (.bool true)/\ ∃a,rest=all.drop a/\jL F b all B5 B6 X1 X2 T t a (setMany cs os ns) w'
  |none=>e=.returned (.bool false)/\ ∃a c,c.size=cs.size/\jL F b all B5 B6 X1 X2 T t a c w'
theorem jL.step{h:List UInt8->Option (Int×List UInt8)}{os:List Nat}{e:Ending}{w0:World}(y:jL F b all B5 B6 X1 X2 T t p cs w)(v:Below w0.heap.size w0 w)(x:Pw h F b all p T os cs t w e w'):Kf h F b all B5 B6 X1 X2 T t p os cs w0 e w':=by
 obtain⟨i,d⟩:=x;obtain⟨B,s,C,m,c,a,r⟩:=y;have l: ∀k,F k->k<w'.heap.size:=fun k f=>da (r k f) i.size;have n:XG b B5 B6 X1 X2 w':=s.only i (fun e=>e.elim c.1 a.1) (fun e=>e.elim c.2.1 a.2.1) (fun e=>e.elim c.2.2.1 a.2.2.1) (fun e=>e.elim c.2.2.2 a.2.2.2);refine⟨(oS v _).x i (fun _ _ y=>y),?_⟩
 cases hg:dJ h os.length (all.drop p)with
 |none=>rw[hg]at d;obtain⟨g,⟨q,u,k⟩,j,f⟩:=d;exact⟨g,j,q,u,f,n,k,m,c,a,l⟩
 |some o=>obtain⟨A,z⟩:=o;rw[hg]at d;obtain⟨g,k,j,o,f⟩:=d;exact⟨g,j,o,f,n,k,m,c,a,l⟩
theorem jL.box(l:jL F b all B5 B6 X1 X2 T t p cs w)(c:Array Value)(d:TypeId):jL F b all B5 B6 X1 X2 w.heap.size d p c (w.alloc (.cells c d)):=by have k:=fG w (.cells c d);obtain⟨h,f,s,u,j,o,e⟩:=l.below k;obtain⟨_,a,_,_,_,_,g⟩:=l;have n:B5<w.heap.size:=aq _ _ a.1;have m:B6<w.heap.size:=aq _ _ a.2.1;have r:X1<w.heap.size:=aq _ _ a.2.2.1;have q:X2<w.heap.size:=aq _ _ a.2.2.2;exact⟨h,f,an _ _,fun i=>by have:=g _ i;omega,j,⟨by omega,by omega,by omega,by omega⟩,e⟩
theorem jL.back{a e:Nat}{g:TypeId}{f:Array Value}(i:jL F b all B5 B6 X1 X2 T t p cs w)(h:Only (fun k=>k=b\/k=a) w w')(d:T≠b/\T≠a)(c:jL F b all B5 B6 X1 X2 a g e f w'):jL F b all B5 B6 X1 X2 T t e cs w':=
 ⟨c.1,c.2.1,h.heap i.2.2.1 (fun j=>j.elim d.1 d.2),i.2.2.2.1,i.2.2.2.2.1,i.2.2.2.2.2.1,c.2.2.2.2.2.2⟩
theorem jL.nb(h:jL F b all B5 B6 X1 X2 T t p cs w):T≠b:=fun e=>h.2.2.2.1 (by obtain⟨⟨_,_,a,_⟩,_⟩:=h;rw[e];exact a)
theorem jL.lt(h:jL F b all B5 B6 X1 X2 T t p cs w):T<w.heap.size:=(cq.1 h.2.2.1).1
theorem jL.blt(h:jL F b all B5 B6 X1 X2 T t p cs w):b<w.heap.size:=by obtain⟨⟨v,a,_⟩,_⟩:=h;exact(cq.1 a).1
theorem rT{e:Ending}(j:Kf iK F b all B5 B6 X1 X2 T t p [0] #[rv 0] w e w'):(e=.returned (.bool false)/\dJ iK 1 (all.drop p)=none/\ ∃a f,jL F b all B5 B6 X1 X2 T t a f w')\/
  (∃(mk:Nat) (a:Nat),e=.returned (.bool true)/\mk<=9223372036854775807/\dJ iK 1 (all.drop p)=some ([(mk:Int)],all.drop a)/\jL F b all B5 B6 X1 X2 T t a #[rv (mk:Int)] w'):=by
 obtain⟨_,d⟩:=j
 cases hg:dJ iK 1 (all.drop p)with
 |none=>rw[show([0]:List Nat).length=1 from rfl,hg]at d;obtain⟨h,a,f,_,k⟩:=d;exact .inl ⟨h,rfl,a,f,k⟩
 |some y=>
  obtain⟨g,l⟩:=y;rw[show([0]:List Nat).length=1 from rfl,hg]at d;obtain⟨h,a,rfl,k⟩:=d
  have c:iK (all.drop p)=some (g.headD 0,all.drop a)/\g=[g.headD 0]:=by
   rw[dJ]at hg;simp only[dJ]at hg
   cases hu:iK (all.drop p)with
   |none=>rw[hu]at hg;simp at hg
   |some z=>obtain⟨n,r⟩:=z;rw[hu]at hg;simp at hg;obtain⟨rfl,i⟩:=hg;exact⟨by rw[i];rfl,rfl⟩
  cases hu:BW (all.drop p)with
  |none=>simp[iK,hu]at c
  |some z=>
   obtain⟨m,r⟩:=z;simp[iK,hu]at c;have i:=(uW hu).2;refine .inr ⟨m,a,h,i,?_,?_⟩
   ·rw[c.2,<-c.1.1]
   ·rw[c.2,<-c.1.1]at k;exact k
theorem xZ{g:Nat}{a:Array Value}{b:TypeId}{os:List Nat}(h:w.heap[g]?=some (.cells a b (0,0)))(e:a=(aC T os).toArray)(c:os.length<=maxLen):Rd w (fun k=>k=g) (.slice (some ⟨g,0,none⟩) os.length os.length) (aC T os):=by refine⟨_,_,_,rfl,by simp[aC],b8 _,c,fun _=>⟨g,0,rfl,rfl,fun j u d=>?_⟩⟩;subst e;simp only[gR,World.cell?,h];simpa using d
theorem qN(q:jL F b all B5 B6 X1 X2 T t p cs w)(os:List Nat)(c:Array Value)(e:c=(aC T os).toArray)(n:Nat)(a:n=os.length)(s:os.length<=100)(f: ∀o∈os,o<cs.size):
  Calls prog 148 #[.slice (some ⟨w.heap.size,0,none⟩) n n,r7 X1] (w.alloc (.cells c 186)) (Kf iK F b all B5 B6 X1 X2 T t p os cs w):=by
 subst a;have d:=fG w (.cells c 186);have j:=q.below d;obtain⟨i,g,k,m,l,h,_⟩:=j;have r:b<w.heap.size:=by obtain⟨⟨x,a,_⟩,_⟩:=q;exact(cq.1 a).1
 have v:T<w.heap.size:=by obtain⟨_,_,a,_⟩:=q;exact(cq.1 a).1
 exact(WU _ F (fun o=>o=w.heap.size) b X1 T all p _ _ _ os cs t i g.2.2.1 ⟨l.2.2.1,h.2.2.1⟩ (xZ (an _ _) e (by simp[maxLen];omega)) (fun o u=>⟨by omega,by omega⟩) k f m).m (fun u w' o=>(q.below d).step d o)
theorem CQ(q:jL F b all B5 B6 X1 X2 T t p cs w)(os:List Nat)(c:Array Value)(e:c=(aC T os).toArray)(n:Nat)(a:n=os.length)(s:os.length<=100)(f: ∀o∈os,o<cs.size):
  Calls prog 148 #[.slice (some ⟨w.heap.size,0,none⟩) n n,r7 X2] (w.alloc (.cells c 186)) (Kf mL F b all B5 B6 X1 X2 T t p os cs w):=by
 subst a;have d:=fG w (.cells c 186);have j:=q.below d;obtain⟨i,g,k,m,l,h,_⟩:=j;have r:b<w.heap.size:=by obtain⟨⟨x,a,_⟩,_⟩:=q;exact(cq.1 a).1
 have v:T<w.heap.size:=by obtain⟨_,_,a,_⟩:=q;exact(cq.1 a).1
 exact(WX _ F (fun o=>o=w.heap.size) b X2 T all p _ _ _ os cs t i g.2.2.2 ⟨l.2.2.2,h.2.2.2⟩ (xZ (an _ _) e (by simp[maxLen];omega)) (fun o u=>⟨by omega,by omega⟩) k f m).m (fun u w' o=>(q.below d).step d o)
end
def XI{α:Type}(f:List UInt8->Option (α×List UInt8))(d:α->Array Value->Array Value)(F:Nat->Prop)(b:Nat)(all:List UInt8)(B5 B6 X1 X2 T:Nat)(t:TypeId)(p:Nat)(cs:Array Value)(w:World)(e:Ending)(w':World):Prop:=
 Only (fun k=>k=b\/k=T) w w'/\match f (all.drop p)with
  |some (x,rest)=>e=.returned (.bool true)/\ ∃a,rest=all.drop a/\jL F b all B5 B6 X1 X2 T t a (d x cs) w'
  |none=>e=.returned (.bool false)/\ ∃a c,c.size=cs.size/\jL F b all B5 B6 X1 X2 T t a c w'
def mo(e:List UInt8):Option (aX×List UInt8):=
 match dJ iK 3 e with
 |some ([d,a,b],r)=>match dJ mL 1 r with
  |some ([c],r2)=>match dJ iK 1 r2 with
   |some ([n],r3)=>some (⟨d,a,b,c,n⟩,r3)
   |_=>none
  |_=>none
 |_=>none
def Kg(m:Nat)(o:aX)(cs:Array Value):Array Value:=setMany cs [m,m+1,m+2,m+3,m+4] [o.d,o.a,o.b,o.c,o.n]
theorem three{l:List Int}(h:l.length=3): ∃a b c,l=[a,b,c]:=by
 match l,h with
 |[a,b,c],_=>exact⟨a,b,c,rfl⟩
theorem TE{l:List Int}(h:l.length=1): ∃a,l=[a]:=by
 match l,h with
 |[a],_=>exact⟨a,rfl⟩
theorem acV{l:List Int}(h:l.length=2): ∃a b,l=[a,b]:=by
 match l,h with
 |[a,b],_=>exact⟨a,b,rfl⟩
theorem XJ(F:Nat->Prop)(b:Nat)(all:List UInt8)(B5 B6 X1 X2 T:Nat)(t:TypeId)(o m:Nat)(cs:Array Value)(w:World)(h:jL F b all B5 B6 X1 X2 T t o cs w)(i:m+5<=cs.size):
  Calls prog 89 #[.pointer (some ⟨T,m,none⟩),r7 B5,r7 B6] w (XI mo (Kg m) F b all B5 B6 X1 X2 T t o cs w):=by
 obtain⟨y,a⟩:=rl (cs.size);have A:=al a.symm;have D:cs.size=y:=a;rw[a]at i;clear a;have P:=al (h.below (aw w.heap.size w).drew);have O:=al ((oT (fun k=>k=b\/k=T) w).drew);go_enter func89,ntmps89;go_upto_region 1 with fail;refine pw (S:=(fun w'=>w'.cell? ⟨B5,0,none⟩=some (.func (.func 148) #[] #[r7 X1])/\w'.cell? ⟨B6,0,none⟩=some (.func (.func 148) #[] #[r7 X2]))) (by kernel_rfl) ⟨(((aw _ _).drew).cell (p:=⟨B5,0,none⟩) (aq _ _ h.2.1.1)).x h.2.1.1,(((aw _ _).drew).cell (p:=⟨B6,0,none⟩) (aq _ _ h.2.1.2.1)).x h.2.1.2.1⟩ (fun a=>?_);refine ag (i:=0) (v:=?_) rfl (by kernel_rfl) (by kernel_rfl) (by kernel_rfl) (fun _ _ _ h=>h) (by rfl) (fun e c=>?_) a ?_;rotate_left
 ·obtain⟨d,f⟩:=c;go_simp;try rfl
 try simp only[xT]
 refine ag (i:=1) (v:=?_) rfl (by kernel_rfl) (by kernel_rfl) (by kernel_rfl) (fun _ _ _ h=>h) (by rfl) (fun e c=>?_) a ?_;rotate_left
 ·obtain⟨d,f⟩:=c;go_simp;try rfl
 try simp only[xT]
 refine ag (i:=2) (v:=?_) rfl (by kernel_rfl) (by kernel_rfl) (by kernel_rfl) (fun _ _ _ h=>h) (by rfl) (fun e c=>?_) a ?_;rotate_left
 ·obtain⟨d,f⟩:=c;go_simp;try rfl
 try simp only[xT]
 refine ag (i:=3) (v:=?_) rfl (by kernel_rfl) (by kernel_rfl) (by kernel_rfl) (fun _ _ _ h=>h) (by rfl) (fun e c=>?_) a ?_;rotate_left
 ·obtain⟨d,f⟩:=c;go_simp;try rfl
 try simp only[xT]
 refine ag (i:=4) (v:=?_) rfl (by kernel_rfl) (by kernel_rfl) (by kernel_rfl) (fun _ _ _ h=>h) (by rfl) (fun e c=>?_) a ?_;rotate_left
 ·obtain⟨d,f⟩:=c;go_simp;try rfl
 try simp only[xT]
 refine ag (i:=5) (v:=?_) rfl (by kernel_rfl) (by kernel_rfl) (by kernel_rfl) (fun _ _ _ h=>h) (by rfl) (fun e c=>?_) a ?_;rotate_left
 ·obtain⟨d,f⟩:=c;go_simp;try rfl
 try simp only[xT]
 refine ag (i:=6) (v:=?_) rfl (by kernel_rfl) (by kernel_rfl) (by kernel_rfl) (fun _ _ _ h=>h) (by rfl) (fun e c=>?_) a ?_;rotate_left
 ·obtain⟨d,f⟩:=c;go_simp;try rfl
 try simp only[xT]
 refine ag (i:=7) (v:=?_) rfl (by kernel_rfl) (by kernel_rfl) (by kernel_rfl) (fun _ _ _ h=>h) (by rfl) (fun e c=>?_) a ?_;rotate_left
 ·obtain⟨d,f⟩:=c;go_simp;try rfl
 try simp only[xT]
 refine ag (i:=8) (v:=?_) rfl (by kernel_rfl) (by kernel_rfl) (by kernel_rfl) (fun _ _ _ h=>h) (by rfl) (fun e c=>?_) a ?_;rotate_left
 ·obtain⟨d,f⟩:=c;go_simp;try rfl
 try simp only[xT]
 refine ag (i:=9) (v:=?_) rfl (by kernel_rfl) (by kernel_rfl) (by kernel_rfl) (fun _ _ _ h=>h) (by rfl) (fun e c=>?_) a ?_;rotate_left
 ·obtain⟨d,f⟩:=c;go_simp;try rfl
 try simp only[xT]
 refine qn (rs:=[10]) (by kernel_rfl) (by simp) (au (i:=10) rfl (fun K g=>?_) pt);go_simp;refine g.o _ _ (⟨aJ a.1 _,aJ a.2 _⟩) ?_;clear g K a;intro a
 try simp only[xT]
 refine qn (rs:=[11]) (by kernel_rfl) (by simp) (au (i:=11) rfl (fun K g=>?_) pt);go_simp;refine(qN P.o [m,m+1,m+2] _ rfl _ rfl (by simp) (by intro X u;simp at u;have:=D;omega)).m ?_;rintro W M ⟨k,i⟩;have H:=al (O.o.x k (fun _ _ h=>h));clear k
 cases hg0:dJ iK 3 (all.drop o)with
 |none=>
  rw[show([m,m+1,m+2]:List Nat).length=3 from rfl,hg0]at i;obtain⟨rfl,v,s,n,l⟩:=i;have p:=al l;have j:=AI hg0 n;clear l n hg0
  try go_simp
  refine g.o _ _ (⟨p.o.2.1.1,p.o.2.1.2.1⟩) ?_;clear g K a;intro a
  try simp only[xT]
  refine ag (i:=12) (v:=?_) rfl (by kernel_rfl) (by kernel_rfl) (by kernel_rfl) (fun _ _ _ h=>h) (by rfl) (fun e c=>?_) a ?_;rotate_left
  ·obtain⟨d,f⟩:=c;go_simp;try rfl
  try simp only[xT]
  refine aS (i:=13) rfl (by kernel_rfl) (by kernel_rfl) (by kernel_rfl) (fun _ _ _ h=>h) (by rfl) a ?_
  try simp only[xT]
  refine aS (i:=14) rfl (by kernel_rfl) (by kernel_rfl) (by kernel_rfl) (fun _ _ _ h=>h) (by rfl) a ?_
  try simp only[xT]
  refine aS (i:=15) rfl (by kernel_rfl) (by kernel_rfl) (by kernel_rfl) (fun _ _ _ h=>h) (by rfl) a ?_
  try simp only[xT]
  refine aS (i:=16) rfl (by kernel_rfl) (by kernel_rfl) (by kernel_rfl) (fun _ _ _ h=>h) (by rfl) a ?_
  try simp only[xT]
  refine aS (i:=17) rfl (by kernel_rfl) (by kernel_rfl) (by kernel_rfl) (fun _ _ _ h=>h) (by rfl) a ?_
  try simp only[xT]
  refine aS (i:=18) rfl (by kernel_rfl) (by kernel_rfl) (by kernel_rfl) (fun _ _ _ h=>h) (by rfl) a ?_
  try simp only[xT]
  refine ag (i:=19) (v:=?_) rfl (by kernel_rfl) (by kernel_rfl) (by kernel_rfl) (fun _ _ _ h=>h) (by rfl) (fun e c=>?_) a ?_;rotate_left
  ·obtain⟨d,f⟩:=c;go_simp;try rfl
  try simp only[xT]
  refine ag (i:=20) (v:=?_) rfl (by kernel_rfl) (by kernel_rfl) (by kernel_rfl) (fun _ _ _ h=>h) (by rfl) (fun e c=>?_) a ?_;rotate_left
  ·obtain⟨d,f⟩:=c;go_simp;try rfl
  try simp only[xT]
  refine aS (i:=21) rfl (by kernel_rfl) (by kernel_rfl) (by kernel_rfl) (fun _ _ _ h=>h) (by rfl) a ?_
  try simp only[xT]
  refine aS (i:=22) rfl (by kernel_rfl) (by kernel_rfl) (by kernel_rfl) (fun _ _ _ h=>h) (by rfl) a ?_
  try simp only[xT]
  refine aS (i:=23) rfl (by kernel_rfl) (by kernel_rfl) (by kernel_rfl) (fun _ _ _ h=>h) (by rfl) a ?_
  try simp only[xT]
  refine aS (i:=24) rfl (by kernel_rfl) (by kernel_rfl) (by kernel_rfl) (fun _ _ _ h=>h) (by rfl) a ?_
  try simp only[xT]
  refine aS (i:=25) rfl (by kernel_rfl) (by kernel_rfl) (by kernel_rfl) (fun _ _ _ h=>h) (by rfl) a ?_
  try simp only[xT]
  refine aS (i:=26) rfl (by kernel_rfl) (by kernel_rfl) (by kernel_rfl) (fun _ _ _ h=>h) (by rfl) a ?_
  try simp only[xT]
  refine ag (i:=27) (v:=?_) rfl (by kernel_rfl) (by kernel_rfl) (by kernel_rfl) (fun _ _ _ h=>h) (by rfl) (fun e c=>?_) a ?_;rotate_left
  ·obtain⟨d,f⟩:=c;go_simp;try rfl
  try simp only[xT]
  refine ag (i:=28) (v:=?_) rfl (by kernel_rfl) (by kernel_rfl) (by kernel_rfl) (fun _ _ _ h=>h) (by rfl) (fun e c=>?_) a ?_;rotate_left
  ·obtain⟨d,f⟩:=c;go_simp;try rfl
  try simp only[xT]
  refine qe (by kernel_rfl) ?_ _;go_wp2_with fail;go_ret
  have r:mo (all.drop o)=none:=by simp only[mo,j.o.1]
  refine⟨H.o,?_⟩;rw[r];exact⟨rfl,v,s,j.o.2.x (D.x A.o),p.o⟩
 |some N=>
  obtain⟨I,E⟩:=N;rw[show([m,m+1,m+2]:List Nat).length=3 from rfl,hg0]at i;obtain⟨rfl,Q,rfl,q⟩:=i;obtain⟨S,U,x,rfl⟩:=three (jx hg0);have z:(setMany cs [m,m+1,m+2] [S,U,x]).size=y:=by rw[bI];exact D
  have p:=al q;have B:=al hg0;clear q hg0
  try go_simp
  refine g.o _ _ (⟨p.o.2.1.1,p.o.2.1.2.1⟩) ?_;clear g K a;intro a
  try simp only[xT]
  refine ag (i:=12) (v:=?_) rfl (by kernel_rfl) (by kernel_rfl) (by kernel_rfl) (fun _ _ _ h=>h) (by rfl) (fun e c=>?_) a ?_;rotate_left
  ·obtain⟨d,f⟩:=c;go_simp;try rfl
  try simp only[xT]
  refine ag (i:=13) (v:=?_) rfl (by kernel_rfl) (by kernel_rfl) (by kernel_rfl) (fun _ _ _ h=>h) (by rfl) (fun e c=>?_) a ?_;rotate_left
  ·obtain⟨d,f⟩:=c;go_simp;try rfl
  try simp only[xT]
  refine ag (i:=14) (v:=?_) rfl (by kernel_rfl) (by kernel_rfl) (by kernel_rfl) (fun _ _ _ h=>h) (by rfl) (fun e c=>?_) a ?_;rotate_left
  ·obtain⟨d,f⟩:=c;go_simp;try rfl
  try simp only[xT]
  refine ag (i:=15) (v:=?_) rfl (by kernel_rfl) (by kernel_rfl) (by kernel_rfl) (fun _ _ _ h=>h) (by rfl) (fun e c=>?_) a ?_;rotate_left
  ·obtain⟨d,f⟩:=c;go_simp;try rfl
  try simp only[xT]
  refine ag (i:=16) (v:=?_) rfl (by kernel_rfl) (by kernel_rfl) (by kernel_rfl) (fun _ _ _ h=>h) (by rfl) (fun e c=>?_) a ?_;rotate_left
  ·obtain⟨d,f⟩:=c;go_simp;try rfl
  try simp only[xT]
  refine qn (rs:=[17]) (by kernel_rfl) (by simp) (au (i:=17) rfl (fun K g=>?_) pt);go_simp;refine g.o _ _ (⟨aJ a.1 _,aJ a.2 _⟩) ?_;clear g K a;intro a
  try simp only[xT]
  refine qn (rs:=[18]) (by kernel_rfl) (by simp) (au (i:=18) rfl (fun K g=>?_) pt);go_simp;refine(CQ p.o [m+3] _ rfl _ rfl (by simp) (by intro X u;simp at u;have:=z;omega)).m ?_;rintro W M ⟨k,i⟩;have L:=al (H.o.x k (fun _ _ h=>h));clear k
  cases hg1:dJ mL 1 (all.drop Q)with
  |none=>
   rw[show([m+3]:List Nat).length=1 from rfl,hg1]at i;obtain⟨rfl,v,s,n,l⟩:=i;have q:=al l;have j:=AI hg1 n;clear l n hg1
   try go_simp
   refine g.o _ _ (⟨q.o.2.1.1,q.o.2.1.2.1⟩) ?_;clear g K a;intro a
   try simp only[xT]
   refine ag (i:=19) (v:=?_) rfl (by kernel_rfl) (by kernel_rfl) (by kernel_rfl) (fun _ _ _ h=>h) (by rfl) (fun e c=>?_) a ?_;rotate_left
   ·obtain⟨d,f⟩:=c;go_simp;try rfl
   try simp only[xT]
   refine ag (i:=20) (v:=?_) rfl (by kernel_rfl) (by kernel_rfl) (by kernel_rfl) (fun _ _ _ h=>h) (by rfl) (fun e c=>?_) a ?_;rotate_left
   ·obtain⟨d,f⟩:=c;go_simp;try rfl
   try simp only[xT]
   refine aS (i:=21) rfl (by kernel_rfl) (by kernel_rfl) (by kernel_rfl) (fun _ _ _ h=>h) (by rfl) a ?_
   try simp only[xT]
   refine aS (i:=22) rfl (by kernel_rfl) (by kernel_rfl) (by kernel_rfl) (fun _ _ _ h=>h) (by rfl) a ?_
   try simp only[xT]
   refine aS (i:=23) rfl (by kernel_rfl) (by kernel_rfl) (by kernel_rfl) (fun _ _ _ h=>h) (by rfl) a ?_
   try simp only[xT]
   refine aS (i:=24) rfl (by kernel_rfl) (by kernel_rfl) (by kernel_rfl) (fun _ _ _ h=>h) (by rfl) a ?_
   try simp only[xT]
   refine aS (i:=25) rfl (by kernel_rfl) (by kernel_rfl) (by kernel_rfl) (fun _ _ _ h=>h) (by rfl) a ?_
   try simp only[xT]
   refine aS (i:=26) rfl (by kernel_rfl) (by kernel_rfl) (by kernel_rfl) (fun _ _ _ h=>h) (by rfl) a ?_
   try simp only[xT]
   refine ag (i:=27) (v:=?_) rfl (by kernel_rfl) (by kernel_rfl) (by kernel_rfl) (fun _ _ _ h=>h) (by rfl) (fun e c=>?_) a ?_;rotate_left
   ·obtain⟨d,f⟩:=c;go_simp;try rfl
   try simp only[xT]
   refine ag (i:=28) (v:=?_) rfl (by kernel_rfl) (by kernel_rfl) (by kernel_rfl) (fun _ _ _ h=>h) (by rfl) (fun e c=>?_) a ?_;rotate_left
   ·obtain⟨d,f⟩:=c;go_simp;try rfl
   try simp only[xT]
   refine qe (by kernel_rfl) ?_ _;go_wp2_with fail;go_ret
   have r:mo (all.drop o)=none:=by simp only[mo,B.o,j.o.1]
   refine⟨L.o,?_⟩;rw[r];exact⟨rfl,v,s,j.o.2.x (z.x A.o),q.o⟩
  |some N=>
   obtain⟨I,E⟩:=N;rw[show([m+3]:List Nat).length=1 from rfl,hg1]at i;obtain⟨rfl,R,rfl,G⟩:=i;obtain⟨V,rfl⟩:=TE (jx hg1);have C:(setMany (setMany cs [m,m+1,m+2] [S,U,x]) [m+3] [V]).size=y:=by rw[bI];exact z
   have q:=al G;have J:=al hg1;clear G hg1
   try go_simp
   refine g.o _ _ (⟨q.o.2.1.1,q.o.2.1.2.1⟩) ?_;clear g K a;intro a
   try simp only[xT]
   refine ag (i:=19) (v:=?_) rfl (by kernel_rfl) (by kernel_rfl) (by kernel_rfl) (fun _ _ _ h=>h) (by rfl) (fun e c=>?_) a ?_;rotate_left
   ·obtain⟨d,f⟩:=c;go_simp;try rfl
   try simp only[xT]
   refine ag (i:=20) (v:=?_) rfl (by kernel_rfl) (by kernel_rfl) (by kernel_rfl) (fun _ _ _ h=>h) (by rfl) (fun e c=>?_) a ?_;rotate_left
   ·obtain⟨d,f⟩:=c;go_simp;try rfl
   try simp only[xT]
   refine ag (i:=21) (v:=?_) rfl (by kernel_rfl) (by kernel_rfl) (by kernel_rfl) (fun _ _ _ h=>h) (by rfl) (fun e c=>?_) a ?_;rotate_left
   ·obtain⟨d,f⟩:=c;go_simp;try rfl
   try simp only[xT]
   refine ag (i:=22) (v:=?_) rfl (by kernel_rfl) (by kernel_rfl) (by kernel_rfl) (fun _ _ _ h=>h) (by rfl) (fun e c=>?_) a ?_;rotate_left
   ·obtain⟨d,f⟩:=c;go_simp;try rfl
   try simp only[xT]
   refine ag (i:=23) (v:=?_) rfl (by kernel_rfl) (by kernel_rfl) (by kernel_rfl) (fun _ _ _ h=>h) (by rfl) (fun e c=>?_) a ?_;rotate_left
   ·obtain⟨d,f⟩:=c;go_simp;try rfl
   try simp only[xT]
   refine ag (i:=24) (v:=?_) rfl (by kernel_rfl) (by kernel_rfl) (by kernel_rfl) (fun _ _ _ h=>h) (by rfl) (fun e c=>?_) a ?_;rotate_left
   ·obtain⟨d,f⟩:=c;go_simp;try rfl
   try simp only[xT]
   refine qn (rs:=[25]) (by kernel_rfl) (by simp) (au (i:=25) rfl (fun K g=>?_) pt);go_simp;refine g.o _ _ (⟨aJ a.1 _,aJ a.2 _⟩) ?_;clear g K a;intro a
   try simp only[xT]
   refine qn (rs:=[26]) (by kernel_rfl) (by simp) (au (i:=26) rfl (fun K g=>?_) pt);go_simp;refine(qN q.o [m+4] _ rfl _ rfl (by simp) (by intro X u;simp at u;have:=C;omega)).m ?_;rintro W M ⟨k,i⟩;have u:=al (L.o.x k (fun _ _ h=>h));clear k
   cases hg2:dJ iK 1 (all.drop R)with
   |none=>
    rw[show([m+4]:List Nat).length=1 from rfl,hg2]at i;obtain⟨rfl,v,s,n,l⟩:=i;have k:=al l;have j:=AI hg2 n;clear l n hg2
    try go_simp
    refine g.o _ _ (⟨k.o.2.1.1,k.o.2.1.2.1⟩) ?_;clear g K a;intro a
    try simp only[xT]
    refine ag (i:=27) (v:=?_) rfl (by kernel_rfl) (by kernel_rfl) (by kernel_rfl) (fun _ _ _ h=>h) (by rfl) (fun e c=>?_) a ?_;rotate_left
    ·obtain⟨d,f⟩:=c;go_simp;try rfl
    try simp only[xT]
    refine ag (i:=28) (v:=?_) rfl (by kernel_rfl) (by kernel_rfl) (by kernel_rfl) (fun _ _ _ h=>h) (by rfl) (fun e c=>?_) a ?_;rotate_left
    ·obtain⟨d,f⟩:=c;go_simp;try rfl
    try simp only[xT]
    refine qe (by kernel_rfl) ?_ _;go_wp2_with fail;go_ret
    have r:mo (all.drop o)=none:=by simp only[mo,B.o,J.o,j.o.1]
    refine⟨u.o,?_⟩;rw[r];exact⟨rfl,v,s,j.o.2.x (C.x A.o),k.o⟩
   |some N=>
    obtain⟨I,E⟩:=N;rw[show([m+4]:List Nat).length=1 from rfl,hg2]at i;obtain⟨rfl,j,rfl,l⟩:=i;obtain⟨r,rfl⟩:=TE (jx hg2);have s:(setMany (setMany (setMany cs [m,m+1,m+2] [S,U,x]) [m+3] [V]) [m+4] [r]).size=y:=by rw[bI];exact C
    have k:=al l;have n:=al hg2;clear l hg2
    try go_simp
    refine g.o _ _ (⟨k.o.2.1.1,k.o.2.1.2.1⟩) ?_;clear g K a;intro a
    try simp only[xT]
    refine ag (i:=27) (v:=?_) rfl (by kernel_rfl) (by kernel_rfl) (by kernel_rfl) (fun _ _ _ h=>h) (by rfl) (fun e c=>?_) a ?_;rotate_left
    ·obtain⟨d,f⟩:=c;go_simp;try rfl
    try simp only[xT]
    refine ag (i:=28) (v:=?_) rfl (by kernel_rfl) (by kernel_rfl) (by kernel_rfl) (fun _ _ _ h=>h) (by rfl) (fun e c=>?_) a ?_;rotate_left
    ·obtain⟨d,f⟩:=c;go_simp;try rfl
    try simp only[xT]
    refine qe (by kernel_rfl) ?_ _;go_wp2_with fail;go_ret
    have c:mo (all.drop o)=some (⟨S,U,x,V,r⟩,all.drop j):=by simp only[mo,B.o,J.o,n.o]
    refine⟨u.o,?_⟩;rw[c];exact⟨rfl,j,rfl,k.o⟩
def Ki(m:Nat)(n:Int)(cs:Array Value):Array Value:=setMany cs [m] [n]
theorem TF(a:List UInt8):dJ mL 1 a=(mL a).map fun x=>([x.1],x.2):=by
 rw[dJ];simp only[dJ]
 cases mL a with
 |none=>rfl
 |some x=>rfl
theorem one_num(F:Nat->Prop)(b:Nat)(all:List UInt8)(B5 B6 X1 X2 T:Nat)(t:TypeId)(f m:Nat)(cs:Array Value)(w:World)(h:jL F b all B5 B6 X1 X2 T t f cs w)(l:m+1<=cs.size):
  Calls prog 91 #[.pointer (some ⟨T,m,none⟩),r7 B6] w (XI mL (Ki m) F b all B5 B6 X1 X2 T t f cs w):=by
 have i:=al h;have j:=h.2.1.2.1;have a:=CQ h [m] _ rfl 1 rfl (by simp) (by intro o c;simp at c;omega);have g:=al a;clear h a;go_enter func91,ntmps91;go_wp2_with fail;refine g.o.m ?_;rintro o k ⟨c,e⟩;rw[show([m]:List Nat).length=1 from rfl,TF]at e
 cases hg:mL (all.drop f)with
 |none=>
  rw[hg]at e;obtain⟨rfl,d⟩:=e;have a:=AM c d hg;clear c d hg;go_wp2_with fail;go_ret
  refine⟨a.o.1,?_⟩;rw[a.o.d];exact⟨rfl,a.o.2.1⟩
 |some y=>
  obtain⟨n,h⟩:=y;rw[hg]at e;obtain⟨rfl,d⟩:=e;have a:=AM c d hg;clear c d hg;go_wp2_with fail;go_ret
  refine⟨a.o.1,?_⟩;rw[a.o.d];exact⟨rfl,a.o.2.1⟩
def jI(a:List UInt8):Option (Cl×List UInt8):=
 match dJ iK 1 a with
 |some ([mk],r)=>if mk<=1 then match dJ mL 1 r with
   |some ([aL],r2)=>match Gl 16 r2 with
    |some (key,r3)=>match dJ mL 2 r3 with
     |some ([lo,hi],r4)=>some (⟨decide (mk=1),aL,key,lo,hi⟩,r4)
     |_=>none
    |none=>none
   |_=>none
  else none
 |_=>none
def Fg(m:Nat)(c:Cl)(cs:Array Value):Array Value:=setMany (((setMany cs [m+1] [c.aL]).setIfInBounds m (.bool c.wr)).setIfInBounds (m+2) (sd c.key)) [m+3,m+4] [c.lo,c.hi]
section
variable{F:Nat->Prop}{b:Nat}{all:List UInt8}{B5 B6 X1 X2 T:Nat}{t:TypeId}{p:Nat}{cs:Array Value}{w w':World}
theorem jL.IB(l:jL F b all B5 B6 X1 X2 T t p cs w)(o:Nat)(v:Value):jL F b all B5 B6 X1 X2 T t p (cs.setIfInBounds o v) (w.setCell ⟨T,o,none⟩ v):=by have d:=Only.aR w T o v;have m:=l.nb;obtain⟨j,g,h,e,i,a,f⟩:=l;exact⟨j.only d (fun k c n=>e (n▸c)),g.only d a.1 a.2.1 a.2.2.1 a.2.2.2,by simp[World.setCell,Array.getElem?_modify,h],e,i,a,fun k c=>da (f k c) d.size⟩
theorem jL.text{d:Nat}(n:jL F b all B5 B6 X1 X2 T t p cs w)(c:Only (fun m=>m=b) w w')(f:bp w' F b all d):jL F b all B5 B6 X1 X2 T t d cs w':=by have e:=n.nb;obtain⟨o,h,i,l,a,j,g⟩:=n;exact⟨f,h.only c a.1 a.2.1 a.2.2.1 a.2.2.2,c.heap i e,l,a,j,fun m k=>da (g m k) c.size⟩
end
theorem XL(F:Nat->Prop)(b:Nat)(all:List UInt8)(B5 B6 X1 X2 T v:Nat)(t:TypeId)(x m:Nat)(cs:Array Value)(w:World)(h:jL F b all B5 B6 X1 X2 T t x cs w)(hm:m+5<=cs.size)
  (d:w.cell? ⟨v,0,none⟩=some (r7 b)) (e:v≠b/\v≠T):
  Calls prog 93 #[.pointer (some ⟨T,m,none⟩),r7 B5,r7 B6,r7 v] w (XI jI (Fg m) F b all B5 B6 X1 X2 T t x cs w):=by
 obtain⟨N0,a⟩:=rl (cs.size);have GF:=al a;rw[a]at hm;clear a;have a:=fG w (td 0);have Z:=h.box #[rv 0] 3;have c:=h.below a;have A:=aJ d (td 0);have S:T≠b/\T≠w.heap.size:=⟨h.nb,by have:=h.lt;omega⟩;have a1:v<w.heap.size:=aq _ _ d;have f:=h.blt;have P:=AI e (show v≠w.heap.size by omega);have Fh:b≠w.heap.size:=by omega
 clear h d e;go_enter func93,ntmps93;go_upto_region 2 with fail;generalize w.alloc (td 0)=i at a Z c A⊢;obtain⟨R,d⟩:=rl (w.heap.size);rw[d]at Z S P Fh a1⊢;have Ro:=al d;have V:=al a;have Y:=Z;have HM:=al (Z.below (aw i.heap.size i).drew);have CR:=al (c.below (aw i.heap.size i).drew);have G:=al S;clear a c S d f;refine pw (S:=(fun w'=>w'.cell? ⟨B5,0,none⟩=some (.func (.func 148) #[] #[r7 X1])/\w'.cell? ⟨B6,0,none⟩=some (.func (.func 148) #[] #[r7 X2]))) (by kernel_rfl) ⟨(((aw _ _).drew).cell (p:=⟨B5,0,none⟩) (aq _ _ Y.2.1.1)).x Y.2.1.1,(((aw _ _).drew).cell (p:=⟨B6,0,none⟩) (aq _ _ Y.2.1.2.1)).x Y.2.1.2.1⟩ (fun a=>?_);refine ag (i:=0) (v:=?_) rfl (by kernel_rfl) (by kernel_rfl) (by kernel_rfl) (fun _ _ _ h=>h) (by rfl) (fun d c=>?_) a ?_;rotate_left
 ·obtain⟨e,f⟩:=c;go_simp;try rfl
 try simp only[xT]
 refine qn (rs:=[1]) (by kernel_rfl) (by simp) (au (i:=1) rfl (fun K g=>?_) pt);go_simp;refine g.o _ _ (⟨aJ a.1 _,aJ a.2 _⟩) ?_;clear g K a;intro a
 try simp only[xT]
 refine qn (rs:=[2]) (by kernel_rfl) (by simp) (au (i:=2) rfl (fun K g=>?_) pt);go_simp;refine(qN HM.o [0] _ rfl 1 rfl (by simp) (by intro o D;simp at D;subst D;decide)).m ?_;rintro r B p;have j:Only (fun q=>q=b\/q=R) i.drew B:=p.1;have s:=al j;have KF:=rT p;clear p j;rcases KF with⟨rfl,j,O,a3,i⟩|⟨mk,p1,rfl,a2,j,i⟩
 ·skip
  have u:=al i;have n:=al (CR.o.back s.o G.o i);have l:=al (show jI (all.drop x)=none by simp only[jI,j]);clear i j
  try go_simp
  refine g.o _ _ (⟨u.o.2.1.1,u.o.2.1.2.1⟩) ?_;clear g K a;intro a
  try simp only[xT]
  refine ag (i:=3) (v:=?_) rfl (by kernel_rfl) (by kernel_rfl) (by kernel_rfl) (fun _ _ _ h=>h) (by rfl) (fun d c=>?_) a ?_;rotate_left
  ·obtain⟨e,f⟩:=c;go_simp;try rfl
  try simp only[xT]
  refine ag (i:=4) (v:=?_) rfl (by kernel_rfl) (by kernel_rfl) (by kernel_rfl) (fun _ _ _ h=>h) (by rfl) (fun d c=>?_) a ?_;rotate_left
  ·obtain⟨e,f⟩:=c;go_simp;try rfl
  try simp only[xT]
  refine aS (i:=5) rfl (by kernel_rfl) (by kernel_rfl) (by kernel_rfl) (fun _ _ _ h=>h) (by rfl) a ?_
  try simp only[xT]
  refine aS (i:=6) rfl (by kernel_rfl) (by kernel_rfl) (by kernel_rfl) (fun _ _ _ h=>h) (by rfl) a ?_
  try simp only[xT]
  refine ag (i:=7) (v:=?_) rfl (by kernel_rfl) (by kernel_rfl) (by kernel_rfl) (fun _ _ _ h=>h) (by rfl) (fun d c=>?_) a ?_;rotate_left
  ·obtain⟨e,f⟩:=c;go_simp;try rfl
  try simp only[xT]
  refine ag (i:=8) (v:=?_) rfl (by kernel_rfl) (by kernel_rfl) (by kernel_rfl) (fun _ _ _ h=>h) (by rfl) (fun d c=>?_) a ?_;rotate_left
  ·obtain⟨e,f⟩:=c;go_simp;try rfl
  try simp only[xT]
  refine aS (i:=9) rfl (by kernel_rfl) (by kernel_rfl) (by kernel_rfl) (fun _ _ _ h=>h) (by rfl) a ?_
  try simp only[xT]
  refine aS (i:=10) rfl (by kernel_rfl) (by kernel_rfl) (by kernel_rfl) (fun _ _ _ h=>h) (by rfl) a ?_
  try simp only[xT]
  refine aS (i:=11) rfl (by kernel_rfl) (by kernel_rfl) (by kernel_rfl) (fun _ _ _ h=>h) (by rfl) a ?_
  try simp only[xT]
  refine aS (i:=12) rfl (by kernel_rfl) (by kernel_rfl) (by kernel_rfl) (fun _ _ _ h=>h) (by rfl) a ?_
  try simp only[xT]
  refine aS (i:=13) rfl (by kernel_rfl) (by kernel_rfl) (by kernel_rfl) (fun _ _ _ h=>h) (by rfl) a ?_
  try simp only[xT]
  refine aS (i:=14) rfl (by kernel_rfl) (by kernel_rfl) (by kernel_rfl) (fun _ _ _ h=>h) (by rfl) a ?_
  try simp only[xT]
  refine aS (i:=15) rfl (by kernel_rfl) (by kernel_rfl) (by kernel_rfl) (fun _ _ _ h=>h) (by rfl) a ?_
  try simp only[xT]
  refine ag (i:=16) (v:=?_) rfl (by kernel_rfl) (by kernel_rfl) (by kernel_rfl) (fun _ _ _ h=>h) (by rfl) (fun d c=>?_) a ?_;rotate_left
  ·obtain⟨e,f⟩:=c;go_simp;try rfl
  try simp only[xT]
  refine qe (by kernel_rfl) ?_ _;have z:=al ((oS V.o (fun q=>q=b\/q=T)).x (Only.fI s.o) (fun q H k=>k.elim .inl (fun r=>absurd r (by have:=Ro.o;omega))));go_wp2_with fail;go_ret
  refine⟨z.o,?_⟩;rw[l.o];exact⟨rfl,O,cs,rfl,n.o⟩
 by_cases y:1<mk
 ·skip
  have ID:(1:Int)<(mk:Int):=by omega
  have C:B.cell? ⟨R,0,none⟩=some (rv (mk:Int)):=by have:=i.2.2.1;simp[World.cell?,this]
  have u:=al i;have n:=al (CR.o.back s.o G.o i);have l:=al (show jI (all.drop x)=none by simp only[jI,j];rw[ff (by omega)]);clear i j y
  try go_simp
  refine g.o _ _ (⟨u.o.2.1.1,u.o.2.1.2.1⟩) ?_;clear g K a;intro a
  try simp only[xT]
  refine ag (i:=3) (v:=?_) rfl (by kernel_rfl) (by kernel_rfl) (by kernel_rfl) (fun _ _ _ h=>h) (by rfl) (fun d c=>?_) a ?_;rotate_left
  ·obtain⟨e,f⟩:=c;go_simp;try rfl
  try simp only[xT]
  refine ag (i:=4) (v:=?_) rfl (by kernel_rfl) (by kernel_rfl) (by kernel_rfl) (fun _ _ _ h=>h) (by rfl) (fun d c=>?_) a ?_;rotate_left
  ·obtain⟨e,f⟩:=c;go_simp;try rfl
  try simp only[xT]
  refine qn (rs:=[5]) (by kernel_rfl) (by simp) (au (i:=5) rfl (fun K g=>?_) pt);go_simp;refine g.o _ _ (a) ?_;clear g K a;intro a
  try simp only[xT]
  refine ag (i:=6) (v:=?_) rfl (by kernel_rfl) (by kernel_rfl) (by kernel_rfl) (fun _ _ _ h=>h) (by rfl) (fun d c=>?_) a ?_;rotate_left
  ·obtain⟨e,f⟩:=c;go_simp;try rfl
  try simp only[xT]
  refine ag (i:=7) (v:=?_) rfl (by kernel_rfl) (by kernel_rfl) (by kernel_rfl) (fun _ _ _ h=>h) (by rfl) (fun d c=>?_) a ?_;rotate_left
  ·obtain⟨e,f⟩:=c;go_simp;try rfl
  try simp only[xT]
  refine ag (i:=8) (v:=?_) rfl (by kernel_rfl) (by kernel_rfl) (by kernel_rfl) (fun _ _ _ h=>h) (by rfl) (fun d c=>?_) a ?_;rotate_left
  ·obtain⟨e,f⟩:=c;go_simp;try rfl
  try simp only[xT]
  refine aS (i:=9) rfl (by kernel_rfl) (by kernel_rfl) (by kernel_rfl) (fun _ _ _ h=>h) (by rfl) a ?_
  try simp only[xT]
  refine aS (i:=10) rfl (by kernel_rfl) (by kernel_rfl) (by kernel_rfl) (fun _ _ _ h=>h) (by rfl) a ?_
  try simp only[xT]
  refine aS (i:=11) rfl (by kernel_rfl) (by kernel_rfl) (by kernel_rfl) (fun _ _ _ h=>h) (by rfl) a ?_
  try simp only[xT]
  refine aS (i:=12) rfl (by kernel_rfl) (by kernel_rfl) (by kernel_rfl) (fun _ _ _ h=>h) (by rfl) a ?_
  try simp only[xT]
  refine aS (i:=13) rfl (by kernel_rfl) (by kernel_rfl) (by kernel_rfl) (fun _ _ _ h=>h) (by rfl) a ?_
  try simp only[xT]
  refine aS (i:=14) rfl (by kernel_rfl) (by kernel_rfl) (by kernel_rfl) (fun _ _ _ h=>h) (by rfl) a ?_
  try simp only[xT]
  refine aS (i:=15) rfl (by kernel_rfl) (by kernel_rfl) (by kernel_rfl) (fun _ _ _ h=>h) (by rfl) a ?_
  try simp only[xT]
  refine ag (i:=16) (v:=?_) rfl (by kernel_rfl) (by kernel_rfl) (by kernel_rfl) (fun _ _ _ h=>h) (by rfl) (fun d c=>?_) a ?_;rotate_left
  ·obtain⟨e,f⟩:=c;go_simp;try rfl
  try simp only[xT]
  refine qe (by kernel_rfl) ?_ _;have z:=al ((oS V.o (fun q=>q=b\/q=T)).x (Only.fI s.o) (fun q H k=>k.elim .inl (fun r=>absurd r (by have:=Ro.o;omega))));go_wp2_with fail;go_ret
  refine⟨z.o,?_⟩;rw[l.o];exact⟨rfl,p1,cs,rfl,n.o⟩
 ·skip
  have ID: ¬((1:Int)<(mk:Int)):=by omega
  have F3:=al (show mk<=1 by omega);have C:B.cell? ⟨R,0,none⟩=some (rv (mk:Int)):=by have:=i.2.2.1;simp[World.cell?,this]
  have u:=al i;have rR:=al (CR.o.back s.o G.o i);have X:=al j;clear i j
  try go_simp
  refine g.o _ _ (⟨u.o.2.1.1,u.o.2.1.2.1⟩) ?_;clear g K a;intro a
  try simp only[xT]
  refine ag (i:=3) (v:=?_) rfl (by kernel_rfl) (by kernel_rfl) (by kernel_rfl) (fun _ _ _ h=>h) (by rfl) (fun d c=>?_) a ?_;rotate_left
  ·obtain⟨e,f⟩:=c;go_simp;try rfl
  try simp only[xT]
  refine ag (i:=4) (v:=?_) rfl (by kernel_rfl) (by kernel_rfl) (by kernel_rfl) (fun _ _ _ h=>h) (by rfl) (fun d c=>?_) a ?_;rotate_left
  ·obtain⟨e,f⟩:=c;go_simp;try rfl
  try simp only[xT]
  refine qn (rs:=[5]) (by kernel_rfl) (by simp) (au (i:=5) rfl (fun K g=>?_) pt);go_simp;refine g.o _ _ (a) ?_;clear g K a;intro a
  try simp only[xT]
  refine ag (i:=6) (v:=?_) rfl (by kernel_rfl) (by kernel_rfl) (by kernel_rfl) (fun _ _ _ h=>h) (by rfl) (fun d c=>?_) a ?_;rotate_left
  ·obtain⟨e,f⟩:=c;go_simp;try rfl
  try simp only[xT]
  refine ag (i:=7) (v:=?_) rfl (by kernel_rfl) (by kernel_rfl) (by kernel_rfl) (fun _ _ _ h=>h) (by rfl) (fun d c=>?_) a ?_;rotate_left
  ·obtain⟨e,f⟩:=c;go_simp;try rfl
  try simp only[xT]
  refine ag (i:=8) (v:=?_) rfl (by kernel_rfl) (by kernel_rfl) (by kernel_rfl) (fun _ _ _ h=>h) (by rfl) (fun d c=>?_) a ?_;rotate_left
  ·obtain⟨e,f⟩:=c;go_simp;try rfl
  try simp only[xT]
  refine ag (i:=9) (v:=?_) rfl (by kernel_rfl) (by kernel_rfl) (by kernel_rfl) (fun _ _ _ h=>h) (by rfl) (fun d c=>?_) a ?_;rotate_left
  ·obtain⟨e,f⟩:=c;go_simp;try rfl
  try simp only[xT]
  refine ag (i:=10) (v:=?_) rfl (by kernel_rfl) (by kernel_rfl) (by kernel_rfl) (fun _ _ _ h=>h) (by rfl) (fun d c=>?_) a ?_;rotate_left
  ·obtain⟨e,f⟩:=c;go_simp;try rfl
  try simp only[xT]
  refine ag (i:=11) (v:=?_) rfl (by kernel_rfl) (by kernel_rfl) (by kernel_rfl) (fun _ _ _ h=>h) (by rfl) (fun d c=>?_) a ?_;rotate_left
  ·obtain⟨e,f⟩:=c;go_simp;try rfl
  try simp only[xT]
  refine ag (i:=12) (v:=?_) rfl (by kernel_rfl) (by kernel_rfl) (by kernel_rfl) (fun _ _ _ h=>h) (by rfl) (fun d c=>?_) a ?_;rotate_left
  ·obtain⟨e,f⟩:=c;go_simp;try rfl
  try simp only[xT]
  refine qn (rs:=[13]) (by kernel_rfl) (by simp) (au (i:=13) rfl (fun K g=>?_) pt);go_simp;refine g.o _ _ (⟨aJ a.1 _,aJ a.2 _⟩) ?_;clear g K a;intro a
  try simp only[xT]
  refine qn (rs:=[14]) (by kernel_rfl) (by simp) (au (i:=14) rfl (fun K g=>?_) pt);go_simp;refine(CQ rR.o [m+1] _ rfl 1 rfl (by simp) (by intro o D;simp at D;have:=GF.o;omega)).m ?_;rintro r B p;have IA:=al p.1;obtain⟨_,E⟩:=p;rw[show([m+1]:List Nat).length=1 from rfl]at E
  cases hg1:dJ mL 1 (all.drop p1)with
  |none=>
   rw[hg1]at E;obtain⟨rfl,O,ad,L,M⟩:=E;have n:=al M;have am:=al L;have aa:=al hg1;clear M L hg1
   try go_simp
   refine g.o _ _ (⟨n.o.2.1.1,n.o.2.1.2.1⟩) ?_;clear g K a;intro a
   try simp only[xT]
   refine ag (i:=15) (v:=?_) rfl (by kernel_rfl) (by kernel_rfl) (by kernel_rfl) (fun _ _ _ h=>h) (by rfl) (fun d c=>?_) a ?_;rotate_left
   ·obtain⟨e,f⟩:=c;go_simp;try rfl
   try simp only[xT]
   refine ag (i:=16) (v:=?_) rfl (by kernel_rfl) (by kernel_rfl) (by kernel_rfl) (fun _ _ _ h=>h) (by rfl) (fun d c=>?_) a ?_;rotate_left
   ·obtain⟨e,f⟩:=c;go_simp;try rfl
   try simp only[xT]
   refine qe (by kernel_rfl) ?_ _;have z:=al ((oS V.o (fun q=>q=b\/q=T)).x (Only.fI s.o) (fun q H k=>k.elim .inl (fun r=>absurd r (by have:=Ro.o;omega))));have Ll:=al (z.o.x IA.o (fun _ _ h=>h));have l:=al (show jI (all.drop x)=none by have:=F3.o;simp only[jI,X.o];rw[fi (by omega)];simp only[aa.o]);go_wp2_with fail;go_ret
   refine⟨Ll.o,?_⟩;rw[l.o];exact⟨rfl,O,ad,am.o,n.o⟩
  |some y=>
   obtain⟨ns,ap⟩:=y;rw[hg1]at E;obtain⟨rfl,p2,rfl,i⟩:=E;obtain⟨j,rfl⟩:=TE (jx hg1);have n:=al i;have PX:=al hg1;clear i hg1
   try go_simp
   refine g.o _ _ (⟨n.o.2.1.1,n.o.2.1.2.1⟩) ?_;clear g K a;intro a
   try simp only[xT]
   refine ag (i:=15) (v:=?_) rfl (by kernel_rfl) (by kernel_rfl) (by kernel_rfl) (fun _ _ _ h=>h) (by rfl) (fun d c=>?_) a ?_;rotate_left
   ·obtain⟨e,f⟩:=c;go_simp;try rfl
   try simp only[xT]
   refine ag (i:=16) (v:=?_) rfl (by kernel_rfl) (by kernel_rfl) (by kernel_rfl) (fun _ _ _ h=>h) (by rfl) (fun d c=>?_) a ?_;rotate_left
   ·obtain⟨e,f⟩:=c;go_simp;try rfl
   try simp only[xT]
   refine qe (by kernel_rfl) ?_ _;have z:=al ((oS V.o (fun q=>q=b\/q=T)).x (Only.fI s.o) (fun q H k=>k.elim .inl (fun r=>absurd r (by have:=Ro.o;omega))));have Ll:=al (z.o.x IA.o (fun _ _ h=>h));have k:=G.o.2;have i:=IA.o.cell (p:=⟨R,0,none⟩) C (fun r=>r.elim (fun r=>Fh r.symm) (fun r=>G.o.2 r.symm));have q:=IA.o.cell (p:=⟨v,0,none⟩) ((Only.fI s.o).cell (p:=⟨v,0,none⟩) A (fun r=>r.elim P.o.1.1 P.o.2)) (fun r=>r.elim P.o.1.1 P.o.1.2);clear C A k a;go_wp2_with fail;refine(Ss B F b all p2 16 n.o.1 (by decide)).m ?_;rintro r k ⟨A,W⟩;have a0:=A.cell (p:=⟨R,0,none⟩) i (fun r=>Fh r.symm);have Vo:=al (Ll.o.x A (fun _ _ h=>.inl h));clear i q
   cases hg2:Gl 16 (all.drop p2)with
   |none=>
    rw[hg2]at W;obtain⟨⟨ec,q,rfl⟩,pX,i,I⟩:=W;obtain rfl:=i rfl;have H:=al (n.o.text A I);have S:(ec==0)=false:=by rcases q with rfl|rfl|rfl<;>rfl
    have l:=al (show jI (all.drop x)=none by have:=F3.o;simp only[jI,X.o];rw[fi (by omega)];simp only[PX.o,hg2]);clear A I hg2 q i;have i:=H.o.d.1;have ac:(setMany cs [m+1] [j]).size=N0:=by rw[bI];exact GF.o
    have J:k.cell? ⟨T,m,none⟩=some (setMany cs [m+1] [j])[m]:=by simp only[World.cell?,i];exact gd (by omega)
    have N:k.cell? ⟨T,m+2,none⟩=some (setMany cs [m+1] [j])[m+2]:=by simp only[World.cell?,i];exact gd (by omega)
    have z0:k.frozen? ⟨T,m,none⟩=false:=by simp[World.frozen?,i]
    have z2:k.frozen? ⟨T,m+2,none⟩=false:=by simp[World.frozen?,i]
    generalize (setMany cs [m+1] [j])[m]=v0 at J;generalize (setMany cs [m+1] [j])[m+2]=v2 at N;have q:=al ((H.o.IB m (.bool (decide ((mk:Int)=1)))).IB (m+2) (.string ⟨#[]⟩));have C:=al ((Vo.o.setCell (p:=⟨T,m,none⟩) (fun _=>.inr rfl) (.bool (decide ((mk:Int)=1)))).setCell (p:=⟨T,m+2,none⟩) (fun _=>.inr rfl) (.string ⟨#[]⟩));clear i ac;go_upto_region 6 with fail;generalize (k.setCell ⟨T,m,none⟩ (.bool (decide ((mk:Int)=1)))).setCell ⟨T,m+2,none⟩ (.string ⟨#[]⟩)=Q at q C⊢;clear J N z0 z2 a0;refine pw (S:=(fun w'=>Below Q.heap.size Q w')) (by kernel_rfl) (aw _ _).drew (fun a=>?_);refine ag (i:=0) (v:=?_) rfl (by kernel_rfl) (by kernel_rfl) (by kernel_rfl) (fun _ _ _ h=>h) (by rfl) (fun d c=>?_) a ?_;rotate_left
    ·go_simp;try rfl
    try simp only[xT]
    refine ag (i:=1) (v:=?_) rfl (by kernel_rfl) (by kernel_rfl) (by kernel_rfl) (fun _ _ _ h=>h) (by rfl) (fun d c=>?_) a ?_;rotate_left
    ·go_simp;try rfl
    try simp only[xT]
    refine ag (i:=2) (v:=?_) rfl (by kernel_rfl) (by kernel_rfl) (by kernel_rfl) (fun _ _ _ h=>h) (by rfl) (fun d c=>?_) a ?_;rotate_left
    ·go_simp;try rfl
    try simp only[xT]
    refine aS (i:=3) rfl (by kernel_rfl) (by kernel_rfl) (by kernel_rfl) (fun _ _ _ h=>h) (by rfl) a ?_
    try simp only[xT]
    refine aS (i:=4) rfl (by kernel_rfl) (by kernel_rfl) (by kernel_rfl) (fun _ _ _ h=>h) (by rfl) a ?_
    try simp only[xT]
    refine aS (i:=5) rfl (by kernel_rfl) (by kernel_rfl) (by kernel_rfl) (fun _ _ _ h=>h) (by rfl) a ?_
    try simp only[xT]
    refine aS (i:=6) rfl (by kernel_rfl) (by kernel_rfl) (by kernel_rfl) (fun _ _ _ h=>h) (by rfl) a ?_
    try simp only[xT]
    refine aS (i:=7) rfl (by kernel_rfl) (by kernel_rfl) (by kernel_rfl) (fun _ _ _ h=>h) (by rfl) a ?_
    try simp only[xT]
    refine aS (i:=8) rfl (by kernel_rfl) (by kernel_rfl) (by kernel_rfl) (fun _ _ _ h=>h) (by rfl) a ?_
    try simp only[xT]
    refine aS (i:=9) rfl (by kernel_rfl) (by kernel_rfl) (by kernel_rfl) (fun _ _ _ h=>h) (by rfl) a ?_
    try simp only[xT]
    refine aS (i:=10) rfl (by kernel_rfl) (by kernel_rfl) (by kernel_rfl) (fun _ _ _ h=>h) (by rfl) a ?_
    try simp only[xT]
    refine aS (i:=11) rfl (by kernel_rfl) (by kernel_rfl) (by kernel_rfl) (fun _ _ _ h=>h) (by rfl) a ?_
    try simp only[xT]
    refine ag (i:=12) (v:=?_) rfl (by kernel_rfl) (by kernel_rfl) (by kernel_rfl) (fun _ _ _ h=>h) (by rfl) (fun d c=>?_) a ?_;rotate_left
    ·go_simp;try rfl
    try simp only[xT]
    refine ag (i:=13) (v:=?_) rfl (by kernel_rfl) (by kernel_rfl) (by kernel_rfl) (fun _ _ _ h=>h) (by rfl) (fun d c=>?_) a ?_;rotate_left
    ·go_simp;try rfl
    try simp only[xT]
    refine qe (by kernel_rfl) ?_ _;have U:=a;have HZ:=AI (C.o.x (oS U _) (fun _ _ h=>h)) (q.o.below U);clear a U;go_wp2_with fail;go_ret
    refine⟨HZ.o.1,?_⟩;rw[l.o];exact⟨rfl,_,_,by rw[Array.size_setIfInBounds,Array.size_setIfInBounds,bI],HZ.o.2⟩
   |some y=>
    obtain⟨U,ap⟩:=y;rw[hg2]at W;obtain⟨rfl,p3,rfl,_,I⟩:=W;have H:=al (n.o.text A I);have a':=al hg2;clear A I hg2;have i:=H.o.d.1;have ac:(setMany cs [m+1] [j]).size=N0:=by rw[bI];exact GF.o
    have J:k.cell? ⟨T,m,none⟩=some (setMany cs [m+1] [j])[m]:=by simp only[World.cell?,i];exact gd (by omega)
    have N:k.cell? ⟨T,m+2,none⟩=some (setMany cs [m+1] [j])[m+2]:=by simp only[World.cell?,i];exact gd (by omega)
    have z0:k.frozen? ⟨T,m,none⟩=false:=by simp[World.frozen?,i]
    have z2:k.frozen? ⟨T,m+2,none⟩=false:=by simp[World.frozen?,i]
    generalize (setMany cs [m+1] [j])[m]=v0 at J;generalize (setMany cs [m+1] [j])[m+2]=v2 at N;have q:=al ((H.o.IB m (.bool (decide ((mk:Int)=1)))).IB (m+2) (sd U));have C:=al ((Vo.o.setCell (p:=⟨T,m,none⟩) (fun _=>.inr rfl) (.bool (decide ((mk:Int)=1)))).setCell (p:=⟨T,m+2,none⟩) (fun _=>.inr rfl) (sd U));clear i ac;go_upto_region 6 with fail;generalize (k.setCell ⟨T,m,none⟩ (.bool (decide ((mk:Int)=1)))).setCell ⟨T,m+2,none⟩ (sd U)=Q at q C⊢;clear J N z0 z2 a0;have J:=al (q.o.below (aw Q.heap.size Q).drew);refine pw (S:=(fun w'=>w'.cell? ⟨B5,0,none⟩=some (.func (.func 148) #[] #[r7 X1])/\w'.cell? ⟨B6,0,none⟩=some (.func (.func 148) #[] #[r7 X2]))) (by kernel_rfl) ⟨(((aw _ _).drew).cell (p:=⟨B5,0,none⟩) (aq _ _ q.o.2.1.1)).x q.o.2.1.1,(((aw _ _).drew).cell (p:=⟨B6,0,none⟩) (aq _ _ q.o.2.1.2.1)).x q.o.2.1.2.1⟩ (fun a=>?_);refine ag (i:=0) (v:=?_) rfl (by kernel_rfl) (by kernel_rfl) (by kernel_rfl) (fun _ _ _ h=>h) (by rfl) (fun d c=>?_) a ?_;rotate_left
    ·obtain⟨e,f⟩:=c;go_simp;try rfl
    try simp only[xT]
    refine ag (i:=1) (v:=?_) rfl (by kernel_rfl) (by kernel_rfl) (by kernel_rfl) (fun _ _ _ h=>h) (by rfl) (fun d c=>?_) a ?_;rotate_left
    ·obtain⟨e,f⟩:=c;go_simp;try rfl
    try simp only[xT]
    refine ag (i:=2) (v:=?_) rfl (by kernel_rfl) (by kernel_rfl) (by kernel_rfl) (fun _ _ _ h=>h) (by rfl) (fun d c=>?_) a ?_;rotate_left
    ·obtain⟨e,f⟩:=c;go_simp;try rfl
    try simp only[xT]
    refine ag (i:=3) (v:=?_) rfl (by kernel_rfl) (by kernel_rfl) (by kernel_rfl) (fun _ _ _ h=>h) (by rfl) (fun d c=>?_) a ?_;rotate_left
    ·obtain⟨e,f⟩:=c;go_simp;try rfl
    try simp only[xT]
    refine ag (i:=4) (v:=?_) rfl (by kernel_rfl) (by kernel_rfl) (by kernel_rfl) (fun _ _ _ h=>h) (by rfl) (fun d c=>?_) a ?_;rotate_left
    ·obtain⟨e,f⟩:=c;go_simp;try rfl
    try simp only[xT]
    refine ag (i:=5) (v:=?_) rfl (by kernel_rfl) (by kernel_rfl) (by kernel_rfl) (fun _ _ _ h=>h) (by rfl) (fun d c=>?_) a ?_;rotate_left
    ·obtain⟨e,f⟩:=c;go_simp;try rfl
    try simp only[xT]
    refine ag (i:=6) (v:=?_) rfl (by kernel_rfl) (by kernel_rfl) (by kernel_rfl) (fun _ _ _ h=>h) (by rfl) (fun d c=>?_) a ?_;rotate_left
    ·obtain⟨e,f⟩:=c;go_simp;try rfl
    try simp only[xT]
    refine ag (i:=7) (v:=?_) rfl (by kernel_rfl) (by kernel_rfl) (by kernel_rfl) (fun _ _ _ h=>h) (by rfl) (fun d c=>?_) a ?_;rotate_left
    ·obtain⟨e,f⟩:=c;go_simp;try rfl
    try simp only[xT]
    refine ag (i:=8) (v:=?_) rfl (by kernel_rfl) (by kernel_rfl) (by kernel_rfl) (fun _ _ _ h=>h) (by rfl) (fun d c=>?_) a ?_;rotate_left
    ·obtain⟨e,f⟩:=c;go_simp;try rfl
    try simp only[xT]
    refine ag (i:=9) (v:=?_) rfl (by kernel_rfl) (by kernel_rfl) (by kernel_rfl) (fun _ _ _ h=>h) (by rfl) (fun d c=>?_) a ?_;rotate_left
    ·obtain⟨e,f⟩:=c;go_simp;try rfl
    try simp only[xT]
    refine qn (rs:=[10]) (by kernel_rfl) (by simp) (au (i:=10) rfl (fun K g=>?_) pt);go_simp;refine g.o _ _ (⟨aJ a.1 _,aJ a.2 _⟩) ?_;clear g K a;intro a
    try simp only[xT]
    refine qn (rs:=[11]) (by kernel_rfl) (by simp) (au (i:=11) rfl (fun K g=>?_) pt);go_simp;refine(CQ J.o [m+3,m+4] _ rfl 2 rfl (by simp) (by intro o D;rw[Array.size_setIfInBounds,Array.size_setIfInBounds,bI];simp at D;have:=GF.o;omega)).m ?_;rintro r B p;have D:=al p.1;obtain⟨_,o⟩:=p;rw[show([m+3,m+4]:List Nat).length=2 from rfl]at o
    cases XO:dJ mL 2 (all.drop p3)with
    |none=>
     rw[XO]at o;obtain⟨rfl,O,ad,L,M⟩:=o;have i:=al M;have am:=al L;have aa:=al XO;clear M L XO
     try go_simp
     refine g.o _ _ (⟨i.o.2.1.1,i.o.2.1.2.1⟩) ?_;clear g K a;intro a
     try simp only[xT]
     refine ag (i:=12) (v:=?_) rfl (by kernel_rfl) (by kernel_rfl) (by kernel_rfl) (fun _ _ _ h=>h) (by rfl) (fun d c=>?_) a ?_;rotate_left
     ·obtain⟨e,f⟩:=c;go_simp;try rfl
     try simp only[xT]
     refine ag (i:=13) (v:=?_) rfl (by kernel_rfl) (by kernel_rfl) (by kernel_rfl) (fun _ _ _ h=>h) (by rfl) (fun d c=>?_) a ?_;rotate_left
     ·obtain⟨e,f⟩:=c;go_simp;try rfl
     try simp only[xT]
     refine qe (by kernel_rfl) ?_ _;have A:=al (C.o.x (Only.fI D.o) (fun _ _ h=>h));have l:=al (show jI (all.drop x)=none by have:=F3.o;simp only[jI,X.o];rw[fi (by omega)];simp only[PX.o,a'.o,aa.o]);go_wp2_with fail;go_ret
     refine⟨A.o,?_⟩;rw[l.o];exact⟨rfl,O,ad,by rw[am.o,Array.size_setIfInBounds,Array.size_setIfInBounds,bI],i.o⟩
    |some y=>
     obtain⟨ns,ap⟩:=y;rw[XO]at o;obtain⟨rfl,y,rfl,l⟩:=o;obtain⟨M,L,rfl⟩:=acV (jx XO);have i:=al l;have I:=al XO;clear l XO
     try go_simp
     refine g.o _ _ (⟨i.o.2.1.1,i.o.2.1.2.1⟩) ?_;clear g K a;intro a
     try simp only[xT]
     refine ag (i:=12) (v:=?_) rfl (by kernel_rfl) (by kernel_rfl) (by kernel_rfl) (fun _ _ _ h=>h) (by rfl) (fun d c=>?_) a ?_;rotate_left
     ·obtain⟨e,f⟩:=c;go_simp;try rfl
     try simp only[xT]
     refine ag (i:=13) (v:=?_) rfl (by kernel_rfl) (by kernel_rfl) (by kernel_rfl) (fun _ _ _ h=>h) (by rfl) (fun d c=>?_) a ?_;rotate_left
     ·obtain⟨e,f⟩:=c;go_simp;try rfl
     try simp only[xT]
     refine qe (by kernel_rfl) ?_ _;have A:=al (C.o.x (Only.fI D.o) (fun _ _ h=>h));have c:=al (show jI (all.drop x)=some (⟨decide ((mk:Int)=1),j,U,M,L⟩,all.drop y) by have:=F3.o;simp only[jI,X.o];rw[fi (by omega)];simp only[PX.o,a'.o,I.o]);go_wp2_with fail;go_ret
     refine⟨A.o,?_⟩;rw[c.o];exact⟨rfl,y,rfl,i.o⟩
end Go.Proofs.YtehccbdajiiaaaaGreatDoor
