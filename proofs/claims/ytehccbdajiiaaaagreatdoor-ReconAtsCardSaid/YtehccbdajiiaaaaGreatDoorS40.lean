import Derived.Test.YtehccbdajiiaaaaGreatDoorS38
namespace Go.Proofs.YtehccbdajiiaaaaGreatDoor
open Go.Proofs.Tryz
set_option maxRecDepth 100000
set_option maxHeartbeats 16000000
open Go.RowKit
def Y2(b B5 B6 X1 X2:Nat)(w:World):Prop:=w.cell? ⟨B5,0,none⟩=some (.func (.func 148) #[] #[rv X1])/\w.cell? ⟨B6,0,none⟩=some (.func (.func 148) #[] #[rv X2])/\w.cell? ⟨X1,0,none⟩=some (.func (.func 86) #[rv b] #[])/\w.cell? ⟨X2,0,none⟩=some (.func (.func 87) #[rv b] #[])
def Y3(T B5 B6 X1 X2:Nat):Prop:=B5≠T/\B6≠T/\X1≠T/\X2≠T
theorem Y2.only{b B5 B6 X1 X2:Nat}{w w':World}{S:Nat->Prop}(h:Y2 b B5 B6 X1 X2 w)(a:Only S w w')(f: ¬S B5)(c: ¬S B6)(d: ¬S X1)(e: ¬S X2):Y2 b B5 B6 X1 X2 w':=
 ⟨a.cell (p:=⟨B5,0,none⟩) h.1 f,a.cell (p:=⟨B6,0,none⟩) h.2.1 c,a.cell (p:=⟨X1,0,none⟩) h.2.2.1 d,a.cell (p:=⟨X2,0,none⟩) h.2.2.2 e⟩
def jS(F:Nat->Prop)(b:Nat)(all:List UInt8)(B5 B6 X1 X2 T:Nat)(t:TypeId)(p:Nat)(cs:Array Value)(w:World):Prop:=
 bt w F b all p/\Y2 b B5 B6 X1 X2 w/\w.heap[T]?=some (.cells cs t (0,0))/\ ¬F T/\Y3 b B5 B6 X1 X2/\Y3 T B5 B6 X1 X2/\ ∀k,F k->k<w.heap.size
section
variable{F:Nat->Prop}{b:Nat}{all:List UInt8}{B5 B6 X1 X2 T:Nat}{t:TypeId}{p:Nat}{cs:Array Value}{w w':World}
theorem jS.below(h:jS F b all B5 B6 X1 X2 T t p cs w)(a:Below w.heap.size w w'):jS F b all B5 B6 X1 X2 T t p cs w':=
 ⟨h.1.below a,h.2.1.only (qS a) id id id id,(qS a).heap h.2.2.1 id,h.2.2.2.1,h.2.2.2.2.1,h.2.2.2.2.2.1,fun k c=>da (h.2.2.2.2.2.2 k c) a.size⟩
def Li(d:List UInt8->Option (Int×List UInt8))(F:Nat->Prop)(b:Nat)(all:List UInt8)(B5 B6 X1 X2 T:Nat)(t:TypeId)(p:Nat)(os:List Nat)(cs:Array Value)(w:World)(e:Ending)(w':World):Prop:=
 Only (fun k=>k=b\/k=T) w w'/\match dP d os.length (all.drop p)with
  |some (ns,rest)=>e=.returned (.bool true)/\ ∃a,rest=all.drop a/\jS F b all B5 B6 X1 X2 T t a (setMany cs os ns) w'
  |none=>e=.returned (.bool false)/\ ∃a c,c.size=cs.size/\jS F b all B5 B6 X1 X2 T t a c w'
theorem jS.step{g:List UInt8->Option (Int×List UInt8)}{os:List Nat}{e:Ending}{w0:World}(y:jS F b all B5 B6 X1 X2 T t p cs w)(v:Below w0.heap.size w0 w)(s:Qo g F b all p T os cs t w e w'):Li g F b all B5 B6 X1 X2 T t p os cs w0 e w':=by
 obtain⟨i,d⟩:=s;obtain⟨A,u,B,n,a,c,x⟩:=y;have m: ∀k,F k->k<w'.heap.size:=fun k f=>da (x k f) i.size;have l:Y2 b B5 B6 X1 X2 w':=u.only i (fun e=>e.elim a.1 c.1) (fun e=>e.elim a.2.1 c.2.1) (fun e=>e.elim a.2.2.1 c.2.2.1) (fun e=>e.elim a.2.2.2 c.2.2.2);refine⟨(oB v _).x i (fun _ _ y=>y),?_⟩
 cases hg:dP g os.length (all.drop p)with
 |none=>rw[hg]at d;obtain⟨k,⟨q,r,h⟩,j,f⟩:=d;exact⟨k,j,q,r,f,l,h,n,a,c,m⟩
 |some o=>obtain⟨C,z⟩:=o;rw[hg]at d;obtain⟨k,h,j,o,f⟩:=d;exact⟨k,j,o,f,l,h,n,a,c,m⟩
theorem jS.box(l:jS F b all B5 B6 X1 X2 T t p cs w)(c:Array Value)(d:TypeId):jS F b all B5 B6 X1 X2 w.heap.size d p c (w.alloc (.cells c d)):=by have i:=fM w (.cells c d);obtain⟨g,h,r,s,e,q,j⟩:=l.below i;obtain⟨_,a,_,_,_,_,k⟩:=l;have n:B5<w.heap.size:=aq _ _ a.1;have u:B6<w.heap.size:=aq _ _ a.2.1;have o:X1<w.heap.size:=aq _ _ a.2.2.1;have m:X2<w.heap.size:=aq _ _ a.2.2.2;exact⟨g,h,an _ _,fun f=>by have:=k _ f;omega,e,⟨by omega,by omega,by omega,by omega⟩,j⟩
theorem jS.back{c e:Nat}{g:TypeId}{h:Array Value}(i:jS F b all B5 B6 X1 X2 T t p cs w)(f:Only (fun k=>k=b\/k=c) w w')(d:T≠b/\T≠c)(a:jS F b all B5 B6 X1 X2 c g e h w'):jS F b all B5 B6 X1 X2 T t e cs w':=
 ⟨a.1,a.2.1,f.heap i.2.2.1 (fun j=>j.elim d.1 d.2),i.2.2.2.1,i.2.2.2.2.1,i.2.2.2.2.2.1,a.2.2.2.2.2.2⟩
theorem jS.nb(h:jS F b all B5 B6 X1 X2 T t p cs w):T≠b:=fun e=>h.2.2.2.1 (by obtain⟨⟨_,_,a,_⟩,_⟩:=h;rw[e];exact a)
theorem jS.lt(h:jS F b all B5 B6 X1 X2 T t p cs w):T<w.heap.size:=(cq.1 h.2.2.1).1
theorem jS.blt(h:jS F b all B5 B6 X1 X2 T t p cs w):b<w.heap.size:=by obtain⟨⟨v,a,_⟩,_⟩:=h;exact(cq.1 a).1
theorem sJ{e:Ending}(i:Li iO F b all B5 B6 X1 X2 T t p [0] #[rm 0] w e w'):(e=.returned (.bool false)/\dP iO 1 (all.drop p)=none/\ ∃a f,jS F b all B5 B6 X1 X2 T t a f w')\/
  (∃(mk:Nat) (a:Nat),e=.returned (.bool true)/\mk<=9223372036854775807/\dP iO 1 (all.drop p)=some ([(mk:Int)],all.drop a)/\jS F b all B5 B6 X1 X2 T t a #[rm (mk:Int)] w'):=by
 obtain⟨_,d⟩:=i
 cases hg:dP iO 1 (all.drop p)with
 |none=>rw[show([0]:List Nat).length=1 from rfl,hg]at d;obtain⟨h,a,f,_,k⟩:=d;exact .inl ⟨h,rfl,a,f,k⟩
 |some y=>
  obtain⟨g,l⟩:=y;rw[show([0]:List Nat).length=1 from rfl,hg]at d;obtain⟨h,a,rfl,k⟩:=d
  have c:iO (all.drop p)=some (g.headD 0,all.drop a)/\g=[g.headD 0]:=by
   rw[dP]at hg;simp only[dP]at hg
   cases hu:iO (all.drop p)with
   |none=>rw[hu]at hg;simp at hg
   |some z=>obtain⟨n,r⟩:=z;rw[hu]at hg;simp at hg;obtain⟨rfl,j⟩:=hg;exact⟨by rw[j];rfl,rfl⟩
  cases hu:CE (all.drop p)with
  |none=>simp[iO,hu]at c
  |some z=>
   obtain⟨m,r⟩:=z;simp[iO,hu]at c;have j:=(vL hu).2;refine .inr ⟨m,a,h,j,?_,?_⟩
   ·rw[c.2,<-c.1.1]
   ·rw[c.2,<-c.1.1]at k;exact k
theorem yR{g:Nat}{a:Array Value}{e:TypeId}{os:List Nat}(h:w.heap[g]?=some (.cells a e (0,0)))(b:a=(aC T os).toArray)(c:os.length<=maxLen):Rd w (fun k=>k=g) (.slice (some ⟨g,0,none⟩) os.length os.length) (aC T os):=by refine⟨_,_,_,rfl,by simp[aC],b8 _,c,fun _=>⟨g,0,rfl,rfl,fun j u d=>?_⟩⟩;subst b;simp only[ie,World.cell?,h];simpa using d
theorem rB(q:jS F b all B5 B6 X1 X2 T t p cs w)(os:List Nat)(a:Array Value)(e:a=(aC T os).toArray)(n:Nat)(c:n=os.length)(s:os.length<=100)(f: ∀o∈os,o<cs.size):
  Calls prog 148 #[.slice (some ⟨w.heap.size,0,none⟩) n n,rv X1] (w.alloc (.cells a 186)) (Li iO F b all B5 B6 X1 X2 T t p os cs w):=by
 subst c;have c:=fM w (.cells a 186);have m:=q.below c;obtain⟨i,j,k,o,g,l,_⟩:=m;have r:b<w.heap.size:=by obtain⟨⟨x,d,_⟩,_⟩:=q;exact(cq.1 d).1
 have u:T<w.heap.size:=by obtain⟨_,_,d,_⟩:=q;exact(cq.1 d).1
 exact(Yg _ F (fun h=>h=w.heap.size) b X1 T all p _ _ _ os cs t i j.2.2.1 ⟨g.2.2.1,l.2.2.1⟩ (yR (an _ _) e (by simp[maxLen];omega)) (fun h v=>⟨by omega,by omega⟩) k f o).m (fun v w' h=>(q.below c).step c h)
theorem DB(q:jS F b all B5 B6 X1 X2 T t p cs w)(os:List Nat)(a:Array Value)(e:a=(aC T os).toArray)(n:Nat)(c:n=os.length)(s:os.length<=100)(f: ∀o∈os,o<cs.size):
  Calls prog 148 #[.slice (some ⟨w.heap.size,0,none⟩) n n,rv X2] (w.alloc (.cells a 186)) (Li mR F b all B5 B6 X1 X2 T t p os cs w):=by
 subst c;have c:=fM w (.cells a 186);have m:=q.below c;obtain⟨i,j,k,o,g,l,_⟩:=m;have r:b<w.heap.size:=by obtain⟨⟨x,d,_⟩,_⟩:=q;exact(cq.1 d).1
 have u:T<w.heap.size:=by obtain⟨_,_,d,_⟩:=q;exact(cq.1 d).1
 exact(Yj _ F (fun h=>h=w.heap.size) b X2 T all p _ _ _ os cs t i j.2.2.2 ⟨g.2.2.2,l.2.2.2⟩ (yR (an _ _) e (by simp[maxLen];omega)) (fun h v=>⟨by omega,by omega⟩) k f o).m (fun v w' h=>(q.below c).step c h)
end
def Y4{α:Type}(f:List UInt8->Option (α×List UInt8))(d:α->Array Value->Array Value)(F:Nat->Prop)(b:Nat)(all:List UInt8)(B5 B6 X1 X2 T:Nat)(t:TypeId)(p:Nat)(cs:Array Value)(w:World)(e:Ending)(w':World):Prop:=
 Only (fun k=>k=b\/k=T) w w'/\match f (all.drop p)with
  |some (x,rest)=>e=.returned (.bool true)/\ ∃a,rest=all.drop a/\jS F b all B5 B6 X1 X2 T t a (d x cs) w'
  |none=>e=.returned (.bool false)/\ ∃a c,c.size=cs.size/\jS F b all B5 B6 X1 X2 T t a c w'
def mF(e:List UInt8):Option (aX×List UInt8):=
 match dP iO 3 e with
 |some ([d,a,b],r)=>match dP mR 1 r with
  |some ([c],r2)=>match dP iO 1 r2 with
   |some ([n],r3)=>some (⟨d,a,b,c,n⟩,r3)
   |_=>none
  |_=>none
 |_=>none
def Lj(m:Nat)(o:aX)(cs:Array Value):Array Value:=setMany cs [m,m+1,m+2,m+3,m+4] [o.d,o.a,o.b,o.c,o.n]
theorem three{l:List Int}(h:l.length=3): ∃a b c,l=[a,b,c]:=by
 match l,h with
 |[a,b,c],_=>exact⟨a,b,c,rfl⟩
theorem UU{l:List Int}(h:l.length=1): ∃a,l=[a]:=by
 match l,h with
 |[a],_=>exact⟨a,rfl⟩
theorem ady{l:List Int}(h:l.length=2): ∃a b,l=[a,b]:=by
 match l,h with
 |[a,b],_=>exact⟨a,b,rfl⟩
theorem Y5(F:Nat->Prop)(b:Nat)(all:List UInt8)(B5 B6 X1 X2 T:Nat)(t:TypeId)(q m:Nat)(cs:Array Value)(w:World)(h:jS F b all B5 B6 X1 X2 T t q cs w)(i:m+5<=cs.size):
  Calls prog 89 #[.pointer (some ⟨T,m,none⟩),rv B5,rv B6] w (Y4 mF (Lj m) F b all B5 B6 X1 X2 T t q cs w):=by
 obtain⟨x,a⟩:=rk (cs.size);have C:=al a.symm;have B:cs.size=x:=a;rw[a]at i;clear a;have P:=al (h.below (bd w.heap.size w).drew);have O:=al ((oE (fun k=>k=b\/k=T) w).drew);go_enter func89,ntmps89;go_upto_region 1 with fail;refine pt (S:=(fun w'=>w'.cell? ⟨B5,0,none⟩=some (.func (.func 148) #[] #[rv X1])/\w'.cell? ⟨B6,0,none⟩=some (.func (.func 148) #[] #[rv X2]))) (by kernel_rfl) ⟨(((bd _ _).drew).cell (p:=⟨B5,0,none⟩) (aq _ _ h.2.1.1)).x h.2.1.1,(((bd _ _).drew).cell (p:=⟨B6,0,none⟩) (aq _ _ h.2.1.2.1)).x h.2.1.2.1⟩ (fun a=>?_);refine ah (i:=0) (v:=?_) rfl (by kernel_rfl) (by kernel_rfl) (by kernel_rfl) (fun _ _ _ h=>h) (by rfl) (fun d c=>?_) a ?_;rotate_left
 ·obtain⟨e,f⟩:=c;go_simp;try rfl
 try simp only[xr]
 refine ah (i:=1) (v:=?_) rfl (by kernel_rfl) (by kernel_rfl) (by kernel_rfl) (fun _ _ _ h=>h) (by rfl) (fun d c=>?_) a ?_;rotate_left
 ·obtain⟨e,f⟩:=c;go_simp;try rfl
 try simp only[xr]
 refine ah (i:=2) (v:=?_) rfl (by kernel_rfl) (by kernel_rfl) (by kernel_rfl) (fun _ _ _ h=>h) (by rfl) (fun d c=>?_) a ?_;rotate_left
 ·obtain⟨e,f⟩:=c;go_simp;try rfl
 try simp only[xr]
 refine ah (i:=3) (v:=?_) rfl (by kernel_rfl) (by kernel_rfl) (by kernel_rfl) (fun _ _ _ h=>h) (by rfl) (fun d c=>?_) a ?_;rotate_left
 ·obtain⟨e,f⟩:=c;go_simp;try rfl
 try simp only[xr]
 refine ah (i:=4) (v:=?_) rfl (by kernel_rfl) (by kernel_rfl) (by kernel_rfl) (fun _ _ _ h=>h) (by rfl) (fun d c=>?_) a ?_;rotate_left
 ·obtain⟨e,f⟩:=c;go_simp;try rfl
 try simp only[xr]
 refine ah (i:=5) (v:=?_) rfl (by kernel_rfl) (by kernel_rfl) (by kernel_rfl) (fun _ _ _ h=>h) (by rfl) (fun d c=>?_) a ?_;rotate_left
 ·obtain⟨e,f⟩:=c;go_simp;try rfl
 try simp only[xr]
 refine ah (i:=6) (v:=?_) rfl (by kernel_rfl) (by kernel_rfl) (by kernel_rfl) (fun _ _ _ h=>h) (by rfl) (fun d c=>?_) a ?_;rotate_left
 ·obtain⟨e,f⟩:=c;go_simp;try rfl
 try simp only[xr]
 refine ah (i:=7) (v:=?_) rfl (by kernel_rfl) (by kernel_rfl) (by kernel_rfl) (fun _ _ _ h=>h) (by rfl) (fun d c=>?_) a ?_;rotate_left
 ·obtain⟨e,f⟩:=c;go_simp;try rfl
 try simp only[xr]
 refine ah (i:=8) (v:=?_) rfl (by kernel_rfl) (by kernel_rfl) (by kernel_rfl) (fun _ _ _ h=>h) (by rfl) (fun d c=>?_) a ?_;rotate_left
 ·obtain⟨e,f⟩:=c;go_simp;try rfl
 try simp only[xr]
 refine ah (i:=9) (v:=?_) rfl (by kernel_rfl) (by kernel_rfl) (by kernel_rfl) (fun _ _ _ h=>h) (by rfl) (fun d c=>?_) a ?_;rotate_left
 ·obtain⟨e,f⟩:=c;go_simp;try rfl
 try simp only[xr]
 refine qe (rs:=[10]) (by kernel_rfl) (by simp) (av (i:=10) rfl (fun K g=>?_) ph);go_simp;refine g.o _ _ (⟨aI a.1 _,aI a.2 _⟩) ?_;clear g K a;intro a
 try simp only[xr]
 refine qe (rs:=[11]) (by kernel_rfl) (by simp) (av (i:=11) rfl (fun K g=>?_) ph);go_simp;refine(rB P.o [m,m+1,m+2] _ rfl _ rfl (by simp) (by intro X u;simp at u;have:=B;omega)).m ?_;rintro W I ⟨k,i⟩;have H:=al (O.o.x k (fun _ _ h=>h));clear k
 cases hg0:dP iO 3 (all.drop q)with
 |none=>
  rw[show([m,m+1,m+2]:List Nat).length=3 from rfl,hg0]at i;obtain⟨rfl,v,r,j,l⟩:=i;have p:=al l;have n:=AD hg0 j;clear l j hg0
  try go_simp
  refine g.o _ _ (⟨p.o.2.1.1,p.o.2.1.2.1⟩) ?_;clear g K a;intro a
  try simp only[xr]
  refine ah (i:=12) (v:=?_) rfl (by kernel_rfl) (by kernel_rfl) (by kernel_rfl) (fun _ _ _ h=>h) (by rfl) (fun d c=>?_) a ?_;rotate_left
  ·obtain⟨e,f⟩:=c;go_simp;try rfl
  try simp only[xr]
  refine aS (i:=13) rfl (by kernel_rfl) (by kernel_rfl) (by kernel_rfl) (fun _ _ _ h=>h) (by rfl) a ?_
  try simp only[xr]
  refine aS (i:=14) rfl (by kernel_rfl) (by kernel_rfl) (by kernel_rfl) (fun _ _ _ h=>h) (by rfl) a ?_
  try simp only[xr]
  refine aS (i:=15) rfl (by kernel_rfl) (by kernel_rfl) (by kernel_rfl) (fun _ _ _ h=>h) (by rfl) a ?_
  try simp only[xr]
  refine aS (i:=16) rfl (by kernel_rfl) (by kernel_rfl) (by kernel_rfl) (fun _ _ _ h=>h) (by rfl) a ?_
  try simp only[xr]
  refine aS (i:=17) rfl (by kernel_rfl) (by kernel_rfl) (by kernel_rfl) (fun _ _ _ h=>h) (by rfl) a ?_
  try simp only[xr]
  refine aS (i:=18) rfl (by kernel_rfl) (by kernel_rfl) (by kernel_rfl) (fun _ _ _ h=>h) (by rfl) a ?_
  try simp only[xr]
  refine ah (i:=19) (v:=?_) rfl (by kernel_rfl) (by kernel_rfl) (by kernel_rfl) (fun _ _ _ h=>h) (by rfl) (fun d c=>?_) a ?_;rotate_left
  ·obtain⟨e,f⟩:=c;go_simp;try rfl
  try simp only[xr]
  refine ah (i:=20) (v:=?_) rfl (by kernel_rfl) (by kernel_rfl) (by kernel_rfl) (fun _ _ _ h=>h) (by rfl) (fun d c=>?_) a ?_;rotate_left
  ·obtain⟨e,f⟩:=c;go_simp;try rfl
  try simp only[xr]
  refine aS (i:=21) rfl (by kernel_rfl) (by kernel_rfl) (by kernel_rfl) (fun _ _ _ h=>h) (by rfl) a ?_
  try simp only[xr]
  refine aS (i:=22) rfl (by kernel_rfl) (by kernel_rfl) (by kernel_rfl) (fun _ _ _ h=>h) (by rfl) a ?_
  try simp only[xr]
  refine aS (i:=23) rfl (by kernel_rfl) (by kernel_rfl) (by kernel_rfl) (fun _ _ _ h=>h) (by rfl) a ?_
  try simp only[xr]
  refine aS (i:=24) rfl (by kernel_rfl) (by kernel_rfl) (by kernel_rfl) (fun _ _ _ h=>h) (by rfl) a ?_
  try simp only[xr]
  refine aS (i:=25) rfl (by kernel_rfl) (by kernel_rfl) (by kernel_rfl) (fun _ _ _ h=>h) (by rfl) a ?_
  try simp only[xr]
  refine aS (i:=26) rfl (by kernel_rfl) (by kernel_rfl) (by kernel_rfl) (fun _ _ _ h=>h) (by rfl) a ?_
  try simp only[xr]
  refine ah (i:=27) (v:=?_) rfl (by kernel_rfl) (by kernel_rfl) (by kernel_rfl) (fun _ _ _ h=>h) (by rfl) (fun d c=>?_) a ?_;rotate_left
  ·obtain⟨e,f⟩:=c;go_simp;try rfl
  try simp only[xr]
  refine ah (i:=28) (v:=?_) rfl (by kernel_rfl) (by kernel_rfl) (by kernel_rfl) (fun _ _ _ h=>h) (by rfl) (fun d c=>?_) a ?_;rotate_left
  ·obtain⟨e,f⟩:=c;go_simp;try rfl
  try simp only[xr]
  refine pw (by kernel_rfl) ?_ _;go_wp2_with fail;go_ret
  have s:mF (all.drop q)=none:=by simp only[mF,n.o.1]
  refine⟨H.o,?_⟩;rw[s];exact⟨rfl,v,r,n.o.2.x (B.x C.o),p.o⟩
 |some N=>
  obtain⟨J,E⟩:=N;rw[show([m,m+1,m+2]:List Nat).length=3 from rfl,hg0]at i;obtain⟨rfl,R,rfl,o⟩:=i;obtain⟨U,S,y,rfl⟩:=three (jD hg0);have z:(setMany cs [m,m+1,m+2] [U,S,y]).size=x:=by rw[bK];exact B
  have p:=al o;have D:=al hg0;clear o hg0
  try go_simp
  refine g.o _ _ (⟨p.o.2.1.1,p.o.2.1.2.1⟩) ?_;clear g K a;intro a
  try simp only[xr]
  refine ah (i:=12) (v:=?_) rfl (by kernel_rfl) (by kernel_rfl) (by kernel_rfl) (fun _ _ _ h=>h) (by rfl) (fun d c=>?_) a ?_;rotate_left
  ·obtain⟨e,f⟩:=c;go_simp;try rfl
  try simp only[xr]
  refine ah (i:=13) (v:=?_) rfl (by kernel_rfl) (by kernel_rfl) (by kernel_rfl) (fun _ _ _ h=>h) (by rfl) (fun d c=>?_) a ?_;rotate_left
  ·obtain⟨e,f⟩:=c;go_simp;try rfl
  try simp only[xr]
  refine ah (i:=14) (v:=?_) rfl (by kernel_rfl) (by kernel_rfl) (by kernel_rfl) (fun _ _ _ h=>h) (by rfl) (fun d c=>?_) a ?_;rotate_left
  ·obtain⟨e,f⟩:=c;go_simp;try rfl
  try simp only[xr]
  refine ah (i:=15) (v:=?_) rfl (by kernel_rfl) (by kernel_rfl) (by kernel_rfl) (fun _ _ _ h=>h) (by rfl) (fun d c=>?_) a ?_;rotate_left
  ·obtain⟨e,f⟩:=c;go_simp;try rfl
  try simp only[xr]
  refine ah (i:=16) (v:=?_) rfl (by kernel_rfl) (by kernel_rfl) (by kernel_rfl) (fun _ _ _ h=>h) (by rfl) (fun d c=>?_) a ?_;rotate_left
  ·obtain⟨e,f⟩:=c;go_simp;try rfl
  try simp only[xr]
  refine qe (rs:=[17]) (by kernel_rfl) (by simp) (av (i:=17) rfl (fun K g=>?_) ph);go_simp;refine g.o _ _ (⟨aI a.1 _,aI a.2 _⟩) ?_;clear g K a;intro a
  try simp only[xr]
  refine qe (rs:=[18]) (by kernel_rfl) (by simp) (av (i:=18) rfl (fun K g=>?_) ph);go_simp;refine(DB p.o [m+3] _ rfl _ rfl (by simp) (by intro X u;simp at u;have:=z;omega)).m ?_;rintro W I ⟨k,i⟩;have L:=al (H.o.x k (fun _ _ h=>h));clear k
  cases hg1:dP mR 1 (all.drop R)with
  |none=>
   rw[show([m+3]:List Nat).length=1 from rfl,hg1]at i;obtain⟨rfl,v,r,j,l⟩:=i;have o:=al l;have n:=AD hg1 j;clear l j hg1
   try go_simp
   refine g.o _ _ (⟨o.o.2.1.1,o.o.2.1.2.1⟩) ?_;clear g K a;intro a
   try simp only[xr]
   refine ah (i:=19) (v:=?_) rfl (by kernel_rfl) (by kernel_rfl) (by kernel_rfl) (fun _ _ _ h=>h) (by rfl) (fun d c=>?_) a ?_;rotate_left
   ·obtain⟨e,f⟩:=c;go_simp;try rfl
   try simp only[xr]
   refine ah (i:=20) (v:=?_) rfl (by kernel_rfl) (by kernel_rfl) (by kernel_rfl) (fun _ _ _ h=>h) (by rfl) (fun d c=>?_) a ?_;rotate_left
   ·obtain⟨e,f⟩:=c;go_simp;try rfl
   try simp only[xr]
   refine aS (i:=21) rfl (by kernel_rfl) (by kernel_rfl) (by kernel_rfl) (fun _ _ _ h=>h) (by rfl) a ?_
   try simp only[xr]
   refine aS (i:=22) rfl (by kernel_rfl) (by kernel_rfl) (by kernel_rfl) (fun _ _ _ h=>h) (by rfl) a ?_
   try simp only[xr]
   refine aS (i:=23) rfl (by kernel_rfl) (by kernel_rfl) (by kernel_rfl) (fun _ _ _ h=>h) (by rfl) a ?_
   try simp only[xr]
   refine aS (i:=24) rfl (by kernel_rfl) (by kernel_rfl) (by kernel_rfl) (fun _ _ _ h=>h) (by rfl) a ?_
   try simp only[xr]
   refine aS (i:=25) rfl (by kernel_rfl) (by kernel_rfl) (by kernel_rfl) (fun _ _ _ h=>h) (by rfl) a ?_
   try simp only[xr]
   refine aS (i:=26) rfl (by kernel_rfl) (by kernel_rfl) (by kernel_rfl) (fun _ _ _ h=>h) (by rfl) a ?_
   try simp only[xr]
   refine ah (i:=27) (v:=?_) rfl (by kernel_rfl) (by kernel_rfl) (by kernel_rfl) (fun _ _ _ h=>h) (by rfl) (fun d c=>?_) a ?_;rotate_left
   ·obtain⟨e,f⟩:=c;go_simp;try rfl
   try simp only[xr]
   refine ah (i:=28) (v:=?_) rfl (by kernel_rfl) (by kernel_rfl) (by kernel_rfl) (fun _ _ _ h=>h) (by rfl) (fun d c=>?_) a ?_;rotate_left
   ·obtain⟨e,f⟩:=c;go_simp;try rfl
   try simp only[xr]
   refine pw (by kernel_rfl) ?_ _;go_wp2_with fail;go_ret
   have s:mF (all.drop q)=none:=by simp only[mF,D.o,n.o.1]
   refine⟨L.o,?_⟩;rw[s];exact⟨rfl,v,r,n.o.2.x (z.x C.o),o.o⟩
  |some N=>
   obtain⟨J,E⟩:=N;rw[show([m+3]:List Nat).length=1 from rfl,hg1]at i;obtain⟨rfl,Q,rfl,G⟩:=i;obtain⟨V,rfl⟩:=UU (jD hg1);have A:(setMany (setMany cs [m,m+1,m+2] [U,S,y]) [m+3] [V]).size=x:=by rw[bK];exact z
   have o:=al G;have M:=al hg1;clear G hg1
   try go_simp
   refine g.o _ _ (⟨o.o.2.1.1,o.o.2.1.2.1⟩) ?_;clear g K a;intro a
   try simp only[xr]
   refine ah (i:=19) (v:=?_) rfl (by kernel_rfl) (by kernel_rfl) (by kernel_rfl) (fun _ _ _ h=>h) (by rfl) (fun d c=>?_) a ?_;rotate_left
   ·obtain⟨e,f⟩:=c;go_simp;try rfl
   try simp only[xr]
   refine ah (i:=20) (v:=?_) rfl (by kernel_rfl) (by kernel_rfl) (by kernel_rfl) (fun _ _ _ h=>h) (by rfl) (fun d c=>?_) a ?_;rotate_left
   ·obtain⟨e,f⟩:=c;go_simp;try rfl
   try simp only[xr]
   refine ah (i:=21) (v:=?_) rfl (by kernel_rfl) (by kernel_rfl) (by kernel_rfl) (fun _ _ _ h=>h) (by rfl) (fun d c=>?_) a ?_;rotate_left
   ·obtain⟨e,f⟩:=c;go_simp;try rfl
   try simp only[xr]
   refine ah (i:=22) (v:=?_) rfl (by kernel_rfl) (by kernel_rfl) (by kernel_rfl) (fun _ _ _ h=>h) (by rfl) (fun d c=>?_) a ?_;rotate_left
   ·obtain⟨e,f⟩:=c;go_simp;try rfl
   try simp only[xr]
   refine ah (i:=23) (v:=?_) rfl (by kernel_rfl) (by kernel_rfl) (by kernel_rfl) (fun _ _ _ h=>h) (by rfl) (fun d c=>?_) a ?_;rotate_left
   ·obtain⟨e,f⟩:=c;go_simp;try rfl
   try simp only[xr]
   refine ah (i:=24) (v:=?_) rfl (by kernel_rfl) (by kernel_rfl) (by kernel_rfl) (fun _ _ _ h=>h) (by rfl) (fun d c=>?_) a ?_;rotate_left
   ·obtain⟨e,f⟩:=c;go_simp;try rfl
   try simp only[xr]
   refine qe (rs:=[25]) (by kernel_rfl) (by simp) (av (i:=25) rfl (fun K g=>?_) ph);go_simp;refine g.o _ _ (⟨aI a.1 _,aI a.2 _⟩) ?_;clear g K a;intro a
   try simp only[xr]
   refine qe (rs:=[26]) (by kernel_rfl) (by simp) (av (i:=26) rfl (fun K g=>?_) ph);go_simp;refine(rB o.o [m+4] _ rfl _ rfl (by simp) (by intro X u;simp at u;have:=A;omega)).m ?_;rintro W I ⟨k,i⟩;have u:=al (L.o.x k (fun _ _ h=>h));clear k
   cases hg2:dP iO 1 (all.drop Q)with
   |none=>
    rw[show([m+4]:List Nat).length=1 from rfl,hg2]at i;obtain⟨rfl,v,r,j,l⟩:=i;have k:=al l;have n:=AD hg2 j;clear l j hg2
    try go_simp
    refine g.o _ _ (⟨k.o.2.1.1,k.o.2.1.2.1⟩) ?_;clear g K a;intro a
    try simp only[xr]
    refine ah (i:=27) (v:=?_) rfl (by kernel_rfl) (by kernel_rfl) (by kernel_rfl) (fun _ _ _ h=>h) (by rfl) (fun d c=>?_) a ?_;rotate_left
    ·obtain⟨e,f⟩:=c;go_simp;try rfl
    try simp only[xr]
    refine ah (i:=28) (v:=?_) rfl (by kernel_rfl) (by kernel_rfl) (by kernel_rfl) (fun _ _ _ h=>h) (by rfl) (fun d c=>?_) a ?_;rotate_left
    ·obtain⟨e,f⟩:=c;go_simp;try rfl
    try simp only[xr]
    refine pw (by kernel_rfl) ?_ _;go_wp2_with fail;go_ret
    have s:mF (all.drop q)=none:=by simp only[mF,D.o,M.o,n.o.1]
    refine⟨u.o,?_⟩;rw[s];exact⟨rfl,v,r,n.o.2.x (A.x C.o),k.o⟩
   |some N=>
    obtain⟨J,E⟩:=N;rw[show([m+4]:List Nat).length=1 from rfl,hg2]at i;obtain⟨rfl,l,rfl,j⟩:=i;obtain⟨r,rfl⟩:=UU (jD hg2);have s:(setMany (setMany (setMany cs [m,m+1,m+2] [U,S,y]) [m+3] [V]) [m+4] [r]).size=x:=by rw[bK];exact A
    have k:=al j;have n:=al hg2;clear j hg2
    try go_simp
    refine g.o _ _ (⟨k.o.2.1.1,k.o.2.1.2.1⟩) ?_;clear g K a;intro a
    try simp only[xr]
    refine ah (i:=27) (v:=?_) rfl (by kernel_rfl) (by kernel_rfl) (by kernel_rfl) (fun _ _ _ h=>h) (by rfl) (fun d c=>?_) a ?_;rotate_left
    ·obtain⟨e,f⟩:=c;go_simp;try rfl
    try simp only[xr]
    refine ah (i:=28) (v:=?_) rfl (by kernel_rfl) (by kernel_rfl) (by kernel_rfl) (fun _ _ _ h=>h) (by rfl) (fun d c=>?_) a ?_;rotate_left
    ·obtain⟨e,f⟩:=c;go_simp;try rfl
    try simp only[xr]
    refine pw (by kernel_rfl) ?_ _;go_wp2_with fail;go_ret
    have c:mF (all.drop q)=some (⟨U,S,y,V,r⟩,all.drop l):=by simp only[mF,D.o,M.o,n.o]
    refine⟨u.o,?_⟩;rw[c];exact⟨rfl,l,rfl,k.o⟩
def Lm(m:Nat)(n:Int)(cs:Array Value):Array Value:=setMany cs [m] [n]
theorem UW(a:List UInt8):dP mR 1 a=(mR a).map fun x=>([x.1],x.2):=by
 rw[dP];simp only[dP]
 cases mR a with
 |none=>rfl
 |some x=>rfl
theorem one_num(F:Nat->Prop)(b:Nat)(all:List UInt8)(B5 B6 X1 X2 T:Nat)(t:TypeId)(f m:Nat)(cs:Array Value)(w:World)(h:jS F b all B5 B6 X1 X2 T t f cs w)(i:m+1<=cs.size):
  Calls prog 91 #[.pointer (some ⟨T,m,none⟩),rv B6] w (Y4 mR (Lm m) F b all B5 B6 X1 X2 T t f cs w):=by
 have l:=al h;have j:=h.2.1.2.1;have a:=DB h [m] _ rfl 1 rfl (by simp) (by intro o c;simp at c;omega);have g:=al a;clear h a;go_enter func91,ntmps91;go_wp2_with fail;refine g.o.m ?_;rintro o k ⟨c,d⟩;rw[show([m]:List Nat).length=1 from rfl,UW]at d
 cases hg:mR (all.drop f)with
 |none=>
  rw[hg]at d;obtain⟨rfl,e⟩:=d;have a:=AF c e hg;clear c e hg;go_wp2_with fail;go_ret
  refine⟨a.o.1,?_⟩;rw[a.o.d];exact⟨rfl,a.o.2.1⟩
 |some y=>
  obtain⟨n,h⟩:=y;rw[hg]at d;obtain⟨rfl,e⟩:=d;have a:=AF c e hg;clear c e hg;go_wp2_with fail;go_ret
  refine⟨a.o.1,?_⟩;rw[a.o.d];exact⟨rfl,a.o.2.1⟩
def jO(a:List UInt8):Option (Cl×List UInt8):=
 match dP iO 1 a with
 |some ([mk],r)=>if mk<=1 then match dP mR 1 r with
   |some ([aO],r2)=>match Hk 16 r2 with
    |some (key,r3)=>match dP mR 2 r3 with
     |some ([lo,hi],r4)=>some (⟨decide (mk=1),aO,key,lo,hi⟩,r4)
     |_=>none
    |none=>none
   |_=>none
  else none
 |_=>none
def Gj(m:Nat)(c:Cl)(cs:Array Value):Array Value:=setMany (((setMany cs [m+1] [c.aO]).setIfInBounds m (.bool c.wr)).setIfInBounds (m+2) (r7 c.key)) [m+3,m+4] [c.lo,c.hi]
section
variable{F:Nat->Prop}{b:Nat}{all:List UInt8}{B5 B6 X1 X2 T:Nat}{t:TypeId}{p:Nat}{cs:Array Value}{w w':World}
theorem jS.JA(l:jS F b all B5 B6 X1 X2 T t p cs w)(o:Nat)(v:Value):jS F b all B5 B6 X1 X2 T t p (cs.setIfInBounds o v) (w.setCell ⟨T,o,none⟩ v):=by have d:=Only.aR w T o v;have m:=l.nb;obtain⟨i,f,h,e,g,a,j⟩:=l;exact⟨i.only d (fun k c n=>e (n▸c)),f.only d a.1 a.2.1 a.2.2.1 a.2.2.2,by simp[World.setCell,Array.getElem?_modify,h],e,g,a,fun k c=>da (j k c) d.size⟩
theorem jS.text{d:Nat}(n:jS F b all B5 B6 X1 X2 T t p cs w)(c:Only (fun m=>m=b) w w')(j:bt w' F b all d):jS F b all B5 B6 X1 X2 T t d cs w':=by have e:=n.nb;obtain⟨o,g,h,l,a,i,k⟩:=n;exact⟨j,g.only c a.1 a.2.1 a.2.2.1 a.2.2.2,c.heap h e,l,a,i,fun m f=>da (k m f) c.size⟩
end
theorem Y7(F:Nat->Prop)(b:Nat)(all:List UInt8)(B5 B6 X1 X2 T v:Nat)(t:TypeId)(x m:Nat)(cs:Array Value)(w:World)(h:jS F b all B5 B6 X1 X2 T t x cs w)(hm:m+5<=cs.size)
  (d:w.cell? ⟨v,0,none⟩=some (rv b)) (e:v≠b/\v≠T):
  Calls prog 93 #[.pointer (some ⟨T,m,none⟩),rv B5,rv B6,rv v] w (Y4 jO (Gj m) F b all B5 B6 X1 X2 T t x cs w):=by
 obtain⟨N0,a⟩:=rk (cs.size);have IY:=al a;rw[a]at hm;clear a;have a:=fM w (td 0);have W:=h.box #[rm 0] 3;have c:=h.below a;have A:=aI d (td 0);have S:T≠b/\T≠w.heap.size:=⟨h.nb,by have:=h.lt;omega⟩;have a1:v<w.heap.size:=aq _ _ d;have f:=h.blt;have R:=AD e (show v≠w.heap.size by omega);have ui:b≠w.heap.size:=by omega
 clear h d e;go_enter func93,ntmps93;go_upto_region 2 with fail;generalize w.alloc (td 0)=i at a W c A⊢;obtain⟨P,d⟩:=rk (w.heap.size);rw[d]at W S R ui a1⊢;have V:=al d;have My:=al a;have X:=W;have HM:=al (W.below (bd i.heap.size i).drew);have DC:=al (c.below (bd i.heap.size i).drew);have H:=al S;clear a c S d f;refine pt (S:=(fun w'=>w'.cell? ⟨B5,0,none⟩=some (.func (.func 148) #[] #[rv X1])/\w'.cell? ⟨B6,0,none⟩=some (.func (.func 148) #[] #[rv X2]))) (by kernel_rfl) ⟨(((bd _ _).drew).cell (p:=⟨B5,0,none⟩) (aq _ _ X.2.1.1)).x X.2.1.1,(((bd _ _).drew).cell (p:=⟨B6,0,none⟩) (aq _ _ X.2.1.2.1)).x X.2.1.2.1⟩ (fun a=>?_);refine ah (i:=0) (v:=?_) rfl (by kernel_rfl) (by kernel_rfl) (by kernel_rfl) (fun _ _ _ h=>h) (by rfl) (fun d c=>?_) a ?_;rotate_left
 ·obtain⟨e,f⟩:=c;go_simp;try rfl
 try simp only[xr]
 refine qe (rs:=[1]) (by kernel_rfl) (by simp) (av (i:=1) rfl (fun K g=>?_) ph);go_simp;refine g.o _ _ (⟨aI a.1 _,aI a.2 _⟩) ?_;clear g K a;intro a
 try simp only[xr]
 refine qe (rs:=[2]) (by kernel_rfl) (by simp) (av (i:=2) rfl (fun K g=>?_) ph);go_simp;refine(rB HM.o [0] _ rfl 1 rfl (by simp) (by intro o D;simp at D;subst D;decide)).m ?_;rintro r B n;have j:Only (fun l=>l=b\/l=P) i.drew B:=n.1;have s:=al j;have LM:=sJ n;clear n j;rcases LM with⟨rfl,j,J,a3,i⟩|⟨mk,p1,rfl,a2,j,i⟩
 ·skip
  have u:=al i;have p:=al (DC.o.back s.o H.o i);have q:=al (show jO (all.drop x)=none by simp only[jO,j]);clear i j
  try go_simp
  refine g.o _ _ (⟨u.o.2.1.1,u.o.2.1.2.1⟩) ?_;clear g K a;intro a
  try simp only[xr]
  refine ah (i:=3) (v:=?_) rfl (by kernel_rfl) (by kernel_rfl) (by kernel_rfl) (fun _ _ _ h=>h) (by rfl) (fun d c=>?_) a ?_;rotate_left
  ·obtain⟨e,f⟩:=c;go_simp;try rfl
  try simp only[xr]
  refine ah (i:=4) (v:=?_) rfl (by kernel_rfl) (by kernel_rfl) (by kernel_rfl) (fun _ _ _ h=>h) (by rfl) (fun d c=>?_) a ?_;rotate_left
  ·obtain⟨e,f⟩:=c;go_simp;try rfl
  try simp only[xr]
  refine aS (i:=5) rfl (by kernel_rfl) (by kernel_rfl) (by kernel_rfl) (fun _ _ _ h=>h) (by rfl) a ?_
  try simp only[xr]
  refine aS (i:=6) rfl (by kernel_rfl) (by kernel_rfl) (by kernel_rfl) (fun _ _ _ h=>h) (by rfl) a ?_
  try simp only[xr]
  refine ah (i:=7) (v:=?_) rfl (by kernel_rfl) (by kernel_rfl) (by kernel_rfl) (fun _ _ _ h=>h) (by rfl) (fun d c=>?_) a ?_;rotate_left
  ·obtain⟨e,f⟩:=c;go_simp;try rfl
  try simp only[xr]
  refine ah (i:=8) (v:=?_) rfl (by kernel_rfl) (by kernel_rfl) (by kernel_rfl) (fun _ _ _ h=>h) (by rfl) (fun d c=>?_) a ?_;rotate_left
  ·obtain⟨e,f⟩:=c;go_simp;try rfl
  try simp only[xr]
  refine aS (i:=9) rfl (by kernel_rfl) (by kernel_rfl) (by kernel_rfl) (fun _ _ _ h=>h) (by rfl) a ?_
  try simp only[xr]
  refine aS (i:=10) rfl (by kernel_rfl) (by kernel_rfl) (by kernel_rfl) (fun _ _ _ h=>h) (by rfl) a ?_
  try simp only[xr]
  refine aS (i:=11) rfl (by kernel_rfl) (by kernel_rfl) (by kernel_rfl) (fun _ _ _ h=>h) (by rfl) a ?_
  try simp only[xr]
  refine aS (i:=12) rfl (by kernel_rfl) (by kernel_rfl) (by kernel_rfl) (fun _ _ _ h=>h) (by rfl) a ?_
  try simp only[xr]
  refine aS (i:=13) rfl (by kernel_rfl) (by kernel_rfl) (by kernel_rfl) (fun _ _ _ h=>h) (by rfl) a ?_
  try simp only[xr]
  refine aS (i:=14) rfl (by kernel_rfl) (by kernel_rfl) (by kernel_rfl) (fun _ _ _ h=>h) (by rfl) a ?_
  try simp only[xr]
  refine aS (i:=15) rfl (by kernel_rfl) (by kernel_rfl) (by kernel_rfl) (fun _ _ _ h=>h) (by rfl) a ?_
  try simp only[xr]
  refine ah (i:=16) (v:=?_) rfl (by kernel_rfl) (by kernel_rfl) (by kernel_rfl) (fun _ _ _ h=>h) (by rfl) (fun d c=>?_) a ?_;rotate_left
  ·obtain⟨e,f⟩:=c;go_simp;try rfl
  try simp only[xr]
  refine pw (by kernel_rfl) ?_ _;have z:=al ((oB My.o (fun l=>l=b\/l=T)).x (Only.dV s.o) (fun l E k=>k.elim .inl (fun r=>absurd r (by have:=V.o;omega))));go_wp2_with fail;go_ret
  refine⟨z.o,?_⟩;rw[q.o];exact⟨rfl,J,cs,rfl,p.o⟩
 by_cases y:1<mk
 ·skip
  have JD:(1:Int)<(mk:Int):=by omega
  have C:B.cell? ⟨P,0,none⟩=some (rm (mk:Int)):=by have:=i.2.2.1;simp[World.cell?,this]
  have u:=al i;have p:=al (DC.o.back s.o H.o i);have q:=al (show jO (all.drop x)=none by simp only[jO,j];rw[fb (by omega)]);clear i j y
  try go_simp
  refine g.o _ _ (⟨u.o.2.1.1,u.o.2.1.2.1⟩) ?_;clear g K a;intro a
  try simp only[xr]
  refine ah (i:=3) (v:=?_) rfl (by kernel_rfl) (by kernel_rfl) (by kernel_rfl) (fun _ _ _ h=>h) (by rfl) (fun d c=>?_) a ?_;rotate_left
  ·obtain⟨e,f⟩:=c;go_simp;try rfl
  try simp only[xr]
  refine ah (i:=4) (v:=?_) rfl (by kernel_rfl) (by kernel_rfl) (by kernel_rfl) (fun _ _ _ h=>h) (by rfl) (fun d c=>?_) a ?_;rotate_left
  ·obtain⟨e,f⟩:=c;go_simp;try rfl
  try simp only[xr]
  refine qe (rs:=[5]) (by kernel_rfl) (by simp) (av (i:=5) rfl (fun K g=>?_) ph);go_simp;refine g.o _ _ (a) ?_;clear g K a;intro a
  try simp only[xr]
  refine ah (i:=6) (v:=?_) rfl (by kernel_rfl) (by kernel_rfl) (by kernel_rfl) (fun _ _ _ h=>h) (by rfl) (fun d c=>?_) a ?_;rotate_left
  ·obtain⟨e,f⟩:=c;go_simp;try rfl
  try simp only[xr]
  refine ah (i:=7) (v:=?_) rfl (by kernel_rfl) (by kernel_rfl) (by kernel_rfl) (fun _ _ _ h=>h) (by rfl) (fun d c=>?_) a ?_;rotate_left
  ·obtain⟨e,f⟩:=c;go_simp;try rfl
  try simp only[xr]
  refine ah (i:=8) (v:=?_) rfl (by kernel_rfl) (by kernel_rfl) (by kernel_rfl) (fun _ _ _ h=>h) (by rfl) (fun d c=>?_) a ?_;rotate_left
  ·obtain⟨e,f⟩:=c;go_simp;try rfl
  try simp only[xr]
  refine aS (i:=9) rfl (by kernel_rfl) (by kernel_rfl) (by kernel_rfl) (fun _ _ _ h=>h) (by rfl) a ?_
  try simp only[xr]
  refine aS (i:=10) rfl (by kernel_rfl) (by kernel_rfl) (by kernel_rfl) (fun _ _ _ h=>h) (by rfl) a ?_
  try simp only[xr]
  refine aS (i:=11) rfl (by kernel_rfl) (by kernel_rfl) (by kernel_rfl) (fun _ _ _ h=>h) (by rfl) a ?_
  try simp only[xr]
  refine aS (i:=12) rfl (by kernel_rfl) (by kernel_rfl) (by kernel_rfl) (fun _ _ _ h=>h) (by rfl) a ?_
  try simp only[xr]
  refine aS (i:=13) rfl (by kernel_rfl) (by kernel_rfl) (by kernel_rfl) (fun _ _ _ h=>h) (by rfl) a ?_
  try simp only[xr]
  refine aS (i:=14) rfl (by kernel_rfl) (by kernel_rfl) (by kernel_rfl) (fun _ _ _ h=>h) (by rfl) a ?_
  try simp only[xr]
  refine aS (i:=15) rfl (by kernel_rfl) (by kernel_rfl) (by kernel_rfl) (fun _ _ _ h=>h) (by rfl) a ?_
  try simp only[xr]
  refine ah (i:=16) (v:=?_) rfl (by kernel_rfl) (by kernel_rfl) (by kernel_rfl) (fun _ _ _ h=>h) (by rfl) (fun d c=>?_) a ?_;rotate_left
  ·obtain⟨e,f⟩:=c;go_simp;try rfl
  try simp only[xr]
  refine pw (by kernel_rfl) ?_ _;have z:=al ((oB My.o (fun l=>l=b\/l=T)).x (Only.dV s.o) (fun l E k=>k.elim .inl (fun r=>absurd r (by have:=V.o;omega))));go_wp2_with fail;go_ret
  refine⟨z.o,?_⟩;rw[q.o];exact⟨rfl,p1,cs,rfl,p.o⟩
 ·skip
  have JD: ¬((1:Int)<(mk:Int)):=by omega
  have Y:=al (show mk<=1 by omega);have C:B.cell? ⟨P,0,none⟩=some (rm (mk:Int)):=by have:=i.2.2.1;simp[World.cell?,this]
  have u:=al i;have sB:=al (DC.o.back s.o H.o i);have Ll:=al j;clear i j
  try go_simp
  refine g.o _ _ (⟨u.o.2.1.1,u.o.2.1.2.1⟩) ?_;clear g K a;intro a
  try simp only[xr]
  refine ah (i:=3) (v:=?_) rfl (by kernel_rfl) (by kernel_rfl) (by kernel_rfl) (fun _ _ _ h=>h) (by rfl) (fun d c=>?_) a ?_;rotate_left
  ·obtain⟨e,f⟩:=c;go_simp;try rfl
  try simp only[xr]
  refine ah (i:=4) (v:=?_) rfl (by kernel_rfl) (by kernel_rfl) (by kernel_rfl) (fun _ _ _ h=>h) (by rfl) (fun d c=>?_) a ?_;rotate_left
  ·obtain⟨e,f⟩:=c;go_simp;try rfl
  try simp only[xr]
  refine qe (rs:=[5]) (by kernel_rfl) (by simp) (av (i:=5) rfl (fun K g=>?_) ph);go_simp;refine g.o _ _ (a) ?_;clear g K a;intro a
  try simp only[xr]
  refine ah (i:=6) (v:=?_) rfl (by kernel_rfl) (by kernel_rfl) (by kernel_rfl) (fun _ _ _ h=>h) (by rfl) (fun d c=>?_) a ?_;rotate_left
  ·obtain⟨e,f⟩:=c;go_simp;try rfl
  try simp only[xr]
  refine ah (i:=7) (v:=?_) rfl (by kernel_rfl) (by kernel_rfl) (by kernel_rfl) (fun _ _ _ h=>h) (by rfl) (fun d c=>?_) a ?_;rotate_left
  ·obtain⟨e,f⟩:=c;go_simp;try rfl
  try simp only[xr]
  refine ah (i:=8) (v:=?_) rfl (by kernel_rfl) (by kernel_rfl) (by kernel_rfl) (fun _ _ _ h=>h) (by rfl) (fun d c=>?_) a ?_;rotate_left
  ·obtain⟨e,f⟩:=c;go_simp;try rfl
  try simp only[xr]
  refine ah (i:=9) (v:=?_) rfl (by kernel_rfl) (by kernel_rfl) (by kernel_rfl) (fun _ _ _ h=>h) (by rfl) (fun d c=>?_) a ?_;rotate_left
  ·obtain⟨e,f⟩:=c;go_simp;try rfl
  try simp only[xr]
  refine ah (i:=10) (v:=?_) rfl (by kernel_rfl) (by kernel_rfl) (by kernel_rfl) (fun _ _ _ h=>h) (by rfl) (fun d c=>?_) a ?_;rotate_left
  ·obtain⟨e,f⟩:=c;go_simp;try rfl
  try simp only[xr]
  refine ah (i:=11) (v:=?_) rfl (by kernel_rfl) (by kernel_rfl) (by kernel_rfl) (fun _ _ _ h=>h) (by rfl) (fun d c=>?_) a ?_;rotate_left
  ·obtain⟨e,f⟩:=c;go_simp;try rfl
  try simp only[xr]
  refine ah (i:=12) (v:=?_) rfl (by kernel_rfl) (by kernel_rfl) (by kernel_rfl) (fun _ _ _ h=>h) (by rfl) (fun d c=>?_) a ?_;rotate_left
  ·obtain⟨e,f⟩:=c;go_simp;try rfl
  try simp only[xr]
  refine qe (rs:=[13]) (by kernel_rfl) (by simp) (av (i:=13) rfl (fun K g=>?_) ph);go_simp;refine g.o _ _ (⟨aI a.1 _,aI a.2 _⟩) ?_;clear g K a;intro a
  try simp only[xr]
  refine qe (rs:=[14]) (by kernel_rfl) (by simp) (av (i:=14) rfl (fun K g=>?_) ph);go_simp;refine(DB sB.o [m+1] _ rfl 1 rfl (by simp) (by intro o D;simp at D;have:=IY.o;omega)).m ?_;rintro r B n;have Z:=al n.1;obtain⟨_,G⟩:=n;rw[show([m+1]:List Nat).length=1 from rfl]at G
  cases hg1:dP mR 1 (all.drop p1)with
  |none=>
   rw[hg1]at G;obtain⟨rfl,J,ac,L,O⟩:=G;have p:=al O;have ad:=al L;have aa:=al hg1;clear O L hg1
   try go_simp
   refine g.o _ _ (⟨p.o.2.1.1,p.o.2.1.2.1⟩) ?_;clear g K a;intro a
   try simp only[xr]
   refine ah (i:=15) (v:=?_) rfl (by kernel_rfl) (by kernel_rfl) (by kernel_rfl) (fun _ _ _ h=>h) (by rfl) (fun d c=>?_) a ?_;rotate_left
   ·obtain⟨e,f⟩:=c;go_simp;try rfl
   try simp only[xr]
   refine ah (i:=16) (v:=?_) rfl (by kernel_rfl) (by kernel_rfl) (by kernel_rfl) (fun _ _ _ h=>h) (by rfl) (fun d c=>?_) a ?_;rotate_left
   ·obtain⟨e,f⟩:=c;go_simp;try rfl
   try simp only[xr]
   refine pw (by kernel_rfl) ?_ _;have z:=al ((oB My.o (fun l=>l=b\/l=T)).x (Only.dV s.o) (fun l E k=>k.elim .inl (fun r=>absurd r (by have:=V.o;omega))));have Mc:=al (z.o.x Z.o (fun _ _ h=>h));have q:=al (show jO (all.drop x)=none by have:=Y.o;simp only[jO,Ll.o];rw[ff (by omega)];simp only[aa.o]);go_wp2_with fail;go_ret
   refine⟨Mc.o,?_⟩;rw[q.o];exact⟨rfl,J,ac,ad.o,p.o⟩
  |some y=>
   obtain⟨ns,ap⟩:=y;rw[hg1]at G;obtain⟨rfl,p2,rfl,j⟩:=G;obtain⟨i,rfl⟩:=UU (jD hg1);have p:=al j;have Ri:=al hg1;clear j hg1
   try go_simp
   refine g.o _ _ (⟨p.o.2.1.1,p.o.2.1.2.1⟩) ?_;clear g K a;intro a
   try simp only[xr]
   refine ah (i:=15) (v:=?_) rfl (by kernel_rfl) (by kernel_rfl) (by kernel_rfl) (fun _ _ _ h=>h) (by rfl) (fun d c=>?_) a ?_;rotate_left
   ·obtain⟨e,f⟩:=c;go_simp;try rfl
   try simp only[xr]
   refine ah (i:=16) (v:=?_) rfl (by kernel_rfl) (by kernel_rfl) (by kernel_rfl) (fun _ _ _ h=>h) (by rfl) (fun d c=>?_) a ?_;rotate_left
   ·obtain⟨e,f⟩:=c;go_simp;try rfl
   try simp only[xr]
   refine pw (by kernel_rfl) ?_ _;have z:=al ((oB My.o (fun l=>l=b\/l=T)).x (Only.dV s.o) (fun l E k=>k.elim .inl (fun r=>absurd r (by have:=V.o;omega))));have Mc:=al (z.o.x Z.o (fun _ _ h=>h));have k:=H.o.2;have j:=Z.o.cell (p:=⟨P,0,none⟩) C (fun r=>r.elim (fun r=>ui r.symm) (fun r=>H.o.2 r.symm));have l:=Z.o.cell (p:=⟨v,0,none⟩) ((Only.dV s.o).cell (p:=⟨v,0,none⟩) A (fun r=>r.elim R.o.1.1 R.o.2)) (fun r=>r.elim R.o.1.1 R.o.1.2);clear C A k a;go_wp2_with fail;refine(Tx B F b all p2 16 p.o.1 (by decide)).m ?_;rintro r k ⟨C,kK⟩;have a0:=C.cell (p:=⟨P,0,none⟩) j (fun r=>ui r.symm);have Ww:=al (Mc.o.x C (fun _ _ h=>.inl h));clear j l
   cases hg2:Hk 16 (all.drop p2)with
   |none=>
    rw[hg2]at kK;obtain⟨⟨ec,l,rfl⟩,pX,j,Q⟩:=kK;obtain rfl:=j rfl;have E:=al (p.o.text C Q);have S:(ec==0)=false:=by rcases l with rfl|rfl|rfl<;>rfl
    have q:=al (show jO (all.drop x)=none by have:=Y.o;simp only[jO,Ll.o];rw[ff (by omega)];simp only[Ri.o,hg2]);clear C Q hg2 l j;have j:=E.o.d.1;have am:(setMany cs [m+1] [i]).size=N0:=by rw[bK];exact IY.o
    have M:k.cell? ⟨T,m,none⟩=some (setMany cs [m+1] [i])[m]:=by simp only[World.cell?,j];exact fl (by omega)
    have I:k.cell? ⟨T,m+2,none⟩=some (setMany cs [m+1] [i])[m+2]:=by simp only[World.cell?,j];exact fl (by omega)
    have z0:k.frozen? ⟨T,m,none⟩=false:=by simp[World.frozen?,j]
    have z2:k.frozen? ⟨T,m+2,none⟩=false:=by simp[World.frozen?,j]
    generalize (setMany cs [m+1] [i])[m]=v0 at M;generalize (setMany cs [m+1] [i])[m+2]=v2 at I;have l:=al ((E.o.JA m (.bool (decide ((mk:Int)=1)))).JA (m+2) (.string ⟨#[]⟩));have A:=al ((Ww.o.setCell (p:=⟨T,m,none⟩) (fun _=>.inr rfl) (.bool (decide ((mk:Int)=1)))).setCell (p:=⟨T,m+2,none⟩) (fun _=>.inr rfl) (.string ⟨#[]⟩));clear j am;go_upto_region 6 with fail;generalize (k.setCell ⟨T,m,none⟩ (.bool (decide ((mk:Int)=1)))).setCell ⟨T,m+2,none⟩ (.string ⟨#[]⟩)=N at l A⊢;clear M I z0 z2 a0;refine pt (S:=(fun w'=>Below N.heap.size N w')) (by kernel_rfl) (bd _ _).drew (fun a=>?_);refine ah (i:=0) (v:=?_) rfl (by kernel_rfl) (by kernel_rfl) (by kernel_rfl) (fun _ _ _ h=>h) (by rfl) (fun d c=>?_) a ?_;rotate_left
    ·go_simp;try rfl
    try simp only[xr]
    refine ah (i:=1) (v:=?_) rfl (by kernel_rfl) (by kernel_rfl) (by kernel_rfl) (fun _ _ _ h=>h) (by rfl) (fun d c=>?_) a ?_;rotate_left
    ·go_simp;try rfl
    try simp only[xr]
    refine ah (i:=2) (v:=?_) rfl (by kernel_rfl) (by kernel_rfl) (by kernel_rfl) (fun _ _ _ h=>h) (by rfl) (fun d c=>?_) a ?_;rotate_left
    ·go_simp;try rfl
    try simp only[xr]
    refine aS (i:=3) rfl (by kernel_rfl) (by kernel_rfl) (by kernel_rfl) (fun _ _ _ h=>h) (by rfl) a ?_
    try simp only[xr]
    refine aS (i:=4) rfl (by kernel_rfl) (by kernel_rfl) (by kernel_rfl) (fun _ _ _ h=>h) (by rfl) a ?_
    try simp only[xr]
    refine aS (i:=5) rfl (by kernel_rfl) (by kernel_rfl) (by kernel_rfl) (fun _ _ _ h=>h) (by rfl) a ?_
    try simp only[xr]
    refine aS (i:=6) rfl (by kernel_rfl) (by kernel_rfl) (by kernel_rfl) (fun _ _ _ h=>h) (by rfl) a ?_
    try simp only[xr]
    refine aS (i:=7) rfl (by kernel_rfl) (by kernel_rfl) (by kernel_rfl) (fun _ _ _ h=>h) (by rfl) a ?_
    try simp only[xr]
    refine aS (i:=8) rfl (by kernel_rfl) (by kernel_rfl) (by kernel_rfl) (fun _ _ _ h=>h) (by rfl) a ?_
    try simp only[xr]
    refine aS (i:=9) rfl (by kernel_rfl) (by kernel_rfl) (by kernel_rfl) (fun _ _ _ h=>h) (by rfl) a ?_
    try simp only[xr]
    refine aS (i:=10) rfl (by kernel_rfl) (by kernel_rfl) (by kernel_rfl) (fun _ _ _ h=>h) (by rfl) a ?_
    try simp only[xr]
    refine aS (i:=11) rfl (by kernel_rfl) (by kernel_rfl) (by kernel_rfl) (fun _ _ _ h=>h) (by rfl) a ?_
    try simp only[xr]
    refine ah (i:=12) (v:=?_) rfl (by kernel_rfl) (by kernel_rfl) (by kernel_rfl) (fun _ _ _ h=>h) (by rfl) (fun d c=>?_) a ?_;rotate_left
    ·go_simp;try rfl
    try simp only[xr]
    refine ah (i:=13) (v:=?_) rfl (by kernel_rfl) (by kernel_rfl) (by kernel_rfl) (fun _ _ _ h=>h) (by rfl) (fun d c=>?_) a ?_;rotate_left
    ·go_simp;try rfl
    try simp only[xr]
    refine pw (by kernel_rfl) ?_ _;have U:=a;have HZ:=AD (A.o.x (oB U _) (fun _ _ h=>h)) (l.o.below U);clear a U;go_wp2_with fail;go_ret
    refine⟨HZ.o.1,?_⟩;rw[q.o];exact⟨rfl,_,_,by rw[Array.size_setIfInBounds,Array.size_setIfInBounds,bK],HZ.o.2⟩
   |some y=>
    obtain⟨U,ap⟩:=y;rw[hg2]at kK;obtain⟨rfl,p3,rfl,_,Q⟩:=kK;have E:=al (p.o.text C Q);have a':=al hg2;clear C Q hg2;have j:=E.o.d.1;have am:(setMany cs [m+1] [i]).size=N0:=by rw[bK];exact IY.o
    have M:k.cell? ⟨T,m,none⟩=some (setMany cs [m+1] [i])[m]:=by simp only[World.cell?,j];exact fl (by omega)
    have I:k.cell? ⟨T,m+2,none⟩=some (setMany cs [m+1] [i])[m+2]:=by simp only[World.cell?,j];exact fl (by omega)
    have z0:k.frozen? ⟨T,m,none⟩=false:=by simp[World.frozen?,j]
    have z2:k.frozen? ⟨T,m+2,none⟩=false:=by simp[World.frozen?,j]
    generalize (setMany cs [m+1] [i])[m]=v0 at M;generalize (setMany cs [m+1] [i])[m+2]=v2 at I;have l:=al ((E.o.JA m (.bool (decide ((mk:Int)=1)))).JA (m+2) (r7 U));have A:=al ((Ww.o.setCell (p:=⟨T,m,none⟩) (fun _=>.inr rfl) (.bool (decide ((mk:Int)=1)))).setCell (p:=⟨T,m+2,none⟩) (fun _=>.inr rfl) (r7 U));clear j am;go_upto_region 6 with fail;generalize (k.setCell ⟨T,m,none⟩ (.bool (decide ((mk:Int)=1)))).setCell ⟨T,m+2,none⟩ (r7 U)=N at l A⊢;clear M I z0 z2 a0;have I:=al (l.o.below (bd N.heap.size N).drew);refine pt (S:=(fun w'=>w'.cell? ⟨B5,0,none⟩=some (.func (.func 148) #[] #[rv X1])/\w'.cell? ⟨B6,0,none⟩=some (.func (.func 148) #[] #[rv X2]))) (by kernel_rfl) ⟨(((bd _ _).drew).cell (p:=⟨B5,0,none⟩) (aq _ _ l.o.2.1.1)).x l.o.2.1.1,(((bd _ _).drew).cell (p:=⟨B6,0,none⟩) (aq _ _ l.o.2.1.2.1)).x l.o.2.1.2.1⟩ (fun a=>?_);refine ah (i:=0) (v:=?_) rfl (by kernel_rfl) (by kernel_rfl) (by kernel_rfl) (fun _ _ _ h=>h) (by rfl) (fun d c=>?_) a ?_;rotate_left
    ·obtain⟨e,f⟩:=c;go_simp;try rfl
    try simp only[xr]
    refine ah (i:=1) (v:=?_) rfl (by kernel_rfl) (by kernel_rfl) (by kernel_rfl) (fun _ _ _ h=>h) (by rfl) (fun d c=>?_) a ?_;rotate_left
    ·obtain⟨e,f⟩:=c;go_simp;try rfl
    try simp only[xr]
    refine ah (i:=2) (v:=?_) rfl (by kernel_rfl) (by kernel_rfl) (by kernel_rfl) (fun _ _ _ h=>h) (by rfl) (fun d c=>?_) a ?_;rotate_left
    ·obtain⟨e,f⟩:=c;go_simp;try rfl
    try simp only[xr]
    refine ah (i:=3) (v:=?_) rfl (by kernel_rfl) (by kernel_rfl) (by kernel_rfl) (fun _ _ _ h=>h) (by rfl) (fun d c=>?_) a ?_;rotate_left
    ·obtain⟨e,f⟩:=c;go_simp;try rfl
    try simp only[xr]
    refine ah (i:=4) (v:=?_) rfl (by kernel_rfl) (by kernel_rfl) (by kernel_rfl) (fun _ _ _ h=>h) (by rfl) (fun d c=>?_) a ?_;rotate_left
    ·obtain⟨e,f⟩:=c;go_simp;try rfl
    try simp only[xr]
    refine ah (i:=5) (v:=?_) rfl (by kernel_rfl) (by kernel_rfl) (by kernel_rfl) (fun _ _ _ h=>h) (by rfl) (fun d c=>?_) a ?_;rotate_left
    ·obtain⟨e,f⟩:=c;go_simp;try rfl
    try simp only[xr]
    refine ah (i:=6) (v:=?_) rfl (by kernel_rfl) (by kernel_rfl) (by kernel_rfl) (fun _ _ _ h=>h) (by rfl) (fun d c=>?_) a ?_;rotate_left
    ·obtain⟨e,f⟩:=c;go_simp;try rfl
    try simp only[xr]
    refine ah (i:=7) (v:=?_) rfl (by kernel_rfl) (by kernel_rfl) (by kernel_rfl) (fun _ _ _ h=>h) (by rfl) (fun d c=>?_) a ?_;rotate_left
    ·obtain⟨e,f⟩:=c;go_simp;try rfl
    try simp only[xr]
    refine ah (i:=8) (v:=?_) rfl (by kernel_rfl) (by kernel_rfl) (by kernel_rfl) (fun _ _ _ h=>h) (by rfl) (fun d c=>?_) a ?_;rotate_left
    ·obtain⟨e,f⟩:=c;go_simp;try rfl
    try simp only[xr]
    refine ah (i:=9) (v:=?_) rfl (by kernel_rfl) (by kernel_rfl) (by kernel_rfl) (fun _ _ _ h=>h) (by rfl) (fun d c=>?_) a ?_;rotate_left
    ·obtain⟨e,f⟩:=c;go_simp;try rfl
    try simp only[xr]
    refine qe (rs:=[10]) (by kernel_rfl) (by simp) (av (i:=10) rfl (fun K g=>?_) ph);go_simp;refine g.o _ _ (⟨aI a.1 _,aI a.2 _⟩) ?_;clear g K a;intro a
    try simp only[xr]
    refine qe (rs:=[11]) (by kernel_rfl) (by simp) (av (i:=11) rfl (fun K g=>?_) ph);go_simp;refine(DB I.o [m+3,m+4] _ rfl 2 rfl (by simp) (by intro o D;rw[Array.size_setIfInBounds,Array.size_setIfInBounds,bK];simp at D;have:=IY.o;omega)).m ?_;rintro r B n;have D:=al n.1;obtain⟨_,o⟩:=n;rw[show([m+3,m+4]:List Nat).length=2 from rfl]at o
    cases Za:dP mR 2 (all.drop p3)with
    |none=>
     rw[Za]at o;obtain⟨rfl,J,ac,L,O⟩:=o;have j:=al O;have ad:=al L;have aa:=al Za;clear O L Za
     try go_simp
     refine g.o _ _ (⟨j.o.2.1.1,j.o.2.1.2.1⟩) ?_;clear g K a;intro a
     try simp only[xr]
     refine ah (i:=12) (v:=?_) rfl (by kernel_rfl) (by kernel_rfl) (by kernel_rfl) (fun _ _ _ h=>h) (by rfl) (fun d c=>?_) a ?_;rotate_left
     ·obtain⟨e,f⟩:=c;go_simp;try rfl
     try simp only[xr]
     refine ah (i:=13) (v:=?_) rfl (by kernel_rfl) (by kernel_rfl) (by kernel_rfl) (fun _ _ _ h=>h) (by rfl) (fun d c=>?_) a ?_;rotate_left
     ·obtain⟨e,f⟩:=c;go_simp;try rfl
     try simp only[xr]
     refine pw (by kernel_rfl) ?_ _;have C:=al (A.o.x (Only.dV D.o) (fun _ _ h=>h));have q:=al (show jO (all.drop x)=none by have:=Y.o;simp only[jO,Ll.o];rw[ff (by omega)];simp only[Ri.o,a'.o,aa.o]);go_wp2_with fail;go_ret
     refine⟨C.o,?_⟩;rw[q.o];exact⟨rfl,J,ac,by rw[ad.o,Array.size_setIfInBounds,Array.size_setIfInBounds,bK],j.o⟩
    |some y=>
     obtain⟨ns,ap⟩:=y;rw[Za]at o;obtain⟨rfl,q,rfl,y⟩:=o;obtain⟨M,N,rfl⟩:=ady (jD Za);have j:=al y;have L:=al Za;clear y Za
     try go_simp
     refine g.o _ _ (⟨j.o.2.1.1,j.o.2.1.2.1⟩) ?_;clear g K a;intro a
     try simp only[xr]
     refine ah (i:=12) (v:=?_) rfl (by kernel_rfl) (by kernel_rfl) (by kernel_rfl) (fun _ _ _ h=>h) (by rfl) (fun d c=>?_) a ?_;rotate_left
     ·obtain⟨e,f⟩:=c;go_simp;try rfl
     try simp only[xr]
     refine ah (i:=13) (v:=?_) rfl (by kernel_rfl) (by kernel_rfl) (by kernel_rfl) (fun _ _ _ h=>h) (by rfl) (fun d c=>?_) a ?_;rotate_left
     ·obtain⟨e,f⟩:=c;go_simp;try rfl
     try simp only[xr]
     refine pw (by kernel_rfl) ?_ _;have C:=al (A.o.x (Only.dV D.o) (fun _ _ h=>h));have c:=al (show jO (all.drop x)=some (⟨decide ((mk:Int)=1),i,U,M,N⟩,all.drop q) by have:=Y.o;simp only[jO,Ll.o];rw[ff (by omega)];simp only[Ri.o,a'.o,L.o]);go_wp2_with fail;go_ret
     refine⟨C.o,?_⟩;rw[c.o];exact⟨rfl,q,rfl,j.o⟩
end Go.Proofs.YtehccbdajiiaaaaGreatDoor
