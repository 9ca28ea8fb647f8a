import Derived.Test.YtehccbdajiiaaaaGreatDoorP35
namespace Go.Proofs.YtehccbdajiiaaaaGreatDoor
open Go.Proofs.Tryz
set_option maxRecDepth 100000
set_option maxHeartbeats 16000000
open Go.RowKit
def eQ{α:Type}(a:List UInt8->Option (α×List UInt8)):Nat->List UInt8->Option (List α×List UInt8)
 |0,bs=>some ([],bs)
 |k+1,bs=>match eQ a k bs with
  |some (xs,r)=>match a r with
   |some (x,r')=>some (xs++[x],r')
   |none=>none
  |none=>none
theorem uu{α:Type}{b:List UInt8->Option (α×List UInt8)}{k:Nat}{a:List UInt8}(h:eQ b k a=none): ∀m,eQ b (k+m) a=none
 |0=>h
 |m+1=>by rw[<-gO,eQ,uu h m]
def rU{α:Type}(b:List UInt8->Option (α×List UInt8))(M:Int)(a:List UInt8):Option (List α×List UInt8):=
 match dJ iK 1 a with
 |some ([mk],r)=>if mk<=M then eQ b mk.toNat r else none
 |_=>none
def Fk(n:Int):List Value:=[rv n]
def Kj{α:Type}(s:Nat)(b:α->List Value)(a:Nat->α->Array Value->Array Value):Prop:=
 (∀x,(b x).length=s)/\ ∀m x (cs:Array Value),m+s<=cs.size->(a m x cs).size=cs.size/\(∀j u,(b x)[j]?=some u->(a m x cs)[m+j]?=some u)/\ ∀i,i<m->(a m x cs)[i]?=cs[i]?
theorem PZ:Kj 1 Fk Ki:=by
 refine⟨fun _=>rfl,fun m x cs a=>⟨bI _ _ _,fun j u a=>?_,fun i b=>?_⟩⟩
 ·match j,a with
  |0,a=>simp[Fk]at a;subst a;simp[Ki,setMany,gC];omega
 ·simp[Ki,setMany,gC];omega
theorem P4:Kj 5 aX.cells Kg:=by
 refine⟨fun _=>rfl,fun m x cs a=>⟨bI _ _ _,fun j u a=>?_,fun i b=>?_⟩⟩
 ·have b:j<5:=(bd.1 a).1;rcases(by omega:j=0\/j=1\/j=2\/j=3\/j=4)with rfl|rfl|rfl|rfl|rfl<;>(simp[aX.cells]at a;subst a;simp[Kg,setMany,gC];omega)
 ·simp[Kg,setMany,gC]
  repeat rw[ff (by omega)]
theorem P5:Kj 5 Cl.cells Fg:=by
 refine⟨fun _=>rfl,fun m x cs a=>⟨by simp[Fg,setMany],fun j u a=>?_,fun i b=>?_⟩⟩
 ·have b:j<5:=(bd.1 a).1;rcases(by omega:j=0\/j=1\/j=2\/j=3\/j=4)with rfl|rfl|rfl|rfl|rfl<;>(simp[Cl.cells]at a;subst a;simp[Fg,setMany,gC];omega)
 ·simp[Fg,setMany,gC]
  repeat rw[ff (by omega)]
def Mj(F:Nat->Prop)(b:Nat)(all:List UInt8)(B5 B6 X1 X2:Nat)(p:Nat)(w:World):Prop:=
 bp w F b all p/\XG b B5 B6 X1 X2 w/\XH b B5 B6 X1 X2/\ ∀k,F k->k<w.heap.size
section
variable{F:Nat->Prop}{b:Nat}{all:List UInt8}{B5 B6 X1 X2 T:Nat}{t:TypeId}{p:Nat}{cs:Array Value}{w w':World}
theorem Mj.below(h:Mj F b all B5 B6 X1 X2 p w)(a:Below w.heap.size w w'):Mj F b all B5 B6 X1 X2 p w':=
 ⟨h.1.below a,h.2.1.only (ri a) id id id id,h.2.2.1,fun k c=>da (h.2.2.2 k c) a.size⟩
theorem jL.XQ(h:jL F b all B5 B6 X1 X2 T t p cs w):Mj F b all B5 B6 X1 X2 p w:=⟨h.1,h.2.1,h.2.2.2.2.1,h.2.2.2.2.2.2⟩
theorem Mj.blt(h:Mj F b all B5 B6 X1 X2 p w):b<w.heap.size:=by obtain⟨⟨v,a,_⟩,_⟩:=h;exact(cq.1 a).1
theorem Mj.box(l:Mj F b all B5 B6 X1 X2 p w)(c:Array Value)(d:TypeId):jL F b all B5 B6 X1 X2 w.heap.size d p c (w.alloc (.cells c d)):=by have j:=fG w (.cells c d);obtain⟨k,g,i,e⟩:=l.below j;obtain⟨_,a,_,h⟩:=l;have o:B5<w.heap.size:=aq _ _ a.1;have m:B6<w.heap.size:=aq _ _ a.2.1;have n:X1<w.heap.size:=aq _ _ a.2.2.1;have q:X2<w.heap.size:=aq _ _ a.2.2.2;exact⟨k,g,an _ _,fun f=>by have:=h _ f;omega,i,⟨by omega,by omega,by omega,by omega⟩,e⟩
def Fl{α:Type}(d:List UInt8->Option (α×List UInt8))(s:Nat)(c:α->List Value)(M:Int)(F:Nat->Prop)(b:Nat)(all:List UInt8)(B5 B6 X1 X2:Nat)(p:Nat)(w:World)(e:Ending)(w':World):Prop:=
 Only (fun k=>k=b) w w'/\match rU d M (all.drop p)with
  |some (xs,rest)=> ∃g a,e=.returned (.tuple #[.slice (some ⟨g,0,none⟩) xs.length xs.length,.bool true])/\w.heap.size<=g/\bJ s w' (fun k=>k=g) (.slice (some ⟨g,0,none⟩) xs.length xs.length) (xs.map c)/\rest=all.drop a/\Mj F b all B5 B6 X1 X2 a w'
  |none=>e=.returned (.tuple #[.slice none 0 0,.bool false])
def uw{α:Type}(f:List UInt8->Option (α×List UInt8))(s:Nat)(e:α->List Value)(F:Nat->Prop)(b:Nat)(all:List UInt8)(B5 B6 X1 X2 g:Nat)(t:TypeId)(p n:Nat)(w:World)(k:Nat)(c:World):Prop:=
 Only (fun i=>i=b\/i=g) w c/\ ∃a d cs,eQ f k (all.drop p)=some (a,all.drop d)/\a.length=k/\cs.size=n*s/\jL F b all B5 B6 X1 X2 g t d cs c/\ ∀i x,a[i]?=some x-> ∀j u,(e x)[j]?=some u->cs[i*s+j]?=some u
theorem tG{α:Type}{f:List UInt8->Option (α×List UInt8)}{s:Nat}{e:α->List Value}{c:Nat->α->Array Value->Array Value}{g n k j h:Nat}{l w2:World}{xs:List α}{x:α}(K:Kj s e c)
  (G:Only (fun i=>i=b\/i=g) w l) (B:eQ f k (all.drop p)=some (xs,all.drop j)) (m:xs.length=k) (o:cs.size=n*s) (E: ∀i x,xs[i]?=some x-> ∀q u,(e x)[q]?=some u->cs[i*s+q]?=some u) (C:k<n)
  (y:Only (fun i=>i=b\/i=g) l w2) (D:f (all.drop j)=some (x,all.drop h)) (H:jL F b all B5 B6 X1 X2 g t h (c (k*s) x cs) w2):uw f s e F b all B5 B6 X1 X2 g t p n w (k+1) w2:=by
 have r:k*s+s<=cs.size:=by rw[o];have:=dy s (show k+1<=n from C);rwa[Nat.add_mul,Nat.one_mul]at this
 obtain⟨L,I⟩:=K;obtain⟨A,z,J⟩:=I (k*s) x cs r;refine⟨G.x y (fun _ _ a=>a),xs++[x],h,c (k*s) x cs,?_,by simp[m],A.x o,H,fun i M a q u d=>?_⟩
 ·rw[eQ,B];simp only;rw[D]
 ·by_cases v:i<k
  ·rw[kt (by omega)]at a;have N:q<s:=by rw[<-L M];exact(bd.1 d).1
   have:=dy s (show i+1<=k from v);rw[Nat.add_mul,Nat.one_mul]at this;rw[J _ (by omega)];exact E i M a q u d
  ·have:i=k:=by
    have:=(bd.1 a).1;simp at this;omega
   subst this;rw[kb (by omega),m]at a;simp at a;subst a;exact z q u d
theorem x9{α:Type}{c:List UInt8->Option (α×List UInt8)}{s:Nat}{d:α->List Value}{M:Int}{g n f:Nat}{w0 e:World}(y:n<=1000)(j:uw c s d F b all B5 B6 X1 X2 g t p n w n e)(v:rU c M (all.drop f)=eQ c n (all.drop p))(q:Only (fun i=>i=b) w0 w)(u:w0.heap.size<=g):
  Fl c s d M F b all B5 B6 X1 X2 f w0 (.returned (.tuple #[.slice (some ⟨g,0,none⟩) n n,.bool true])) e:=by
 obtain⟨m,r,o,cs,k,a,z,h,l⟩:=j;refine⟨q.x m (fun i x A=>A.elim id (fun i=>by omega)),?_⟩;rw[v,k];subst a;refine⟨g,o,rfl,u,⟨_,_,_,rfl,by simp,b8 _,by simp[maxLen];omega,fun _=>⟨g,0,rfl,rfl,fun x A a C B i=>?_⟩⟩,rfl,h.XQ⟩;rw[oy]at a
 cases hx:r[x]? with
 |none=>rw[hx]at a;simp at a
 |some A=>rw[hx]at a;simp at a;subst a;have a:=h.2.2.1;simp only[World.cell?,a,gR];exact l x A hx C B i
theorem ye{α:Type}{a:List UInt8->Option (α×List UInt8)}{s:Nat}{l:α->List Value}{M:Int}{g n k h d:Nat}{w0 f w2:World}{xs:List α}(o:Only (fun i=>i=b\/i=g) w f)(m:eQ a k (all.drop p)=some (xs,all.drop d))(e:k<n)(j:Only (fun i=>i=b\/i=g) f w2)(i:a (all.drop d)=none)
  (t:rU a M (all.drop h)=eQ a n (all.drop p)) (r:Only (fun k=>k=b) w0 w) (u:w0.heap.size<=g):
  Fl a s l M F b all B5 B6 X1 X2 h w0 (.returned (.tuple #[.slice none 0 0,.bool false])) w2:=by
 refine⟨(r.x o (fun k e c=>c.elim id (fun q=>by omega))).x j (fun k e c=>c.elim id (fun q=>by omega)),?_⟩;have q:eQ a (k+1) (all.drop p)=none:=by rw[eQ,m];simp only;rw[i]
 have c:=uu q (n-(k+1));rw[show k+1+(n-(k+1))=n by omega]at c;rw[t,c]
end
theorem TI(F:Nat->Prop)(b:Nat)(all:List UInt8)(B5 B6 X1 X2:Nat)(p:Nat)(M:Int)(w:World)(h:Mj F b all B5 B6 X1 X2 p w)(x:M<=1000):
  Calls prog 88 #[.func (.func 148) #[] #[r7 X1],rv M,.func (.func 89) #[] #[r7 B5,r7 B6]] w (Fl mo 5 aX.cells M F b all B5 B6 X1 X2 p w):=by
 have a:(prog.info? 64).map (fun i=>(i.zero,i.size,i.bytes))=some (some (.agg #[rv 0,rv 0,rv 0,rv 0,rv 0]),5,40):=by kernel_rfl
 obtain⟨I,G,A,B,z⟩:=ef a;clear a;have c:=fG w (td 0);have a:=h.box #[rv 0] 3;have y:=h.blt;go_enter func88,ntmps88;go_wp2_with fail
 go_step3
 go_upto_region 2 with fail;generalize w.alloc (td 0)=d at c a⊢;obtain⟨O,d⟩:=rl (w.heap.size);rw[d]at a y⊢;have J:=al d;have C:=al c;have P:=al a;clear c a h d;go_wp2_with fail;refine(qN P.o [0] _ rfl 1 rfl (by simp) (by intro o g;simp at g;subst g;decide)).m ?_;rintro e h d;have f:=(oS C.o (fun k=>k=b)).x d.1 (fun k K a=>a.elim id (fun e=>absurd e (by have:=J.o;omega)));have r:=al f;have D:=rT d;clear d;rcases D with⟨rfl,a,S,R,c⟩|⟨mk,j,rfl,m,a,c⟩
 ·have l:=al (show rU mo M (all.drop p)=none by simp only[rU,a]);clear c a f;go_wp2_with fail;rw[fs]
  go_ret2
  refine⟨r.o,?_⟩;rw[l.o];exact rfl
 ·have o:h.cell? ⟨O,0,none⟩=some (rv (mk:Int)):=by have:=c.2.2.1;simp[World.cell?,this]
  by_cases q:M<(mk:Int)
  ·have l:=al (show rU mo M (all.drop p)=none by simp only[rU,a];rw[ff (by omega)]);clear c a f;go_wp2_with fail;rw[fs]
   go_ret2
   refine⟨r.o,?_⟩;rw[l.o];exact rfl
  ·have n:=al (show(mk:Int)<=M by omega);have N:=al c.XQ;have u:=al (show rU mo M (all.drop p)=eQ mo mk (all.drop j) by simp only[rU,a];rw[fi (by omega)];simp);clear c a
   have s: ∀a:World,(Instr.makeSlice 65 (rv (mk:Int)) (rv (mk:Int))).run prog a=.ok (.slice (some ⟨a.heap.size,0,none⟩) mk mk) (a.alloc (.cells (madeCells #[rv 0,rv 0,rv 0,rv 0,rv 0] (mk*5)) 64)):=fun a=>by have:=run_make (P:=prog) a 65 64 I _ (by kernel_rfl) G A .i64 .i64 (mk:Int) (mk:Int) (by omega) (by omega) (by rw[z];have:=n.o;have:=x;omega) (by have:=n.o;have:=x;omega);rw[B]at this;simp only[iv]at this;exact this
   have E:mk<=1000:=by have:=n.o;omega
   have a:=N.o.box (madeCells #[rv 0,rv 0,rv 0,rv 0,rv 0] (mk*5)) 64;have l:=f.alloc (.cells (madeCells #[rv 0,rv 0,rv 0,rv 0,rv 0] (mk*5)) 64);have c:w.heap.size<=h.heap.size:=f.size
   skip
   clear f;go_wp2_with fail;clear s o m;generalize h.alloc (.cells (madeCells #[rv 0,rv 0,rv 0,rv 0,rv 0] (mk*5)) 64)=m at a l⊢;obtain⟨Q,o⟩:=rl (h.heap.size);rw[o]at a c⊢;have L:=al (show uw mo 5 aX.cells F b all B5 B6 X1 X2 Q 64 j mk m 0 m from⟨oT _ _,[],j,_,rfl,rfl,by simp[madeCells],a,by simp⟩);have f:=AI l c;clear a l c o q
   go_step3
   go_wp2_with fail
   go_loopw [10,25] (fun e i wr=>e=.bool true/\ ∃k:Nat,k<=mk/\i=rv (k:Int)/\uw mo 5 aX.cells F b all B5 B6 X1 X2 Q 64 j mk m k wr) (fun _ i _=>mk-(intOf i).toNat)
   case atStart=>exact⟨rfl,0,dq _,rfl,L.o⟩
   case round=>
    obtain⟨rfl,k,K,rfl,l⟩:=hrel;by_cases q:k<mk
    ·skip
     obtain⟨g,T,s,cs,o,m,v,d,c⟩:=l;have t:=XJ F b all B5 B6 X1 X2 Q 64 s (k*5) cs wr d (by omega);have a:=AS g o m v c;have H:=al t;clear g o m v c d t;go_wp2_with fail;refine H.o.m ?_;rintro e v ⟨d,g⟩
     cases hg3:mo (all.drop s)with
     |none=>
      rw[hg3]at g;obtain⟨rfl,_⟩:=g;have c:=AI d hg3;clear d hg3;go_wp2_with fail;rw[fs]
      go_ret2
      exact ye a.o.1 a.o.2.1 q c.o.1 c.o.2 u.o f.o.1 f.o.2
     |some m=>
      obtain⟨U,o⟩:=m;rw[hg3]at g;obtain⟨rfl,t,rfl,m⟩:=g;have c:=AM d hg3 m;clear d hg3 m;go_wp2_with fail;go_roundw
      case rel=>exact⟨rfl,k+1,by omega,by go_num,tG P4 a.o.1 a.o.2.1 a.o.d.1 a.o.t.1 a.o.q q c.o.1 c.o.2.1 c.o.d⟩
      case measure=>simp[intOf];omega
    ·obtain rfl:k=mk:=by omega
     have a:=al l;clear l;go_wp2_with fail;rw[fs]
     go_ret2
     exact x9 E a.o u.o f.o.1 f.o.2
theorem P8(F:Nat->Prop)(b:Nat)(all:List UInt8)(B5 B6 X1 X2:Nat)(p:Nat)(M:Int)(w:World)(h:Mj F b all B5 B6 X1 X2 p w)(x:M<=1000):
  Calls prog 90 #[.func (.func 148) #[] #[r7 X1],rv M,.func (.func 91) #[] #[r7 B6]] w (Fl mL 1 Fk M F b all B5 B6 X1 X2 p w):=by
 have a:(prog.info? 3).map (fun i=>(i.zero,i.size,i.bytes))=some (some (rv 0),1,8):=by kernel_rfl
 obtain⟨I,G,A,B,z⟩:=ef a;clear a;have c:=fG w (td 0);have a:=h.box #[rv 0] 3;have y:=h.blt;go_enter func90,ntmps90;go_wp2_with fail
 go_step3
 go_upto_region 2 with fail;generalize w.alloc (td 0)=d at c a⊢;obtain⟨O,d⟩:=rl (w.heap.size);rw[d]at a y⊢;have J:=al d;have C:=al c;have P:=al a;clear c a h d;go_wp2_with fail;refine(qN P.o [0] _ rfl 1 rfl (by simp) (by intro o g;simp at g;subst g;decide)).m ?_;rintro e h d;have f:=(oS C.o (fun k=>k=b)).x d.1 (fun k K a=>a.elim id (fun e=>absurd e (by have:=J.o;omega)));have r:=al f;have D:=rT d;clear d;rcases D with⟨rfl,a,S,R,c⟩|⟨mk,j,rfl,m,a,c⟩
 ·have l:=al (show rU mL M (all.drop p)=none by simp only[rU,a]);clear c a f;go_wp2_with fail;rw[fs]
  go_ret2
  refine⟨r.o,?_⟩;rw[l.o];exact rfl
 ·have o:h.cell? ⟨O,0,none⟩=some (rv (mk:Int)):=by have:=c.2.2.1;simp[World.cell?,this]
  by_cases q:M<(mk:Int)
  ·have l:=al (show rU mL M (all.drop p)=none by simp only[rU,a];rw[ff (by omega)]);clear c a f;go_wp2_with fail;rw[fs]
   go_ret2
   refine⟨r.o,?_⟩;rw[l.o];exact rfl
  ·have n:=al (show(mk:Int)<=M by omega);have N:=al c.XQ;have u:=al (show rU mL M (all.drop p)=eQ mL mk (all.drop j) by simp only[rU,a];rw[fi (by omega)];simp);clear c a
   have s: ∀a:World,(Instr.makeSlice 94 (rv (mk:Int)) (rv (mk:Int))).run prog a=.ok (.slice (some ⟨a.heap.size,0,none⟩) mk mk) (a.alloc (.cells (madeCells #[rv 0] mk) 3)):=fun a=>by have:=run_make (P:=prog) a 94 3 I _ (by kernel_rfl) G A .i64 .i64 (mk:Int) (mk:Int) (by omega) (by omega) (by rw[z];have:=n.o;have:=x;omega) (by have:=n.o;have:=x;omega);rw[B]at this;simp only[iv,Nat.mul_one]at this;exact this
   have E:mk<=1000:=by have:=n.o;omega
   have a:=N.o.box (madeCells #[rv 0] mk) 3;have l:=f.alloc (.cells (madeCells #[rv 0] mk) 3);have c:w.heap.size<=h.heap.size:=f.size
   skip
   clear f;go_wp2_with fail;clear s o m;generalize h.alloc (.cells (madeCells #[rv 0] mk) 3)=m at a l⊢;obtain⟨Q,o⟩:=rl (h.heap.size);rw[o]at a c⊢;have L:=al (show uw mL 1 Fk F b all B5 B6 X1 X2 Q 3 j mk m 0 m from⟨oT _ _,[],j,_,rfl,rfl,by simp[madeCells],a,by simp⟩);have f:=AI l c;clear a l c o q
   go_step3
   go_wp2_with fail
   go_loopw [10,25] (fun e i wr=>e=.bool true/\ ∃k:Nat,k<=mk/\i=rv (k:Int)/\uw mL 1 Fk F b all B5 B6 X1 X2 Q 3 j mk m k wr) (fun _ i _=>mk-(intOf i).toNat)
   case atStart=>exact⟨rfl,0,dq _,rfl,L.o⟩
   case round=>
    obtain⟨rfl,k,K,rfl,l⟩:=hrel;by_cases q:k<mk
    ·skip
     obtain⟨g,T,s,cs,o,m,v,d,c⟩:=l;have t:=one_num F b all B5 B6 X1 X2 Q 3 s k cs wr d (by omega);have a:=AS g o m v c;have H:=al t;clear g o m v c d t;go_wp2_with fail;refine H.o.m ?_;rintro e v ⟨d,g⟩
     cases hg3:mL (all.drop s)with
     |none=>
      rw[hg3]at g;obtain⟨rfl,_⟩:=g;have c:=AI d hg3;clear d hg3;go_wp2_with fail;rw[fs]
      go_ret2
      exact ye a.o.1 a.o.2.1 q c.o.1 c.o.2 u.o f.o.1 f.o.2
     |some m=>
      obtain⟨U,o⟩:=m;rw[hg3]at g;obtain⟨rfl,t,rfl,m⟩:=g;have c:=AM d hg3 m;clear d hg3 m;go_wp2_with fail;go_roundw
      case rel=>exact⟨rfl,k+1,by omega,by go_num,tG PZ a.o.1 a.o.2.1 a.o.d.1 a.o.t.1 a.o.q q c.o.1 c.o.2.1 (by rw[Nat.mul_one];exact c.o.d)⟩
      case measure=>simp[intOf];omega
    ·obtain rfl:k=mk:=by omega
     have a:=al l;clear l;go_wp2_with fail;rw[fs]
     go_ret2
     exact x9 E a.o u.o f.o.1 f.o.2
theorem TJ(F:Nat->Prop)(b:Nat)(all:List UInt8)(B5 B6 X1 X2 c:Nat)(p:Nat)(M:Int)(w:World)(h:Mj F b all B5 B6 X1 X2 p w)(A:M<=1000)
  (f:w.cell? ⟨c,0,none⟩=some (r7 b)) (g:c≠b):
  Calls prog 92 #[.func (.func 148) #[] #[r7 X1],rv M,.func (.func 93) #[] #[r7 B5,r7 B6,r7 c]] w (Fl jI 5 Cl.cells M F b all B5 B6 X1 X2 p w):=by
 have a:(prog.info? 68).map (fun i=>(i.zero,i.size,i.bytes))=some (some (.agg #[.bool false,rv 0,.string ⟨#[]⟩,rv 0,rv 0]),5,48):=by kernel_rfl
 obtain⟨N,K,E,G,D⟩:=ef a;clear a;have d:=fG w (td 0);have a:=h.box #[rv 0] 3;have B:=h.blt;have n:=AM f g (aq _ _ f);clear f g;go_enter func92,ntmps92;go_wp2_with fail
 go_step3
 go_upto_region 2 with fail;generalize w.alloc (td 0)=f at d a⊢;obtain⟨S,f⟩:=rl (w.heap.size);rw[f]at a B⊢;have O:=al f;have H:=al d;have T:=al a;clear d a h f;go_wp2_with fail;refine(qN T.o [0] _ rfl 1 rfl (by simp) (by intro o j;simp at j;subst j;decide)).m ?_;rintro e g h;have a:=(oS H.o (fun o=>o=b)).x h.1 (fun o P d=>d.elim id (fun e=>absurd e (by have:=O.o;omega)));have u:=al a;have I:=rT h;clear h;rcases I with⟨rfl,d,W,V,f⟩|⟨mk,m,rfl,l,d,f⟩
 ·have k:=al (show rU jI M (all.drop p)=none by simp only[rU,d]);clear f d a;go_wp2_with fail;rw[fs]
  go_ret2
  refine⟨u.o,?_⟩;rw[k.o];exact rfl
 ·have s:g.cell? ⟨S,0,none⟩=some (rv (mk:Int)):=by have:=f.2.2.1;simp[World.cell?,this]
  by_cases t:M<(mk:Int)
  ·have k:=al (show rU jI M (all.drop p)=none by simp only[rU,d];rw[ff (by omega)]);clear f d a;go_wp2_with fail;rw[fs]
   go_ret2
   refine⟨u.o,?_⟩;rw[k.o];exact rfl
  ·have r:=al (show(mk:Int)<=M by omega);have R:=al f.XQ;have y:=al (show rU jI M (all.drop p)=eQ jI mk (all.drop m) by simp only[rU,d];rw[fi (by omega)];simp);clear f d
   have v: ∀d:World,(Instr.makeSlice 27 (rv (mk:Int)) (rv (mk:Int))).run prog d=.ok (.slice (some ⟨d.heap.size,0,none⟩) mk mk) (d.alloc (.cells (madeCells #[.bool false,rv 0,.string ⟨#[]⟩,rv 0,rv 0] (mk*5)) 68)):=fun d=>by have:=run_make (P:=prog) d 27 68 N _ (by kernel_rfl) K E .i64 .i64 (mk:Int) (mk:Int) (by omega) (by omega) (by rw[D];have:=r.o;have:=A;omega) (by have:=r.o;have:=A;omega);rw[G]at this;simp only[iv]at this;exact this
   have J:mk<=1000:=by have:=r.o;omega
   have f:=R.o.box (madeCells #[.bool false,rv 0,.string ⟨#[]⟩,rv 0,rv 0] (mk*5)) 68;have q:=a.alloc (.cells (madeCells #[.bool false,rv 0,.string ⟨#[]⟩,rv 0,rv 0] (mk*5)) 68);have k:w.heap.size<=g.heap.size:=a.size;have d:=AM ((((a.alloc (.cells (madeCells #[.bool false,rv 0,.string ⟨#[]⟩,rv 0,rv 0] (mk*5)) 68)).cell (p:=⟨c,0,none⟩) n.o.1 n.o.2.1)):(g.alloc (.cells (madeCells #[.bool false,rv 0,.string ⟨#[]⟩,rv 0,rv 0] (mk*5)) 68)).cell? ⟨c,0,none⟩=_) n.o.2.1 (show c≠g.heap.size by have:=a.size;have:=n.o.d;omega);clear a;go_wp2_with fail;clear v s l;generalize g.alloc (.cells (madeCells #[.bool false,rv 0,.string ⟨#[]⟩,rv 0,rv 0] (mk*5)) 68)=a at f q d⊢;obtain⟨U,s⟩:=rl (g.heap.size);rw[s]at f k d⊢;have Q:=al (show uw jI 5 Cl.cells F b all B5 B6 X1 X2 U 68 m mk a 0 a from⟨oT _ _,[],m,_,rfl,rfl,by simp[madeCells],f,by simp⟩);have l:=AI q k;clear f q k s t
   go_step3
   go_wp2_with fail
   go_loopw [10,25] (fun e i wr=>e=.bool true/\ ∃o:Nat,o<=mk/\i=rv (o:Int)/\uw jI 5 Cl.cells F b all B5 B6 X1 X2 U 68 m mk a o wr) (fun _ i _=>mk-(intOf i).toNat)
   case atStart=>exact⟨rfl,0,dq _,rfl,Q.o⟩
   case round=>
    obtain⟨rfl,o,P,rfl,k⟩:=hrel;by_cases t:o<mk
    ·have C:=k.1.cell (p:=⟨c,0,none⟩) d.o.1 (fun e=>e.elim d.o.2.1 d.o.d);obtain⟨j,X,v,cs,s,q,z,h,f⟩:=k;have x:=XL F b all B5 B6 X1 X2 U c 68 v (o*5) cs wr h (by omega) C ⟨d.o.2.1,d.o.d⟩;have a:=AS j s q z f;have L:=al x;clear j s q z f h x;go_wp2_with fail;refine L.o.m ?_;rintro e z ⟨h,j⟩
     cases hg3:jI (all.drop v)with
     |none=>
      rw[hg3]at j;obtain⟨rfl,_⟩:=j;have f:=AI h hg3;clear h hg3;go_wp2_with fail;rw[fs]
      go_ret2
      exact ye a.o.1 a.o.2.1 t f.o.1 f.o.2 y.o l.o.1 l.o.2
     |some q=>
      obtain⟨Y,s⟩:=q;rw[hg3]at j;obtain⟨rfl,x,rfl,q⟩:=j;have f:=AM h hg3 q;clear h hg3 q;go_wp2_with fail;go_roundw
      case rel=>exact⟨rfl,o+1,by omega,by go_num,tG P5 a.o.1 a.o.2.1 a.o.d.1 a.o.t.1 a.o.q t f.o.1 f.o.2.1 f.o.d⟩
      case measure=>simp[intOf];omega
    ·obtain rfl:o=mk:=by omega
     have a:=al k;clear k;go_wp2_with fail;rw[fs]
     go_ret2
     exact x9 J a.o y.o l.o.1 l.o.2
end Go.Proofs.YtehccbdajiiaaaaGreatDoor
