import Derived.Test.YtehccbdajiiaaaaGreatDoorS40
namespace Go.Proofs.YtehccbdajiiaaaaGreatDoor
open Go.Proofs.Tryz
set_option maxRecDepth 100000
set_option maxHeartbeats 16000000
open Go.RowKit
def eY{α:Type}(a:List UInt8->Option (α×List UInt8)):Nat->List UInt8->Option (List α×List UInt8)
 |0,bs=>some ([],bs)
 |k+1,bs=>match eY a k bs with
  |some (xs,r)=>match a r with
   |some (x,r')=>some (xs++[x],r')
   |none=>none
  |none=>none
theorem uS{α:Type}{a:List UInt8->Option (α×List UInt8)}{k:Nat}{b:List UInt8}(h:eY a k b=none): ∀m,eY a (k+m) b=none
 |0=>h
 |m+1=>by rw[<-gC,eY,uS h m]
def sK{α:Type}(a:List UInt8->Option (α×List UInt8))(M:Int)(b:List UInt8):Option (List α×List UInt8):=
 match dP iO 1 b with
 |some ([mk],r)=>if mk<=M then eY a mk.toNat r else none
 |_=>none
def Gl(n:Int):List Value:=[rm n]
def Lp{α:Type}(s:Nat)(b:α->List Value)(a:Nat->α->Array Value->Array Value):Prop:=
 (∀x,(b x).length=s)/\ ∀m x (cs:Array Value),m+s<=cs.size->(a m x cs).size=cs.size/\(∀j u,(b x)[j]?=some u->(a m x cs)[m+j]?=some u)/\ ∀i,i<m->(a m x cs)[i]?=cs[i]?
theorem Rk:Lp 1 Gl Lm:=by
 refine⟨fun _=>rfl,fun m x cs a=>⟨bK _ _ _,fun j u a=>?_,fun i b=>?_⟩⟩
 ·match j,a with
  |0,a=>simp[Gl]at a;subst a;simp[Lm,setMany,gd];omega
 ·simp[Lm,setMany,gd];omega
theorem Rl:Lp 5 aX.cells Lj:=by
 refine⟨fun _=>rfl,fun m x cs a=>⟨bK _ _ _,fun j u a=>?_,fun i b=>?_⟩⟩
 ·have b:j<5:=(aw.1 a).1;rcases(by omega:j=0\/j=1\/j=2\/j=3\/j=4)with rfl|rfl|rfl|rfl|rfl<;>(simp[aX.cells]at a;subst a;simp[Lj,setMany,gd];omega)
 ·simp[Lj,setMany,gd]
  repeat rw[fb (by omega)]
theorem Rm:Lp 5 Cl.cells Gj:=by
 refine⟨fun _=>rfl,fun m x cs a=>⟨by simp[Gj,setMany],fun j u a=>?_,fun i b=>?_⟩⟩
 ·have b:j<5:=(aw.1 a).1;rcases(by omega:j=0\/j=1\/j=2\/j=3\/j=4)with rfl|rfl|rfl|rfl|rfl<;>(simp[Cl.cells]at a;subst a;simp[Gj,setMany,gd];omega)
 ·simp[Gj,setMany,gd]
  repeat rw[fb (by omega)]
def Nt(F:Nat->Prop)(b:Nat)(all:List UInt8)(B5 B6 X1 X2:Nat)(p:Nat)(w:World):Prop:=
 bt w F b all p/\Y2 b B5 B6 X1 X2 w/\Y3 b B5 B6 X1 X2/\ ∀k,F k->k<w.heap.size
section
variable{F:Nat->Prop}{b:Nat}{all:List UInt8}{B5 B6 X1 X2 T:Nat}{t:TypeId}{p:Nat}{cs:Array Value}{w w':World}
theorem Nt.below(h:Nt F b all B5 B6 X1 X2 p w)(a:Below w.heap.size w w'):Nt F b all B5 B6 X1 X2 p w':=
 ⟨h.1.below a,h.2.1.only (qS a) id id id id,h.2.2.1,fun k c=>da (h.2.2.2 k c) a.size⟩
theorem jS.Zc(h:jS F b all B5 B6 X1 X2 T t p cs w):Nt F b all B5 B6 X1 X2 p w:=⟨h.1,h.2.1,h.2.2.2.2.1,h.2.2.2.2.2.2⟩
theorem Nt.blt(h:Nt F b all B5 B6 X1 X2 p w):b<w.heap.size:=by obtain⟨⟨v,a,_⟩,_⟩:=h;exact(cq.1 a).1
theorem Nt.box(l:Nt F b all B5 B6 X1 X2 p w)(d:Array Value)(c:TypeId):jS F b all B5 B6 X1 X2 w.heap.size c p d (w.alloc (.cells d c)):=by have h:=fM w (.cells d c);obtain⟨k,e,f,i⟩:=l.below h;obtain⟨_,a,_,j⟩:=l;have n:B5<w.heap.size:=aq _ _ a.1;have q:B6<w.heap.size:=aq _ _ a.2.1;have o:X1<w.heap.size:=aq _ _ a.2.2.1;have m:X2<w.heap.size:=aq _ _ a.2.2.2;exact⟨k,e,an _ _,fun g=>by have:=j _ g;omega,f,⟨by omega,by omega,by omega,by omega⟩,i⟩
def Gm{α:Type}(d:List UInt8->Option (α×List UInt8))(s:Nat)(c:α->List Value)(M:Int)(F:Nat->Prop)(b:Nat)(all:List UInt8)(B5 B6 X1 X2:Nat)(p:Nat)(w:World)(e:Ending)(w':World):Prop:=
 Only (fun k=>k=b) w w'/\match sK d M (all.drop p)with
  |some (xs,rest)=> ∃g a,e=.returned (.tuple #[.slice (some ⟨g,0,none⟩) xs.length xs.length,.bool true])/\w.heap.size<=g/\bI s w' (fun k=>k=g) (.slice (some ⟨g,0,none⟩) xs.length xs.length) (xs.map c)/\rest=all.drop a/\Nt F b all B5 B6 X1 X2 a w'
  |none=>e=.returned (.tuple #[.slice none 0 0,.bool false])
def uT{α:Type}(f:List UInt8->Option (α×List UInt8))(s:Nat)(e:α->List Value)(F:Nat->Prop)(b:Nat)(all:List UInt8)(B5 B6 X1 X2 g:Nat)(t:TypeId)(p n:Nat)(w:World)(k:Nat)(c:World):Prop:=
 Only (fun i=>i=b\/i=g) w c/\ ∃a d cs,eY f k (all.drop p)=some (a,all.drop d)/\a.length=k/\cs.size=n*s/\jS F b all B5 B6 X1 X2 g t d cs c/\ ∀i x,a[i]?=some x-> ∀j u,(e x)[j]?=some u->cs[i*s+j]?=some u
theorem uj{α:Type}{f:List UInt8->Option (α×List UInt8)}{s:Nat}{e:α->List Value}{c:Nat->α->Array Value->Array Value}{g n k l h:Nat}{j w2:World}{xs:List α}{x:α}(K:Lp s e c)
  (D:Only (fun i=>i=b\/i=g) w j) (G:eY f k (all.drop p)=some (xs,all.drop l)) (m:xs.length=k) (o:cs.size=n*s) (I: ∀i x,xs[i]?=some x-> ∀q u,(e x)[q]?=some u->cs[i*s+q]?=some u) (E:k<n)
  (J:Only (fun i=>i=b\/i=g) j w2) (z:f (all.drop l)=some (x,all.drop h)) (A:jS F b all B5 B6 X1 X2 g t h (c (k*s) x cs) w2):uT f s e F b all B5 B6 X1 X2 g t p n w (k+1) w2:=by
 have r:k*s+s<=cs.size:=by rw[o];have:=ea s (show k+1<=n from E);rwa[Nat.add_mul,Nat.one_mul]at this
 obtain⟨y,H⟩:=K;obtain⟨B,L,C⟩:=H (k*s) x cs r;refine⟨D.x J (fun _ _ a=>a),xs++[x],h,c (k*s) x cs,?_,by simp[m],B.x o,A,fun i M a q u d=>?_⟩
 ·rw[eY,G];simp only;rw[z]
 ·by_cases v:i<k
  ·rw[lk (by omega)]at a;have N:q<s:=by rw[<-y M];exact(aw.1 d).1
   have:=ea s (show i+1<=k from v);rw[Nat.add_mul,Nat.one_mul]at this;rw[C _ (by omega)];exact I i M a q u d
  ·have:i=k:=by
    have:=(aw.1 a).1;simp at this;omega
   subst this;rw[iv (by omega),m]at a;simp at a;subst a;exact L q u d
theorem yT{α:Type}{c:List UInt8->Option (α×List UInt8)}{s:Nat}{f:α->List Value}{M:Int}{g n h:Nat}{w0 e:World}(z:n<=1000)(l:uT c s f F b all B5 B6 X1 X2 g t p n w n e)(i:sK c M (all.drop h)=eY c n (all.drop p))(v:Only (fun j=>j=b) w0 w)(u:w0.heap.size<=g):
  Gm c s f M F b all B5 B6 X1 X2 h w0 (.returned (.tuple #[.slice (some ⟨g,0,none⟩) n n,.bool true])) e:=by
 obtain⟨m,k,r,cs,o,a,y,d,q⟩:=l;refine⟨v.x m (fun j x A=>A.elim id (fun j=>by omega)),?_⟩;rw[i,o];subst a;refine⟨g,r,rfl,u,⟨_,_,_,rfl,by simp,b8 _,by simp[maxLen];omega,fun _=>⟨g,0,rfl,rfl,fun x B a C A j=>?_⟩⟩,rfl,d.Zc⟩;rw[nh]at a
 cases hx:k[x]? with
 |none=>rw[hx]at a;simp at a
 |some B=>rw[hx]at a;simp at a;subst a;have a:=d.2.2.1;simp only[World.cell?,a,ie];exact q x B hx C A j
theorem yU{α:Type}{a:List UInt8->Option (α×List UInt8)}{s:Nat}{o:α->List Value}{M:Int}{g n k h f:Nat}{w0 d w2:World}{xs:List α}(q:Only (fun i=>i=b\/i=g) w d)(r:eY a k (all.drop p)=some (xs,all.drop f))(e:k<n)(l:Only (fun i=>i=b\/i=g) d w2)(i:a (all.drop f)=none)
  (j:sK a M (all.drop h)=eY a n (all.drop p)) (t:Only (fun k=>k=b) w0 w) (u:w0.heap.size<=g):
  Gm a s o M F b all B5 B6 X1 X2 h w0 (.returned (.tuple #[.slice none 0 0,.bool false])) w2:=by
 refine⟨(t.x q (fun k e c=>c.elim id (fun m=>by omega))).x l (fun k e c=>c.elim id (fun m=>by omega)),?_⟩;have m:eY a (k+1) (all.drop p)=none:=by rw[eY,r];simp only;rw[i]
 have c:=uS m (n-(k+1));rw[show k+1+(n-(k+1))=n by omega]at c;rw[j,c]
end
theorem UZ(F:Nat->Prop)(b:Nat)(all:List UInt8)(B5 B6 X1 X2:Nat)(p:Nat)(M:Int)(w:World)(h:Nt F b all B5 B6 X1 X2 p w)(t:M<=1000):
  Calls prog 88 #[.func (.func 148) #[] #[rv X1],rm M,.func (.func 89) #[] #[rv B5,rv B6]] w (Gm mF 5 aX.cells M F b all B5 B6 X1 X2 p w):=by
 have a:(prog.info? 64).map (fun i=>(i.zero,i.size,i.bytes))=some (some (.agg #[rm 0,rm 0,rm 0,rm 0,rm 0]),5,40):=by kernel_rfl
 obtain⟨O,G,y,A,z⟩:=eh a;clear a;have c:=fM w (td 0);have a:=h.box #[rm 0] 3;have B:=h.blt;go_enter func88,ntmps88;go_wp2_with fail
 go_step3
 go_upto_region 2 with fail;generalize w.alloc (td 0)=d at c a⊢;obtain⟨H,d⟩:=rk (w.heap.size);rw[d]at a B⊢;have C:=al d;have J:=al c;have P:=al a;clear c a h d;go_wp2_with fail;refine(rB P.o [0] _ rfl 1 rfl (by simp) (by intro o g;simp at g;subst g;decide)).m ?_;rintro e h c;have f:=(oB J.o (fun k=>k=b)).x c.1 (fun k I a=>a.elim id (fun e=>absurd e (by have:=C.o;omega)));have s:=al f;have E:=sJ c;clear c;rcases E with⟨rfl,a,T,R,d⟩|⟨mk,j,rfl,o,a,d⟩
 ·have l:=al (show sK mF M (all.drop p)=none by simp only[sK,a]);clear d a f;go_wp2_with fail;rw[gx]
  go_ret2
  refine⟨s.o,?_⟩;rw[l.o];exact rfl
 ·have u:h.cell? ⟨H,0,none⟩=some (rm (mk:Int)):=by have:=d.2.2.1;simp[World.cell?,this]
  by_cases q:M<(mk:Int)
  ·have l:=al (show sK mF M (all.drop p)=none by simp only[sK,a];rw[fb (by omega)]);clear d a f;go_wp2_with fail;rw[gx]
   go_ret2
   refine⟨s.o,?_⟩;rw[l.o];exact rfl
  ·have m:=al (show(mk:Int)<=M by omega);have D:=al d.Zc;have r:=al (show sK mF M (all.drop p)=eY mF mk (all.drop j) by simp only[sK,a];rw[ff (by omega)];simp);clear d a
   have l: ∀a:World,(Instr.makeSlice 65 (rm (mk:Int)) (rm (mk:Int))).run prog a=.ok (.slice (some ⟨a.heap.size,0,none⟩) mk mk) (a.alloc (.cells (madeCells #[rm 0,rm 0,rm 0,rm 0,rm 0] (mk*5)) 64)):=fun a=>by have:=run_make (P:=prog) a 65 64 O _ (by kernel_rfl) G y .i64 .i64 (mk:Int) (mk:Int) (by omega) (by omega) (by rw[z];have:=m.o;have:=t;omega) (by have:=m.o;have:=t;omega);rw[A]at this;simp only[iS]at this;exact this
   have N:mk<=1000:=by have:=m.o;omega
   have a:=D.o.box (madeCells #[rm 0,rm 0,rm 0,rm 0,rm 0] (mk*5)) 64;have n:=f.alloc (.cells (madeCells #[rm 0,rm 0,rm 0,rm 0,rm 0] (mk*5)) 64);have d:w.heap.size<=h.heap.size:=f.size
   skip
   clear f;go_wp2_with fail;clear l u o;generalize h.alloc (.cells (madeCells #[rm 0,rm 0,rm 0,rm 0,rm 0] (mk*5)) 64)=l at a n⊢;obtain⟨Q,o⟩:=rk (h.heap.size);rw[o]at a d⊢;have K:=al (show uT mF 5 aX.cells F b all B5 B6 X1 X2 Q 64 j mk l 0 l from⟨oE _ _,[],j,_,rfl,rfl,by simp[madeCells],a,by simp⟩);have f:=AD n d;clear a n d o q
   go_step3
   go_wp2_with fail
   go_loopw [10,25] (fun e i wr=>e=.bool true/\ ∃k:Nat,k<=mk/\i=rm (k:Int)/\uT mF 5 aX.cells F b all B5 B6 X1 X2 Q 64 j mk l k wr) (fun _ i _=>mk-(intOf i).toNat)
   case atStart=>exact⟨rfl,0,dq _,rfl,K.o⟩
   case round=>
    obtain⟨rfl,k,I,rfl,l⟩:=hrel;by_cases n:k<mk
    ·skip
     obtain⟨g,S,u,cs,q,o,v,c,d⟩:=l;have x:=Y5 F b all B5 B6 X1 X2 Q 64 u (k*5) cs wr c (by omega);have a:=AM g q o v d;have L:=al x;clear g q o v d c x;go_wp2_with fail;refine L.o.m ?_;rintro e v ⟨g,d⟩
     cases hg3:mF (all.drop u)with
     |none=>
      rw[hg3]at d;obtain⟨rfl,_⟩:=d;have c:=AD g hg3;clear g hg3;go_wp2_with fail;rw[gx]
      go_ret2
      exact yU a.o.1 a.o.2.1 n c.o.1 c.o.2 r.o f.o.1 f.o.2
     |some o=>
      obtain⟨U,q⟩:=o;rw[hg3]at d;obtain⟨rfl,x,rfl,o⟩:=d;have c:=AF g hg3 o;clear g hg3 o;go_wp2_with fail;go_roundw
      case rel=>exact⟨rfl,k+1,by omega,by go_num,uj Rl a.o.1 a.o.2.1 a.o.d.1 a.o.t.1 a.o.q n c.o.1 c.o.2.1 c.o.d⟩
      case measure=>simp[intOf];omega
    ·obtain rfl:k=mk:=by omega
     have a:=al l;clear l;go_wp2_with fail;rw[gx]
     go_ret2
     exact yT N a.o r.o f.o.1 f.o.2
theorem Rp(F:Nat->Prop)(b:Nat)(all:List UInt8)(B5 B6 X1 X2:Nat)(p:Nat)(M:Int)(w:World)(h:Nt F b all B5 B6 X1 X2 p w)(t:M<=1000):
  Calls prog 90 #[.func (.func 148) #[] #[rv X1],rm M,.func (.func 91) #[] #[rv B6]] w (Gm mR 1 Gl M F b all B5 B6 X1 X2 p w):=by
 have a:(prog.info? 3).map (fun i=>(i.zero,i.size,i.bytes))=some (some (rm 0),1,8):=by kernel_rfl
 obtain⟨O,G,y,A,z⟩:=eh a;clear a;have c:=fM w (td 0);have a:=h.box #[rm 0] 3;have B:=h.blt;go_enter func90,ntmps90;go_wp2_with fail
 go_step3
 go_upto_region 2 with fail;generalize w.alloc (td 0)=d at c a⊢;obtain⟨H,d⟩:=rk (w.heap.size);rw[d]at a B⊢;have C:=al d;have J:=al c;have P:=al a;clear c a h d;go_wp2_with fail;refine(rB P.o [0] _ rfl 1 rfl (by simp) (by intro o g;simp at g;subst g;decide)).m ?_;rintro e h c;have f:=(oB J.o (fun k=>k=b)).x c.1 (fun k I a=>a.elim id (fun e=>absurd e (by have:=C.o;omega)));have s:=al f;have E:=sJ c;clear c;rcases E with⟨rfl,a,T,R,d⟩|⟨mk,j,rfl,o,a,d⟩
 ·have l:=al (show sK mR M (all.drop p)=none by simp only[sK,a]);clear d a f;go_wp2_with fail;rw[gx]
  go_ret2
  refine⟨s.o,?_⟩;rw[l.o];exact rfl
 ·have u:h.cell? ⟨H,0,none⟩=some (rm (mk:Int)):=by have:=d.2.2.1;simp[World.cell?,this]
  by_cases q:M<(mk:Int)
  ·have l:=al (show sK mR M (all.drop p)=none by simp only[sK,a];rw[fb (by omega)]);clear d a f;go_wp2_with fail;rw[gx]
   go_ret2
   refine⟨s.o,?_⟩;rw[l.o];exact rfl
  ·have m:=al (show(mk:Int)<=M by omega);have D:=al d.Zc;have r:=al (show sK mR M (all.drop p)=eY mR mk (all.drop j) by simp only[sK,a];rw[ff (by omega)];simp);clear d a
   have l: ∀a:World,(Instr.makeSlice 94 (rm (mk:Int)) (rm (mk:Int))).run prog a=.ok (.slice (some ⟨a.heap.size,0,none⟩) mk mk) (a.alloc (.cells (madeCells #[rm 0] mk) 3)):=fun a=>by have:=run_make (P:=prog) a 94 3 O _ (by kernel_rfl) G y .i64 .i64 (mk:Int) (mk:Int) (by omega) (by omega) (by rw[z];have:=m.o;have:=t;omega) (by have:=m.o;have:=t;omega);rw[A]at this;simp only[iS,Nat.mul_one]at this;exact this
   have N:mk<=1000:=by have:=m.o;omega
   have a:=D.o.box (madeCells #[rm 0] mk) 3;have n:=f.alloc (.cells (madeCells #[rm 0] mk) 3);have d:w.heap.size<=h.heap.size:=f.size
   skip
   clear f;go_wp2_with fail;clear l u o;generalize h.alloc (.cells (madeCells #[rm 0] mk) 3)=l at a n⊢;obtain⟨Q,o⟩:=rk (h.heap.size);rw[o]at a d⊢;have K:=al (show uT mR 1 Gl F b all B5 B6 X1 X2 Q 3 j mk l 0 l from⟨oE _ _,[],j,_,rfl,rfl,by simp[madeCells],a,by simp⟩);have f:=AD n d;clear a n d o q
   go_step3
   go_wp2_with fail
   go_loopw [10,25] (fun e i wr=>e=.bool true/\ ∃k:Nat,k<=mk/\i=rm (k:Int)/\uT mR 1 Gl F b all B5 B6 X1 X2 Q 3 j mk l k wr) (fun _ i _=>mk-(intOf i).toNat)
   case atStart=>exact⟨rfl,0,dq _,rfl,K.o⟩
   case round=>
    obtain⟨rfl,k,I,rfl,l⟩:=hrel;by_cases n:k<mk
    ·skip
     obtain⟨g,S,u,cs,q,o,v,c,d⟩:=l;have x:=one_num F b all B5 B6 X1 X2 Q 3 u k cs wr c (by omega);have a:=AM g q o v d;have L:=al x;clear g q o v d c x;go_wp2_with fail;refine L.o.m ?_;rintro e v ⟨g,d⟩
     cases hg3:mR (all.drop u)with
     |none=>
      rw[hg3]at d;obtain⟨rfl,_⟩:=d;have c:=AD g hg3;clear g hg3;go_wp2_with fail;rw[gx]
      go_ret2
      exact yU a.o.1 a.o.2.1 n c.o.1 c.o.2 r.o f.o.1 f.o.2
     |some o=>
      obtain⟨U,q⟩:=o;rw[hg3]at d;obtain⟨rfl,x,rfl,o⟩:=d;have c:=AF g hg3 o;clear g hg3 o;go_wp2_with fail;go_roundw
      case rel=>exact⟨rfl,k+1,by omega,by go_num,uj Rk a.o.1 a.o.2.1 a.o.d.1 a.o.t.1 a.o.q n c.o.1 c.o.2.1 (by rw[Nat.mul_one];exact c.o.d)⟩
      case measure=>simp[intOf];omega
    ·obtain rfl:k=mk:=by omega
     have a:=al l;clear l;go_wp2_with fail;rw[gx]
     go_ret2
     exact yT N a.o r.o f.o.1 f.o.2
theorem U1(F:Nat->Prop)(b:Nat)(all:List UInt8)(B5 B6 X1 X2 c:Nat)(p:Nat)(M:Int)(w:World)(h:Nt F b all B5 B6 X1 X2 p w)(x:M<=1000)
  (d:w.cell? ⟨c,0,none⟩=some (rv b)) (g:c≠b):
  Calls prog 92 #[.func (.func 148) #[] #[rv X1],rm M,.func (.func 93) #[] #[rv B5,rv B6,rv c]] w (Gm jO 5 Cl.cells M F b all B5 B6 X1 X2 p w):=by
 have a:(prog.info? 68).map (fun i=>(i.zero,i.size,i.bytes))=some (some (.agg #[.bool false,rm 0,.string ⟨#[]⟩,rm 0,rm 0]),5,48):=by kernel_rfl
 obtain⟨S,K,C,E,D⟩:=eh a;clear a;have f:=fM w (td 0);have a:=h.box #[rm 0] 3;have G:=h.blt;have n:=AF d g (aq _ _ d);clear d g;go_enter func92,ntmps92;go_wp2_with fail
 go_step3
 go_upto_region 2 with fail;generalize w.alloc (td 0)=d at f a⊢;obtain⟨L,d⟩:=rk (w.heap.size);rw[d]at a G⊢;have H:=al d;have O:=al f;have T:=al a;clear f a h d;go_wp2_with fail;refine(rB T.o [0] _ rfl 1 rfl (by simp) (by intro o j;simp at j;subst j;decide)).m ?_;rintro e f g;have a:=(oB O.o (fun o=>o=b)).x g.1 (fun o N d=>d.elim id (fun e=>absurd e (by have:=H.o;omega)));have v:=al a;have J:=sJ g;clear g;rcases J with⟨rfl,d,X,V,h⟩|⟨mk,k,rfl,s,d,h⟩
 ·have l:=al (show sK jO M (all.drop p)=none by simp only[sK,d]);clear h d a;go_wp2_with fail;rw[gx]
  go_ret2
  refine⟨v.o,?_⟩;rw[l.o];exact rfl
 ·have y:f.cell? ⟨L,0,none⟩=some (rm (mk:Int)):=by have:=h.2.2.1;simp[World.cell?,this]
  by_cases t:M<(mk:Int)
  ·have l:=al (show sK jO M (all.drop p)=none by simp only[sK,d];rw[fb (by omega)]);clear h d a;go_wp2_with fail;rw[gx]
   go_ret2
   refine⟨v.o,?_⟩;rw[l.o];exact rfl
  ·have q:=al (show(mk:Int)<=M by omega);have I:=al h.Zc;have u:=al (show sK jO M (all.drop p)=eY jO mk (all.drop k) by simp only[sK,d];rw[ff (by omega)];simp);clear h d
   have l: ∀d:World,(Instr.makeSlice 27 (rm (mk:Int)) (rm (mk:Int))).run prog d=.ok (.slice (some ⟨d.heap.size,0,none⟩) mk mk) (d.alloc (.cells (madeCells #[.bool false,rm 0,.string ⟨#[]⟩,rm 0,rm 0] (mk*5)) 68)):=fun d=>by have:=run_make (P:=prog) d 27 68 S _ (by kernel_rfl) K C .i64 .i64 (mk:Int) (mk:Int) (by omega) (by omega) (by rw[D];have:=q.o;have:=x;omega) (by have:=q.o;have:=x;omega);rw[E]at this;simp only[iS]at this;exact this
   have R:mk<=1000:=by have:=q.o;omega
   have h:=I.o.box (madeCells #[.bool false,rm 0,.string ⟨#[]⟩,rm 0,rm 0] (mk*5)) 68;have r:=a.alloc (.cells (madeCells #[.bool false,rm 0,.string ⟨#[]⟩,rm 0,rm 0] (mk*5)) 68);have m:w.heap.size<=f.heap.size:=a.size;have d:=AF ((((a.alloc (.cells (madeCells #[.bool false,rm 0,.string ⟨#[]⟩,rm 0,rm 0] (mk*5)) 68)).cell (p:=⟨c,0,none⟩) n.o.1 n.o.2.1)):(f.alloc (.cells (madeCells #[.bool false,rm 0,.string ⟨#[]⟩,rm 0,rm 0] (mk*5)) 68)).cell? ⟨c,0,none⟩=_) n.o.2.1 (show c≠f.heap.size by have:=a.size;have:=n.o.d;omega);clear a;go_wp2_with fail;clear l y s;generalize f.alloc (.cells (madeCells #[.bool false,rm 0,.string ⟨#[]⟩,rm 0,rm 0] (mk*5)) 68)=a at h r d⊢;obtain⟨U,s⟩:=rk (f.heap.size);rw[s]at h m d⊢;have P:=al (show uT jO 5 Cl.cells F b all B5 B6 X1 X2 U 68 k mk a 0 a from⟨oE _ _,[],k,_,rfl,rfl,by simp[madeCells],h,by simp⟩);have l:=AD r m;clear h r m s t
   go_step3
   go_wp2_with fail
   go_loopw [10,25] (fun e i wr=>e=.bool true/\ ∃o:Nat,o<=mk/\i=rm (o:Int)/\uT jO 5 Cl.cells F b all B5 B6 X1 X2 U 68 k mk a o wr) (fun _ i _=>mk-(intOf i).toNat)
   case atStart=>exact⟨rfl,0,dq _,rfl,P.o⟩
   case round=>
    obtain⟨rfl,o,N,rfl,m⟩:=hrel;by_cases r:o<mk
    ·have B:=m.1.cell (p:=⟨c,0,none⟩) d.o.1 (fun e=>e.elim d.o.2.1 d.o.d);obtain⟨j,W,y,cs,t,s,z,g,h⟩:=m;have A:=Y7 F b all B5 B6 X1 X2 U c 68 y (o*5) cs wr g (by omega) B ⟨d.o.2.1,d.o.d⟩;have a:=AM j t s z h;have Q:=al A;clear j t s z h g A;go_wp2_with fail;refine Q.o.m ?_;rintro e z ⟨j,h⟩
     cases hg3:jO (all.drop y)with
     |none=>
      rw[hg3]at h;obtain⟨rfl,_⟩:=h;have g:=AD j hg3;clear j hg3;go_wp2_with fail;rw[gx]
      go_ret2
      exact yU a.o.1 a.o.2.1 r g.o.1 g.o.2 u.o l.o.1 l.o.2
     |some s=>
      obtain⟨Y,t⟩:=s;rw[hg3]at h;obtain⟨rfl,A,rfl,s⟩:=h;have g:=AF j hg3 s;clear j hg3 s;go_wp2_with fail;go_roundw
      case rel=>exact⟨rfl,o+1,by omega,by go_num,uj Rm a.o.1 a.o.2.1 a.o.d.1 a.o.t.1 a.o.q r g.o.1 g.o.2.1 g.o.d⟩
      case measure=>simp[intOf];omega
    ·obtain rfl:o=mk:=by omega
     have a:=al m;clear m;go_wp2_with fail;rw[gx]
     go_ret2
     exact yT R a.o u.o l.o.1 l.o.2
end Go.Proofs.YtehccbdajiiaaaaGreatDoor
