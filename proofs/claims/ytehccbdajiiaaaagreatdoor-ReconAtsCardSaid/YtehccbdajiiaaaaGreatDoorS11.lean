import Derived.Test.YtehccbdajiiaaaaGreatDoorS10
import Derived.Laws.StructEq
import Derived.ScopeJumps
namespace Go.Proofs.YtehccbdajiiaaaaGreatDoor
open Go.Proofs.Tryz
set_option maxRecDepth 100000
set_option maxHeartbeats 16000000
open Go.RowKit
theorem acx(w:World)(d:Nat)(a f c b h g e i:Int):(Op.equalIn (d+1+1) 109 (.agg #[rm a,rm f,rm c,rm b]) (.agg #[rm h,rm g,rm e,rm i])).run prog w=.ok (decide (a=h/\f=g/\c=e/\b=i)) w:=by
 rw[Op.equalIn];simp only[Sem.run_bind,run_underlying underlying109,Result.andThen_ok];have k:(sizeOf 3).run prog w=.ok 1 w:=by kernel_rfl
 rw[k];simp only[Result.andThen_ok];rw[Std.Legacy.Range.forIn_eq_forIn_range'];simp only[Std.Legacy.Range.size,Nat.sub_zero,Nat.add_one_sub_one,Nat.div_one,show List.range' 0 4=[0,1,2,3]from by decide];simp[go_sem,underlying3];by_cases m:a=h<;>by_cases n:f=g<;>by_cases j:c=e<;>by_cases l:b=i<;>simp[m,n,j,l]
theorem eq4(w:World)(a e b c g f d h:Int):(Op.equalIn 10000 109 (.agg #[rm a,rm e,rm b,rm c]) (.agg #[rm g,rm f,rm d,rm h])).run prog w=.ok (decide (a=g/\e=f/\b=d/\c=h)) w:=acx w 9998 a e b c g f d h
theorem Tryz.Ph:prog.eqGuardType prog.depth 109=false:=by kernel_rfl

theorem aaC(x y:Cl)(w:World):(Op.equalIn 10000 68 (.agg #[.bool x.wr,rm x.aO,r7 x.key,rm x.lo,rm x.hi]) (.agg #[.bool y.wr,rm y.aO,r7 y.key,rm y.lo,rm y.hi])).run prog w=.ok (decide (x=y)) w:=by
 have c:prog.stoodInHeld 68=false:=by kernel_rfl
 have e:prog.underlying 68=some (.struct (prog.fieldsOf 68)):=by unfold Program.fieldsOf;rw[underlying68]
 obtain⟨k,n,l,i,j⟩:=x;obtain⟨q,h,g,o,f⟩:=y;rw[run_equalIn_agg w 9999 68 _ _ e c];unfold Program.fieldsOf;rw[underlying68];simp[Op.eqFields,go_sem,underlying4,underlying3,underlying9];by_cases p:k=q<;>by_cases a:n=h<;>by_cases d:l=g<;>by_cases b:i=o<;>by_cases m:j=f<;>simp[p,a,d,b,m]
theorem Tryz.Ku:prog.eqGuardType prog.depth 68=false:=by kernel_rfl
theorem Pj(w:World)(F:Nat->Prop)(v:Value)(l:List Cl)(h:eI w F v l)(q:l.length<=1000000):
  Calls prog 45 #[v] w (CJ l w):=by
 obtain⟨k,c,g,f,i⟩:=eh Tryz.tI;obtain⟨A,n,rfl,o,p⟩:=h.slice;have e:=fun w=>Lib.run_eql_slice_nil (P:=prog) w 27 68 A l.length n 0 0 underlying27;rcases A with _|r
 ·have:l=[]:=by
   cases l with
   |nil=>rfl
   |cons x a=>obtain⟨_,_,a,_⟩:=h.at_ (k:=0) rfl;cases a
  subst this;clear h;simp only[lp]at e;go_enter func45,ntmps45
  go_wp2
  go_ret
  exact⟨none,0,rfl,dy _ _ _ _,bd _ _⟩
 ·have b:eI (w.alloc (.cells #[] 68)) F (.slice (some r) l.length n) l:=bI.below h ((bd _ _).alloc (b8 _) _);have a:=World.ownsRow_made (e:=68) (base:=w.heap.size) (size:=5) w #[] 0 (b8 _) (by simp[maxLen]) rfl;have d:=AD b a;have j:=al c;clear b a h c;go_enter func45,ntmps45;go_wp2_with (at_builtin;go_loud (refine eA _ rfl _ _ 27 rfl w.heap.size 68 k _ 5 48 underlying27 j.o g f i rfl (by decide) _ 0 [] rfl d.o.2 F _ (l.map Cl.cells) rfl d.o.1 (dK _) (qT _) (by simp;omega) (by simp;unfold maxLen;omega) (by simp) ?_);intro c h a b _);go_ret
  simp only[ie,fj,fa]at a;obtain⟨m,h,c⟩:=ai a;rw[c]at a⊢;exact⟨m,h,rfl,a,((bd _ _).alloc (b8 _) _).grown b (by simp) (fun s b=>by have a:some w.heap.size=some s:=b;injection a with a;omega)⟩
theorem tO(w:World)(F:Nat->Prop)(v:Value)(l:List Cl)(h:eI w F v l)(f:l.length<=1000000):
  Calls prog 20 #[.agg #[v]] w (CJ l w):=by
 obtain⟨A,n,rfl,i,j⟩:=h.slice;have H:=al h;clear h;go_enter func20,ntmps20;go_wp2_with fail;refine(Pj _ F _ l (bI.below H.o ((bd _ _).alloc (b8 _) _)) f).m ?_;rintro m c ⟨h,e,rfl,a,d⟩;go_wp2_with fail;go_ret
 have b:Below w.heap.size w c:=((bd _ _).alloc (b8 _) _).x (d.m (by simp));exact⟨h,e,rfl,dI a (fun k g=>by have:=(a.lt k g).1;simp at this;omega),b⟩
-- EQ BEGIN
theorem Pk(w:World)(F G:Nat->Prop)(v R:Value)(a b:List Cl)(f:eI w F v a)(e:eI w G R b)(Q:a.length<=1000000):
  Calls prog 96 #[v,R] w (fJ (a=b) w):=by
 obtain⟨A,c,rfl,O,V⟩:=f.slice;obtain⟨B,d,rfl,P,S⟩:=e.slice;have J:=al f;have I:=al e;clear f e;by_cases t:a.length=b.length
 ·obtain⟨N,e⟩:=rk (a.length);have f:b.length=N:=by omega
  rw[e]at J Q O⊢;rw[f]at I P⊢;have r:=AD e f;clear e f t;go_enter func96,ntmps96;go_wp2
  go_loopw [13] (fun i e=> ∃k:Nat,k<=N/\i=rm (k:Int)/\a.take k=b.take k/\Below w.heap.size w e) (fun i _=>N-(intOf i).toNat)
  case atStart=>exact⟨0,dq _,rfl,by simp,bd _ _⟩
  case round=>
   obtain⟨k,hk,rfl,p,e⟩:=hrel;by_cases u:k<N
   ·obtain⟨M,g⟩: ∃M,a[k]?=some M:=⟨_,ao (by rw[r.o.1];exact u)⟩;obtain⟨L,l⟩: ∃L,b[k]?=some L:=⟨_,ao (by rw[r.o.2];exact u)⟩;obtain⟨i,n,rfl,Kt,q,C,D,x,K⟩:=J.o.at_ g;obtain⟨h,m,rfl,W,s,E,y,z,H⟩:=I.o.at_ l;have o:i<w.heap.size:=aq w _ q;have j:h<w.heap.size:=aq w _ s;have X:=(e.cell (p:=⟨i,n+k*5,none⟩) o).x q;have Y:=(e.cell (p:=⟨i,n+k*5+1,none⟩) o).x C;have Xy:=(e.cell (p:=⟨i,n+k*5+2,none⟩) o).x D;have ad:=(e.cell (p:=⟨i,n+k*5+3,none⟩) o).x x;have U:=(e.cell (p:=⟨i,n+k*5+4,none⟩) o).x K;have aa:=(e.cell (p:=⟨h,m+k*5,none⟩) j).x s;have am:=(e.cell (p:=⟨h,m+k*5+1,none⟩) j).x E;have ac:=(e.cell (p:=⟨h,m+k*5+2,none⟩) j).x y;have T:=(e.cell (p:=⟨h,m+k*5+3,none⟩) j).x z;have Z:=(e.cell (p:=⟨h,m+k*5+4,none⟩) j).x H;have f:=AI g l p e;clear q C D x K s E y z H g l p e;have q:=aaC M L;have x:=Tryz.Ku;by_cases g:M=L
    ·have l:decide (M=L)=true:=by simpa using g
     rw[l]at q;have s:=al g;clear l g;go_wp2;go_quiet(fail);clear q x;go_wp2;go_roundw
     case rel=>exact⟨k+1,by omega,by go_num,by rw[ej f.o.1,ej f.o.2.1,f.o.d.1,s.o],below_drewN f.o.t _⟩
     case measure=>simp[intOf];omega
    ·have l:decide (M=L)=false:=by simpa using g
     rw[l]at q;have s:=al g;clear l g;go_wp2;go_quiet(fail);clear q x;go_wp2;go_ret
     exact fJ.no (fun l=>s.o (by have g:=f.o.1;rw[l,f.o.2.1]at g;injection g with g;exact g.symm)) (below_drewN f.o.t _)
   ·have g:k=N:=by omega
    subst g;have f:=AD p e;clear p e;go_wp2;go_ret
    refine fJ.yes ?_ f.o.2;have:=f.o.1;rw[fm (by rw[r.o.1];exact Nat.le_refl _),fm (by rw[r.o.2];exact Nat.le_refl _)]at this;exact this
 ·have g:((a.length:Int)==(b.length:Int))=false:=by simp;omega
  have f:((a.length:Int) !=(b.length:Int))=true:=by simp;omega
  have e:=al t;go_enter func96,ntmps96;go_wp2;go_ret
  exact fJ.no (fun l=>e.o (by rw[l])) (bd _ _)
theorem tP{w:World}{b:Nat}{v0 v1 v2 v3 v4:Value}{t:TypeId}(h:w.heap[b]?=some (.cells #[v0,v1,v2,v3,v4] t (0,0))):
  w.cell? ⟨b,0,none⟩=some v0/\w.cell? ⟨b,1,none⟩=some v1/\w.cell? ⟨b,2,none⟩=some v2/\w.cell? ⟨b,3,none⟩=some v3/\w.cell? ⟨b,4,none⟩=some v4:=by
 simp[World.cell?,h]
def covers(c d:Cl)(n:Int):Prop:=d.aO=c.aO/\d.key=c.key/\(c.wr=true->d.wr=true)/\d.lo<=n/\n<=d.hi
def Me(c:Cl)(l:List Cl):Prop:= ∀n,c.lo<=n->n<=c.hi-> ∃d∈l,covers c d n
def vq(w:World)(c:Cl)(l:List Cl)(fr:Int)(w':World):Prop:=
 Below w.heap.size w w'/\w'.heap[w.heap.size]?=some (sd c.wr c.aO c.key.toArray c.lo c.hi)/\
  c.lo<=fr/\fr<=c.hi/\ ∀n,c.lo<=n->n<fr-> ∃d∈l,covers c d n
theorem vq.start(w:World)(c:Cl)(l:List Cl)(a:c.lo<=c.hi):vq w c l c.lo (w.alloc (sd c.wr c.aO c.key.toArray c.lo c.hi)):=
 ⟨(bd _ _).alloc (b8 _) _,an _ _,eL _,a,fun n d b=>absurd b (by omega)⟩
theorem vq.box{w:World}{c:Cl}{l:List Cl}{fr:Int}{w':World}(h:vq w c l fr w'){o:Obj}:vq w c l fr (w'.alloc o):=
 ⟨h.1.alloc h.1.size _,by rw[Below.heap_alloc _ _ _ (Array.getElem?_eq_some_iff.1 h.2.1).1];exact h.2.1,h.2.2⟩
theorem vq.next{w:World}{c x:Cl}{l:List Cl}{fr:Int}{w':World}{k:Nat}{o:Obj}(h:vq w c l fr w')(b:l[k]?=some x)(f:x.aO=c.aO)(a:x.key=c.key)(d:c.wr=true->x.wr=true)(g:x.lo<=fr)(i:fr<=x.hi)(j:x.hi<c.hi):vq w c l (x.hi+1) (w'.alloc o):=by
 refine⟨h.box.1,h.box.2.1,by have:=h.2.2.1;omega,by omega,fun n m p=>?_⟩;by_cases e:n<fr
 ·exact h.2.2.2.2 n m e
 ·exact⟨x,db b,f,a,d,by omega,by omega⟩
-- COV BEGIN
theorem Ic(w:World)(F:Nat->Prop)(v:Value)(c:Cl)(l:List Cl)(h:eI w F v l)(hl:l.length<=1000000)(hc:c.lo<=c.hi)(cw:c.hi<=9223372036854775807)(aa: ∀B∈l,B.fits):
  Calls prog 116 #[.agg #[.bool c.wr,rm c.aO,r7 c.key,rm c.lo,rm c.hi],v] w (fJ (Me c l) w):=by
 obtain⟨A,cp,rfl,cv,cx⟩:=h.slice;have H:=al h;clear h;go_enter func116,ntmps116;go_wp2;refine wp_scope_jumps 0 (fun N w'=> ∃(e:Int) (u0 u3 u6 u7 u8 u9 b5 cb ZU b' a4 b9 bo a6 ad bh bx bc ca ac cd bi a5 am ba ap bv cc bn ce a9 b4 a8 bb a3 bp b1 bm b7 b0 a7 bk b6 b3 a0 br b2 a1 bl bf a2 bs:Value),N={tmps:= #[u0,.slice A l.length cp,rv w.heap.size,u3,.bool false,rm e,u6,u7,u8,u9,b5,cb,ZU,b',a4,b9,bo,a6,ad,bh,bx,bc,ca,ac,cd,bi,a5,am,ba,ap,bv,cc,bn,ce,a9,b4,a8,bb,a3,bp,b1,bm,b7,b0,a7,bk,b6,b3,a0,br,b2,a1,bl,bf,a2,bs],defers:=[]}/\vq w c l e w') (fun N _=>(c.hi-intOf (N.tmps.getD 5 undef)).toNat) rfl ?_ ?_
 ·obtain⟨e,Y⟩:=rk (c.lo);have J:=al (vq.start w c l hc);rw[Y]at J⊢;clear hc;have hc:e<=c.hi:=J.o.t.1;have cs:=al Y;clear Y;go_wp2
  go_step3
  go_wp2
  go_loopw [4,5,12] (fun X Z i wr=>X=.bool false/\Z=rm e/\ ∃k:Nat,k<=l.length/\i=rm (k:Int)/\(∀B∈l.take k,¬covers c B e)/\vq w c l e wr) (fun _ _ i _=>l.length-(intOf i).toNat)
  case atStart=>exact⟨rfl,rfl,0,dq _,rfl,by simp,J.o⟩
  case round=>
   obtain⟨rfl,rfl,k,hk,rfl,o,b⟩:=hrel
   rename World=>w3
   by_cases S:k<l.length
   ·obtain⟨x,s⟩: ∃x,l[k]?=some x:=⟨_,ao S⟩;obtain⟨M,P,rfl,uA,y,G,I,E,K⟩:=H.o.at_ s;have r:M<w.heap.size:=aq w _ y;have D:=(b.1.cell (p:=⟨M,P+k*5,none⟩) r).x y;have T:=(b.1.cell (p:=⟨M,P+k*5+1,none⟩) r).x G;have Xy:=(b.1.cell (p:=⟨M,P+k*5+2,none⟩) r).x I;have cr:=(b.1.cell (p:=⟨M,P+k*5+3,none⟩) r).x E;have ch:=(b.1.cell (p:=⟨M,P+k*5+4,none⟩) r).x K;obtain⟨u,q1,q2,q3,q4⟩:=tP b.2.1;have p:=aa x (db s);have ci:=b.1.size;have cj:w.heap.size<w3.heap.size:=(cq.1 b.2.1).1;have cm:=b.2.2.1;have cn:=b.2.2.2.1;have cf:=p.2.1.1;have co:=p.2.1.2;have cl:=p.2.2.1.1;have ck:=p.2.2.1.2;have a:=AF s o b;clear y G I E K s o b p
    have C: ¬covers c x e-> ∀B∈l.take (k+1),¬covers c B e:=by
     intro hn B g;rw[ej a.o.1]at g;rcases dr.1 g with g|g
     ·exact a.o.2.1 B g
     ·simp at g;subst g;exact hn
    have m:=al C;clear C;by_cases n:x.aO=c.aO
    ·rw[n]at T;by_cases q:x.key=c.key
     ·rw[q]at Xy;have f:=AD n q;clear n q
      cases hcw:c.wr with
      |true=>
       cases Mf:x.wr with
       |false=>
        rw[hcw]at u;rw[Mf]at D;have j:=AD hcw Mf;clear hcw Mf;go_wp2;go_roundw
        case rel=>exact⟨rfl,rfl,k+1,by omega,by go_num,m.o (fun d=>by have:=d.2.2.1 j.o.1;rw[j.o.2]at this;cases this),a.o.d.box⟩
        case measure=>simp[intOf];omega
       |true=>
        rw[hcw]at u;rw[Mf]at D;have j:=al (fun(_:c.wr=true)=>Mf);clear hcw Mf;by_cases g5:e<x.lo
        ·go_wp2;go_roundw
         case rel=>exact⟨rfl,rfl,k+1,by omega,by go_num,m.o (fun d=>by have:=d.2.2.2.1;omega),a.o.d.box⟩
         case measure=>simp[intOf];omega
        ·by_cases U:x.hi<e
         ·go_wp2;go_roundw
          case rel=>exact⟨rfl,rfl,k+1,by omega,by go_num,m.o (fun d=>by have:=d.2.2.2.2;omega),a.o.d.box⟩
          case measure=>simp[intOf];omega
         ·by_cases V:c.hi<=x.hi
          ·go_wp2;simp only[Exit.jump];go_ret
           refine fJ.yes (fun O t W=>?_) a.o.d.box.1;by_cases z:O<e
           ·exact a.o.q.d O t z
           ·exact⟨x,db a.o.1,f.o.1,f.o.2,j.o,by omega,by omega⟩
          ·go_wp2
           go_step3
           refine⟨rfl,x.hi+1,_,_,_,_,_,_,_,_,_,_,_,_,_,_,_,_,_,_,_,_,_,_,_,_,_,_,_,_,_,_,_,_,_,_,_,_,_,_,_,_,_,_,_,_,_,_,_,_,_,_,_,_,rfl,a.o.d.next a.o.1 f.o.1 f.o.2 j.o (by omega) (by omega) (by omega)⟩
      |false=>
       rw[hcw]at u;have j:=al (show c.wr=true->x.wr=true from fun h=>by rw[hcw]at h;cases h);clear hcw;by_cases g5:e<x.lo
       ·go_wp2;go_roundw
        case rel=>exact⟨rfl,rfl,k+1,by omega,by go_num,m.o (fun d=>by have:=d.2.2.2.1;omega),a.o.d.box⟩
        case measure=>simp[intOf];omega
       ·by_cases U:x.hi<e
        ·go_wp2;go_roundw
         case rel=>exact⟨rfl,rfl,k+1,by omega,by go_num,m.o (fun d=>by have:=d.2.2.2.2;omega),a.o.d.box⟩
         case measure=>simp[intOf];omega
        ·by_cases V:c.hi<=x.hi
         ·go_wp2;simp only[Exit.jump];go_ret
          refine fJ.yes (fun O t W=>?_) a.o.d.box.1;by_cases z:O<e
          ·exact a.o.q.d O t z
          ·exact⟨x,db a.o.1,f.o.1,f.o.2,j.o,by omega,by omega⟩
         ·go_wp2
          go_step3
          refine⟨rfl,x.hi+1,_,_,_,_,_,_,_,_,_,_,_,_,_,_,_,_,_,_,_,_,_,_,_,_,_,_,_,_,_,_,_,_,_,_,_,_,_,_,_,_,_,_,_,_,_,_,_,_,_,_,_,_,rfl,a.o.d.next a.o.1 f.o.1 f.o.2 j.o (by omega) (by omega) (by omega)⟩
     ·have g3:(x.key==c.key)=false:=by simpa using q
      have L:x.key.isEmpty=x.key.isEmpty:=rfl;clear L;have f:=al q;go_wp2;go_roundw
      case rel=>exact⟨rfl,rfl,k+1,by omega,by go_num,m.o (fun d=>f.o d.2.1),a.o.d.box⟩
      case measure=>simp[intOf];omega
    ·have g3:(x.aO==c.aO)=false:=by simpa using n
     have L:(x.aO !=c.aO)=true:=by simpa using n
     have f:=al n;clear n;go_wp2;go_roundw
     case rel=>exact⟨rfl,rfl,k+1,by omega,by go_num,m.o (fun d=>f.o d.1),a.o.d.box⟩
     case measure=>simp[intOf];omega
   ·have R:k=l.length:=by omega
    subst R;rw[gE]at o;have a:=AD o b;clear o b;go_wp2;simp only[Exit.jump];go_ret
    refine fJ.no (fun d=>?_) a.o.2.1;obtain⟨B,g,Q⟩:=d e a.o.t.1 a.o.q.1;exact a.o.1 B g Q
 ·rintro N w' ⟨e,u0,u3,u6,u7,u8,u9,b5,cb,ZU,b',a4,b9,bo,a6,ad,bh,bx,bc,ca,ac,cd,bi,a5,am,ba,ap,bv,cc,bn,ce,a9,b4,a8,bb,a3,bp,b1,bm,b7,b0,a7,bk,b6,b3,a0,br,b2,a1,bl,bf,a2,bs,rfl,b⟩;have J:=al b;clear b;go_wp2
  go_loopw [4,5,12] (fun X Z i wr=>X=.bool false/\Z=rm e/\ ∃k:Nat,k<=l.length/\i=rm (k:Int)/\(∀B∈l.take k,¬covers c B e)/\vq w c l e wr) (fun _ _ i _=>l.length-(intOf i).toNat)
  case atStart=>exact⟨rfl,rfl,0,dq _,rfl,by simp,J.o⟩
  case round=>
   obtain⟨rfl,rfl,k,hk,rfl,o,b⟩:=hrel
   rename World=>w3
   by_cases S:k<l.length
   ·obtain⟨x,s⟩: ∃x,l[k]?=some x:=⟨_,ao S⟩;obtain⟨M,P,rfl,uA,y,G,I,E,K⟩:=H.o.at_ s;have r:M<w.heap.size:=aq w _ y;have D:=(b.1.cell (p:=⟨M,P+k*5,none⟩) r).x y;have T:=(b.1.cell (p:=⟨M,P+k*5+1,none⟩) r).x G;have Xy:=(b.1.cell (p:=⟨M,P+k*5+2,none⟩) r).x I;have cr:=(b.1.cell (p:=⟨M,P+k*5+3,none⟩) r).x E;have ch:=(b.1.cell (p:=⟨M,P+k*5+4,none⟩) r).x K;obtain⟨u,q1,q2,q3,q4⟩:=tP b.2.1;have p:=aa x (db s);have ci:=b.1.size;have cj:w.heap.size<w3.heap.size:=(cq.1 b.2.1).1;have cm:=b.2.2.1;have cn:=b.2.2.2.1;have cf:=p.2.1.1;have co:=p.2.1.2;have cl:=p.2.2.1.1;have ck:=p.2.2.1.2;have a:=AF s o b;clear y G I E K s o b p
    have C: ¬covers c x e-> ∀B∈l.take (k+1),¬covers c B e:=by
     intro hn B g;rw[ej a.o.1]at g;rcases dr.1 g with g|g
     ·exact a.o.2.1 B g
     ·simp at g;subst g;exact hn
    have m:=al C;clear C;by_cases n:x.aO=c.aO
    ·rw[n]at T;by_cases q:x.key=c.key
     ·rw[q]at Xy;have f:=AD n q;clear n q
      cases hcw:c.wr with
      |true=>
       cases Mf:x.wr with
       |false=>
        rw[hcw]at u;rw[Mf]at D;have j:=AD hcw Mf;clear hcw Mf;go_wp2;go_roundw
        case rel=>exact⟨rfl,rfl,k+1,by omega,by go_num,m.o (fun d=>by have:=d.2.2.1 j.o.1;rw[j.o.2]at this;cases this),a.o.d.box⟩
        case measure=>simp[intOf];omega
       |true=>
        rw[hcw]at u;rw[Mf]at D;have j:=al (fun(_:c.wr=true)=>Mf);clear hcw Mf;by_cases g5:e<x.lo
        ·go_wp2;go_roundw
         case rel=>exact⟨rfl,rfl,k+1,by omega,by go_num,m.o (fun d=>by have:=d.2.2.2.1;omega),a.o.d.box⟩
         case measure=>simp[intOf];omega
        ·by_cases U:x.hi<e
         ·go_wp2;go_roundw
          case rel=>exact⟨rfl,rfl,k+1,by omega,by go_num,m.o (fun d=>by have:=d.2.2.2.2;omega),a.o.d.box⟩
          case measure=>simp[intOf];omega
         ·by_cases V:c.hi<=x.hi
          ·go_wp2;simp only[Exit.jump];go_ret
           refine fJ.yes (fun O t W=>?_) a.o.d.box.1;by_cases z:O<e
           ·exact a.o.q.d O t z
           ·exact⟨x,db a.o.1,f.o.1,f.o.2,j.o,by omega,by omega⟩
          ·go_wp2
           go_step3
           refine⟨rfl,⟨x.hi+1,_,_,_,_,_,_,_,_,_,_,_,_,_,_,_,_,_,_,_,_,_,_,_,_,_,_,_,_,_,_,_,_,_,_,_,_,_,_,_,_,_,_,_,_,_,_,_,_,_,_,_,_,rfl,a.o.d.next a.o.1 f.o.1 f.o.2 j.o (by omega) (by omega) (by omega)⟩,by simp[intOf];omega⟩
      |false=>
       rw[hcw]at u;have j:=al (show c.wr=true->x.wr=true from fun h=>by rw[hcw]at h;cases h);clear hcw;by_cases g5:e<x.lo
       ·go_wp2;go_roundw
        case rel=>exact⟨rfl,rfl,k+1,by omega,by go_num,m.o (fun d=>by have:=d.2.2.2.1;omega),a.o.d.box⟩
        case measure=>simp[intOf];omega
       ·by_cases U:x.hi<e
        ·go_wp2;go_roundw
         case rel=>exact⟨rfl,rfl,k+1,by omega,by go_num,m.o (fun d=>by have:=d.2.2.2.2;omega),a.o.d.box⟩
         case measure=>simp[intOf];omega
        ·by_cases V:c.hi<=x.hi
         ·go_wp2;simp only[Exit.jump];go_ret
          refine fJ.yes (fun O t W=>?_) a.o.d.box.1;by_cases z:O<e
          ·exact a.o.q.d O t z
          ·exact⟨x,db a.o.1,f.o.1,f.o.2,j.o,by omega,by omega⟩
         ·go_wp2
          go_step3
          refine⟨rfl,⟨x.hi+1,_,_,_,_,_,_,_,_,_,_,_,_,_,_,_,_,_,_,_,_,_,_,_,_,_,_,_,_,_,_,_,_,_,_,_,_,_,_,_,_,_,_,_,_,_,_,_,_,_,_,_,_,rfl,a.o.d.next a.o.1 f.o.1 f.o.2 j.o (by omega) (by omega) (by omega)⟩,by simp[intOf];omega⟩
     ·have g3:(x.key==c.key)=false:=by simpa using q
      have L:x.key.isEmpty=x.key.isEmpty:=rfl;clear L;have f:=al q;go_wp2;go_roundw
      case rel=>exact⟨rfl,rfl,k+1,by omega,by go_num,m.o (fun d=>f.o d.2.1),a.o.d.box⟩
      case measure=>simp[intOf];omega
    ·have g3:(x.aO==c.aO)=false:=by simpa using n
     have L:(x.aO !=c.aO)=true:=by simpa using n
     have f:=al n;clear n;go_wp2;go_roundw
     case rel=>exact⟨rfl,rfl,k+1,by omega,by go_num,m.o (fun d=>f.o d.1),a.o.d.box⟩
     case measure=>simp[intOf];omega
   ·have R:k=l.length:=by omega
    subst R;rw[gE]at o;have a:=AD o b;clear o b;go_wp2;simp only[Exit.jump];go_ret
    refine fJ.no (fun d=>?_) a.o.2.1;obtain⟨B,g,Q⟩:=d e a.o.t.1 a.o.q.1;exact a.o.1 B g Q
-- COV END
def iC(a b:List Cl):Prop:= ∀c∈a,Me c b
def Two(w:World)(v u:Value)(w':World):Prop:=Below w.heap.size w w'/\w'.heap[w.heap.size]?=some (.cells #[v] 37 (0,0))/\w'.heap[w.heap.size+1]?=some (.cells #[u] 37 (0,0))
theorem Two.start(w:World)(v u:Value):Two w v u ((w.alloc (.cells #[v] 37)).alloc (.cells #[u] 37)):=by
 refine⟨((bd _ _).alloc (b8 _) _).alloc (by simp) _,?_,?_⟩
 ·rw[Below.heap_alloc _ _ _ (by simp)];exact an _ _
 ·have e:w.heap.size+1=(w.alloc (.cells #[v] 37)).heap.size:=by simp
  rw[e];exact an _ _
theorem Two.below{w w1 w2:World}{v u:Value}(h:Two w v u w1)(a:Below w1.heap.size w1 w2):Two w v u w2:=by
 refine⟨h.1.x (a.m h.1.size),?_,?_⟩
 ·rw[a.block _ (Array.getElem?_eq_some_iff.1 h.2.1).1];exact h.2.1
 ·rw[a.block _ (Array.getElem?_eq_some_iff.1 h.2.2).1];exact h.2.2
theorem Two.alloc{w w1:World}{v u:Value}(h:Two w v u w1)(o:Obj):Two w v u (w1.alloc o):=h.below ((bd _ _).alloc (b8 _) _)
theorem Mg(w:World)(F G:Nat->Prop)(v u:Value)(a b:List Cl)(ha:eI w F v a)(hb:eI w G u b)(Ss:a.length<=1000000)(hlb:b.length<=1000000)(hpa: ∀c∈a,c.lo<=c.hi)(DU: ∀c∈a,c.fits)(hfb: ∀c∈b,c.fits):
  Calls prog 64 #[.agg #[v],.agg #[u]] w (fJ (iC a b) w):=by
 obtain⟨A,c,rfl,hnc,hcm⟩:=ha.slice;obtain⟨B,d,rfl,hnd,hdm⟩:=hb.slice;have H:=AF ha hb (Two.start w (.slice A a.length c) (.slice B b.length d));clear ha hb;go_enter func64,ntmps64;go_wp2_with fail
 go_loopw [10] (fun i wr=> ∃k:Nat,k<=a.length/\i=rm (k:Int)/\(∀c∈a.take k,Me c b)/\Two w (.slice A a.length c) (.slice B b.length d) wr) (fun i _=>a.length-(intOf i).toNat)
 case atStart=>exact⟨0,dq _,rfl,by simp,H.o.d⟩
 case round=>
  obtain⟨k,hk,rfl,hal,ht⟩:=hrel;by_cases hlt:k<a.length
  ·obtain⟨x,hx⟩: ∃x,a[k]?=some x:=⟨_,ao hlt⟩;obtain⟨b1,o1,rfl,Kt,c0,c1,c2,c3,c4⟩:=H.o.1.at_ hx;have l1:b1<w.heap.size:=aq w _ c0;have c0':=(ht.1.cell (p:=⟨b1,o1+k*5,none⟩) l1).x c0;have c1':=(ht.1.cell (p:=⟨b1,o1+k*5+1,none⟩) l1).x c1;have Xy:=(ht.1.cell (p:=⟨b1,o1+k*5+2,none⟩) l1).x c2;have c3':=(ht.1.cell (p:=⟨b1,o1+k*5+3,none⟩) l1).x c3;have c4':=(ht.1.cell (p:=⟨b1,o1+k*5+4,none⟩) l1).x c4;have q1:=aL ht.2.2;have hsz:w.heap.size+1<wr.heap.size:=(cq.1 ht.2.2).1;have hmx:=db hx;have hbl:Below w.heap.size w (wr.alloc (sd x.wr x.aO x.key.toArray x.lo x.hi)):=(ht.alloc _).1;have HX:=AM hx hal ht hmx hbl;clear c0 c1 c2 c3 c4 hx hal ht hmx hbl;go_wp2_with fail;refine(Ic _ G _ x b (bI.below H.o.2.1 HX.o.q) hlb (hpa x HX.o.t.1) (DU x HX.o.t.1).2.2.1.2 hfb).m ?_;rintro e w2 ⟨r,hr,rfl,hb2⟩;have ht2:=(HX.o.d.1.alloc _).below hb2
   cases r with
   |true=>
    have HT:=AD (hr.1 rfl) ht2;clear hr ht2 hb2;go_wp2_with fail;go_roundw
    case rel=>
     refine⟨k+1,by omega,by go_num,?_,HT.o.2⟩;intro c hc;rw[ej HX.o.1]at hc;rcases dr.1 hc with hc|hc
     ·exact HX.o.2.1 c hc
     ·simp at hc;subst hc;exact HT.o.1
    case measure=>simp[intOf];omega
   |false=>
    have hnc: ¬Me x b:=fun h=>by have:=hr.2 h;cases this
    have HT:=AD hnc ht2;clear hr ht2 hb2 hnc;go_wp2_with fail;go_ret
    exact fJ.no (fun hh=>HT.o.1 (hh x HX.o.t.1)) HT.o.2.1
  ·have hkl:k=a.length:=by omega
   subst hkl;rw[gE]at hal;have HX:=AD hal ht;clear hal ht;go_wp2_with fail;go_ret
   exact fJ.yes HX.o.1 HX.o.2.1

theorem aaE(a d b f e c:Int)(w:World):(Op.equalIn 10000 24 (.agg #[rm a,rm d,rm b]) (.agg #[rm f,rm e,rm c])).run prog w=.ok (decide (a=f/\d=e/\b=c)) w:=by
 have h:prog.stoodInHeld 24=false:=by kernel_rfl
 have j:prog.underlying 24=some (.struct (prog.fieldsOf 24)):=by unfold Program.fieldsOf;rw[underlying24]
 rw[run_equalIn_agg w 9999 24 _ _ j h];unfold Program.fieldsOf;rw[underlying24];simp[Op.eqFields,go_sem,underlying3];by_cases k:a=f<;>by_cases g:d=e<;>by_cases i:b=c<;>simp[k,g,i]
theorem Tryz.Pm:prog.eqGuardType prog.depth 24=false:=by kernel_rfl
theorem Kv(a d b f e c:Int)(w:World):(Op.equalIn 10000 50 (.agg #[rm a,rm d,rm b]) (.agg #[rm f,rm e,rm c])).run prog w=.ok (decide (a=f/\d=e/\b=c)) w:=by
 have h:prog.stoodInHeld 50=false:=by kernel_rfl
 have j:prog.underlying 50=some (.struct (prog.fieldsOf 50)):=by unfold Program.fieldsOf;rw[underlying50]
 rw[run_equalIn_agg w 9999 50 _ _ j h];unfold Program.fieldsOf;rw[underlying50];simp[Op.eqFields,go_sem,underlying3];by_cases k:a=f<;>by_cases g:d=e<;>by_cases i:b=c<;>simp[k,g,i]
theorem Tryz.rV:prog.eqGuardType prog.depth 50=false:=by kernel_rfl
theorem TH:fQ 0 0 0=23:=by decide
theorem EX(w:World)(most n f:Int):Calls prog 32 #[gX most n f] w fun j a=>j=.returned (rm (fQ most n f))/\Below w.heap.size w a:=by
 unfold gX;obtain⟨a,b⟩:=rj w (sn most n f);have c:=aaE most n f 0 0 0;have i:=Tryz.Pm;go_enter func32,ntmps32;go_upto_region 1 with fail;generalize w.alloc (sn most n f)=d at a b⊢;obtain⟨R,g⟩:=rk (w.heap.size);rw[g]at b⊢;have e:=AD g a;have m:d.cell? ⟨R,0,none⟩=some (rm most):=by simp[World.cell?,b]
 have l:d.cell? ⟨R,1,none⟩=some (rm n):=by simp[World.cell?,b]
 have k:d.cell? ⟨R,2,none⟩=some (rm f):=by simp[World.cell?,b]
 clear a g;by_cases h:most=0/\n=0/\f=0
 ·have a:decide (most=0/\n=0/\f=0)=true:=by simpa using h
  rw[a]at c;have H:=al (show fQ most n f=23 by obtain⟨rfl,rfl,rfl⟩:=h;exact TH);clear a h;go_wp2_with fail;clear c i;go_ret
  exact⟨by rw[H.o];rfl,e.o.2⟩
 ·have a:decide (most=0/\n=0/\f=0)=false:=by simpa using h
  rw[a]at c;clear a h;have g:=al (EN d most n f);go_wp2_with fail;clear c i;refine g.o.m ?_;rintro j i h;have c:=al (e.o.2.x (h.1.m e.o.2.size));by_cases a:fQ most n f=0
  ·obtain⟨T,rfl,_⟩:=h.2.1 a;have d:=al a;clear h a;go_wp2_with fail;go_ret
   exact⟨by rw[d.o];rfl,c.o⟩
  ·obtain rfl:=h.2.2 a;clear h a;go_wp2_with fail;go_ret
   exact⟨rfl,c.o⟩
theorem EY{w:World}{B:Nat}{d b e v0 v1 v2:Value}{t:TypeId}(h:w.heap[B]?=some (.cells #[d,b,e] t (0,0))):
  (((w.setCell ⟨B,0,none⟩ v0).setCell ⟨B,1,none⟩ v1).setCell ⟨B,2,none⟩ v2).heap[B]?=some (.cells #[v0,v1,v2] t (0,0)):=by
 have c:=dp w B 0 _ t v0 h;have f:=dp _ B 1 _ t v1 c;have a:=dp _ B 2 _ t v2 f;simpa using a
end Go.Proofs.YtehccbdajiiaaaaGreatDoor
