import Derived.Test.YtehccbdajiiaaaaGreatDoorP12
import Derived.Laws.StructEq
import Derived.ScopeJumps
namespace Go.Proofs.YtehccbdajiiaaaaGreatDoor
open Go.Proofs.Tryz
set_option maxRecDepth 100000
set_option maxHeartbeats 16000000
open Go.RowKit
theorem ace(w:World)(d:Nat)(i a e h b g c f:Int):(Op.equalIn (d+1+1) 109 (.agg #[rv i,rv a,rv e,rv h]) (.agg #[rv b,rv g,rv c,rv f])).run prog w=.ok (decide (i=b/\a=g/\e=c/\h=f)) w:=by
 rw[Op.equalIn];simp only[Sem.run_bind,run_underlying underlying109,Result.andThen_ok];have m:(sizeOf 3).run prog w=.ok 1 w:=by kernel_rfl
 rw[m];simp only[Result.andThen_ok];rw[Std.Legacy.Range.forIn_eq_forIn_range'];simp only[Std.Legacy.Range.size,Nat.sub_zero,Nat.add_one_sub_one,Nat.div_one,show List.range' 0 4=[0,1,2,3]from by decide];simp[go_sem,underlying3];by_cases j:i=b<;>by_cases n:a=g<;>by_cases k:e=c<;>by_cases l:h=f<;>simp[j,n,k,l]
theorem eq4(w:World)(h a d g b f c e:Int):(Op.equalIn 10000 109 (.agg #[rv h,rv a,rv d,rv g]) (.agg #[rv b,rv f,rv c,rv e])).run prog w=.ok (decide (h=b/\a=f/\d=c/\g=e)) w:=ace w 9998 h a d g b f c e
theorem Tryz.Wj:prog.eqGuardType prog.depth 109=false:=by kernel_rfl

theorem Z9(x y:Cl)(w:World):(Op.equalIn 10000 68 (.agg #[.bool x.wr,rv x.aL,sd x.key,rv x.lo,rv x.hi]) (.agg #[.bool y.wr,rv y.aL,sd y.key,rv y.lo,rv y.hi])).run prog w=.ok (decide (x=y)) w:=by
 have f:prog.stoodInHeld 68=false:=by kernel_rfl
 have i:prog.underlying 68=some (.struct (prog.fieldsOf 68)):=by unfold Program.fieldsOf;rw[underlying68]
 obtain⟨d,j,p,o,g⟩:=x;obtain⟨q,e,b,a,k⟩:=y;rw[run_equalIn_agg w 9999 68 _ _ i f];unfold Program.fieldsOf;rw[underlying68];simp[Op.eqFields,go_sem,underlying4,underlying3,underlying9];by_cases h:d=q<;>by_cases c:j=e<;>by_cases l:p=b<;>by_cases n:o=a<;>by_cases m:g=k<;>simp[h,c,l,n,m]
theorem Tryz.JO:prog.eqGuardType prog.depth 68=false:=by kernel_rfl
theorem Ot(w:World)(F:Nat->Prop)(v:Value)(l:List Cl)(h:cz w F v l)(q:l.length<=1000000):
  Calls prog 45 #[v] w (Cc l w):=by
 obtain⟨j,c,g,i,f⟩:=ef Tryz.sK;obtain⟨A,n,rfl,p,o⟩:=h.slice;have e:=fun w=>Lib.run_eql_slice_nil (P:=prog) w 27 68 A l.length n 0 0 underlying27;rcases A with _|r
 ·have:l=[]:=by
   cases l with
   |nil=>rfl
   |cons x a=>obtain⟨_,_,a,_⟩:=h.at_ (k:=0) rfl;cases a
  subst this;clear h;simp only[nF]at e;go_enter func45,ntmps45
  go_wp2
  go_ret
  exact⟨none,0,rfl,ea _ _ _ _,aw _ _⟩
 ·have b:cz (w.alloc (.cells #[] 68)) F (.slice (some r) l.length n) l:=bJ.below h ((aw _ _).alloc (b8 _) _);have a:=World.ownsRow_made (e:=68) (base:=w.heap.size) (size:=5) w #[] 0 (b8 _) (by simp[maxLen]) rfl;have d:=AI b a;have m:=al c;clear b a h c;go_enter func45,ntmps45;go_wp2_with (at_builtin;go_loud (refine dS _ rfl _ _ 27 rfl w.heap.size 68 j _ 5 48 underlying27 m.o g i f rfl (by decide) _ 0 [] rfl d.o.2 F _ (l.map Cl.cells) rfl d.o.1 (df _) (qD _) (by simp;omega) (by simp;unfold maxLen;omega) (by simp) ?_);intro h c a b _);go_ret
  simp only[gR,fm,eS]at a;obtain⟨h,c,k⟩:=ar a;rw[k]at a⊢;exact⟨h,c,rfl,a,((aw _ _).alloc (b8 _) _).grown b (by simp) (fun s b=>by have a:some w.heap.size=some s:=b;injection a with a;omega)⟩
theorem sO(w:World)(F:Nat->Prop)(v:Value)(l:List Cl)(h:cz w F v l)(c:l.length<=1000000):
  Calls prog 20 #[.agg #[v]] w (Cc l w):=by
 obtain⟨A,m,rfl,j,i⟩:=h.slice;have H:=al h;clear h;go_enter func20,ntmps20;go_wp2_with fail;refine(Ot _ F _ l (bJ.below H.o ((aw _ _).alloc (b8 _) _)) c).m ?_;rintro n e ⟨d,h,rfl,a,g⟩;go_wp2_with fail;go_ret
 have b:Below w.heap.size w e:=((aw _ _).alloc (b8 _) _).x (g.m (by simp));exact⟨d,h,rfl,dF a (fun k f=>by have:=(a.lt k f).1;simp at this;omega),b⟩
-- EQ BEGIN
theorem Ou(w:World)(F G:Nat->Prop)(v S:Value)(a b:List Cl)(e:cz w F v a)(f:cz w G S b)(R:a.length<=1000000):
  Calls prog 96 #[v,S] w (eD (a=b) w):=by
 obtain⟨A,c,rfl,P,V⟩:=e.slice;obtain⟨B,d,rfl,Q,ac⟩:=f.slice;have C:=al e;have J:=al f;clear e f;by_cases u:a.length=b.length
 ·obtain⟨O,e⟩:=rl (a.length);have f:b.length=O:=by omega
  rw[e]at C R P⊢;rw[f]at J Q⊢;have s:=AI e f;clear e f u;go_enter func96,ntmps96;go_wp2_with fail
  go_loopw [13] (fun i wr=> ∃k:Nat,k<=O/\i=rv (k:Int)/\a.take k=b.take k/\Below w.heap.size w wr) (fun i _=>O-(intOf i).toNat)
  case atStart=>exact⟨0,dq _,rfl,by simp,aw _ _⟩
  case round=>
   obtain⟨k,hk,rfl,r,e⟩:=hrel;by_cases y:k<O
   ·obtain⟨M,t⟩: ∃M,a[k]?=some M:=⟨_,ao (by rw[s.o.1];exact y)⟩;obtain⟨N,q⟩: ∃N,b[k]?=some N:=⟨_,ao (by rw[s.o.2];exact y)⟩;obtain⟨j,m,rfl,Dc,g,I,L,z,K⟩:=C.o.at_ t;obtain⟨h,n,rfl,Y,p,x,H,D,E⟩:=J.o.at_ q;have l:j<w.heap.size:=aq w _ g;have o:h<w.heap.size:=aq w _ p;have T:=(e.cell (p:=⟨j,m+k*5,none⟩) l).x g;have W:=(e.cell (p:=⟨j,m+k*5+1,none⟩) l).x I;have UM:=(e.cell (p:=⟨j,m+k*5+2,none⟩) l).x L;have YQ:=(e.cell (p:=⟨j,m+k*5+3,none⟩) l).x z;have YR:=(e.cell (p:=⟨j,m+k*5+4,none⟩) l).x K;have UH:=(e.cell (p:=⟨h,n+k*5,none⟩) o).x p;have U:=(e.cell (p:=⟨h,n+k*5+1,none⟩) o).x x;have aa:=(e.cell (p:=⟨h,n+k*5+2,none⟩) o).x H;have Z:=(e.cell (p:=⟨h,n+k*5+3,none⟩) o).x D;have X:=(e.cell (p:=⟨h,n+k*5+4,none⟩) o).x E;have f:=AN t q r e;clear g I L z K p x H D E t q r e;have q:=Z9 M N;have x:=Tryz.JO;by_cases g:M=N
    ·have p:decide (M=N)=true:=by simpa using g
     rw[p]at q;have t:=al g;clear p g;go_wp2_with fail;go_quiet(fail);clear q x;go_wp2_with fail;go_roundw
     case rel=>exact⟨k+1,by omega,by go_num,by rw[cY f.o.1,cY f.o.2.1,f.o.d.1,t.o],below_drewN f.o.t _⟩
     case measure=>simp[intOf];omega
    ·have p:decide (M=N)=false:=by simpa using g
     rw[p]at q;have t:=al g;clear p g;go_wp2_with fail;go_quiet(fail);clear q x;go_wp2_with fail;go_ret
     exact eD.no (fun p=>t.o (by have g:=f.o.1;rw[p,f.o.2.1]at g;injection g with g;exact g.symm)) (below_drewN f.o.t _)
   ·have g:k=O:=by omega
    subst g;have f:=AI r e;clear r e;go_wp2_with fail;go_ret
    refine eD.yes ?_ f.o.2;have:=f.o.1;rw[gE (by rw[s.o.1];exact Nat.le_refl _),gE (by rw[s.o.2];exact Nat.le_refl _)]at this;exact this
 ·have f:((a.length:Int)==(b.length:Int))=false:=by simp;omega
  have g:((a.length:Int) !=(b.length:Int))=true:=by simp;omega
  have e:=al u;go_enter func96,ntmps96;go_wp2_with fail;go_ret
  exact eD.no (fun p=>e.o (by rw[p])) (aw _ _)
theorem pB{w:World}{b:Nat}{v0 v1 v2 v3 v4:Value}{t:TypeId}(h:w.heap[b]?=some (.cells #[v0,v1,v2,v3,v4] t (0,0))):
  w.cell? ⟨b,0,none⟩=some v0/\w.cell? ⟨b,1,none⟩=some v1/\w.cell? ⟨b,2,none⟩=some v2/\w.cell? ⟨b,3,none⟩=some v3/\w.cell? ⟨b,4,none⟩=some v4:=by
 simp[World.cell?,h]
def covers(c d:Cl)(n:Int):Prop:=d.aL=c.aL/\d.key=c.key/\(c.wr=true->d.wr=true)/\d.lo<=n/\n<=d.hi
def Ls(c:Cl)(l:List Cl):Prop:= ∀n,c.lo<=n->n<=c.hi-> ∃d∈l,covers c d n
def uI(w:World)(c:Cl)(l:List Cl)(fr:Int)(w':World):Prop:=
 Below w.heap.size w w'/\w'.heap[w.heap.size]?=some (sl c.wr c.aL c.key.toArray c.lo c.hi)/\
  c.lo<=fr/\fr<=c.hi/\ ∀n,c.lo<=n->n<fr-> ∃d∈l,covers c d n
theorem uI.start(w:World)(c:Cl)(l:List Cl)(b:c.lo<=c.hi):uI w c l c.lo (w.alloc (sl c.wr c.aL c.key.toArray c.lo c.hi)):=
 ⟨(aw _ _).alloc (b8 _) _,an _ _,eE _,b,fun n d a=>absurd a (by omega)⟩
theorem uI.box{w:World}{c:Cl}{l:List Cl}{fr:Int}{w':World}(h:uI w c l fr w'){o:Obj}:uI w c l fr (w'.alloc o):=
 ⟨h.1.alloc h.1.size _,by rw[Below.heap_alloc _ _ _ (Array.getElem?_eq_some_iff.1 h.2.1).1];exact h.2.1,h.2.2⟩
theorem uI.next{w:World}{c x:Cl}{l:List Cl}{fr:Int}{w':World}{k:Nat}{o:Obj}(h:uI w c l fr w')(e:l[k]?=some x)(d:x.aL=c.aL)(a:x.key=c.key)(b:c.wr=true->x.wr=true)(j:x.lo<=fr)(i:fr<=x.hi)(g:x.hi<c.hi):uI w c l (x.hi+1) (w'.alloc o):=by
 refine⟨h.box.1,h.box.2.1,by have:=h.2.2.1;omega,by omega,fun n m p=>?_⟩;by_cases f:n<fr
 ·exact h.2.2.2.2 n m f
 ·exact⟨x,db e,d,a,b,by omega,by omega⟩
-- COV BEGIN
theorem GP(w:World)(F:Nat->Prop)(v:Value)(c:Cl)(l:List Cl)(h:cz w F v l)(hl:l.length<=1000000)(hc:c.lo<=c.hi)(cv:c.hi<=9223372036854775807)(aa: ∀B∈l,B.fits):
  Calls prog 116 #[.agg #[.bool c.wr,rv c.aL,sd c.key,rv c.lo,rv c.hi],v] w (eD (Ls c l) w):=by
 obtain⟨A,cp,rfl,c',cx⟩:=h.slice;have H:=al h;clear h;go_enter func116,ntmps116;go_wp2_with fail;refine wp_scope_jumps 0 (fun N w'=> ∃(e:Int) (u0 u3 u6 u7 u8 u9 b' am bf a8 bn bv b3 cf ac br cb a1 bm a9 bh b5 ce bk bb ci bs ba bx ap a5 a0 bo a2 ad bi bc a6 b9 cc cd a7 ca ch b6 b2 bl a3 b0 b1 a4 b4:Value),N={tmps:= #[u0,.slice A l.length cp,r7 w.heap.size,u3,.bool false,rv e,u6,u7,u8,u9,b',am,bf,a8,bn,bv,b3,cf,ac,br,cb,a1,bm,a9,bh,b5,ce,bk,bb,ci,bs,ba,bx,ap,a5,a0,bo,a2,ad,bi,bc,a6,b9,cc,cd,a7,ca,ch,b6,b2,bl,a3,b0,b1,a4,b4],defers:=[]}/\uI w c l e w') (fun N _=>(c.hi-intOf (N.tmps.getD 5 undef)).toNat) rfl ?_ ?_
 ·obtain⟨e,W⟩:=rl (c.lo);have I:=al (uI.start w c l hc);rw[W]at I⊢;clear hc;have hc:e<=c.hi:=I.o.t.1;have c5:=al W;clear W;go_wp2_with fail
  go_step3
  go_wp2_with fail
  go_loopw [4,5,12] (fun v4 v5 i wr=>v4=.bool false/\v5=rv e/\ ∃k:Nat,k<=l.length/\i=rv (k:Int)/\(∀B∈l.take k,¬covers c B e)/\uI w c l e wr) (fun _ _ i _=>l.length-(intOf i).toNat)
  case atStart=>exact⟨rfl,rfl,0,dq _,rfl,by simp,I.o⟩
  case round=>
   obtain⟨rfl,rfl,k,hk,rfl,o,b⟩:=hrel
   rename World=>w3
   by_cases T:k<l.length
   ·obtain⟨x,s⟩: ∃x,l[k]?=some x:=⟨_,ao T⟩;obtain⟨M,O,rfl,tR,t,J,L,G,K⟩:=H.o.at_ s;have r:M<w.heap.size:=aq w _ t;have D:=(b.1.cell (p:=⟨M,O+k*5,none⟩) r).x t;have R:=(b.1.cell (p:=⟨M,O+k*5+1,none⟩) r).x J;have Z:=(b.1.cell (p:=⟨M,O+k*5+2,none⟩) r).x L;have YQ:=(b.1.cell (p:=⟨M,O+k*5+3,none⟩) r).x G;have YR:=(b.1.cell (p:=⟨M,O+k*5+4,none⟩) r).x K;obtain⟨u,q1,q2,q3,q4⟩:=pB b.2.1;have p:=aa x (db s);have ck:=b.1.size;have cr:w.heap.size<w3.heap.size:=(cq.1 b.2.1).1;have cs:=b.2.2.1;have co:=b.2.2.2.1;have cj:=p.2.1.1;have cn:=p.2.1.2;have cm:=p.2.2.1.1;have cl:=p.2.2.1.2;have a:=AM s o b;clear t J L G K s o b p
    have C: ¬covers c x e-> ∀B∈l.take (k+1),¬covers c B e:=by
     intro Y B g;rw[cY a.o.1]at g;rcases dr.1 g with g|g
     ·exact a.o.2.1 B g
     ·simp at g;subst g;exact Y
    have m:=al C;clear C;by_cases n:x.aL=c.aL
    ·rw[n]at R;by_cases q:x.key=c.key
     ·rw[q]at Z;have f:=AI n q;clear n q
      cases hcw:c.wr with
      |true=>
       cases lJ:x.wr with
       |false=>
        rw[hcw]at u;rw[lJ]at D;have j:=AI hcw lJ;clear hcw lJ;go_wp2_with fail;go_roundw
        case rel=>exact⟨rfl,rfl,k+1,by omega,by go_num,m.o (fun d=>by have:=d.2.2.1 j.o.1;rw[j.o.2]at this;cases this),a.o.d.box⟩
        case measure=>simp[intOf];omega
       |true=>
        rw[hcw]at u;rw[lJ]at D;have j:=al (fun(_:c.wr=true)=>lJ);clear hcw lJ;by_cases X:e<x.lo
        ·go_wp2_with fail;go_roundw
         case rel=>exact⟨rfl,rfl,k+1,by omega,by go_num,m.o (fun d=>by have:=d.2.2.2.1;omega),a.o.d.box⟩
         case measure=>simp[intOf];omega
        ·by_cases V:x.hi<e
         ·go_wp2_with fail;go_roundw
          case rel=>exact⟨rfl,rfl,k+1,by omega,by go_num,m.o (fun d=>by have:=d.2.2.2.2;omega),a.o.d.box⟩
          case measure=>simp[intOf];omega
         ·by_cases g7:c.hi<=x.hi
          ·go_wp2_with fail;simp only[Exit.jump];go_ret
           refine eD.yes (fun P y h2=>?_) a.o.d.box.1;by_cases z:P<e
           ·exact a.o.q.d P y z
           ·exact⟨x,db a.o.1,f.o.1,f.o.2,j.o,by omega,by omega⟩
          ·go_wp2_with fail
           go_step3
           refine⟨rfl,x.hi+1,_,_,_,_,_,_,_,_,_,_,_,_,_,_,_,_,_,_,_,_,_,_,_,_,_,_,_,_,_,_,_,_,_,_,_,_,_,_,_,_,_,_,_,_,_,_,_,_,_,_,_,_,rfl,a.o.d.next a.o.1 f.o.1 f.o.2 j.o (by omega) (by omega) (by omega)⟩
      |false=>
       rw[hcw]at u;have j:=al (show c.wr=true->x.wr=true from fun h=>by rw[hcw]at h;cases h);clear hcw;by_cases X:e<x.lo
       ·go_wp2_with fail;go_roundw
        case rel=>exact⟨rfl,rfl,k+1,by omega,by go_num,m.o (fun d=>by have:=d.2.2.2.1;omega),a.o.d.box⟩
        case measure=>simp[intOf];omega
       ·by_cases V:x.hi<e
        ·go_wp2_with fail;go_roundw
         case rel=>exact⟨rfl,rfl,k+1,by omega,by go_num,m.o (fun d=>by have:=d.2.2.2.2;omega),a.o.d.box⟩
         case measure=>simp[intOf];omega
        ·by_cases g7:c.hi<=x.hi
         ·go_wp2_with fail;simp only[Exit.jump];go_ret
          refine eD.yes (fun P y h2=>?_) a.o.d.box.1;by_cases z:P<e
          ·exact a.o.q.d P y z
          ·exact⟨x,db a.o.1,f.o.1,f.o.2,j.o,by omega,by omega⟩
         ·go_wp2_with fail
          go_step3
          refine⟨rfl,x.hi+1,_,_,_,_,_,_,_,_,_,_,_,_,_,_,_,_,_,_,_,_,_,_,_,_,_,_,_,_,_,_,_,_,_,_,_,_,_,_,_,_,_,_,_,_,_,_,_,_,_,_,_,_,rfl,a.o.d.next a.o.1 f.o.1 f.o.2 j.o (by omega) (by omega) (by omega)⟩
     ·have U:(x.key==c.key)=false:=by simpa using q
      have E:x.key.isEmpty=x.key.isEmpty:=rfl;clear E;have f:=al q;go_wp2_with fail;go_roundw
      case rel=>exact⟨rfl,rfl,k+1,by omega,by go_num,m.o (fun d=>f.o d.2.1),a.o.d.box⟩
      case measure=>simp[intOf];omega
    ·have U:(x.aL==c.aL)=false:=by simpa using n
     have E:(x.aL !=c.aL)=true:=by simpa using n
     have f:=al n;clear n;go_wp2_with fail;go_roundw
     case rel=>exact⟨rfl,rfl,k+1,by omega,by go_num,m.o (fun d=>f.o d.1),a.o.d.box⟩
     case measure=>simp[intOf];omega
   ·have Q:k=l.length:=by omega
    subst Q;rw[gn]at o;have a:=AI o b;clear o b;go_wp2_with fail;simp only[Exit.jump];go_ret
    refine eD.no (fun d=>?_) a.o.2.1;obtain⟨B,g,S⟩:=d e a.o.t.1 a.o.q.1;exact a.o.1 B g S
 ·rintro N w' ⟨e,u0,u3,u6,u7,u8,u9,b',am,bf,a8,bn,bv,b3,cf,ac,br,cb,a1,bm,a9,bh,b5,ce,bk,bb,ci,bs,ba,bx,ap,a5,a0,bo,a2,ad,bi,bc,a6,b9,cc,cd,a7,ca,ch,b6,b2,bl,a3,b0,b1,a4,b4,rfl,b⟩;have I:=al b;clear b;go_wp2_with fail
  go_loopw [4,5,12] (fun v4 v5 i wr=>v4=.bool false/\v5=rv e/\ ∃k:Nat,k<=l.length/\i=rv (k:Int)/\(∀B∈l.take k,¬covers c B e)/\uI w c l e wr) (fun _ _ i _=>l.length-(intOf i).toNat)
  case atStart=>exact⟨rfl,rfl,0,dq _,rfl,by simp,I.o⟩
  case round=>
   obtain⟨rfl,rfl,k,hk,rfl,o,b⟩:=hrel
   rename World=>w3
   by_cases T:k<l.length
   ·obtain⟨x,s⟩: ∃x,l[k]?=some x:=⟨_,ao T⟩;obtain⟨M,O,rfl,tR,t,J,L,G,K⟩:=H.o.at_ s;have r:M<w.heap.size:=aq w _ t;have D:=(b.1.cell (p:=⟨M,O+k*5,none⟩) r).x t;have R:=(b.1.cell (p:=⟨M,O+k*5+1,none⟩) r).x J;have Z:=(b.1.cell (p:=⟨M,O+k*5+2,none⟩) r).x L;have YQ:=(b.1.cell (p:=⟨M,O+k*5+3,none⟩) r).x G;have YR:=(b.1.cell (p:=⟨M,O+k*5+4,none⟩) r).x K;obtain⟨u,q1,q2,q3,q4⟩:=pB b.2.1;have p:=aa x (db s);have ck:=b.1.size;have cr:w.heap.size<w3.heap.size:=(cq.1 b.2.1).1;have cs:=b.2.2.1;have co:=b.2.2.2.1;have cj:=p.2.1.1;have cn:=p.2.1.2;have cm:=p.2.2.1.1;have cl:=p.2.2.1.2;have a:=AM s o b;clear t J L G K s o b p
    have C: ¬covers c x e-> ∀B∈l.take (k+1),¬covers c B e:=by
     intro Y B g;rw[cY a.o.1]at g;rcases dr.1 g with g|g
     ·exact a.o.2.1 B g
     ·simp at g;subst g;exact Y
    have m:=al C;clear C;by_cases n:x.aL=c.aL
    ·rw[n]at R;by_cases q:x.key=c.key
     ·rw[q]at Z;have f:=AI n q;clear n q
      cases hcw:c.wr with
      |true=>
       cases lJ:x.wr with
       |false=>
        rw[hcw]at u;rw[lJ]at D;have j:=AI hcw lJ;clear hcw lJ;go_wp2_with fail;go_roundw
        case rel=>exact⟨rfl,rfl,k+1,by omega,by go_num,m.o (fun d=>by have:=d.2.2.1 j.o.1;rw[j.o.2]at this;cases this),a.o.d.box⟩
        case measure=>simp[intOf];omega
       |true=>
        rw[hcw]at u;rw[lJ]at D;have j:=al (fun(_:c.wr=true)=>lJ);clear hcw lJ;by_cases X:e<x.lo
        ·go_wp2_with fail;go_roundw
         case rel=>exact⟨rfl,rfl,k+1,by omega,by go_num,m.o (fun d=>by have:=d.2.2.2.1;omega),a.o.d.box⟩
         case measure=>simp[intOf];omega
        ·by_cases V:x.hi<e
         ·go_wp2_with fail;go_roundw
          case rel=>exact⟨rfl,rfl,k+1,by omega,by go_num,m.o (fun d=>by have:=d.2.2.2.2;omega),a.o.d.box⟩
          case measure=>simp[intOf];omega
         ·by_cases g7:c.hi<=x.hi
          ·go_wp2_with fail;simp only[Exit.jump];go_ret
           refine eD.yes (fun P y h2=>?_) a.o.d.box.1;by_cases z:P<e
           ·exact a.o.q.d P y z
           ·exact⟨x,db a.o.1,f.o.1,f.o.2,j.o,by omega,by omega⟩
          ·go_wp2_with fail
           go_step3
           refine⟨rfl,⟨x.hi+1,_,_,_,_,_,_,_,_,_,_,_,_,_,_,_,_,_,_,_,_,_,_,_,_,_,_,_,_,_,_,_,_,_,_,_,_,_,_,_,_,_,_,_,_,_,_,_,_,_,_,_,_,rfl,a.o.d.next a.o.1 f.o.1 f.o.2 j.o (by omega) (by omega) (by omega)⟩,by simp[intOf];omega⟩
      |false=>
       rw[hcw]at u;have j:=al (show c.wr=true->x.wr=true from fun h=>by rw[hcw]at h;cases h);clear hcw;by_cases X:e<x.lo
       ·go_wp2_with fail;go_roundw
        case rel=>exact⟨rfl,rfl,k+1,by omega,by go_num,m.o (fun d=>by have:=d.2.2.2.1;omega),a.o.d.box⟩
        case measure=>simp[intOf];omega
       ·by_cases V:x.hi<e
        ·go_wp2_with fail;go_roundw
         case rel=>exact⟨rfl,rfl,k+1,by omega,by go_num,m.o (fun d=>by have:=d.2.2.2.2;omega),a.o.d.box⟩
         case measure=>simp[intOf];omega
        ·by_cases g7:c.hi<=x.hi
         ·go_wp2_with fail;simp only[Exit.jump];go_ret
          refine eD.yes (fun P y h2=>?_) a.o.d.box.1;by_cases z:P<e
          ·exact a.o.q.d P y z
          ·exact⟨x,db a.o.1,f.o.1,f.o.2,j.o,by omega,by omega⟩
         ·go_wp2_with fail
          go_step3
          refine⟨rfl,⟨x.hi+1,_,_,_,_,_,_,_,_,_,_,_,_,_,_,_,_,_,_,_,_,_,_,_,_,_,_,_,_,_,_,_,_,_,_,_,_,_,_,_,_,_,_,_,_,_,_,_,_,_,_,_,_,rfl,a.o.d.next a.o.1 f.o.1 f.o.2 j.o (by omega) (by omega) (by omega)⟩,by simp[intOf];omega⟩
     ·have U:(x.key==c.key)=false:=by simpa using q
      have E:x.key.isEmpty=x.key.isEmpty:=rfl;clear E;have f:=al q;go_wp2_with fail;go_roundw
      case rel=>exact⟨rfl,rfl,k+1,by omega,by go_num,m.o (fun d=>f.o d.2.1),a.o.d.box⟩
      case measure=>simp[intOf];omega
    ·have U:(x.aL==c.aL)=false:=by simpa using n
     have E:(x.aL !=c.aL)=true:=by simpa using n
     have f:=al n;clear n;go_wp2_with fail;go_roundw
     case rel=>exact⟨rfl,rfl,k+1,by omega,by go_num,m.o (fun d=>f.o d.1),a.o.d.box⟩
     case measure=>simp[intOf];omega
   ·have Q:k=l.length:=by omega
    subst Q;rw[gn]at o;have a:=AI o b;clear o b;go_wp2_with fail;simp only[Exit.jump];go_ret
    refine eD.no (fun d=>?_) a.o.2.1;obtain⟨B,g,S⟩:=d e a.o.t.1 a.o.q.1;exact a.o.1 B g S
-- COV END
def iq(a b:List Cl):Prop:= ∀c∈a,Ls c b
def xm(c d:Cl):Prop:=(c.wr=true\/d.wr=true)/\c.aL=d.aL/\c.key=d.key/\c.lo<=d.hi/\d.lo<=c.hi
def nA(a b:List Cl):Prop:= ∃c∈a,∃d∈b,xm c d
def Two(w:World)(v u:Value)(w':World):Prop:=Below w.heap.size w w'/\w'.heap[w.heap.size]?=some (.cells #[v] 37 (0,0))/\w'.heap[w.heap.size+1]?=some (.cells #[u] 37 (0,0))
theorem Two.start(w:World)(v u:Value):Two w v u ((w.alloc (.cells #[v] 37)).alloc (.cells #[u] 37)):=by
 refine⟨((aw _ _).alloc (b8 _) _).alloc (by simp) _,?_,?_⟩
 ·rw[Below.heap_alloc _ _ _ (by simp)];exact an _ _
 ·have e:w.heap.size+1=(w.alloc (.cells #[v] 37)).heap.size:=by simp
  rw[e];exact an _ _
theorem Two.below{w w1 w2:World}{v u:Value}(h:Two w v u w1)(a:Below w1.heap.size w1 w2):Two w v u w2:=by
 refine⟨h.1.x (a.m h.1.size),?_,?_⟩
 ·rw[a.block _ (Array.getElem?_eq_some_iff.1 h.2.1).1];exact h.2.1
 ·rw[a.block _ (Array.getElem?_eq_some_iff.1 h.2.2).1];exact h.2.2
theorem Two.alloc{w w1:World}{v u:Value}(h:Two w v u w1)(o:Obj):Two w v u (w1.alloc o):=h.below ((aw _ _).alloc (b8 _) _)
theorem Lt(w:World)(F G:Nat->Prop)(v D:Value)(a b:List Cl)(c:cz w F v a)(d:cz w G D b)(V:a.length<=1000000)(u:b.length<=1000000)(z: ∀m∈a,m.lo<=m.hi)(B: ∀m∈a,m.fits)(y: ∀m∈b,m.fits):
  Calls prog 64 #[.agg #[v],.agg #[D]] w (eD (iq a b) w):=by
 obtain⟨I,m,rfl,p,L⟩:=c.slice;obtain⟨C,E,rfl,J,N⟩:=d.slice;have H:=AM c d (Two.start w (.slice I a.length m) (.slice C b.length E));clear c d;go_enter func64,ntmps64;go_wp2_with fail
 go_loopw [10] (fun i wr=> ∃l:Nat,l<=a.length/\i=rv (l:Int)/\(∀m∈a.take l,Ls m b)/\Two w (.slice I a.length m) (.slice C b.length E) wr) (fun i _=>a.length-(intOf i).toNat)
 case atStart=>exact⟨0,dq _,rfl,by simp,H.o.d⟩
 case round=>
  obtain⟨l,R,rfl,g,c⟩:=hrel;by_cases A:l<a.length
  ·obtain⟨x,e⟩: ∃x,a[l]?=some x:=⟨_,ao A⟩;obtain⟨f,k,rfl,U,j,r,t,q,s⟩:=H.o.1.at_ e;have h:f<w.heap.size:=aq w _ j;have K:=(c.1.cell (p:=⟨f,k+l*5,none⟩) h).x j;have M:=(c.1.cell (p:=⟨f,k+l*5+1,none⟩) h).x r;have S:=(c.1.cell (p:=⟨f,k+l*5+2,none⟩) h).x t;have P:=(c.1.cell (p:=⟨f,k+l*5+3,none⟩) h).x q;have Q:=(c.1.cell (p:=⟨f,k+l*5+4,none⟩) h).x s;have T:=aB c.2.2;have O:w.heap.size+1<wr.heap.size:=(cq.1 c.2.2).1;have n:=db e;have o:Below w.heap.size w (wr.alloc (sl x.wr x.aL x.key.toArray x.lo x.hi)):=(c.alloc _).1;have d:=AS e g c n o;clear j r t q s e g c n o;go_wp2_with fail;refine(GP _ G _ x b (bJ.below H.o.2.1 d.o.q) u (z x d.o.t.1) (B x d.o.t.1).2.2.1.2 y).m ?_;rintro t r ⟨s,o,rfl,q⟩;have n:=(d.o.d.1.alloc _).below q
   cases s with
   |true=>
    have j:=AI (o.1 rfl) n;clear o n q;go_wp2_with fail;go_roundw
    case rel=>
     refine⟨l+1,by omega,by go_num,?_,j.o.2⟩;intro m e;rw[cY d.o.1]at e;rcases dr.1 e with e|e
     ·exact d.o.2.1 m e
     ·simp at e;subst e;exact j.o.1
    case measure=>simp[intOf];omega
   |false=>
    have p: ¬Ls x b:=fun e=>by have:=o.2 e;cases this
    have j:=AI p n;clear o n q p;go_wp2_with fail;go_ret
    exact eD.no (fun e=>j.o.1 (e x d.o.t.1)) j.o.2.1
  ·have e:l=a.length:=by omega
   subst e;rw[gn]at g;have d:=AI g c;clear g c;go_wp2_with fail;go_ret
   exact eD.yes d.o.1 d.o.2.1
def Ov(B:Nat)(x:Cl)(w:World):Prop:=w.heap[B]?=some (sl x.wr x.aL x.key.toArray x.lo x.hi)
theorem Ov.alloc{B:Nat}{x:Cl}{w:World}(h:Ov B x w)(o:Obj):Ov B x (w.alloc o):=by unfold Ov;rw[Below.heap_alloc _ _ _ (Array.getElem?_eq_some_iff.1 h).1];exact h
theorem Ej(w:World)(F G:Nat->Prop)(v V:Value)(a b:List Cl)(c:cz w F v a)(d:cz w G V b)(NF:a.length<=1000000)(X:b.length<=1000000):
  Calls prog 31 #[.agg #[v],.agg #[V]] w (eD (nA a b) w):=by
 obtain⟨W,M,rfl,ad,Z⟩:=c.slice;obtain⟨U,E,rfl,am,a0⟩:=d.slice;have T:=AM c d (Two.start w (.slice W a.length M) (.slice U b.length E));clear c d;go_enter func31,ntmps31;go_wp2_with fail
 go_loopw [12] (fun i wr=> ∃H:Nat,H<=a.length/\i=rv (H:Int)/\(∀M∈a.take H,∀E∈b,¬xm M E)/\Two w (.slice W a.length M) (.slice U b.length E) wr) (fun i _=>a.length-(intOf i).toNat)
 case atStart=>exact⟨0,dq _,rfl,by simp,T.o.d⟩
 case round=>
  obtain⟨H,hk,rfl,s,d⟩:=hrel;by_cases R:H<a.length
  ·obtain⟨x,c⟩: ∃x,a[H]?=some x:=⟨_,ao R⟩;obtain⟨o,r,rfl,Dc,e,h,k,g,j⟩:=T.o.1.at_ c;have z:o<w.heap.size:=aq w _ e;have Y:=(d.1.cell (p:=⟨o,r+H*5,none⟩) z).x e;have ac:=(d.1.cell (p:=⟨o,r+H*5+1,none⟩) z).x h;have UM:=(d.1.cell (p:=⟨o,r+H*5+2,none⟩) z).x k;have YQ:=(d.1.cell (p:=⟨o,r+H*5+3,none⟩) z).x g;have YR:=(d.1.cell (p:=⟨o,r+H*5+4,none⟩) z).x j;have S:=aB d.2.2;have a2:w.heap.size+1<wr.heap.size:=(cq.1 d.2.2).1;have f:=db c;have l:=AN c s d f;clear e h k g j c s d f;obtain⟨I,rfl⟩: ∃I:World,I=wr:=⟨_,rfl⟩;go_wp2_with fail
   go_loopw [19] (fun i w2=> ∃p:Nat,p<=b.length/\i=rv (p:Int)/\(∀E∈b.take p,¬xm x E)/\Ov I.heap.size x w2/\Two w (.slice (some ⟨o,r,none⟩) a.length M) (.slice U b.length E) w2) (fun i _=>b.length-(intOf i).toNat)
   case atStart=>exact⟨0,dq _,rfl,by simp,an _ _,l.o.d.1.alloc _⟩
   case round=>
    obtain⟨p,hm,rfl,t,A,d⟩:=hrel
    rename World=>w2
    by_cases Q:p<b.length
    ·obtain⟨y,c⟩: ∃y,b[p]?=some y:=⟨_,ao Q⟩;obtain⟨q,C,rfl,ap,f,h,u,m,n⟩:=T.o.2.1.at_ c;have D:q<w.heap.size:=aq w _ f;have B:=(d.1.cell (p:=⟨q,C+p*5,none⟩) D).x f;have N:=(d.1.cell (p:=⟨q,C+p*5+1,none⟩) D).x h;have O:=(d.1.cell (p:=⟨q,C+p*5+2,none⟩) D).x u;have a':=(d.1.cell (p:=⟨q,C+p*5+3,none⟩) D).x m;have aa:=(d.1.cell (p:=⟨q,C+p*5+4,none⟩) D).x n;obtain⟨j,S,q2,q3,q4⟩:=pB A;have a1:I.heap.size<w2.heap.size:=(cq.1 A).1
     have g: ¬xm x y-> ∀E∈b.take (p+1),¬xm x E:=by
      intro e E k;rw[cY c]at k;rcases dr.1 k with k|k
      ·exact t E k
      ·simp at k;subst k;exact e
     have e:=AN c g A d;clear f h u m n c t A d g;by_cases n:xm x y
     ·obtain⟨f,h,m,u,L⟩:=n;have J:=AS f h m u L;rw[<-h]at N;rw[<-m]at O;clear h m
      cases c:x.wr with
      |true=>
       rw[c]at j;clear f c;go_wp2_with fail;go_ret
       exact eD.yes ⟨x,l.o.t,y,db e.o.1,J.o⟩ (e.o.t.alloc _).1
      |false=>
       have g:y.wr=true:=f.resolve_left (by rw[c];decide);rw[c]at j;rw[g]at B;clear f c g;go_wp2_with fail;go_ret
       exact eD.yes ⟨x,l.o.t,y,db e.o.1,J.o⟩ (e.o.t.alloc _).1
     ·have J:=al n;by_cases f:x.wr=true\/y.wr=true
      ·by_cases h:x.aL=y.aL
       ·rw[<-h]at N;by_cases m:x.key=y.key
        ·rw[<-m]at O;have P: ¬(x.lo<=y.hi/\y.lo<=x.hi):=fun K=>n ⟨f,h,m,K.1,K.2⟩;clear h m n;by_cases u:x.lo<=y.hi
         focus
          have L: ¬y.lo<=x.hi:=fun K=>P ⟨u,K⟩
         rotate_left
         all_goals
          clear P;cases c:x.wr
          focus
           have g:y.wr=true:=f.resolve_left (by rw[c];decide);rw[c]at j;rw[g]at B;clear f c g
          rotate_left
          focus
           rw[c]at j;clear f c
          all_goals
           go_wp2_with fail;go_roundw
           case rel=>exact⟨p+1,by omega,by go_num,e.o.2.1 J.o,e.o.d.1.alloc _,e.o.t.alloc _⟩
           case measure=>simp[intOf];omega
        ·have u:(x.key==y.key)=false:=by simpa using m
         clear n h;cases c:x.wr
         focus
          have g:y.wr=true:=f.resolve_left (by rw[c];decide);rw[c]at j;rw[g]at B;clear f c g
         rotate_left
         focus
          rw[c]at j;clear f c
         all_goals
          go_wp2_with fail;go_roundw
          case rel=>exact⟨p+1,by omega,by go_num,e.o.2.1 J.o,e.o.d.1.alloc _,e.o.t.alloc _⟩
          case measure=>simp[intOf];omega
       ·have u:(x.aL==y.aL)=false:=by simpa using h
        have L:(x.aL !=y.aL)=true:=by simpa using h
        clear n h;cases c:x.wr
        focus
         have g:y.wr=true:=f.resolve_left (by rw[c];decide);rw[c]at j;rw[g]at B;clear f c g
        rotate_left
        focus
         rw[c]at j;clear f c
        all_goals
         go_wp2_with fail;go_roundw
         case rel=>exact⟨p+1,by omega,by go_num,e.o.2.1 J.o,e.o.d.1.alloc _,e.o.t.alloc _⟩
         case measure=>simp[intOf];omega
      ·have c:x.wr=false:=Bool.eq_false_iff.2 (fun K=>f (.inl K));have g:y.wr=false:=Bool.eq_false_iff.2 (fun K=>f (.inr K));rw[c]at j;rw[g]at B;clear f c g n;go_wp2_with fail;go_roundw
       case rel=>exact⟨p+1,by omega,by go_num,e.o.2.1 J.o,e.o.d.1.alloc _,e.o.t.alloc _⟩
       case measure=>simp[intOf];omega
    ·have c:p=b.length:=by omega
     subst c;rw[gn]at t;have e:=AI t d;clear t d A;go_wp2_with fail;go_roundw
     case rel=>
      refine⟨H+1,by omega,by go_num,?_,e.o.2⟩;intro M c;rw[cY l.o.1]at c;rcases dr.1 c with c|c
      ·exact l.o.2.1 M c
      ·simp at c;subst c;exact e.o.1
     case measure=>simp[intOf];omega
  ·have e:H=a.length:=by omega
   subst e;rw[gn]at s;have l:=AI s d;clear s d;go_wp2_with fail;go_ret
   exact eD.no (fun⟨M,c,E,k,K⟩=>l.o.1 M c E k K) l.o.2.1

theorem El{w:World}{B:Nat}{e c f v0 v1 v2:Value}{t:TypeId}(h:w.heap[B]?=some (.cells #[e,c,f] t (0,0))):
  (((w.setCell ⟨B,0,none⟩ v0).setCell ⟨B,1,none⟩ v1).setCell ⟨B,2,none⟩ v2).heap[B]?=some (.cells #[v0,v1,v2] t (0,0)):=by
 have b:=dd w B 0 _ t v0 h;have a:=dd _ B 1 _ t v1 b;have d:=dd _ B 2 _ t v2 a;simpa using d
end Go.Proofs.YtehccbdajiiaaaaGreatDoor
