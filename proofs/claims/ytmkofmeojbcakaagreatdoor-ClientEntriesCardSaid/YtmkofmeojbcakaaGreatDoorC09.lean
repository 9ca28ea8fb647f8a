import Derived.Test.YtmkofmeojbcakaaGreatDoorC08
import Derived.Laws.StructEq
import Derived.ScopeJumps
namespace Go.Proofs.YtmkofmeojbcakaaGreatDoor
open Go.Proofs.Tryz
set_option maxRecDepth 100000
set_option maxHeartbeats 16000000
open Go.RowKit
theorem Yz(x y:Cl)(w:World):(Op.equalIn 10000 107 (.agg #[.bool x.wr,.int .i64 x.aM,.string ⟨x.key.toArray⟩,.int .i64 x.lo,.int .i64 x.hi]) (.agg #[.bool y.wr,.int .i64 y.aM,.string ⟨y.key.toArray⟩,.int .i64 y.lo,.int .i64 y.hi])).run prog w=.ok (decide (x=y)) w:=by
 have hs:prog.stoodInHeld 107=false:=by kernel_rfl
 have hf:prog.underlying 107=some (.struct (prog.fieldsOf 107)):=by unfold Program.fieldsOf;rw[underlying107]
 obtain⟨a1,a2,a3,a4,a5⟩:=x;obtain⟨b1,b2,b3,b4,b5⟩:=y;rw[run_equalIn_agg w 9999 107 _ _ hf hs];unfold Program.fieldsOf;rw[underlying107];simp[Op.eqFields,go_sem,underlying4,underlying3,underlying9];by_cases h1:a1=b1<;>by_cases h2:a2=b2<;>by_cases h3:a3=b3<;>by_cases h4:a4=b4<;>by_cases h5:a5=b5<;>simp[h1,h2,h3,h4,h5]
theorem Tryz.Rm:prog.eqGuardType prog.depth 107=false:=by kernel_rfl
theorem M9(w:World)(F:Nat->Prop)(v:Value)(l:List Cl)(h:eG w F v l)(hl:l.length<=1000000):
  Calls prog 49 #[v] w (BH l w):=by
 obtain⟨i0,hi,hz0,hz1,hz2⟩:=ep Tryz.sZ;obtain⟨A,c,rfl,hnc,hcm⟩:=h.slice;have hnil:=fun w=>Lib.run_eql_slice_nil (P:=prog) w 44 107 A l.length c 0 0 underlying44;rcases A with _|a
 ·have:l=[]:=by
   cases l with
   |nil=>rfl
   |cons x r=>obtain⟨_,_,h0,_⟩:=h.at_ (k:=0) rfl;cases h0
  subst this;clear h;simp only[ix]at hnil;go_enter func49,ntmps49
  go_wp2
  go_ret
  exact⟨none,0,rfl,ea _ _ _ _,aw _ _⟩
 ·have hr2:eG (w.alloc (.cells #[] 107)) F (.slice (some a) l.length c) l:=aS.below h ((aw _ _).alloc (aE _) _);have hown0:=World.ownsRow_made (e:=107) (base:=w.heap.size) (size:=5) w #[] 0 (aE _) (by simp[maxLen]) rfl;have HR:=al (ab hr2 hown0);have jh:=al hi;clear hr2 hown0 h hi;go_enter func49,ntmps49;go_wp2_with (at_builtin;go_loud (refine di _ rfl _ _ 44 rfl w.heap.size 107 i0 _ 5 48 underlying44 jh.o hz0 hz1 hz2 rfl (by decide) _ 0 [] rfl HR.o.2 F _ (l.map Cl.cells) rfl HR.o.1 (cO _) (qN _) (by simp;omega) (by simp;unfold maxLen;omega) (by simp) ?_);intro v' w1 hown1 hgrow1 _);go_ret
  simp only[gx,fs,fa]at hown1;obtain⟨A',c',hv⟩:=ag hown1;rw[hv]at hown1⊢;exact⟨A',c',rfl,hown1,((aw _ _).alloc (aE _) _).grown hgrow1 (by simp) (fun k hk=>by have h2:some w.heap.size=some k:=hk;injection h2 with h2;omega)⟩
theorem jU(w:World)(F:Nat->Prop)(v:Value)(l:List Cl)(h:eG w F v l)(hl:l.length<=1000000):
  Calls prog 28 #[.agg #[v]] w (BH l w):=by
 obtain⟨A,c,rfl,hnc,hcm⟩:=h.slice;have H:=al h;clear h;go_enter func28,ntmps28;go_wp2_with fail;refine(M9 _ F _ l (aS.below H.o ((aw _ _).alloc (aE _) _)) hl).m ?_;rintro e w1 ⟨A',c',rfl,hown,hb⟩;go_wp2_with fail;go_ret
 have hbb:Below w.heap.size w w1:=((aw _ _).alloc (aE _) _).x (hb.m (by simp));exact⟨A',c',rfl,dM hown (fun g hg=>by have:=(hown.lt g hg).1;simp at this;omega),hbb⟩
-- EQ BEGIN
theorem Nb(w:World)(F G:Nat->Prop)(v u:Value)(a b:List Cl)(ha:eG w F v a)(hb:eG w G u b)(hl:a.length<=1000000):
  Calls prog 45 #[v,u] w (gP (a=b) w):=by
 obtain⟨A,c,rfl,hnc,hcm⟩:=ha.slice;obtain⟨B,d,rfl,hnd,hdm⟩:=hb.slice;have HA:=al ha;have HB:=al hb;clear ha hb;by_cases hlen:a.length=b.length
 ·obtain⟨n,hn⟩:=qt (a.length);have oC:b.length=n:=by omega
  rw[hn]at HA hl hnc⊢;rw[oC]at HB hnd⊢;have HN:=al (ab hn oC);clear hn oC hlen;go_enter func45,ntmps45;go_wp2
  go_loopw [13] (fun i wr=> ∃k:Nat,k<=n/\i=.int .i64 (k:Int)/\a.take k=b.take k/\Below w.heap.size w wr) (fun i _=>n-(intOf i).toNat)
  case atStart=>exact⟨0,dq _,rfl,by simp,aw _ _⟩
  case round=>
   obtain⟨k,hk,rfl,htk,hbl⟩:=hrel;by_cases hlt:k<n
   ·obtain⟨x,hx⟩: ∃x,a[k]?=some x:=⟨_,ao (by rw[HN.o.1];exact hlt)⟩;obtain⟨y,hy⟩: ∃y,b[k]?=some y:=⟨_,ao (by rw[HN.o.2];exact hlt)⟩;obtain⟨b1,o1,rfl,DI,c0,c1,c2,c3,c4⟩:=HA.o.at_ hx;obtain⟨b2,o2,rfl,hF2,d0,d1,d2,d3,d4⟩:=HB.o.at_ hy;have l1:b1<w.heap.size:=aq w _ c0;have l2:b2<w.heap.size:=aq w _ d0;have c0':=(hbl.cell (p:=⟨b1,o1+k*5,none⟩) l1).x c0;have c1':=(hbl.cell (p:=⟨b1,o1+k*5+1,none⟩) l1).x c1;have Vd:=(hbl.cell (p:=⟨b1,o1+k*5+2,none⟩) l1).x c2;have YA:=(hbl.cell (p:=⟨b1,o1+k*5+3,none⟩) l1).x c3;have YB:=(hbl.cell (p:=⟨b1,o1+k*5+4,none⟩) l1).x c4;have d0':=(hbl.cell (p:=⟨b2,o2+k*5,none⟩) l2).x d0;have d1':=(hbl.cell (p:=⟨b2,o2+k*5+1,none⟩) l2).x d1;have d2':=(hbl.cell (p:=⟨b2,o2+k*5+2,none⟩) l2).x d2;have d3':=(hbl.cell (p:=⟨b2,o2+k*5+3,none⟩) l2).x d3;have d4':=(hbl.cell (p:=⟨b2,o2+k*5+4,none⟩) l2).x d4;have HX:=al (ab hx (ab hy (ab htk hbl)));clear c0 c1 c2 c3 c4 d0 d1 d2 d3 d4 hx hy htk hbl;have heq:=Yz x y;have hgd:=Tryz.Rm;by_cases hxy:x=y
    ·have hd:decide (x=y)=true:=by simpa using hxy
     rw[hd]at heq;have HXY:=al hxy;clear hd hxy;go_wp2;go_quiet(fail);clear heq hgd;go_wp2;go_roundw
     case rel=>exact⟨k+1,by omega,by go_num,by rw[dW HX.o.1,dW HX.o.2.1,HX.o.d.1,HXY.o],below_drewN HX.o.t _⟩
     case measure=>simp[intOf];omega
    ·have hd:decide (x=y)=false:=by simpa using hxy
     rw[hd]at heq;have HXY:=al hxy;clear hd hxy;go_wp2;go_quiet(fail);clear heq hgd;go_wp2;go_ret
     exact gP.no (fun e=>HXY.o (by have h1:=HX.o.1;rw[e,HX.o.2.1]at h1;injection h1 with h1;exact h1.symm)) (below_drewN HX.o.t _)
   ·have hkn:k=n:=by omega
    subst hkn;have HX:=al (ab htk hbl);clear htk hbl;go_wp2;go_ret
    refine gP.yes ?_ HX.o.2;have:=HX.o.1;rw[gE (by rw[HN.o.1];exact Nat.le_refl _),gE (by rw[HN.o.2];exact Nat.le_refl _)]at this;exact this
 ·have hne:((a.length:Int)==(b.length:Int))=false:=by simp;omega
  have YC:((a.length:Int) !=(b.length:Int))=true:=by simp;omega
  have HL:=al hlen;go_enter func45,ntmps45;go_wp2;go_ret
  exact gP.no (fun e=>HL.o (by rw[e])) (aw _ _)
theorem tu{w:World}{b:Nat}{v0 v1 v2 v3 v4:Value}{t:TypeId}(h:w.heap[b]?=some (.cells #[v0,v1,v2,v3,v4] t (0,0))):
  w.cell? ⟨b,0,none⟩=some v0/\w.cell? ⟨b,1,none⟩=some v1/\w.cell? ⟨b,2,none⟩=some v2/\w.cell? ⟨b,3,none⟩=some v3/\w.cell? ⟨b,4,none⟩=some v4:=by
 simp[World.cell?,h]
def covers(c d:Cl)(n:Int):Prop:=d.aM=c.aM/\d.key=c.key/\(c.wr=true->d.wr=true)/\d.lo<=n/\n<=d.hi
def Kp(c:Cl)(l:List Cl):Prop:= ∀n,c.lo<=n->n<=c.hi-> ∃d∈l,covers c d n
def uY(w:World)(c:Cl)(l:List Cl)(fr:Int)(w':World):Prop:=
 Below w.heap.size w w'/\w'.heap[w.heap.size]?=some (.cells #[.bool c.wr,.int .i64 c.aM,.string ⟨c.key.toArray⟩,.int .i64 c.lo,.int .i64 c.hi] 107 (0,0))/\
  c.lo<=fr/\fr<=c.hi/\ ∀n,c.lo<=n->n<fr-> ∃d∈l,covers c d n
theorem uY.start(w:World)(c:Cl)(l:List Cl)(hc:c.lo<=c.hi):uY w c l c.lo (w.alloc (.cells #[.bool c.wr,.int .i64 c.aM,.string ⟨c.key.toArray⟩,.int .i64 c.lo,.int .i64 c.hi] 107)):=
 ⟨(aw _ _).alloc (aE _) _,an _ _,eL _,hc,fun n h1 h2=>absurd h2 (by omega)⟩
theorem uY.box{w:World}{c:Cl}{l:List Cl}{fr:Int}{w':World}(h:uY w c l fr w'){o:Obj}:uY w c l fr (w'.alloc o):=
 ⟨h.1.alloc h.1.size _,by rw[Below.heap_alloc _ _ _ (Array.getElem?_eq_some_iff.1 h.2.1).1];exact h.2.1,h.2.2⟩
theorem uY.next{w:World}{c x:Cl}{l:List Cl}{fr:Int}{w':World}{k:Nat}{o:Obj}(h:uY w c l fr w')(hx:l[k]?=some x)(h1:x.aM=c.aM)(h2:x.key=c.key)(h3:c.wr=true->x.wr=true)(h4:x.lo<=fr)(h5:fr<=x.hi)(h6:x.hi<c.hi):uY w c l (x.hi+1) (w'.alloc o):=by
 refine⟨h.box.1,h.box.2.1,by have:=h.2.2.1;omega,by omega,fun n a b=>?_⟩;by_cases hn:n<fr
 ·exact h.2.2.2.2 n a hn
 ·exact⟨x,de hx,h1,h2,h3,by omega,by omega⟩
-- COV BEGIN
theorem FU(w:World)(F:Nat->Prop)(v:Value)(c:Cl)(l:List Cl)(h:eG w F v l)(hl:l.length<=1000000)(hc:c.lo<=c.hi)(hch:c.hi<=9223372036854775807)(hfit: ∀d∈l,d.fits):
  Calls prog 210 #[.agg #[.bool c.wr,.int .i64 c.aM,.string ⟨c.key.toArray⟩,.int .i64 c.lo,.int .i64 c.hi],v] w (gP (Kp c l) w):=by
 obtain⟨A,cp,rfl,hnc,hcm⟩:=h.slice;have H:=al h;clear h;go_enter func210,ntmps210;go_wp2;refine wp_scope_jumps 0 (fun a' w'=> ∃(fr:Int) (u0 u3 u6 u7 u8 u9 u10 u11 u12 u13 u14 u15 u16 u17 u18 u19 u20 u21 u22 u23 u24 u25 u26 u27 u28 u29 u30 u31 u32 u33 u34 u35 u36 u37 u38 u39 u40 u41 u42 u43 u44 u45 u46 u47 u48 u49 u50 u51 u52 u53 u54 u55:Value),a'={tmps:= #[u0,.slice A l.length cp,.pointer (some ⟨w.heap.size,0,none⟩),u3,.bool false,.int .i64 fr,u6,u7,u8,u9,u10,u11,u12,u13,u14,u15,u16,u17,u18,u19,u20,u21,u22,u23,u24,u25,u26,u27,u28,u29,u30,u31,u32,u33,u34,u35,u36,u37,u38,u39,u40,u41,u42,u43,u44,u45,u46,u47,u48,u49,u50,u51,u52,u53,u54,u55],defers:=[]}/\uY w c l fr w') (fun a' _=>(c.hi-intOf (a'.tmps.getD 5 undef)).toNat) rfl ?_ ?_
 ·obtain⟨fr,Rn⟩:=qt (c.lo);have HJ:=al (uY.start w c l hc);rw[Rn]at HJ⊢;clear hc;have hc:fr<=c.hi:=HJ.o.t.1;have HFR:=al Rn;clear Rn;go_wp2
  go_step3
  go_wp2
  go_loopw [4,5,12] (fun v4 v5 i wr=>v4=.bool false/\v5=.int .i64 fr/\ ∃k:Nat,k<=l.length/\i=.int .i64 (k:Int)/\(∀d∈l.take k,¬covers c d fr)/\uY w c l fr wr) (fun _ _ i _=>l.length-(intOf i).toNat)
  case atStart=>exact⟨rfl,rfl,0,dq _,rfl,by simp,HJ.o⟩
  case round=>
   obtain⟨rfl,rfl,k,hk,rfl,hno,hj⟩:=hrel
   rename World=>w3
   by_cases hlt:k<l.length
   ·obtain⟨x,hx⟩: ∃x,l[k]?=some x:=⟨_,ao hlt⟩;obtain⟨b,o,rfl,qP,c0,c1,c2,c3,c4⟩:=H.o.at_ hx;have hb:b<w.heap.size:=aq w _ c0;have c0':=(hj.1.cell (p:=⟨b,o+k*5,none⟩) hb).x c0;have c1':=(hj.1.cell (p:=⟨b,o+k*5+1,none⟩) hb).x c1;have Vd:=(hj.1.cell (p:=⟨b,o+k*5+2,none⟩) hb).x c2;have YA:=(hj.1.cell (p:=⟨b,o+k*5+3,none⟩) hb).x c3;have YB:=(hj.1.cell (p:=⟨b,o+k*5+4,none⟩) hb).x c4;obtain⟨q0,q1,q2,q3,q4⟩:=tu hj.2.1;have BL:=hfit x (de hx);have hs3:=hj.1.size;have hbz:w.heap.size<w3.heap.size:=(bd.1 hj.2.1).1;have aaX:=hj.2.2.1;have aaY:=hj.2.2.2.1;have aaZ:=BL.2.1.1;have aa0:=BL.2.1.2;have aa1:=BL.2.2.1.1;have aa2:=BL.2.2.1.2;have HX:=al (ab hx (ab hno hj));clear c0 c1 c2 c3 c4 hx hno hj BL
    have skip: ¬covers c x fr-> ∀d∈l.take (k+1),¬covers c d fr:=by
     intro hn d hd;rw[dW HX.o.1]at hd;rcases dy.1 hd with hd|hd
     ·exact HX.o.2.1 d hd
     ·simp at hd;subst hd;exact hn
    have HS:=al skip;clear skip;by_cases g1:x.aM=c.aM
    ·rw[g1]at c1';by_cases g2:x.key=c.key
     ·rw[g2]at Vd;have HG:=al (ab g1 g2);clear g1 g2
      cases hcw:c.wr with
      |true=>
       cases Kq:x.wr with
       |false=>
        rw[hcw]at q0;rw[Kq]at c0';have HW:=al (ab hcw Kq);clear hcw Kq;go_wp2;go_roundw
        case rel=>exact⟨rfl,rfl,k+1,by omega,by go_num,HS.o (fun hh=>by have:=hh.2.2.1 HW.o.1;rw[HW.o.2]at this;cases this),HX.o.d.box⟩
        case measure=>simp[intOf];omega
       |true=>
        rw[hcw]at q0;rw[Kq]at c0';have HW:=al (fun(_:c.wr=true)=>Kq);clear hcw Kq;by_cases g5:fr<x.lo
        ·go_wp2;go_roundw
         case rel=>exact⟨rfl,rfl,k+1,by omega,by go_num,HS.o (fun hh=>by have:=hh.2.2.2.1;omega),HX.o.d.box⟩
         case measure=>simp[intOf];omega
        ·by_cases g6:x.hi<fr
         ·go_wp2;go_roundw
          case rel=>exact⟨rfl,rfl,k+1,by omega,by go_num,HS.o (fun hh=>by have:=hh.2.2.2.2;omega),HX.o.d.box⟩
          case measure=>simp[intOf];omega
         ·by_cases g7:c.hi<=x.hi
          ·go_wp2;simp only[Exit.jump];go_ret
           refine gP.yes (fun n h1 h2=>?_) HX.o.d.box.1;by_cases h3:n<fr
           ·exact HX.o.q.d n h1 h3
           ·exact⟨x,de HX.o.1,HG.o.1,HG.o.2,HW.o,by omega,by omega⟩
          ·go_wp2
           go_step3
           refine⟨rfl,x.hi+1,_,_,_,_,_,_,_,_,_,_,_,_,_,_,_,_,_,_,_,_,_,_,_,_,_,_,_,_,_,_,_,_,_,_,_,_,_,_,_,_,_,_,_,_,_,_,_,_,_,_,_,_,rfl,HX.o.d.next HX.o.1 HG.o.1 HG.o.2 HW.o (by omega) (by omega) (by omega)⟩
      |false=>
       rw[hcw]at q0;have HW:=al (show c.wr=true->x.wr=true from fun h=>by rw[hcw]at h;cases h);clear hcw;by_cases g5:fr<x.lo
       ·go_wp2;go_roundw
        case rel=>exact⟨rfl,rfl,k+1,by omega,by go_num,HS.o (fun hh=>by have:=hh.2.2.2.1;omega),HX.o.d.box⟩
        case measure=>simp[intOf];omega
       ·by_cases g6:x.hi<fr
        ·go_wp2;go_roundw
         case rel=>exact⟨rfl,rfl,k+1,by omega,by go_num,HS.o (fun hh=>by have:=hh.2.2.2.2;omega),HX.o.d.box⟩
         case measure=>simp[intOf];omega
        ·by_cases g7:c.hi<=x.hi
         ·go_wp2;simp only[Exit.jump];go_ret
          refine gP.yes (fun n h1 h2=>?_) HX.o.d.box.1;by_cases h3:n<fr
          ·exact HX.o.q.d n h1 h3
          ·exact⟨x,de HX.o.1,HG.o.1,HG.o.2,HW.o,by omega,by omega⟩
         ·go_wp2
          go_step3
          refine⟨rfl,x.hi+1,_,_,_,_,_,_,_,_,_,_,_,_,_,_,_,_,_,_,_,_,_,_,_,_,_,_,_,_,_,_,_,_,_,_,_,_,_,_,_,_,_,_,_,_,_,_,_,_,_,_,_,_,rfl,HX.o.d.next HX.o.1 HG.o.1 HG.o.2 HW.o (by omega) (by omega) (by omega)⟩
     ·have g3:(x.key==c.key)=false:=by simpa using g2
      have g4:x.key.isEmpty=x.key.isEmpty:=rfl;clear g4;have HG:=al g2;go_wp2;go_roundw
      case rel=>exact⟨rfl,rfl,k+1,by omega,by go_num,HS.o (fun hh=>HG.o hh.2.1),HX.o.d.box⟩
      case measure=>simp[intOf];omega
    ·have g3:(x.aM==c.aM)=false:=by simpa using g1
     have g4:(x.aM !=c.aM)=true:=by simpa using g1
     have HG:=al g1;clear g1;go_wp2;go_roundw
     case rel=>exact⟨rfl,rfl,k+1,by omega,by go_num,HS.o (fun hh=>HG.o hh.1),HX.o.d.box⟩
     case measure=>simp[intOf];omega
   ·have hkl:k=l.length:=by omega
    subst hkl;rw[gd]at hno;have HX:=al (ab hno hj);clear hno hj;go_wp2;simp only[Exit.jump];go_ret
    refine gP.no (fun hh=>?_) HX.o.2.1;obtain⟨d,hd,hcv⟩:=hh fr HX.o.t.1 HX.o.q.1;exact HX.o.1 d hd hcv
 ·rintro a' w' ⟨fr,u0,u3,u6,u7,u8,u9,u10,u11,u12,u13,u14,u15,u16,u17,u18,u19,u20,u21,u22,u23,u24,u25,u26,u27,u28,u29,u30,u31,u32,u33,u34,u35,u36,u37,u38,u39,u40,u41,u42,u43,u44,u45,u46,u47,u48,u49,u50,u51,u52,u53,u54,u55,rfl,hj⟩;have HJ:=al hj;clear hj;go_wp2
  go_loopw [4,5,12] (fun v4 v5 i wr=>v4=.bool false/\v5=.int .i64 fr/\ ∃k:Nat,k<=l.length/\i=.int .i64 (k:Int)/\(∀d∈l.take k,¬covers c d fr)/\uY w c l fr wr) (fun _ _ i _=>l.length-(intOf i).toNat)
  case atStart=>exact⟨rfl,rfl,0,dq _,rfl,by simp,HJ.o⟩
  case round=>
   obtain⟨rfl,rfl,k,hk,rfl,hno,hj⟩:=hrel
   rename World=>w3
   by_cases hlt:k<l.length
   ·obtain⟨x,hx⟩: ∃x,l[k]?=some x:=⟨_,ao hlt⟩;obtain⟨b,o,rfl,qP,c0,c1,c2,c3,c4⟩:=H.o.at_ hx;have hb:b<w.heap.size:=aq w _ c0;have c0':=(hj.1.cell (p:=⟨b,o+k*5,none⟩) hb).x c0;have c1':=(hj.1.cell (p:=⟨b,o+k*5+1,none⟩) hb).x c1;have Vd:=(hj.1.cell (p:=⟨b,o+k*5+2,none⟩) hb).x c2;have YA:=(hj.1.cell (p:=⟨b,o+k*5+3,none⟩) hb).x c3;have YB:=(hj.1.cell (p:=⟨b,o+k*5+4,none⟩) hb).x c4;obtain⟨q0,q1,q2,q3,q4⟩:=tu hj.2.1;have BL:=hfit x (de hx);have hs3:=hj.1.size;have hbz:w.heap.size<w3.heap.size:=(bd.1 hj.2.1).1;have aaX:=hj.2.2.1;have aaY:=hj.2.2.2.1;have aaZ:=BL.2.1.1;have aa0:=BL.2.1.2;have aa1:=BL.2.2.1.1;have aa2:=BL.2.2.1.2;have HX:=al (ab hx (ab hno hj));clear c0 c1 c2 c3 c4 hx hno hj BL
    have skip: ¬covers c x fr-> ∀d∈l.take (k+1),¬covers c d fr:=by
     intro hn d hd;rw[dW HX.o.1]at hd;rcases dy.1 hd with hd|hd
     ·exact HX.o.2.1 d hd
     ·simp at hd;subst hd;exact hn
    have HS:=al skip;clear skip;by_cases g1:x.aM=c.aM
    ·rw[g1]at c1';by_cases g2:x.key=c.key
     ·rw[g2]at Vd;have HG:=al (ab g1 g2);clear g1 g2
      cases hcw:c.wr with
      |true=>
       cases Kq:x.wr with
       |false=>
        rw[hcw]at q0;rw[Kq]at c0';have HW:=al (ab hcw Kq);clear hcw Kq;go_wp2;go_roundw
        case rel=>exact⟨rfl,rfl,k+1,by omega,by go_num,HS.o (fun hh=>by have:=hh.2.2.1 HW.o.1;rw[HW.o.2]at this;cases this),HX.o.d.box⟩
        case measure=>simp[intOf];omega
       |true=>
        rw[hcw]at q0;rw[Kq]at c0';have HW:=al (fun(_:c.wr=true)=>Kq);clear hcw Kq;by_cases g5:fr<x.lo
        ·go_wp2;go_roundw
         case rel=>exact⟨rfl,rfl,k+1,by omega,by go_num,HS.o (fun hh=>by have:=hh.2.2.2.1;omega),HX.o.d.box⟩
         case measure=>simp[intOf];omega
        ·by_cases g6:x.hi<fr
         ·go_wp2;go_roundw
          case rel=>exact⟨rfl,rfl,k+1,by omega,by go_num,HS.o (fun hh=>by have:=hh.2.2.2.2;omega),HX.o.d.box⟩
          case measure=>simp[intOf];omega
         ·by_cases g7:c.hi<=x.hi
          ·go_wp2;simp only[Exit.jump];go_ret
           refine gP.yes (fun n h1 h2=>?_) HX.o.d.box.1;by_cases h3:n<fr
           ·exact HX.o.q.d n h1 h3
           ·exact⟨x,de HX.o.1,HG.o.1,HG.o.2,HW.o,by omega,by omega⟩
          ·go_wp2
           go_step3
           refine⟨rfl,⟨x.hi+1,_,_,_,_,_,_,_,_,_,_,_,_,_,_,_,_,_,_,_,_,_,_,_,_,_,_,_,_,_,_,_,_,_,_,_,_,_,_,_,_,_,_,_,_,_,_,_,_,_,_,_,_,rfl,HX.o.d.next HX.o.1 HG.o.1 HG.o.2 HW.o (by omega) (by omega) (by omega)⟩,by simp[intOf];omega⟩
      |false=>
       rw[hcw]at q0;have HW:=al (show c.wr=true->x.wr=true from fun h=>by rw[hcw]at h;cases h);clear hcw;by_cases g5:fr<x.lo
       ·go_wp2;go_roundw
        case rel=>exact⟨rfl,rfl,k+1,by omega,by go_num,HS.o (fun hh=>by have:=hh.2.2.2.1;omega),HX.o.d.box⟩
        case measure=>simp[intOf];omega
       ·by_cases g6:x.hi<fr
        ·go_wp2;go_roundw
         case rel=>exact⟨rfl,rfl,k+1,by omega,by go_num,HS.o (fun hh=>by have:=hh.2.2.2.2;omega),HX.o.d.box⟩
         case measure=>simp[intOf];omega
        ·by_cases g7:c.hi<=x.hi
         ·go_wp2;simp only[Exit.jump];go_ret
          refine gP.yes (fun n h1 h2=>?_) HX.o.d.box.1;by_cases h3:n<fr
          ·exact HX.o.q.d n h1 h3
          ·exact⟨x,de HX.o.1,HG.o.1,HG.o.2,HW.o,by omega,by omega⟩
         ·go_wp2
          go_step3
          refine⟨rfl,⟨x.hi+1,_,_,_,_,_,_,_,_,_,_,_,_,_,_,_,_,_,_,_,_,_,_,_,_,_,_,_,_,_,_,_,_,_,_,_,_,_,_,_,_,_,_,_,_,_,_,_,_,_,_,_,_,rfl,HX.o.d.next HX.o.1 HG.o.1 HG.o.2 HW.o (by omega) (by omega) (by omega)⟩,by simp[intOf];omega⟩
     ·have g3:(x.key==c.key)=false:=by simpa using g2
      have g4:x.key.isEmpty=x.key.isEmpty:=rfl;clear g4;have HG:=al g2;go_wp2;go_roundw
      case rel=>exact⟨rfl,rfl,k+1,by omega,by go_num,HS.o (fun hh=>HG.o hh.2.1),HX.o.d.box⟩
      case measure=>simp[intOf];omega
    ·have g3:(x.aM==c.aM)=false:=by simpa using g1
     have g4:(x.aM !=c.aM)=true:=by simpa using g1
     have HG:=al g1;clear g1;go_wp2;go_roundw
     case rel=>exact⟨rfl,rfl,k+1,by omega,by go_num,HS.o (fun hh=>HG.o hh.1),HX.o.d.box⟩
     case measure=>simp[intOf];omega
   ·have hkl:k=l.length:=by omega
    subst hkl;rw[gd]at hno;have HX:=al (ab hno hj);clear hno hj;go_wp2;simp only[Exit.jump];go_ret
    refine gP.no (fun hh=>?_) HX.o.2.1;obtain⟨d,hd,hcv⟩:=hh fr HX.o.t.1 HX.o.q.1;exact HX.o.1 d hd hcv
-- COV END
def nK(a b:List Cl):Prop:= ∀c∈a,Kp c b
def Two(w:World)(v u:Value)(w':World):Prop:=Below w.heap.size w w'/\w'.heap[w.heap.size]?=some (.cells #[v] 48 (0,0))/\w'.heap[w.heap.size+1]?=some (.cells #[u] 48 (0,0))
theorem Two.start(w:World)(v u:Value):Two w v u ((w.alloc (.cells #[v] 48)).alloc (.cells #[u] 48)):=by
 refine⟨((aw _ _).alloc (aE _) _).alloc (by simp) _,?_,?_⟩
 ·rw[Below.heap_alloc _ _ _ (by simp)];exact an _ _
 ·have e:w.heap.size+1=(w.alloc (.cells #[v] 48)).heap.size:=by simp
  rw[e];exact an _ _
theorem Two.below{w w1 w2:World}{v u:Value}(h:Two w v u w1)(hb:Below w1.heap.size w1 w2):Two w v u w2:=by
 refine⟨h.1.x (hb.m h.1.size),?_,?_⟩
 ·rw[hb.block _ (Array.getElem?_eq_some_iff.1 h.2.1).1];exact h.2.1
 ·rw[hb.block _ (Array.getElem?_eq_some_iff.1 h.2.2).1];exact h.2.2
theorem Two.alloc{w w1:World}{v u:Value}(h:Two w v u w1)(o:Obj):Two w v u (w1.alloc o):=h.below ((aw _ _).alloc (aE _) _)
theorem Kr(w:World)(F G:Nat->Prop)(v u:Value)(a b:List Cl)(ha:eG w F v a)(hb:eG w G u b)(MU:a.length<=1000000)(hlb:b.length<=1000000)(hpa: ∀c∈a,c.lo<=c.hi)(Fw: ∀c∈a,c.fits)(hfb: ∀c∈b,c.fits):
  Calls prog 183 #[.agg #[v],.agg #[u]] w (gP (nK a b) w):=by
 obtain⟨A,c,rfl,hnc,hcm⟩:=ha.slice;obtain⟨B,d,rfl,hnd,hdm⟩:=hb.slice;have H:=al (ab ha (ab hb (Two.start w (.slice A a.length c) (.slice B b.length d))));clear ha hb;go_enter func183,ntmps183;go_wp2_with fail
 go_loopw [10] (fun i wr=> ∃k:Nat,k<=a.length/\i=.int .i64 (k:Int)/\(∀c∈a.take k,Kp c b)/\Two w (.slice A a.length c) (.slice B b.length d) wr) (fun i _=>a.length-(intOf i).toNat)
 case atStart=>exact⟨0,dq _,rfl,by simp,H.o.d⟩
 case round=>
  obtain⟨k,hk,rfl,hal,ht⟩:=hrel;by_cases hlt:k<a.length
  ·obtain⟨x,hx⟩: ∃x,a[k]?=some x:=⟨_,ao hlt⟩;obtain⟨b1,o1,rfl,DI,c0,c1,c2,c3,c4⟩:=H.o.1.at_ hx;have l1:b1<w.heap.size:=aq w _ c0;have c0':=(ht.1.cell (p:=⟨b1,o1+k*5,none⟩) l1).x c0;have c1':=(ht.1.cell (p:=⟨b1,o1+k*5+1,none⟩) l1).x c1;have Vd:=(ht.1.cell (p:=⟨b1,o1+k*5+2,none⟩) l1).x c2;have YA:=(ht.1.cell (p:=⟨b1,o1+k*5+3,none⟩) l1).x c3;have YB:=(ht.1.cell (p:=⟨b1,o1+k*5+4,none⟩) l1).x c4;have q1:=bK ht.2.2;have hsz:w.heap.size+1<wr.heap.size:=(bd.1 ht.2.2).1;have hmx:=de hx;have hbl:Below w.heap.size w (wr.alloc (.cells #[.bool x.wr,.int .i64 x.aM,.string ⟨x.key.toArray⟩,.int .i64 x.lo,.int .i64 x.hi] 107)):=(ht.alloc _).1;have HX:=al (ab hx (ab hal (ab ht (ab hmx hbl))));clear c0 c1 c2 c3 c4 hx hal ht hmx hbl;go_wp2_with fail;refine(FU _ G _ x b (aS.below H.o.2.1 HX.o.q) hlb (hpa x HX.o.t.1) (Fw x HX.o.t.1).2.2.1.2 hfb).m ?_;rintro e w2 ⟨r,hr,rfl,hb2⟩;have ht2:=(HX.o.d.1.alloc _).below hb2
   cases r with
   |true=>
    have HT:=al (ab (hr.1 rfl) ht2);clear hr ht2 hb2;go_wp2_with fail;go_roundw
    case rel=>
     refine⟨k+1,by omega,by go_num,?_,HT.o.2⟩;intro c hc;rw[dW HX.o.1]at hc;rcases dy.1 hc with hc|hc
     ·exact HX.o.2.1 c hc
     ·simp at hc;subst hc;exact HT.o.1
    case measure=>simp[intOf];omega
   |false=>
    have hnc: ¬Kp x b:=fun h=>by have:=hr.2 h;cases this
    have HT:=al (ab hnc ht2);clear hr ht2 hb2 hnc;go_wp2_with fail;go_ret
    exact gP.no (fun hh=>HT.o.1 (hh x HX.o.t.1)) HT.o.2.1
  ·have hkl:k=a.length:=by omega
   subst hkl;rw[gd]at hal;have HX:=al (ab hal ht);clear hal ht;go_wp2_with fail;go_ret
   exact gP.yes HX.o.1 HX.o.2.1
end Go.Proofs.YtmkofmeojbcakaaGreatDoor
