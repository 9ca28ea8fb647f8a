import Derived.Test.YtagemonojdgbdaaGreatDoorF21
import Derived.Laws.StructEq
import Derived.ScopeJumps
namespace Go.Proofs.YtagemonojdgbdaaGreatDoor
set_option maxRecDepth 100000
set_option maxHeartbeats 16000000
open Go.RowKit
theorem Zm(w:World)(d:Nat)(x0 x1 x2 x3 y0 y1 y2 y3:Int):(Op.equalIn (d+1+1) 26 (.agg #[.int .i64 x0,.int .i64 x1,.int .i64 x2,.int .i64 x3]) (.agg #[.int .i64 y0,.int .i64 y1,.int .i64 y2,.int .i64 y3])).run Tryz.prog w=.ok (decide (x0=y0/\x1=y1/\x2=y2/\x3=y3)) w:=by
 rw[Op.equalIn];simp only[Sem.run_bind,run_underlying Tryz.underlying26,Result.andThen_ok];have hs:(sizeOf 3).run Tryz.prog w=.ok 1 w:=by kernel_rfl
 rw[hs];simp only[Result.andThen_ok];rw[Std.Legacy.Range.forIn_eq_forIn_range'];simp only[Std.Legacy.Range.size,Nat.sub_zero,Nat.add_one_sub_one,Nat.div_one,show List.range' 0 4=[0,1,2,3]from by decide];simp[go_sem,Tryz.underlying3];by_cases h0:x0=y0<;>by_cases h1:x1=y1<;>by_cases h2:x2=y2<;>by_cases h3:x3=y3<;>simp[h0,h1,h2,h3]
theorem eq4(w:World)(x0 x1 x2 x3 y0 y1 y2 y3:Int):(Op.equalIn 10000 26 (.agg #[.int .i64 x0,.int .i64 x1,.int .i64 x2,.int .i64 x3]) (.agg #[.int .i64 y0,.int .i64 y1,.int .i64 y2,.int .i64 y3])).run Tryz.prog w=.ok (decide (x0=y0/\x1=y1/\x2=y2/\x3=y3)) w:=Zm w 9998 x0 x1 x2 x3 y0 y1 y2 y3
theorem Tryz.Sm:Tryz.prog.eqGuardType Tryz.prog.depth 26=false:=by kernel_rfl
theorem V5(x y:Cl)(w:World):(Op.equalIn 10000 48 (.agg #[.bool x.wr,.int .i64 x.aK,.string ⟨x.key.toArray⟩,.int .i64 x.lo,.int .i64 x.hi]) (.agg #[.bool y.wr,.int .i64 y.aK,.string ⟨y.key.toArray⟩,.int .i64 y.lo,.int .i64 y.hi])).run Tryz.prog w=.ok (decide (x=y)) w:=by
 have hs:Tryz.prog.stoodInHeld 48=false:=by kernel_rfl
 have hf:Tryz.prog.underlying 48=some (.struct (Tryz.prog.fieldsOf 48)):=by unfold Program.fieldsOf;rw[Tryz.underlying48]
 obtain⟨a1,a2,a3,a4,a5⟩:=x;obtain⟨b1,b2,b3,b4,b5⟩:=y;rw[run_equalIn_agg w 9999 48 _ _ hf hs];unfold Program.fieldsOf;rw[Tryz.underlying48];simp[Op.eqFields,go_sem,Tryz.underlying4,Tryz.underlying3,Tryz.underlying9];by_cases h1:a1=b1<;>by_cases h2:a2=b2<;>by_cases h3:a3=b3<;>by_cases h4:a4=b4<;>by_cases h5:a5=b5<;>simp[h1,h2,h3,h4,h5]
theorem Tryz.O9:Tryz.prog.eqGuardType Tryz.prog.depth 48=false:=by kernel_rfl
theorem LY(w:World)(F:Nat->Prop)(v:Value)(l:List Cl)(h:dJ w F v l)(hl:l.length<=1000000):
  Calls Tryz.prog 86 #[v] w (zl l w):=by
 obtain⟨i0,hi,hz0,hz1,hz2⟩:=eC Tryz.l7;obtain⟨A,c,rfl,hnc,hcm⟩:=h.slice;have hnil:=fun w=>Lib.run_eql_slice_nil (P:=Tryz.prog) w 37 48 A l.length c 0 0 Tryz.underlying37;rcases A with _|a
 ·have:l=[]:=by
   cases l with
   |nil=>rfl
   |cons x r=>obtain⟨_,_,h0,_⟩:=h.at_ (k:=0) rfl;cases h0
  subst this;clear h;simp only[nx]at hnil;go_enter Tryz.func86,Tryz.ntmps86
  go_wp2
  go_ret
  exact⟨none,0,rfl,ee _ _ _ _,aw _ _⟩
 ·have hr2:dJ (w.alloc (.cells #[] 48)) F (.slice (some a) l.length c) l:=cd.below h ((aw _ _).alloc (aq _) _);have hown0:=World.ownsRow_made (e:=48) (base:=w.heap.size) (size:=5) w #[] 0 (aq _) (by simp[maxLen]) rfl;have HR:=al (ab hr2 hown0);have wC:=al hi;clear hr2 hown0 h hi;go_enter Tryz.func86,Tryz.ntmps86;go_wp2_with (at_builtin;go_loud (refine cO _ rfl _ _ 37 rfl w.heap.size 48 i0 _ 5 48 Tryz.underlying37 wC.out hz0 hz1 hz2 rfl (by decide) _ 0 [] rfl HR.out.2 F _ (l.map Cl.cells) rfl HR.out.1 (di _) (kY _) (by simp;omega) (by simp;unfold maxLen;omega) (by simp) ?_);intro v' w1 hown1 hgrow1 _);go_ret
  simp only[gn,fs,fb]at hown1;obtain⟨A',c',hv⟩:=ah hown1;rw[hv]at hown1⊢;exact⟨A',c',rfl,hown1,((aw _ _).alloc (aq _) _).grown hgrow1 (by simp) (fun k hk=>by have h2:some w.heap.size=some k:=hk;injection h2 with h2;omega)⟩
theorem IX(w:World)(F:Nat->Prop)(v:Value)(l:List Cl)(h:dJ w F v l)(hl:l.length<=1000000):
  Calls Tryz.prog 52 #[.agg #[v]] w (zl l w):=by
 obtain⟨A,c,rfl,hnc,hcm⟩:=h.slice;have H:=al h;clear h;go_enter Tryz.func52,Tryz.ntmps52;go_wp2_with fail;refine(LY _ F _ l (cd.below H.out ((aw _ _).alloc (aq _) _)) hl).mono ?_;rintro e w1 ⟨A',c',rfl,hown,hb⟩;go_wp2_with fail;go_ret
 have hbb:Below w.heap.size w w1:=((aw _ _).alloc (aq _) _).trans (hb.mono (by simp));exact⟨A',c',rfl,dW hown (fun g hg=>by have:=(hown.lt g hg).1;simp at this;omega),hbb⟩
-- EQ BEGIN
theorem LZ(w:World)(F G:Nat->Prop)(v u:Value)(a b:List Cl)(ha:dJ w F v a)(hb:dJ w G u b)(hl:a.length<=1000000):
  Calls Tryz.prog 51 #[v,u] w (eK (a=b) w):=by
 obtain⟨A,c,rfl,hnc,hcm⟩:=ha.slice;obtain⟨B,d,rfl,hnd,XR⟩:=hb.slice;have HA:=al ha;have HB:=al hb;clear ha hb;by_cases hlen:a.length=b.length
 ·obtain⟨n,hn⟩: ∃n,a.length=n:=⟨_,rfl⟩;have nZ:b.length=n:=by omega
  rw[hn]at HA hl hnc⊢;rw[nZ]at HB hnd⊢;have HN:=al (ab hn nZ);clear hn nZ hlen;go_enter Tryz.func51,Tryz.ntmps51;go_wp2_with fail
  go_loopw [13] (fun i wr=> ∃k:Nat,k<=n/\i=.int .i64 (k:Int)/\a.take k=b.take k/\Below w.heap.size w wr) (fun i _=>n-(intOf i).toNat)
  case atStart=>exact⟨0,dj _,rfl,by simp,aw _ _⟩
  case round=>
   obtain⟨k,hk,rfl,htk,hbl⟩:=hrel;by_cases hlt:k<n
   ·obtain⟨x,hx⟩: ∃x,a[k]?=some x:=⟨_,ao (by rw[HN.out.1];exact hlt)⟩;obtain⟨y,hy⟩: ∃y,b[k]?=some y:=⟨_,ao (by rw[HN.out.2];exact hlt)⟩;obtain⟨b1,o1,rfl,Lf,c0,c1,c2,c3,c4⟩:=HA.out.at_ hx;obtain⟨b2,o2,rfl,hF2,d0,d1,d2,d3,d4⟩:=HB.out.at_ hy;have l1:b1<w.heap.size:=aE w _ c0;have l2:b2<w.heap.size:=aE w _ d0;have c0':=(hbl.cell (p:=⟨b1,o1+k*5,none⟩) l1).trans c0;have c1':=(hbl.cell (p:=⟨b1,o1+k*5+1,none⟩) l1).trans c1;have Si:=(hbl.cell (p:=⟨b1,o1+k*5+2,none⟩) l1).trans c2;have VT:=(hbl.cell (p:=⟨b1,o1+k*5+3,none⟩) l1).trans c3;have VU:=(hbl.cell (p:=⟨b1,o1+k*5+4,none⟩) l1).trans c4;have d0':=(hbl.cell (p:=⟨b2,o2+k*5,none⟩) l2).trans d0;have d1':=(hbl.cell (p:=⟨b2,o2+k*5+1,none⟩) l2).trans d1;have d2':=(hbl.cell (p:=⟨b2,o2+k*5+2,none⟩) l2).trans d2;have d3':=(hbl.cell (p:=⟨b2,o2+k*5+3,none⟩) l2).trans d3;have d4':=(hbl.cell (p:=⟨b2,o2+k*5+4,none⟩) l2).trans d4;have HX:=al (ab hx (ab hy (ab htk hbl)));clear c0 c1 c2 c3 c4 d0 d1 d2 d3 d4 hx hy htk hbl;have heq:=V5 x y;have hgd:=Tryz.O9;by_cases hxy:x=y
    ·have hd:decide (x=y)=true:=by simpa using hxy
     rw[hd]at heq;have Zn:=al hxy;clear hd hxy;go_wp2_with fail;go_quiet(fail);clear heq hgd;go_wp2_with fail;go_roundw
     case rel=>exact⟨k+1,by omega,by go_num,by rw[dH HX.out.1,dH HX.out.2.1,HX.out.2.2.1,Zn.out],below_drewN HX.out.2.2.2 _⟩
     case measure=>simp[intOf];omega
    ·have hd:decide (x=y)=false:=by simpa using hxy
     rw[hd]at heq;have Zn:=al hxy;clear hd hxy;go_wp2_with fail;go_quiet(fail);clear heq hgd;go_wp2_with fail;go_ret
     exact eK.no (fun e=>Zn.out (by have h1:=HX.out.1;rw[e,HX.out.2.1]at h1;injection h1 with h1;exact h1.symm)) (below_drewN HX.out.2.2.2 _)
   ·have hkn:k=n:=by omega
    subst hkn;have HX:=al (ab htk hbl);clear htk hbl;go_wp2_with fail;go_ret
    refine eK.yes ?_ HX.out.2;have:=HX.out.1;rw[gC (by rw[HN.out.1];exact Nat.le_refl _),gC (by rw[HN.out.2];exact Nat.le_refl _)]at this;exact this
 ·have hne:((a.length:Int)==(b.length:Int))=false:=by simp;omega
  have UM:((a.length:Int) !=(b.length:Int))=true:=by simp;omega
  have HL:=al hlen;go_enter Tryz.func51,Tryz.ntmps51;go_wp2_with fail;go_ret
  exact eK.no (fun e=>HL.out (by rw[e])) (aw _ _)
theorem Pb(w:World)(F G:Nat->Prop)(v u:Value)(a b:List Cl)(ha:dJ w F v a)(hb:dJ w G u b)(hl:a.length<=1000000):
  Calls Tryz.prog 55 #[.agg #[v],.agg #[u]] w (eK (a=b) w):=by
 obtain⟨A,c,rfl,hnc,hcm⟩:=ha.slice;obtain⟨B,d,rfl,hnd,XR⟩:=hb.slice;have hbb:Below w.heap.size w ((w.alloc (.cells #[.slice A a.length c] 87)).alloc (.cells #[.slice B b.length d] 87)):=((aw _ _).alloc (aq _) _).alloc (by simp) _;have H:=al (ab (cd.below ha hbb) (ab (cd.below hb hbb) hbb));clear ha hb hbb;go_enter Tryz.func55,Tryz.ntmps55;go_wp2_with fail;refine(LZ _ F G _ _ a b H.out.1 H.out.2.1 hl).mono ?_;rintro e w1 ⟨r,hr,rfl,hb1⟩;go_wp2_with fail;go_ret
 exact⟨r,hr,rfl,H.out.2.2.trans (hb1.mono (by simp;omega))⟩
theorem rC{w:World}{b:Nat}{v0 v1 v2 v3 v4:Value}{t:TypeId}(h:w.heap[b]?=some (.cells #[v0,v1,v2,v3,v4] t (0,0))):
  w.cell? ⟨b,0,none⟩=some v0/\w.cell? ⟨b,1,none⟩=some v1/\w.cell? ⟨b,2,none⟩=some v2/\w.cell? ⟨b,3,none⟩=some v3/\w.cell? ⟨b,4,none⟩=some v4:=by
 simp[World.cell?,h]
def covers(c d:Cl)(n:Int):Prop:=d.aK=c.aK/\d.key=c.key/\(c.wr=true->d.wr=true)/\d.lo<=n/\n<=d.hi
def IY(c:Cl)(l:List Cl):Prop:= ∀n,c.lo<=n->n<=c.hi-> ∃d∈l,covers c d n
def sH(w:World)(c:Cl)(l:List Cl)(fr:Int)(w':World):Prop:=
 Below w.heap.size w w'/\w'.heap[w.heap.size]?=some (.cells #[.bool c.wr,.int .i64 c.aK,.string ⟨c.key.toArray⟩,.int .i64 c.lo,.int .i64 c.hi] 48 (0,0))/\
  c.lo<=fr/\fr<=c.hi/\ ∀n,c.lo<=n->n<fr-> ∃d∈l,covers c d n
theorem sH.start(w:World)(c:Cl)(l:List Cl)(hc:c.lo<=c.hi):sH w c l c.lo (w.alloc (.cells #[.bool c.wr,.int .i64 c.aK,.string ⟨c.key.toArray⟩,.int .i64 c.lo,.int .i64 c.hi] 48)):=
 ⟨(aw _ _).alloc (aq _) _,an _ _,eE _,hc,fun n h1 h2=>absurd h2 (by omega)⟩
theorem sH.box{w:World}{c:Cl}{l:List Cl}{fr:Int}{w':World}(h:sH w c l fr w'){o:Obj}:sH w c l fr (w'.alloc o):=
 ⟨h.1.alloc h.1.size _,by rw[Below.heap_alloc _ _ _ (Array.getElem?_eq_some_iff.1 h.2.1).1];exact h.2.1,h.2.2⟩
theorem sH.next{w:World}{c x:Cl}{l:List Cl}{fr:Int}{w':World}{k:Nat}{o:Obj}(h:sH w c l fr w')(hx:l[k]?=some x)(h1:x.aK=c.aK)(h2:x.key=c.key)(h3:c.wr=true->x.wr=true)(h4:x.lo<=fr)(h5:fr<=x.hi)(h6:x.hi<c.hi):sH w c l (x.hi+1) (w'.alloc o):=by
 refine⟨h.box.1,h.box.2.1,by have:=h.2.2.1;omega,by omega,fun n a b=>?_⟩;by_cases hn:n<fr
 ·exact h.2.2.2.2 n a hn
 ·exact⟨x,dd hx,h1,h2,h3,by omega,by omega⟩
-- COV BEGIN
theorem EG(w:World)(F:Nat->Prop)(v:Value)(c:Cl)(l:List Cl)(h:dJ w F v l)(hl:l.length<=1000000)(hc:c.lo<=c.hi)(hch:c.hi<=9223372036854775807)(hfit: ∀d∈l,d.fits):
  Calls Tryz.prog 56 #[.agg #[.bool c.wr,.int .i64 c.aK,.string ⟨c.key.toArray⟩,.int .i64 c.lo,.int .i64 c.hi],v] w (eK (IY c l) w):=by
 obtain⟨A,cp,rfl,hnc,hcm⟩:=h.slice;have H:=al h;clear h;go_enter Tryz.func56,Tryz.ntmps56;go_wp2_with fail;refine wp_scope_jumps 0 (fun a' w'=> ∃(fr:Int) (u0 u3 u6 u7 u8 u9 u10 u11 u12 u13 u14 u15 u16 u17 u18 u19 u20 u21 u22 u23 u24 u25 u26 u27 u28 u29 u30 u31 u32 u33 u34 u35 u36 u37 u38 u39 u40 u41 u42 u43 u44 u45 u46 u47 u48 u49 u50 u51 u52 u53 u54 u55:Value),a'={tmps:= #[u0,.slice A l.length cp,.pointer (some ⟨w.heap.size,0,none⟩),u3,.bool false,.int .i64 fr,u6,u7,u8,u9,u10,u11,u12,u13,u14,u15,u16,u17,u18,u19,u20,u21,u22,u23,u24,u25,u26,u27,u28,u29,u30,u31,u32,u33,u34,u35,u36,u37,u38,u39,u40,u41,u42,u43,u44,u45,u46,u47,u48,u49,u50,u51,u52,u53,u54,u55],defers:=[]}/\sH w c l fr w') (fun a' _=>(c.hi-intOf (a'.tmps.getD 5 undef)).toNat) rfl ?_ ?_
 ·obtain⟨fr,Pd⟩: ∃fr,c.lo=fr:=⟨_,rfl⟩;have HJ:=al (sH.start w c l hc);rw[Pd]at HJ⊢;clear hc;have hc:fr<=c.hi:=HJ.out.2.2.2.1;have HFR:=al Pd;clear Pd;go_wp2_with fail
  go_step3
  go_wp2_with fail
  go_loopw [4,5,12] (fun v4 v5 i wr=>v4=.bool false/\v5=.int .i64 fr/\ ∃k:Nat,k<=l.length/\i=.int .i64 (k:Int)/\(∀d∈l.take k,¬covers c d fr)/\sH w c l fr wr) (fun _ _ i _=>l.length-(intOf i).toNat)
  case atStart=>exact⟨rfl,rfl,0,dj _,rfl,by simp,HJ.out⟩
  case round=>
   obtain⟨rfl,rfl,k,hk,rfl,hno,hj⟩:=hrel
   rename World=>w3
   by_cases hlt:k<l.length
   ·obtain⟨x,hx⟩: ∃x,l[k]?=some x:=⟨_,ao hlt⟩;obtain⟨b,o,rfl,qL,c0,c1,c2,c3,c4⟩:=H.out.at_ hx;have hb:b<w.heap.size:=aE w _ c0;have c0':=(hj.1.cell (p:=⟨b,o+k*5,none⟩) hb).trans c0;have c1':=(hj.1.cell (p:=⟨b,o+k*5+1,none⟩) hb).trans c1;have Si:=(hj.1.cell (p:=⟨b,o+k*5+2,none⟩) hb).trans c2;have VT:=(hj.1.cell (p:=⟨b,o+k*5+3,none⟩) hb).trans c3;have VU:=(hj.1.cell (p:=⟨b,o+k*5+4,none⟩) hb).trans c4;obtain⟨q0,q1,q2,q3,q4⟩:=rC hj.2.1;have zI:=hfit x (dd hx);have hs3:=hj.1.size;have hbz:w.heap.size<w3.heap.size:=(da.1 hj.2.1).1;have Zo:=hj.2.2.1;have Zp:=hj.2.2.2.1;have Zq:=zI.2.1.1;have Zr:=zI.2.1.2;have Zt:=zI.2.2.1.1;have Zu:=zI.2.2.1.2;have HX:=al (ab hx (ab hno hj));clear c0 c1 c2 c3 c4 hx hno hj zI
    have skip: ¬covers c x fr-> ∀d∈l.take (k+1),¬covers c d fr:=by
     intro hn d hd;rw[dH HX.out.1]at hd;rcases dy.1 hd with hd|hd
     ·exact HX.out.2.1 d hd
     ·simp at hd;subst hd;exact hn
    have HS:=al skip;clear skip;by_cases g1:x.aK=c.aK
    ·rw[g1]at c1';by_cases g2:x.key=c.key
     ·rw[g2]at Si;have HG:=al (ab g1 g2);clear g1 g2
      cases hcw:c.wr with
      |true=>
       cases IZ:x.wr with
       |false=>
        rw[hcw]at q0;rw[IZ]at c0';have HW:=al (ab hcw IZ);clear hcw IZ;go_wp2_with fail;go_roundw
        case rel=>exact⟨rfl,rfl,k+1,by omega,by go_num,HS.out (fun hh=>by have:=hh.2.2.1 HW.out.1;rw[HW.out.2]at this;cases this),HX.out.2.2.box⟩
        case measure=>simp[intOf];omega
       |true=>
        rw[hcw]at q0;rw[IZ]at c0';have HW:=al (fun(_:c.wr=true)=>IZ);clear hcw IZ;by_cases g5:fr<x.lo
        ·go_wp2_with fail;go_roundw
         case rel=>exact⟨rfl,rfl,k+1,by omega,by go_num,HS.out (fun hh=>by have:=hh.2.2.2.1;omega),HX.out.2.2.box⟩
         case measure=>simp[intOf];omega
        ·by_cases g6:x.hi<fr
         ·go_wp2_with fail;go_roundw
          case rel=>exact⟨rfl,rfl,k+1,by omega,by go_num,HS.out (fun hh=>by have:=hh.2.2.2.2;omega),HX.out.2.2.box⟩
          case measure=>simp[intOf];omega
         ·by_cases g7:c.hi<=x.hi
          ·go_wp2_with fail;simp only[Exit.jump];go_ret
           refine eK.yes (fun n h1 h2=>?_) HX.out.2.2.box.1;by_cases h3:n<fr
           ·exact HX.out.2.2.2.2.2.2 n h1 h3
           ·exact⟨x,dd HX.out.1,HG.out.1,HG.out.2,HW.out,by omega,by omega⟩
          ·go_wp2_with fail
           go_step3
           refine⟨rfl,x.hi+1,_,_,_,_,_,_,_,_,_,_,_,_,_,_,_,_,_,_,_,_,_,_,_,_,_,_,_,_,_,_,_,_,_,_,_,_,_,_,_,_,_,_,_,_,_,_,_,_,_,_,_,_,rfl,HX.out.2.2.next HX.out.1 HG.out.1 HG.out.2 HW.out (by omega) (by omega) (by omega)⟩
      |false=>
       rw[hcw]at q0;have HW:=al (show c.wr=true->x.wr=true from fun h=>by rw[hcw]at h;cases h);clear hcw;by_cases g5:fr<x.lo
       ·go_wp2_with fail;go_roundw
        case rel=>exact⟨rfl,rfl,k+1,by omega,by go_num,HS.out (fun hh=>by have:=hh.2.2.2.1;omega),HX.out.2.2.box⟩
        case measure=>simp[intOf];omega
       ·by_cases g6:x.hi<fr
        ·go_wp2_with fail;go_roundw
         case rel=>exact⟨rfl,rfl,k+1,by omega,by go_num,HS.out (fun hh=>by have:=hh.2.2.2.2;omega),HX.out.2.2.box⟩
         case measure=>simp[intOf];omega
        ·by_cases g7:c.hi<=x.hi
         ·go_wp2_with fail;simp only[Exit.jump];go_ret
          refine eK.yes (fun n h1 h2=>?_) HX.out.2.2.box.1;by_cases h3:n<fr
          ·exact HX.out.2.2.2.2.2.2 n h1 h3
          ·exact⟨x,dd HX.out.1,HG.out.1,HG.out.2,HW.out,by omega,by omega⟩
         ·go_wp2_with fail
          go_step3
          refine⟨rfl,x.hi+1,_,_,_,_,_,_,_,_,_,_,_,_,_,_,_,_,_,_,_,_,_,_,_,_,_,_,_,_,_,_,_,_,_,_,_,_,_,_,_,_,_,_,_,_,_,_,_,_,_,_,_,_,rfl,HX.out.2.2.next HX.out.1 HG.out.1 HG.out.2 HW.out (by omega) (by omega) (by omega)⟩
     ·have g3:(x.key==c.key)=false:=by simpa using g2
      have g4:x.key.isEmpty=x.key.isEmpty:=rfl;clear g4;have HG:=al g2;go_wp2_with fail;go_roundw
      case rel=>exact⟨rfl,rfl,k+1,by omega,by go_num,HS.out (fun hh=>HG.out hh.2.1),HX.out.2.2.box⟩
      case measure=>simp[intOf];omega
    ·have g3:(x.aK==c.aK)=false:=by simpa using g1
     have g4:(x.aK !=c.aK)=true:=by simpa using g1
     have HG:=al g1;clear g1;go_wp2_with fail;go_roundw
     case rel=>exact⟨rfl,rfl,k+1,by omega,by go_num,HS.out (fun hh=>HG.out hh.1),HX.out.2.2.box⟩
     case measure=>simp[intOf];omega
   ·have hkl:k=l.length:=by omega
    subst hkl;rw[ie]at hno;have HX:=al (ab hno hj);clear hno hj;go_wp2_with fail;simp only[Exit.jump];go_ret
    refine eK.no (fun hh=>?_) HX.out.2.1;obtain⟨d,hd,hcv⟩:=hh fr HX.out.2.2.2.1 HX.out.2.2.2.2.1;exact HX.out.1 d hd hcv
 ·rintro a' w' ⟨fr,u0,u3,u6,u7,u8,u9,u10,u11,u12,u13,u14,u15,u16,u17,u18,u19,u20,u21,u22,u23,u24,u25,u26,u27,u28,u29,u30,u31,u32,u33,u34,u35,u36,u37,u38,u39,u40,u41,u42,u43,u44,u45,u46,u47,u48,u49,u50,u51,u52,u53,u54,u55,rfl,hj⟩;have HJ:=al hj;clear hj;go_wp2_with fail
  go_loopw [4,5,12] (fun v4 v5 i wr=>v4=.bool false/\v5=.int .i64 fr/\ ∃k:Nat,k<=l.length/\i=.int .i64 (k:Int)/\(∀d∈l.take k,¬covers c d fr)/\sH w c l fr wr) (fun _ _ i _=>l.length-(intOf i).toNat)
  case atStart=>exact⟨rfl,rfl,0,dj _,rfl,by simp,HJ.out⟩
  case round=>
   obtain⟨rfl,rfl,k,hk,rfl,hno,hj⟩:=hrel
   rename World=>w3
   by_cases hlt:k<l.length
   ·obtain⟨x,hx⟩: ∃x,l[k]?=some x:=⟨_,ao hlt⟩;obtain⟨b,o,rfl,qL,c0,c1,c2,c3,c4⟩:=H.out.at_ hx;have hb:b<w.heap.size:=aE w _ c0;have c0':=(hj.1.cell (p:=⟨b,o+k*5,none⟩) hb).trans c0;have c1':=(hj.1.cell (p:=⟨b,o+k*5+1,none⟩) hb).trans c1;have Si:=(hj.1.cell (p:=⟨b,o+k*5+2,none⟩) hb).trans c2;have VT:=(hj.1.cell (p:=⟨b,o+k*5+3,none⟩) hb).trans c3;have VU:=(hj.1.cell (p:=⟨b,o+k*5+4,none⟩) hb).trans c4;obtain⟨q0,q1,q2,q3,q4⟩:=rC hj.2.1;have zI:=hfit x (dd hx);have hs3:=hj.1.size;have hbz:w.heap.size<w3.heap.size:=(da.1 hj.2.1).1;have Zo:=hj.2.2.1;have Zp:=hj.2.2.2.1;have Zq:=zI.2.1.1;have Zr:=zI.2.1.2;have Zt:=zI.2.2.1.1;have Zu:=zI.2.2.1.2;have HX:=al (ab hx (ab hno hj));clear c0 c1 c2 c3 c4 hx hno hj zI
    have skip: ¬covers c x fr-> ∀d∈l.take (k+1),¬covers c d fr:=by
     intro hn d hd;rw[dH HX.out.1]at hd;rcases dy.1 hd with hd|hd
     ·exact HX.out.2.1 d hd
     ·simp at hd;subst hd;exact hn
    have HS:=al skip;clear skip;by_cases g1:x.aK=c.aK
    ·rw[g1]at c1';by_cases g2:x.key=c.key
     ·rw[g2]at Si;have HG:=al (ab g1 g2);clear g1 g2
      cases hcw:c.wr with
      |true=>
       cases IZ:x.wr with
       |false=>
        rw[hcw]at q0;rw[IZ]at c0';have HW:=al (ab hcw IZ);clear hcw IZ;go_wp2_with fail;go_roundw
        case rel=>exact⟨rfl,rfl,k+1,by omega,by go_num,HS.out (fun hh=>by have:=hh.2.2.1 HW.out.1;rw[HW.out.2]at this;cases this),HX.out.2.2.box⟩
        case measure=>simp[intOf];omega
       |true=>
        rw[hcw]at q0;rw[IZ]at c0';have HW:=al (fun(_:c.wr=true)=>IZ);clear hcw IZ;by_cases g5:fr<x.lo
        ·go_wp2_with fail;go_roundw
         case rel=>exact⟨rfl,rfl,k+1,by omega,by go_num,HS.out (fun hh=>by have:=hh.2.2.2.1;omega),HX.out.2.2.box⟩
         case measure=>simp[intOf];omega
        ·by_cases g6:x.hi<fr
         ·go_wp2_with fail;go_roundw
          case rel=>exact⟨rfl,rfl,k+1,by omega,by go_num,HS.out (fun hh=>by have:=hh.2.2.2.2;omega),HX.out.2.2.box⟩
          case measure=>simp[intOf];omega
         ·by_cases g7:c.hi<=x.hi
          ·go_wp2_with fail;simp only[Exit.jump];go_ret
           refine eK.yes (fun n h1 h2=>?_) HX.out.2.2.box.1;by_cases h3:n<fr
           ·exact HX.out.2.2.2.2.2.2 n h1 h3
           ·exact⟨x,dd HX.out.1,HG.out.1,HG.out.2,HW.out,by omega,by omega⟩
          ·go_wp2_with fail
           go_step3
           refine⟨rfl,⟨x.hi+1,_,_,_,_,_,_,_,_,_,_,_,_,_,_,_,_,_,_,_,_,_,_,_,_,_,_,_,_,_,_,_,_,_,_,_,_,_,_,_,_,_,_,_,_,_,_,_,_,_,_,_,_,rfl,HX.out.2.2.next HX.out.1 HG.out.1 HG.out.2 HW.out (by omega) (by omega) (by omega)⟩,by simp[intOf];omega⟩
      |false=>
       rw[hcw]at q0;have HW:=al (show c.wr=true->x.wr=true from fun h=>by rw[hcw]at h;cases h);clear hcw;by_cases g5:fr<x.lo
       ·go_wp2_with fail;go_roundw
        case rel=>exact⟨rfl,rfl,k+1,by omega,by go_num,HS.out (fun hh=>by have:=hh.2.2.2.1;omega),HX.out.2.2.box⟩
        case measure=>simp[intOf];omega
       ·by_cases g6:x.hi<fr
        ·go_wp2_with fail;go_roundw
         case rel=>exact⟨rfl,rfl,k+1,by omega,by go_num,HS.out (fun hh=>by have:=hh.2.2.2.2;omega),HX.out.2.2.box⟩
         case measure=>simp[intOf];omega
        ·by_cases g7:c.hi<=x.hi
         ·go_wp2_with fail;simp only[Exit.jump];go_ret
          refine eK.yes (fun n h1 h2=>?_) HX.out.2.2.box.1;by_cases h3:n<fr
          ·exact HX.out.2.2.2.2.2.2 n h1 h3
          ·exact⟨x,dd HX.out.1,HG.out.1,HG.out.2,HW.out,by omega,by omega⟩
         ·go_wp2_with fail
          go_step3
          refine⟨rfl,⟨x.hi+1,_,_,_,_,_,_,_,_,_,_,_,_,_,_,_,_,_,_,_,_,_,_,_,_,_,_,_,_,_,_,_,_,_,_,_,_,_,_,_,_,_,_,_,_,_,_,_,_,_,_,_,_,rfl,HX.out.2.2.next HX.out.1 HG.out.1 HG.out.2 HW.out (by omega) (by omega) (by omega)⟩,by simp[intOf];omega⟩
     ·have g3:(x.key==c.key)=false:=by simpa using g2
      have g4:x.key.isEmpty=x.key.isEmpty:=rfl;clear g4;have HG:=al g2;go_wp2_with fail;go_roundw
      case rel=>exact⟨rfl,rfl,k+1,by omega,by go_num,HS.out (fun hh=>HG.out hh.2.1),HX.out.2.2.box⟩
      case measure=>simp[intOf];omega
    ·have g3:(x.aK==c.aK)=false:=by simpa using g1
     have g4:(x.aK !=c.aK)=true:=by simpa using g1
     have HG:=al g1;clear g1;go_wp2_with fail;go_roundw
     case rel=>exact⟨rfl,rfl,k+1,by omega,by go_num,HS.out (fun hh=>HG.out hh.1),HX.out.2.2.box⟩
     case measure=>simp[intOf];omega
   ·have hkl:k=l.length:=by omega
    subst hkl;rw[ie]at hno;have HX:=al (ab hno hj);clear hno hj;go_wp2_with fail;simp only[Exit.jump];go_ret
    refine eK.no (fun hh=>?_) HX.out.2.1;obtain⟨d,hd,hcv⟩:=hh fr HX.out.2.2.2.1 HX.out.2.2.2.2.1;exact HX.out.1 d hd hcv
-- COV END
def ju(a b:List Cl):Prop:= ∀c∈a,IY c b
def Two(w:World)(v u:Value)(w':World):Prop:=Below w.heap.size w w'/\w'.heap[w.heap.size]?=some (.cells #[v] 87 (0,0))/\w'.heap[w.heap.size+1]?=some (.cells #[u] 87 (0,0))
theorem Two.start(w:World)(v u:Value):Two w v u ((w.alloc (.cells #[v] 87)).alloc (.cells #[u] 87)):=by
 refine⟨((aw _ _).alloc (aq _) _).alloc (by simp) _,?_,?_⟩
 ·rw[Below.heap_alloc _ _ _ (by simp)];exact an _ _
 ·have e:w.heap.size+1=(w.alloc (.cells #[v] 87)).heap.size:=by simp
  rw[e];exact an _ _
theorem Two.below{w w1 w2:World}{v u:Value}(h:Two w v u w1)(hb:Below w1.heap.size w1 w2):Two w v u w2:=by
 refine⟨h.1.trans (hb.mono h.1.size),?_,?_⟩
 ·rw[hb.block _ (Array.getElem?_eq_some_iff.1 h.2.1).1];exact h.2.1
 ·rw[hb.block _ (Array.getElem?_eq_some_iff.1 h.2.2).1];exact h.2.2
theorem Two.alloc{w w1:World}{v u:Value}(h:Two w v u w1)(o:Obj):Two w v u (w1.alloc o):=h.below ((aw _ _).alloc (aq _) _)
theorem I0(w:World)(F G:Nat->Prop)(v u:Value)(a b:List Cl)(ha:dJ w F v a)(hb:dJ w G u b)(Kk:a.length<=1000000)(hlb:b.length<=1000000)(hpa: ∀c∈a,c.lo<=c.hi)(Dw: ∀c∈a,c.fits)(Zv: ∀c∈b,c.fits):
  Calls Tryz.prog 32 #[.agg #[v],.agg #[u]] w (eK (ju a b) w):=by
 obtain⟨A,c,rfl,hnc,hcm⟩:=ha.slice;obtain⟨B,d,rfl,hnd,XR⟩:=hb.slice;have H:=al (ab ha (ab hb (Two.start w (.slice A a.length c) (.slice B b.length d))));clear ha hb;go_enter Tryz.func32,Tryz.ntmps32;go_wp2_with fail
 go_loopw [10] (fun i wr=> ∃k:Nat,k<=a.length/\i=.int .i64 (k:Int)/\(∀c∈a.take k,IY c b)/\Two w (.slice A a.length c) (.slice B b.length d) wr) (fun i _=>a.length-(intOf i).toNat)
 case atStart=>exact⟨0,dj _,rfl,by simp,H.out.2.2⟩
 case round=>
  obtain⟨k,hk,rfl,hal,ht⟩:=hrel;by_cases hlt:k<a.length
  ·obtain⟨x,hx⟩: ∃x,a[k]?=some x:=⟨_,ao hlt⟩;obtain⟨b1,o1,rfl,Lf,c0,c1,c2,c3,c4⟩:=H.out.1.at_ hx;have l1:b1<w.heap.size:=aE w _ c0;have c0':=(ht.1.cell (p:=⟨b1,o1+k*5,none⟩) l1).trans c0;have c1':=(ht.1.cell (p:=⟨b1,o1+k*5+1,none⟩) l1).trans c1;have Si:=(ht.1.cell (p:=⟨b1,o1+k*5+2,none⟩) l1).trans c2;have VT:=(ht.1.cell (p:=⟨b1,o1+k*5+3,none⟩) l1).trans c3;have VU:=(ht.1.cell (p:=⟨b1,o1+k*5+4,none⟩) l1).trans c4;have q1:=bO ht.2.2;have hsz:w.heap.size+1<wr.heap.size:=(da.1 ht.2.2).1;have hmx:=dd hx;have hbl:Below w.heap.size w (wr.alloc (.cells #[.bool x.wr,.int .i64 x.aK,.string ⟨x.key.toArray⟩,.int .i64 x.lo,.int .i64 x.hi] 48)):=(ht.alloc _).1;have HX:=al (ab hx (ab hal (ab ht (ab hmx hbl))));clear c0 c1 c2 c3 c4 hx hal ht hmx hbl;go_wp2_with fail;refine(EG _ G _ x b (cd.below H.out.2.1 HX.out.2.2.2.2) hlb (hpa x HX.out.2.2.2.1) (Dw x HX.out.2.2.2.1).2.2.1.2 Zv).mono ?_;rintro e w2 ⟨r,hr,rfl,hb2⟩;have ht2:=(HX.out.2.2.1.alloc _).below hb2
   cases r with
   |true=>
    have HT:=al (ab (hr.1 rfl) ht2);clear hr ht2 hb2;go_wp2_with fail;go_roundw
    case rel=>
     refine⟨k+1,by omega,by go_num,?_,HT.out.2⟩;intro c hc;rw[dH HX.out.1]at hc;rcases dy.1 hc with hc|hc
     ·exact HX.out.2.1 c hc
     ·simp at hc;subst hc;exact HT.out.1
    case measure=>simp[intOf];omega
   |false=>
    have hnc: ¬IY x b:=fun h=>by have:=hr.2 h;cases this
    have HT:=al (ab hnc ht2);clear hr ht2 hb2 hnc;go_wp2_with fail;go_ret
    exact eK.no (fun hh=>HT.out.1 (hh x HX.out.2.2.2.1)) HT.out.2.1
  ·have hkl:k=a.length:=by omega
   subst hkl;rw[ie]at hal;have HX:=al (ab hal ht);clear hal ht;go_wp2_with fail;go_ret
   exact eK.yes HX.out.1 HX.out.2.1
end Go.Proofs.YtagemonojdgbdaaGreatDoor
