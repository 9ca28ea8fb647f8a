import Derived.Test.YtagemonojdgbdaaGreatDoorF28
import Derived.Test.YtagemonojdgbdaaGreatDoorF31
namespace Go.Proofs.YtagemonojdgbdaaGreatDoor
set_option maxRecDepth 100000
set_option maxHeartbeats 16000000
open Go.RowKit
section
open Go.RowKit Go.Maps Go.WideShapes
abbrev pQ:=List (List UInt8×Option Rw)
def TY(w:World)(FR:Nat->Prop):Option Value->Option (Option Rw)->Prop
 |none,none=>True
 |some v,some x=>sI w v x/\ ∀b,v=.pointer (some ⟨b,0,none⟩)->FR b
 |_,_=>False
structure mM (w:World) (B T:Nat) (most:Int) (o:Nat) (l:av) (wl:pQ) (FT:Nat->Nat->Prop) (m n:Nat) (g:Value->Option Value) (FR:Nat->Prop):Prop where
 blk:w.heap[B]?=some (.cells #[.pointer (some ⟨T,0,none⟩),.map (some m)] 109 (0,0))
 map:dM Tryz.prog w 9 m n g
 tab:cE w T most o l FT
 up:ez wl
 key: ∀q∈wl,1<=q.1.length/\q.1.length<=16
 fit: ∀q∈wl,∀r,q.2=some r-> ∀c,I6 (r.aK c)
 wr: ∀k:List UInt8,TY w FR (g (.string ⟨k.toArray⟩)) (au k wl)
 bB: ∀q,¬FT B q
 bm: ∀q,¬FT m q
 bR: ∀b,FR b->b≠B/\b≠m/\b<w.heap.size/\ ∀q,¬FT b q
 Bm:B≠m
 cnt:n<=wl.length
def eV(w:World)(B T:Nat)(most:Int)(o:Nat)(l:av)(wl:pQ)(FT:Nat->Nat->Prop)(FB:Nat->Prop):Prop:=
 ∃m n g FR,mM w B T most o l wl FT m n g FR/\FB B/\FB m/\ ∀b,FR b->FB b
section
variable{w w':World}{B T o:Nat}{most:Int}{l:av}{wl:pQ}{FT:Nat->Nat->Prop}{FB S:Nat->Prop}{m n:Nat}{g:Value->Option Value}{FR:Nat->Prop}
theorem TY.only{a:Option Value}{b:Option (Option Rw)}(h:TY w FR a b)(ho:Only S w w')(hd: ∀b,FR b-> ¬S b):TY w' FR a b:=by
 match a,b,h with
 |none,none,_=>trivial
 |some v,some x,h=>exact⟨h.1.only ho (fun b e=>hd b (h.2 b e)),h.2⟩
theorem mM.only(h:mM w B T most o l wl FT m n g FR)(ho:Only S w w')(hB: ¬S B)(hm: ¬S m)(hR: ∀b,FR b-> ¬S b)(hT: ∀b q,FT b q-> ¬S b):mM w' B T most o l wl FT m n g FR:=
 ⟨ho.heap h.blk hB,h.map.only ho hm,h.tab.eO ho hT,h.up,h.key,h.fit,fun k=>(h.wr k).only ho hR,h.bB,h.bm,fun b hb=>⟨(h.bR b hb).1,(h.bR b hb).2.1,cq (h.bR b hb).2.2.1 ho.size,(h.bR b hb).2.2.2⟩,h.Bm,h.cnt⟩
theorem eV.only(h:eV w B T most o l wl FT FB)(ho:Only S w w')(hB: ∀b,FB b-> ¬S b)(hT: ∀b q,FT b q-> ¬S b):eV w' B T most o l wl FT FB:=by obtain⟨m,n,g,FR,h1,h2,h3,h4⟩:=h;exact⟨m,n,g,FR,h1.only ho (hB B h2) (hB m h3) (fun b hb=>hB b (h4 b hb)) hT,h2,h3,h4⟩
theorem eV.below(h:eV w B T most o l wl FT FB)(hb:Below w.heap.size w w'):eV w' B T most o l wl FT FB:=h.only (qe hb) (fun _ _ h=>h) (fun _ _ _ h=>h)
theorem eV.tab(h:eV w B T most o l wl FT FB):cE w T most o l FT:=by obtain⟨m,n,g,FR,h1,_⟩:=h;exact h1.tab
end
theorem ET(w:World)(T o:Nat)(most:Int)(l:av)(FT:Nat->Nat->Prop)(h:cE w T most o l FT)(hF: ∀b q,FT b q->b<w.heap.size):Calls Tryz.prog 8 #[.pointer (some ⟨T,0,none⟩)] w fun e w'=>
  ∃B,e=.returned (.tuple #[.pointer (some ⟨B,0,none⟩),.int .i64 0])/\eV w' B T most o l [] FT (fun b=>w.heap.size<=b)/\Below w.heap.size w w':=by
 have hmm:= @run_makeMap Tryz.prog;have hm:=dM.made Tryz.prog w 9;have hb:=af w (.map #[] 0);have hb2:=af (w.alloc (.map #[] 0)) (.cells #[.pointer (some ⟨T,0,none⟩),.map (some w.heap.size)] 109);have k2:=an (w.alloc (.map #[] 0)) (.cells #[.pointer (some ⟨T,0,none⟩),.map (some w.heap.size)] 109)
 have H:=al (show ∃B,B=w.heap.size+1/\eV ((w.alloc (.map #[] 0)).alloc (.cells #[.pointer (some ⟨T,0,none⟩),.map (some w.heap.size)] 109)) B T most o l [] FT (fun b=>w.heap.size<=b)/\Below w.heap.size w ((w.alloc (.map #[] 0)).alloc (.cells #[.pointer (some ⟨T,0,none⟩),.map (some w.heap.size)] 109))from
  ⟨_,rfl,⟨w.heap.size,0,fun _=>none,fun _=>False,⟨by simpa using k2,hm.below hb2,(h.below hb).below hb2,eh,fun q hq=>by simp at hq,fun q hq=>by simp at hq,fun k=>trivial,
   fun q hq=>by have:=hF _ q hq;omega,fun q hq=>by have:=hF _ q hq;omega,fun b hb=>hb.elim,by omega,dj _⟩,by omega,aq _,fun b hb=>hb.elim⟩,hb.trans (hb2.mono (by simp))⟩)
 clear h hm hb hb2 k2;go_enter Tryz.func8,Tryz.ntmps8;go_wp2_with fail
 go_ret2
 obtain⟨B,e,h4,h5⟩:=H.out;subst e;exact⟨_,rfl,h4,h5⟩
def gh(k:List UInt8)(wl:pQ)(l:av):Option Rw:=match au k wl with
 |some x=>x
 |none=>au k l
theorem iu(w:World)(B T o:Nat)(most:Int)(l:av)(wl:pQ)(FT:Nat->Nat->Prop)(FB:Nat->Prop)(k:List UInt8)(hk:1<=k.length/\k.length<=16)(h:eV w B T most o l wl FT FB):
  Calls Tryz.prog 38 #[.pointer (some ⟨B,0,none⟩),.string ⟨k.toArray⟩] w (ot (gh k wl l) w):=by
 have hb0:=af w (.cells #[.int .i64 0,.int .i64 0,.int .i64 0,.int .i64 0] 26);have k0:=an w (.cells #[.int .i64 0,.int .i64 0,.int .i64 0,.int .i64 0] 26);obtain⟨m,n,g,FR,hW0,hW1⟩:=h;have hA1: ∀b,FR b->b<w.heap.size:=fun b hb=>(hW0.bR b hb).2.2.1;have h1:=hW0.only (qe hb0) (fun h=>h) (fun h=>h) (fun _ _ h=>h) (fun _ _ _ h=>h);clear hW0 hW1;go_enter Tryz.func38,Tryz.ntmps38;go_upto_region 1 with fail;generalize w.alloc (.cells #[.int .i64 0,.int .i64 0,.int .i64 0,.int .i64 0] 26)=w1 at hb0 k0 h1⊢;obtain⟨A,hA⟩: ∃x,w.heap.size=x:=⟨_,rfl⟩;rw[hA]at k0⊢;have HA:=al (ab hA (ab hb0 k0));have hW:=h1;have Wi: ∀b,FR b-> ¬b=A:=fun b hb e=>by have:=hA1 b hb;have:=HA.out.1;omega
 clear h1 hA1;have g1:=hW.blk;have d0:w1.cell? ⟨B,0,none⟩=some (.pointer (some ⟨T,0,none⟩)):=by simp[World.cell?,g1]
 have d1:w1.cell? ⟨B,1,none⟩=some (.map (some m)):=by simp[World.cell?,g1]
 have HC:=al (dm w1 k);rw[tq hk]at HC;have HM:=al (ab hW.map (CL (k:=k) (by simp[maxLen];omega)));have hwr:=hW.wr k;have HW:=al (ab hW hk);clear hW g1 hk hb0 k0 hA;go_wp2_with fail;refine HC.out.mono ?_;rintro e w2 ⟨rfl,rfl⟩;clear HC
 cases hq:au k wl with
 |none=>
  have HQ:=al (show gh k wl l=au k l by unfold gh;rw[hq]);rw[hq]at hwr;obtain⟨gv,zS⟩: ∃x,g (.string ⟨k.toArray⟩)=x:=⟨_,rfl⟩;rw[zS]at hwr
  cases gv with
  |some v=>exact hwr.elim
  |none=>
   have HG:=al (rF w1 T o most l FT k HW.out.1.tab HW.out.2);clear hq hwr;go_wp2_with (first|(at_lookup;go_loud (refine ek (key:=.string ⟨k.toArray⟩) _ rfl _ _ 107 rfl uY Tryz.underlying107 (Tryz.lL _) rfl HM.out.1 rfl HM.out.2 (.pointer none) false (by rw[zS];rfl) (by rw[zS];rfl) ?_))|fail);refine HG.out.mono ?_;rintro e w3 ⟨rfl,hb⟩;have k3:=pw hb HA.out.2.2;have HB:=al (ab hb k3);obtain⟨⟨z0,z1,z2,z3⟩,y0,y1,y2,y3⟩:=ct k3;obtain⟨⟨ra,rb,rc,rd⟩,hr⟩: ∃r,(au k l).getD .zero=r:=⟨_,rfl⟩;obtain⟨E,hE⟩: ∃E:Int,(if(au k l).isSome=true then 0 else 14)=E:=⟨_,rfl⟩;rw[hr,hE];unfold Rw.val;have HR:=al (ab hr hE);clear hb k3 hr hE zS;go_wp2_with fail;have HO:=al (bK (v0:=.int .i64 ra) (v1:=.int .i64 rb) (v2:=.int .i64 rc) (v3:=.int .i64 rd) HB.out.2);generalize ((((w3.setCell ⟨A,0,none⟩ (.int .i64 ra)).setCell ⟨A,1,none⟩ (.int .i64 rb)).setCell ⟨A,2,none⟩ (.int .i64 rc)).setCell ⟨A,3,none⟩ (.int .i64 rd))=w4 at HO⊢;refine dq (aC rfl _ _ _ _ _ _ _ rfl HO.out.1 Tryz.underlying26 rfl (by kernel_rfl)) rfl ⟨?_,?_⟩
   ·rw[HQ.out,HR.out.1,HR.out.2];rfl
   ·have h3:Below w.heap.size w w3:=HA.out.2.1.trans (HB.out.1.mono HA.out.2.1.size);exact h3.trans (HO.out.2.aG h3.size (fun k hk h=>by have:=HA.out.1;omega))
 |some x=>
  have HQ:=al (show gh k wl l=x by unfold gh;rw[hq]);rw[hq]at hwr;obtain⟨gv,zS⟩: ∃x,g (.string ⟨k.toArray⟩)=x:=⟨_,rfl⟩;rw[zS]at hwr
  cases gv with
  |none=>exact hwr.elim
  |some v=>
   obtain⟨⟨z0,z1,z2,z3⟩,y0,y1,y2,y3⟩:=ct HA.out.2.2
   cases x with
   |none=>obtain rfl:=hwr.1;clear hq hwr;go_wp2_with (first|(at_lookup;go_loud (refine ek (key:=.string ⟨k.toArray⟩) _ rfl _ _ 107 rfl uY Tryz.underlying107 (Tryz.lL _) rfl HM.out.1 rfl HM.out.2 (.pointer none) true (by rw[zS];rfl) (by rw[zS];rfl) ?_))|fail);have HO:=al (bK (v0:=.int .i64 0) (v1:=.int .i64 0) (v2:=.int .i64 0) (v3:=.int .i64 0) HA.out.2.2);generalize ((((w1.setCell ⟨A,0,none⟩ (.int .i64 0)).setCell ⟨A,1,none⟩ (.int .i64 0)).setCell ⟨A,2,none⟩ (.int .i64 0)).setCell ⟨A,3,none⟩ (.int .i64 0))=w4 at HO⊢;refine dq (aC rfl _ _ _ _ _ _ _ rfl HO.out.1 Tryz.underlying26 rfl (by kernel_rfl)) rfl ⟨by rw[HQ.out];rfl,?_⟩;exact HA.out.2.1.trans (HO.out.2.aG HA.out.2.1.size (fun k hk h=>by have:=HA.out.1;omega))
   |some r=>obtain⟨⟨b,rfl,zn⟩,NJ⟩:=hwr;obtain⟨ra,rb,rc,rd⟩:=r;obtain⟨⟨x0,x1,x2,x3⟩,-⟩:=ct zn;have hbl:=(HW.out.1.bR b (NJ b rfl)).2.2.1;have hbA: ¬b=A:=Wi b (NJ b rfl);clear hq NJ hbl zn Wi;go_wp2_with (first|(at_lookup;go_loud (refine ek (key:=.string ⟨k.toArray⟩) _ rfl _ _ 107 rfl uY Tryz.underlying107 (Tryz.lL _) rfl HM.out.1 rfl HM.out.2 (.pointer (some ⟨b,0,none⟩)) true (by rw[zS];rfl) (by rw[zS];rfl) ?_))|fail);have HO:=al (bK (v0:=.int .i64 ra) (v1:=.int .i64 rb) (v2:=.int .i64 rc) (v3:=.int .i64 rd) HA.out.2.2);generalize ((((w1.setCell ⟨A,0,none⟩ (.int .i64 ra)).setCell ⟨A,1,none⟩ (.int .i64 rb)).setCell ⟨A,2,none⟩ (.int .i64 rc)).setCell ⟨A,3,none⟩ (.int .i64 rd))=w4 at HO⊢;refine dq (aC rfl _ _ _ _ _ _ _ rfl HO.out.1 Tryz.underlying26 rfl (by kernel_rfl)) rfl ⟨by rw[HQ.out];rfl,?_⟩;exact HA.out.2.1.trans (HO.out.2.aG HA.out.2.1.size (fun k hk h=>by have:=HA.out.1;omega))
end
theorem qz{P:Program}{w:World}{ops:Array Oper}{o:Oper}{a:Act}{K:Act->World->Prop}{Q:Exit->Act->World->Prop}{E:Prop}(hgd:o.guard=none)(s x:Operand)(t:TypeId)
  (ho:o.op=.call {callee:=.builtin .append,args:= #[s,x],argTypes:= #[t,t]})
  (base:Nat) (e:TypeId) (i:TypeInfo) (z:Value) (k bytes:Nat) (ht:P.underlying t=some (.slice e)) (hi:P.info? e=some i) (hz:i.zero=some z)
  (hsize:i.size=k) (hby:i.bytes=bytes) (hzs:z.cells.size=k) (dX:0<k)
  (v:Value) (n:Nat) (xs:List Value) (hs:a.eval s=v) (hown:w.ownsRow base e k v n xs) (F:Nat->Prop) (vx:Value) (news:List (List Value)) (hx:a.eval x=vx) (hr:cd k w F vx news) (hk: ∀y∈news,y.length=k) (h1: ∀u∈news.flatten,u.oneCell'=true)
  (hbytes:(n+news.length)*bytes<=140737488355328) (h63:n+news.length<=maxLen) (hbase:base<=w.heap.size)
  (h: ∀v' w',w'.ownsRow base e k v' (n+news.length) (xs++news.flatten)->w.grownBy w' v.ownBlock->(v'.ownBlock=v.ownBlock\/v'.ownBlock=some w.heap.size)->K (a.put o.dst v') w'):
  if Region.wanted o (yielded ops a.tmps)=true then Oper.wp P o a w K Q else E:=by
 have hw:Region.wanted o (yielded ops a.tmps)=true:=by simp[Region.wanted,hgd]
 rw[fi hw];obtain⟨v',w',hrun,h2,h3,h4⟩:=jM (P:=P) w base t o.type e i z k bytes ht hi hz hsize hby hzs dX v n xs hown F vx news hr hk h1 hbytes h63 hbase;unfold Oper.wp execOp;simp only[ho,resolve,invoke,builtin,Sem.run_bind,Sem.run_pure,Result.andThen_ok,List.map_toArray,lx,kb,hs,hx,hrun];exact h v' w' h2 h3 h4
def Jb(l:List Cl):List Value:=(l.map Cl.cells).flatten
theorem Py(l m:List Cl):Jb (l++m)=Jb l++Jb m:=by simp[Jb]
theorem qA{w:World}{X base:Nat}{x:Cl}(h:w.heap[X]?=some (.cells #[.bool x.wr,.int .i64 x.aK,.string ⟨x.key.toArray⟩,.int .i64 x.lo,.int .i64 x.hi] 48 (0,0)))(hb:base<=X):w.ownsRow base 48 5 (.slice (some ⟨X,0,none⟩) 1 1) 1 (Jb [x]):=by refine⟨by simp[Jb,Cl.cells],.inr ⟨X,1,_,rfl,hb,h,aq _,by simp[maxLen],rfl,?_⟩⟩;simp[Jb,Cl.cells]
theorem rG{w:World}{X:Nat}{x:Cl}(h:w.heap[X]?=some (.cells #[.bool x.wr,.int .i64 x.aK,.string ⟨x.key.toArray⟩,.int .i64 x.lo,.int .i64 x.hi] 48 (0,0))):cd 5 w (fun _=>True) (.slice (some ⟨X,0,none⟩) 1 1) ([x].map Cl.cells):=
 cd.cP (qA h (dj _)) (di _) (by decide) (fun _ _=>trivial)
def Jc(l:List Cl)(w:World)(e:Ending)(w':World):Prop:= ∃v,e=.returned (.tuple #[v,.int .i64 0])/\w'.ownsRow w.heap.size 48 5 v l.length (Jb l)/\Below w.heap.size w w'
def AL(w:World)(X R:Nat)(old now:Rw)(v:Value)(l:List Cl)(wr:World):Prop:=
 wr.ownsRow w.heap.size 48 5 v l.length (Jb l)/\(∀g,v.ownBlock=some g->g≠X/\g≠R)/\Below w.heap.size w wr/\wr.heap[X]?=some (.cells #[.int .i64 old.a,.int .i64 old.b,.int .i64 old.c,.int .i64 old.d] 26 (0,0))/\
  wr.heap[R]?=some (.cells #[.int .i64 now.a,.int .i64 now.b,.int .i64 now.c,.int .i64 now.d] 26 (0,0))
theorem AL.still{w wr w1:World}{X R:Nat}{old now:Rw}{v:Value}{l:List Cl}(h:AL w X R old now v l wr)(hb:Below wr.heap.size wr w1):AL w X R old now v l w1:=by obtain⟨h1,h2,h3,h4,h5⟩:=h;exact⟨aX h1 hb,h2,h3.trans (hb.mono h3.size),pw hb h4,pw hb h5⟩
theorem AL.more{w wr w1 w2:World}{X R Y:Nat}{old now:Rw}{v v':Value}{l:List Cl}{x:Cl}(h:AL w X R old now v l wr)(hb:Below wr.heap.size wr w1)(hown:w2.ownsRow w.heap.size 48 5 v' (l.length+1) (Jb l++([x].map Cl.cells).flatten))
  (hg:w1.grownBy w2 v.ownBlock) (hat:v'.ownBlock=v.ownBlock\/v'.ownBlock=some Y) (hY:w1.heap.size<=Y):AL w X R old now v' (l++[x]) w2:=by
 obtain⟨h1,h2,h3,h4,h5⟩:=h;have k4:=pw hb h4;have k5:=pw hb h5;have ho:=Only.of_grownBy hg;refine⟨by rw[Py,gk];exact hown,fun g zS=>?_,(h3.trans (hb.mono h3.size)).trans (ho.aG (de h3.size hb.size) (fun k hk e=>?_)),ho.heap k4 (fun e=>(h2 X e).1 rfl),ho.heap k5 (fun e=>(h2 R e).2 rfl)⟩
 ·rcases hat with e|e
  ·exact h2 g (by rw[<-e];exact zS)
  ·rw[zS]at e;injection e with e;have:=aO k4;have:=aO k5;exact⟨by omega,by omega⟩
 ·have:=(h1.lt k e).1;omega
theorem zT(w:World)(B T o:Nat)(most:Int)(l:av)(wl:pQ)(FT:Nat->Nat->Prop)(FB:Nat->Prop)(k:List UInt8)(hk:1<=k.length/\k.length<=16)(h:eV w B T most o l wl FT FB)(old:Rw)(now:Rw)(hq:gh k wl l=(some old)):
  Calls Tryz.prog 10 #[.int .i64 10,.pointer (some ⟨B,0,none⟩),.string ⟨k.toArray⟩,now.val] w (Jc (fx k (some old) none) w):=by
 obtain⟨i0,hi,hz0,hz1,hz2⟩:=eC Tryz.l7;have HI:=al hi;obtain⟨na,nb,nc,nd⟩:=now;unfold Rw.val;have hb0:=af w (.cells #[.int .i64 na,.int .i64 nb,.int .i64 nc,.int .i64 nd] 26);have k0:=an w (.cells #[.int .i64 na,.int .i64 nb,.int .i64 nc,.int .i64 nd] 26);have HG:=al (fun w' (h':eV w' B T most o l wl FT FB)=>iu w' B T o most l wl FT FB k hk h');have h1:=h.below hb0;rw[hq]at HG;clear h hk hq hi;go_enter Tryz.func10,Tryz.ntmps10;go_upto_region 1 with fail;generalize w.alloc (.cells #[.int .i64 na,.int .i64 nb,.int .i64 nc,.int .i64 nd] 26)=w1 at hb0 k0 h1⊢;obtain⟨R,hR⟩: ∃x,w.heap.size=x:=⟨_,rfl⟩;rw[hR]at k0⊢;have HC:=al (HG.out w1 h1);have H1:=al (ab hb0 (ab k0 hR));clear hb0 k0 h1 hR HG;go_wp2_with fail;refine HC.out.mono ?_;rintro e w2 ⟨rfl,hb2⟩;obtain⟨oa,ob,oc,od⟩:=old;simp only[ns,me,if_true];unfold Rw.val;have cK:=af w2 (.cells #[.int .i64 oa,.int .i64 ob,.int .i64 oc,.int .i64 od] 26);have kx:=an w2 (.cells #[.int .i64 oa,.int .i64 ob,.int .i64 oc,.int .i64 od] 26);have hb3:=(hb2.trans (cK.mono hb2.size));have kr:=pw hb3 H1.out.2.1;have HX:=al (ab (H1.out.1.trans (hb3.mono H1.out.1.size)) (ab kx kr));clear hb2 cK kx hb3 kr HC;go_upto_region 6 with fail;have rH:=HX.out;clear HX;generalize w2.alloc (.cells #[.int .i64 oa,.int .i64 ob,.int .i64 oc,.int .i64 od] 26)=w3 at rH⊢;obtain⟨X,hX⟩: ∃x,w2.heap.size=x:=⟨_,rfl⟩;rw[hX]at rH⊢;have HX:=al (show Below w.heap.size w w3/\w3.heap[X]?=some (.cells #[.int .i64 oa,.int .i64 ob,.int .i64 oc,.int .i64 od] 26 (0,0))/\w3.heap[R]?=some (.cells #[.int .i64 na,.int .i64 nb,.int .i64 nc,.int .i64 nd] 26 (0,0))from rH);clear rH hX;have hby:=af w3 (.cells #[.bool true,.int .i64 (-1),.string ⟨k.toArray⟩,.int .i64 0,.int .i64 0] 48);have ky:=an w3 (.cells #[.bool true,.int .i64 (-1),.string ⟨k.toArray⟩,.int .i64 0,.int .i64 0] 48);have hs3:w.heap.size<=w3.heap.size:=HX.out.1.size
 have vR:=al (show AL w X R ⟨oa,ob,oc,od⟩ ⟨na,nb,nc,nd⟩ (.slice (some ⟨w3.heap.size,0,none⟩) 1 1) [⟨true,-1,k,0,0⟩] (w3.alloc (.cells #[.bool true,.int .i64 (-1),.string ⟨k.toArray⟩,.int .i64 0,.int .i64 0] 48))from by
  have g4:=pw hby HX.out.2.1;have g5:=pw hby HX.out.2.2;have l4:=aO HX.out.2.1;have l5:=aO HX.out.2.2
  exact⟨qA (x:=⟨true,-1,k,0,0⟩) ky hs3,fun g hg=>by have hg2:some w3.heap.size=some g:=hg;injection hg2 with hg2;exact⟨by omega,by omega⟩,HX.out.1.trans (hby.mono hs3),g4,g5⟩)
 clear hby ky;have hbz:=af (w3.alloc (.cells #[.bool true,.int .i64 (-1),.string ⟨k.toArray⟩,.int .i64 0,.int .i64 0] 48)) (.cells #[.bool true,.int .i64 (-1),.string ⟨#[35]⟩,.int .i64 0,.int .i64 0] 48);have kz:=an (w3.alloc (.cells #[.bool true,.int .i64 (-1),.string ⟨k.toArray⟩,.int .i64 0,.int .i64 0] 48)) (.cells #[.bool true,.int .i64 (-1),.string ⟨#[35]⟩,.int .i64 0,.int .i64 0] 48);rw[show(w3.alloc (.cells #[.bool true,.int .i64 (-1),.string ⟨k.toArray⟩,.int .i64 0,.int .i64 0] 48)).heap.size=w3.heap.size+1 by simp]at kz;have HZ:=al (ab hbz (ab (rG (x:=⟨true,-1,[35],0,0⟩) kz) (aX vR.out.1 hbz)));clear hbz kz;go_upto_region 10 with(at_builtin;go_loud (refine cO _ rfl _ _ 37 rfl w.heap.size 48 i0 _ 5 48 Tryz.underlying37 HI.out hz0 hz1 hz2 rfl (by decide) _ 1 (Jb [⟨true,-1,k,0,0⟩]) rfl HZ.out.2.2 (fun _=>True) (.slice (some ⟨w3.heap.size+1,0,none⟩) 1 1) ([⟨true,-1,[35],0,0⟩].map Cl.cells) rfl HZ.out.2.1 (di _) (kY _) (by decide) (by decide) (by have:=vR.out.2.2.1.size;have:=HZ.out.1.size;omega) ?_);intro v4 w4 dC uZ Mf);have H4:=al (vR.out.more HZ.out.1 dC uZ Mf (aq _));clear dC uZ Mf;have HS:=al (show AL w X R ⟨oa,ob,oc,od⟩ ⟨na,nb,nc,nd⟩ _ (b7 k (some ⟨oa,ob,oc,od⟩) none 0) w4 from H4.out);clear H4;go_wp2_with fail
 go_loopw [14,44] (fun v i wr=> ∃c:Nat,c<=4/\i=.int .i64 (c:Int)/\AL w X R ⟨oa,ob,oc,od⟩ ⟨na,nb,nc,nd⟩ v (b7 k (some ⟨oa,ob,oc,od⟩) none c) wr) (fun _ i _=>4-(intOf i).toNat)
 case atStart=>exact⟨0,by decide,rfl,HS.out⟩
 case round=>
  obtain⟨c,hc,rfl,nA⟩:=hrel;have hlen:=ig k (some ⟨oa,ob,oc,od⟩) none c;have HW:=al (ab nA hlen);by_cases hlt:c<4
  ·have i1:(0:Int)<=(c:Int):=by omega
   have i2:(c:Int)<4:=by omega
   have z0:=bw (r:=⟨oa,ob,oc,od⟩) nA.2.2.2.1 hlt;have y0:=bw (r:=⟨na,nb,nc,nd⟩) nA.2.2.2.2 hlt;obtain⟨x,hx⟩: ∃x,Rw.aK ⟨oa,ob,oc,od⟩ c=x:=⟨_,rfl⟩;obtain⟨y,hy⟩: ∃y,Rw.aK ⟨na,nb,nc,nd⟩ c=y:=⟨_,rfl⟩;rw[hx]at z0;rw[hy]at y0;have HV:=al (ab hx hy);clear nA hlen;clear hx hy;go_wp2_with fail;go_quiet(fail);rename_i nq;clear z0 y0;have HA:=al (HW.out.1.still (show Below wr.heap.size wr (wr.drewN nq)from Only.aG ((oB (fun _=>False) wr).drewN nq) (aq _) (fun _ _ h=>h)));generalize wr.drewN nq=wa at HA⊢;go_upto_region 15 with fail;have HD:=al (HA.out.still (show Below wa.heap.size wa wa.drew from(aw _ _).drew));refine pb (S:=(fun W=>W.heap[X]?=some (.cells #[.int .i64 oa,.int .i64 ob,.int .i64 oc,.int .i64 od] 26 (0,0))/\W.heap[R]?=some (.cells #[.int .i64 na,.int .i64 nb,.int .i64 nc,.int .i64 nd] 26 (0,0)))) (by kernel_rfl) ⟨HA.out.2.2.2.1,HA.out.2.2.2.2⟩ (fun pt=>?_);generalize wa.drew=wd at HD pt⊢;refine aM [0,1,2,3] ?_
   iterate 4 (refine bX (v:=?_) (fun wS hSw=>?_) pt ?_;rotate_left;(obtain⟨s0,s1⟩:=hSw;go_simp;try with_reducible rfl);try simp only[ai,aj,ak,ar])
   refine aN ?_;refine fJ 4 (v:=?_) (fun wS hSw=>?_) pt ?_;rotate_left
   ·obtain⟨s0,s1⟩:=hSw;have q0:=bw (r:=⟨oa,ob,oc,od⟩) s0 hlt;rw[HV.out.1]at q0;go_simp;try with_reducible rfl
   try simp only[ai,aj,ak,ar]
   refine aM [5,6] ?_
   iterate 2 (refine bX (v:=?_) (fun wS hSw=>?_) pt ?_;rotate_left;(obtain⟨s0,s1⟩:=hSw;go_simp;try with_reducible rfl);try simp only[ai,aj,ak,ar])
   refine aN ?_;refine fJ 7 (v:=?_) (fun wS hSw=>?_) pt ?_;rotate_left
   ·obtain⟨s0,s1⟩:=hSw;have q0:=bw (r:=⟨oa,ob,oc,od⟩) s0 hlt;rw[HV.out.1]at q0;go_simp;try with_reducible rfl
   try simp only[ai,aj,ak,ar]
   refine fJ 8 (v:=?_) (fun wS hSw=>?_) pt ?_;rotate_left
   ·obtain⟨s0,s1⟩:=hSw;go_simp;try with_reducible rfl
   try simp only[ai,aj,ak,ar]
   refine aW 9 (fun K hK=>?_);go_simp;refine hK.out _ _ (⟨pw (af _ _) pt.1,pw (af _ _) pt.2⟩) ?_;clear hK K pt;intro pt
   try simp only[ai,aj,ak,ar]
   have cD:=af wd (.cells #[.bool true,.int .i64 (c:Int),.string ⟨#[]⟩,.int .i64 x,.int .i64 x] 48);have HN:=al (ab cD (ab (rG (x:=⟨true,(c:Int),[],x,x⟩) (an wd (.cells #[.bool true,.int .i64 (c:Int),.string ⟨#[]⟩,.int .i64 x,.int .i64 x] 48))) (aX HD.out.1 cD)));clear cD;refine aW 10 (fun K hK=>?_);refine qz rfl _ _ 37 rfl w.heap.size 48 i0 _ 5 48 Tryz.underlying37 HI.out hz0 hz1 hz2 rfl (by decide) _ _ _ rfl HN.out.2.2 (fun _=>True) (.slice (some ⟨wd.heap.size,0,none⟩) 1 1) ([⟨true,(c:Int),[],x,x⟩].map Cl.cells) rfl HN.out.2.1 (di _) (kY _) (by have:=HW.out.2;simp;omega) (by have:=HW.out.2;simp[maxLen];omega) (by have:=HD.out.2.2.1.size;have:=HN.out.1.size;omega) ?_;intro v6 w6 kI ve um;have Mg:=al (HD.out.more (x:=⟨true,(c:Int),[],x,x⟩) HN.out.1 kI ve um (aq _));clear kI ve um HN HD;refine hK.out _ _ (⟨Mg.out.2.2.2.1,Mg.out.2.2.2.2⟩) ?_;clear hK K pt;intro pt
   try simp only[ai,aj,ak,ar]
   refine fJ 11 (v:=?_) (fun wS hSw=>?_) pt ?_;rotate_left
   ·obtain⟨s0,s1⟩:=hSw;go_simp;try with_reducible rfl
   try simp only[ai,aj,ak,ar]
   refine pf (by kernel_rfl) ?_ _;clear pt;go_wp2_with fail;go_roundw
   case rel=>
    refine⟨c+1,by omega,by go_num,?_⟩
    have e:b7 k (some ⟨oa,ob,oc,od⟩) none (c+1)=b7 k (some ⟨oa,ob,oc,od⟩) none c++[⟨true,(c:Int),[],x,x⟩]:=by rw[b7];congr 1;unfold rh;simp only[HV.out.1]
    rw[e];have h:=Mg.out
    skip
    exact h
   case measure=>simp[intOf];omega
  ·obtain rfl:c=4:=by omega
   clear nA hlen;go_wp2_with fail
   go_ret2
   have e:=jO k (some ⟨oa,ob,oc,od⟩) none;have h:=HW.out.1;rw[e]at h;exact⟨_,rfl,h.1,h.2.2.1⟩
theorem zU(w:World)(B T o:Nat)(most:Int)(l:av)(wl:pQ)(FT:Nat->Nat->Prop)(FB:Nat->Prop)(k:List UInt8)(hk:1<=k.length/\k.length<=16)(h:eV w B T most o l wl FT FB)(now:Rw)(hq:gh k wl l=none):
  Calls Tryz.prog 10 #[.int .i64 9,.pointer (some ⟨B,0,none⟩),.string ⟨k.toArray⟩,now.val] w (Jc (fx k none (some now)) w):=by
 obtain⟨i0,hi,hz0,hz1,hz2⟩:=eC Tryz.l7;have HI:=al hi;obtain⟨na,nb,nc,nd⟩:=now;unfold Rw.val;have hb0:=af w (.cells #[.int .i64 na,.int .i64 nb,.int .i64 nc,.int .i64 nd] 26);have k0:=an w (.cells #[.int .i64 na,.int .i64 nb,.int .i64 nc,.int .i64 nd] 26);have HG:=al (fun w' (h':eV w' B T most o l wl FT FB)=>iu w' B T o most l wl FT FB k hk h');have h1:=h.below hb0;rw[hq]at HG;clear h hk hq hi;go_enter Tryz.func10,Tryz.ntmps10;go_upto_region 1 with fail;generalize w.alloc (.cells #[.int .i64 na,.int .i64 nb,.int .i64 nc,.int .i64 nd] 26)=w1 at hb0 k0 h1⊢;obtain⟨R,hR⟩: ∃x,w.heap.size=x:=⟨_,rfl⟩;rw[hR]at k0⊢;have HC:=al (HG.out w1 h1);have H1:=al (ab hb0 (ab k0 hR));clear hb0 k0 h1 hR HG;go_wp2_with fail;refine HC.out.mono ?_;rintro e w2 ⟨rfl,hb2⟩;simp only[Option.getD_none,mv,nh,if_false,Rw.zero];unfold Rw.val;have cK:=af w2 (.cells #[.int .i64 0,.int .i64 0,.int .i64 0,.int .i64 0] 26);have kx:=an w2 (.cells #[.int .i64 0,.int .i64 0,.int .i64 0,.int .i64 0] 26);have hb3:=(hb2.trans (cK.mono hb2.size));have kr:=pw hb3 H1.out.2.1;have HX:=al (ab (H1.out.1.trans (hb3.mono H1.out.1.size)) (ab kx kr));clear hb2 cK kx hb3 kr HC;go_upto_region 6 with fail;have rH:=HX.out;clear HX;generalize w2.alloc (.cells #[.int .i64 0,.int .i64 0,.int .i64 0,.int .i64 0] 26)=w3 at rH⊢;obtain⟨X,hX⟩: ∃x,w2.heap.size=x:=⟨_,rfl⟩;rw[hX]at rH⊢;have HX:=al (show Below w.heap.size w w3/\w3.heap[X]?=some (.cells #[.int .i64 0,.int .i64 0,.int .i64 0,.int .i64 0] 26 (0,0))/\w3.heap[R]?=some (.cells #[.int .i64 na,.int .i64 nb,.int .i64 nc,.int .i64 nd] 26 (0,0))from rH);clear rH hX;have hby:=af w3 (.cells #[.bool true,.int .i64 (-1),.string ⟨k.toArray⟩,.int .i64 0,.int .i64 0] 48);have ky:=an w3 (.cells #[.bool true,.int .i64 (-1),.string ⟨k.toArray⟩,.int .i64 0,.int .i64 0] 48);have hs3:w.heap.size<=w3.heap.size:=HX.out.1.size
 have vR:=al (show AL w X R Rw.zero ⟨na,nb,nc,nd⟩ (.slice (some ⟨w3.heap.size,0,none⟩) 1 1) [⟨true,-1,k,0,0⟩] (w3.alloc (.cells #[.bool true,.int .i64 (-1),.string ⟨k.toArray⟩,.int .i64 0,.int .i64 0] 48))from by
  have g4:=pw hby HX.out.2.1;have g5:=pw hby HX.out.2.2;have l4:=aO HX.out.2.1;have l5:=aO HX.out.2.2
  exact⟨qA (x:=⟨true,-1,k,0,0⟩) ky hs3,fun g hg=>by have hg2:some w3.heap.size=some g:=hg;injection hg2 with hg2;exact⟨by omega,by omega⟩,HX.out.1.trans (hby.mono hs3),g4,g5⟩)
 clear hby ky;have hbz:=af (w3.alloc (.cells #[.bool true,.int .i64 (-1),.string ⟨k.toArray⟩,.int .i64 0,.int .i64 0] 48)) (.cells #[.bool true,.int .i64 (-1),.string ⟨#[35]⟩,.int .i64 0,.int .i64 0] 48);have kz:=an (w3.alloc (.cells #[.bool true,.int .i64 (-1),.string ⟨k.toArray⟩,.int .i64 0,.int .i64 0] 48)) (.cells #[.bool true,.int .i64 (-1),.string ⟨#[35]⟩,.int .i64 0,.int .i64 0] 48);rw[show(w3.alloc (.cells #[.bool true,.int .i64 (-1),.string ⟨k.toArray⟩,.int .i64 0,.int .i64 0] 48)).heap.size=w3.heap.size+1 by simp]at kz;have HZ:=al (ab hbz (ab (rG (x:=⟨true,-1,[35],0,0⟩) kz) (aX vR.out.1 hbz)));clear hbz kz;go_upto_region 10 with(at_builtin;go_loud (refine cO _ rfl _ _ 37 rfl w.heap.size 48 i0 _ 5 48 Tryz.underlying37 HI.out hz0 hz1 hz2 rfl (by decide) _ 1 (Jb [⟨true,-1,k,0,0⟩]) rfl HZ.out.2.2 (fun _=>True) (.slice (some ⟨w3.heap.size+1,0,none⟩) 1 1) ([⟨true,-1,[35],0,0⟩].map Cl.cells) rfl HZ.out.2.1 (di _) (kY _) (by decide) (by decide) (by have:=vR.out.2.2.1.size;have:=HZ.out.1.size;omega) ?_);intro v4 w4 dC uZ Mf);have H4:=al (vR.out.more HZ.out.1 dC uZ Mf (aq _));clear dC uZ Mf;have HS:=al (show AL w X R Rw.zero ⟨na,nb,nc,nd⟩ _ (b7 k none (some ⟨na,nb,nc,nd⟩) 0) w4 from H4.out);clear H4;go_wp2_with fail
 go_loopw [14,44] (fun v i wr=> ∃c:Nat,c<=4/\i=.int .i64 (c:Int)/\AL w X R Rw.zero ⟨na,nb,nc,nd⟩ v (b7 k none (some ⟨na,nb,nc,nd⟩) c) wr) (fun _ i _=>4-(intOf i).toNat)
 case atStart=>exact⟨0,by decide,rfl,HS.out⟩
 case round=>
  obtain⟨c,hc,rfl,nA⟩:=hrel;have hlen:=ig k none (some ⟨na,nb,nc,nd⟩) c;have HW:=al (ab nA hlen);by_cases hlt:c<4
  ·have i1:(0:Int)<=(c:Int):=by omega
   have i2:(c:Int)<4:=by omega
   have z0:=bw (r:=Rw.zero) nA.2.2.2.1 hlt;have y0:=bw (r:=⟨na,nb,nc,nd⟩) nA.2.2.2.2 hlt;obtain⟨x,hx⟩: ∃x,Rw.aK Rw.zero c=x:=⟨_,rfl⟩;obtain⟨y,hy⟩: ∃y,Rw.aK ⟨na,nb,nc,nd⟩ c=y:=⟨_,rfl⟩;rw[hx]at z0;rw[hy]at y0;have HV:=al (ab hx hy);clear nA hlen;clear hx hy;go_wp2_with fail;go_quiet(fail);rename_i nq;clear z0 y0;have HA:=al (HW.out.1.still (show Below wr.heap.size wr (wr.drewN nq)from Only.aG ((oB (fun _=>False) wr).drewN nq) (aq _) (fun _ _ h=>h)));generalize wr.drewN nq=wa at HA⊢;go_upto_region 17 with fail;have HD:=al (HA.out.still (show Below wa.heap.size wa wa.drew from(aw _ _).drew));refine pb (S:=(fun W=>W.heap[X]?=some (.cells #[.int .i64 0,.int .i64 0,.int .i64 0,.int .i64 0] 26 (0,0))/\W.heap[R]?=some (.cells #[.int .i64 na,.int .i64 nb,.int .i64 nc,.int .i64 nd] 26 (0,0)))) (by kernel_rfl) ⟨HA.out.2.2.2.1,HA.out.2.2.2.2⟩ (fun pt=>?_);generalize wa.drew=wd at HD pt⊢;refine aM [0,1,2,3] ?_
   iterate 4 (refine bX (v:=?_) (fun wS hSw=>?_) pt ?_;rotate_left;(obtain⟨s0,s1⟩:=hSw;go_simp;try with_reducible rfl);try simp only[ai,aj,ak,ar])
   refine aN ?_;refine fJ 4 (v:=?_) (fun wS hSw=>?_) pt ?_;rotate_left
   ·obtain⟨s0,s1⟩:=hSw;have q0:=bw (r:=⟨na,nb,nc,nd⟩) s1 hlt;rw[HV.out.2]at q0;go_simp;try with_reducible rfl
   try simp only[ai,aj,ak,ar]
   refine aM [5,6] ?_
   iterate 2 (refine bX (v:=?_) (fun wS hSw=>?_) pt ?_;rotate_left;(obtain⟨s0,s1⟩:=hSw;go_simp;try with_reducible rfl);try simp only[ai,aj,ak,ar])
   refine aN ?_;refine fJ 7 (v:=?_) (fun wS hSw=>?_) pt ?_;rotate_left
   ·obtain⟨s0,s1⟩:=hSw;have q0:=bw (r:=⟨na,nb,nc,nd⟩) s1 hlt;rw[HV.out.2]at q0;go_simp;try with_reducible rfl
   try simp only[ai,aj,ak,ar]
   refine fJ 8 (v:=?_) (fun wS hSw=>?_) pt ?_;rotate_left
   ·obtain⟨s0,s1⟩:=hSw;go_simp;try with_reducible rfl
   try simp only[ai,aj,ak,ar]
   refine aW 9 (fun K hK=>?_);go_simp;refine hK.out _ _ (⟨pw (af _ _) pt.1,pw (af _ _) pt.2⟩) ?_;clear hK K pt;intro pt
   try simp only[ai,aj,ak,ar]
   have cD:=af wd (.cells #[.bool true,.int .i64 (c:Int),.string ⟨#[]⟩,.int .i64 y,.int .i64 y] 48);have HN:=al (ab cD (ab (rG (x:=⟨true,(c:Int),[],y,y⟩) (an wd (.cells #[.bool true,.int .i64 (c:Int),.string ⟨#[]⟩,.int .i64 y,.int .i64 y] 48))) (aX HD.out.1 cD)));clear cD;refine aW 10 (fun K hK=>?_);refine qz rfl _ _ 37 rfl w.heap.size 48 i0 _ 5 48 Tryz.underlying37 HI.out hz0 hz1 hz2 rfl (by decide) _ _ _ rfl HN.out.2.2 (fun _=>True) (.slice (some ⟨wd.heap.size,0,none⟩) 1 1) ([⟨true,(c:Int),[],y,y⟩].map Cl.cells) rfl HN.out.2.1 (di _) (kY _) (by have:=HW.out.2;simp;omega) (by have:=HW.out.2;simp[maxLen];omega) (by have:=HD.out.2.2.1.size;have:=HN.out.1.size;omega) ?_;intro v7 w7 CO vg Mh;have SE:=al (HD.out.more (x:=⟨true,(c:Int),[],y,y⟩) HN.out.1 CO vg Mh (aq _));clear CO vg Mh HN HD;refine hK.out _ _ (⟨SE.out.2.2.2.1,SE.out.2.2.2.2⟩) ?_;clear hK K pt;intro pt
   try simp only[ai,aj,ak,ar]
   refine fJ 11 (v:=?_) (fun wS hSw=>?_) pt ?_;rotate_left
   ·obtain⟨s0,s1⟩:=hSw;go_simp;try with_reducible rfl
   try simp only[ai,aj,ak,ar]
   refine pf (by kernel_rfl) ?_ _;clear pt;go_wp2_with fail;go_roundw
   case rel=>
    refine⟨c+1,by omega,by go_num,?_⟩
    have e:b7 k none (some ⟨na,nb,nc,nd⟩) (c+1)=b7 k none (some ⟨na,nb,nc,nd⟩) c++[⟨true,(c:Int),[],y,y⟩]:=by rw[b7];congr 1;unfold rh;simp only[HV.out.2]
    rw[e];have h:=SE.out
    skip
    exact h
   case measure=>simp[intOf];omega
  ·obtain rfl:c=4:=by omega
   clear nA hlen;go_wp2_with fail
   go_ret2
   have e:=jO k none (some ⟨na,nb,nc,nd⟩);have h:=HW.out.1;rw[e]at h;exact⟨_,rfl,h.1,h.2.2.1⟩
theorem zW(w:World)(B T o:Nat)(most:Int)(l:av)(wl:pQ)(FT:Nat->Nat->Prop)(FB:Nat->Prop)(k:List UInt8)(hk:1<=k.length/\k.length<=16)(h:eV w B T most o l wl FT FB)(old:Rw)(now:Rw)(hq:gh k wl l=(some old)):
  Calls Tryz.prog 10 #[.int .i64 9,.pointer (some ⟨B,0,none⟩),.string ⟨k.toArray⟩,now.val] w (Jc (fx k (some old) (some now)) w):=by
 obtain⟨i0,hi,hz0,hz1,hz2⟩:=eC Tryz.l7;have HI:=al hi;obtain⟨na,nb,nc,nd⟩:=now;unfold Rw.val;have hb0:=af w (.cells #[.int .i64 na,.int .i64 nb,.int .i64 nc,.int .i64 nd] 26);have k0:=an w (.cells #[.int .i64 na,.int .i64 nb,.int .i64 nc,.int .i64 nd] 26);have HG:=al (fun w' (h':eV w' B T most o l wl FT FB)=>iu w' B T o most l wl FT FB k hk h');have h1:=h.below hb0;rw[hq]at HG;clear h hk hq hi;go_enter Tryz.func10,Tryz.ntmps10;go_upto_region 1 with fail;generalize w.alloc (.cells #[.int .i64 na,.int .i64 nb,.int .i64 nc,.int .i64 nd] 26)=w1 at hb0 k0 h1⊢;obtain⟨R,hR⟩: ∃x,w.heap.size=x:=⟨_,rfl⟩;rw[hR]at k0⊢;have HC:=al (HG.out w1 h1);have H1:=al (ab hb0 (ab k0 hR));clear hb0 k0 h1 hR HG;go_wp2_with fail;refine HC.out.mono ?_;rintro e w2 ⟨rfl,hb2⟩;obtain⟨oa,ob,oc,od⟩:=old;simp only[ns,me,if_true];unfold Rw.val;have cK:=af w2 (.cells #[.int .i64 oa,.int .i64 ob,.int .i64 oc,.int .i64 od] 26);have kx:=an w2 (.cells #[.int .i64 oa,.int .i64 ob,.int .i64 oc,.int .i64 od] 26);have hb3:=(hb2.trans (cK.mono hb2.size));have kr:=pw hb3 H1.out.2.1;have HX:=al (ab (H1.out.1.trans (hb3.mono H1.out.1.size)) (ab kx kr));clear hb2 cK kx hb3 kr HC;go_upto_region 6 with fail;have rH:=HX.out;clear HX;generalize w2.alloc (.cells #[.int .i64 oa,.int .i64 ob,.int .i64 oc,.int .i64 od] 26)=w3 at rH⊢;obtain⟨X,hX⟩: ∃x,w2.heap.size=x:=⟨_,rfl⟩;rw[hX]at rH⊢;have HX:=al (show Below w.heap.size w w3/\w3.heap[X]?=some (.cells #[.int .i64 oa,.int .i64 ob,.int .i64 oc,.int .i64 od] 26 (0,0))/\w3.heap[R]?=some (.cells #[.int .i64 na,.int .i64 nb,.int .i64 nc,.int .i64 nd] 26 (0,0))from rH);clear rH hX;have hby:=af w3 (.cells #[.bool true,.int .i64 (-1),.string ⟨k.toArray⟩,.int .i64 0,.int .i64 0] 48);have ky:=an w3 (.cells #[.bool true,.int .i64 (-1),.string ⟨k.toArray⟩,.int .i64 0,.int .i64 0] 48);have hs3:w.heap.size<=w3.heap.size:=HX.out.1.size
 have vR:=al (show AL w X R ⟨oa,ob,oc,od⟩ ⟨na,nb,nc,nd⟩ (.slice (some ⟨w3.heap.size,0,none⟩) 1 1) [⟨true,-1,k,0,0⟩] (w3.alloc (.cells #[.bool true,.int .i64 (-1),.string ⟨k.toArray⟩,.int .i64 0,.int .i64 0] 48))from by
  have g4:=pw hby HX.out.2.1;have g5:=pw hby HX.out.2.2;have l4:=aO HX.out.2.1;have l5:=aO HX.out.2.2
  exact⟨qA (x:=⟨true,-1,k,0,0⟩) ky hs3,fun g hg=>by have hg2:some w3.heap.size=some g:=hg;injection hg2 with hg2;exact⟨by omega,by omega⟩,HX.out.1.trans (hby.mono hs3),g4,g5⟩)
 clear hby ky;go_upto_region 10 with fail;obtain⟨w4,hw4⟩: ∃x,w3.alloc (.cells #[.bool true,.int .i64 (-1),.string ⟨k.toArray⟩,.int .i64 0,.int .i64 0] 48)=x:=⟨_,rfl⟩;rw[hw4]at vR⊢;obtain⟨A4,Wj⟩: ∃x,some (⟨w3.heap.size,0,none⟩:Addr)=x:=⟨_,rfl⟩;rw[Wj]at vR⊢;have H4:=al vR.out;clear vR hw4 Wj;have HS:=al (show AL w X R ⟨oa,ob,oc,od⟩ ⟨na,nb,nc,nd⟩ _ (b7 k (some ⟨oa,ob,oc,od⟩) (some ⟨na,nb,nc,nd⟩) 0) w4 from H4.out);clear H4;go_wp2_with fail
 go_loopw [14,44] (fun v i wr=> ∃c:Nat,c<=4/\i=.int .i64 (c:Int)/\AL w X R ⟨oa,ob,oc,od⟩ ⟨na,nb,nc,nd⟩ v (b7 k (some ⟨oa,ob,oc,od⟩) (some ⟨na,nb,nc,nd⟩) c) wr) (fun _ i _=>4-(intOf i).toNat)
 case atStart=>exact⟨0,by decide,rfl,HS.out⟩
 case round=>
  obtain⟨c,hc,rfl,nA⟩:=hrel;have hlen:=ig k (some ⟨oa,ob,oc,od⟩) (some ⟨na,nb,nc,nd⟩) c;have HW:=al (ab nA hlen);by_cases hlt:c<4
  ·have i1:(0:Int)<=(c:Int):=by omega
   have i2:(c:Int)<4:=by omega
   have z0:=bw (r:=⟨oa,ob,oc,od⟩) nA.2.2.2.1 hlt;have y0:=bw (r:=⟨na,nb,nc,nd⟩) nA.2.2.2.2 hlt;obtain⟨x,hx⟩: ∃x,Rw.aK ⟨oa,ob,oc,od⟩ c=x:=⟨_,rfl⟩;obtain⟨y,hy⟩: ∃y,Rw.aK ⟨na,nb,nc,nd⟩ c=y:=⟨_,rfl⟩;rw[hx]at z0;rw[hy]at y0;have HV:=al (ab hx hy);clear nA hlen;by_cases hxy:x=y
   ·subst hxy;have HE:=al (show Rw.aK ⟨oa,ob,oc,od⟩ c=Rw.aK ⟨na,nb,nc,nd⟩ c from hx.trans hy.symm);go_wp2_with fail;go_quiet(fail);rename_i nq;go_wp2_with fail;go_roundw
    case rel=>
     refine⟨c+1,by omega,by go_num,?_⟩
     have e:b7 k (some ⟨oa,ob,oc,od⟩) (some ⟨na,nb,nc,nd⟩) (c+1)=b7 k (some ⟨oa,ob,oc,od⟩) (some ⟨na,nb,nc,nd⟩) c:=by rw[b7];unfold rh;simp only[HE.out,if_true,gd]
     rw[e];exact HW.out.1.still (Only.aG ((oB (fun _=>False) wr).drewN nq) (aq _) (fun _ _ h=>h))
    case measure=>simp[intOf];omega
   ·have Sr:(x==y)=false:=by simpa using hxy
    have rH:=al hxy;clear hx hy;go_wp2_with fail;go_quiet(fail);rename_i nq;clear hxy Sr;clear z0 y0;have HA:=al (HW.out.1.still (show Below wr.heap.size wr (wr.drewN nq)from Only.aG ((oB (fun _=>False) wr).drewN nq) (aq _) (fun _ _ h=>h)));generalize wr.drewN nq=wa at HA⊢;go_upto_region 15 with fail;have HD:=al (HA.out.still (show Below wa.heap.size wa wa.drew from(aw _ _).drew));refine pb (S:=(fun W=>W.heap[X]?=some (.cells #[.int .i64 oa,.int .i64 ob,.int .i64 oc,.int .i64 od] 26 (0,0))/\W.heap[R]?=some (.cells #[.int .i64 na,.int .i64 nb,.int .i64 nc,.int .i64 nd] 26 (0,0)))) (by kernel_rfl) ⟨HA.out.2.2.2.1,HA.out.2.2.2.2⟩ (fun pt=>?_);generalize wa.drew=wd at HD pt⊢;refine aM [0,1,2,3] ?_
    iterate 4 (refine bX (v:=?_) (fun wS hSw=>?_) pt ?_;rotate_left;(obtain⟨s0,s1⟩:=hSw;go_simp;try with_reducible rfl);try simp only[ai,aj,ak,ar])
    refine aN ?_;refine fJ 4 (v:=?_) (fun wS hSw=>?_) pt ?_;rotate_left
    ·obtain⟨s0,s1⟩:=hSw;have q0:=bw (r:=⟨oa,ob,oc,od⟩) s0 hlt;rw[HV.out.1]at q0;go_simp;try with_reducible rfl
    try simp only[ai,aj,ak,ar]
    refine aM [5,6] ?_
    iterate 2 (refine bX (v:=?_) (fun wS hSw=>?_) pt ?_;rotate_left;(obtain⟨s0,s1⟩:=hSw;go_simp;try with_reducible rfl);try simp only[ai,aj,ak,ar])
    refine aN ?_;refine fJ 7 (v:=?_) (fun wS hSw=>?_) pt ?_;rotate_left
    ·obtain⟨s0,s1⟩:=hSw;have q0:=bw (r:=⟨oa,ob,oc,od⟩) s0 hlt;rw[HV.out.1]at q0;go_simp;try with_reducible rfl
    try simp only[ai,aj,ak,ar]
    refine fJ 8 (v:=?_) (fun wS hSw=>?_) pt ?_;rotate_left
    ·obtain⟨s0,s1⟩:=hSw;go_simp;try with_reducible rfl
    try simp only[ai,aj,ak,ar]
    refine aW 9 (fun K hK=>?_);go_simp;refine hK.out _ _ (⟨pw (af _ _) pt.1,pw (af _ _) pt.2⟩) ?_;clear hK K pt;intro pt
    try simp only[ai,aj,ak,ar]
    have cD:=af wd (.cells #[.bool true,.int .i64 (c:Int),.string ⟨#[]⟩,.int .i64 x,.int .i64 x] 48);have HN:=al (ab cD (ab (rG (x:=⟨true,(c:Int),[],x,x⟩) (an wd (.cells #[.bool true,.int .i64 (c:Int),.string ⟨#[]⟩,.int .i64 x,.int .i64 x] 48))) (aX HD.out.1 cD)));clear cD;refine aW 10 (fun K hK=>?_);refine qz rfl _ _ 37 rfl w.heap.size 48 i0 _ 5 48 Tryz.underlying37 HI.out hz0 hz1 hz2 rfl (by decide) _ _ _ rfl HN.out.2.2 (fun _=>True) (.slice (some ⟨wd.heap.size,0,none⟩) 1 1) ([⟨true,(c:Int),[],x,x⟩].map Cl.cells) rfl HN.out.2.1 (di _) (kY _) (by have:=HW.out.2;simp;omega) (by have:=HW.out.2;simp[maxLen];omega) (by have:=HD.out.2.2.1.size;have:=HN.out.1.size;omega) ?_;intro v6 w6 kI ve um;have Mg:=al (HD.out.more (x:=⟨true,(c:Int),[],x,x⟩) HN.out.1 kI ve um (aq _));clear kI ve um HN HD;refine hK.out _ _ (⟨Mg.out.2.2.2.1,Mg.out.2.2.2.2⟩) ?_;clear hK K pt;intro pt
    try simp only[ai,aj,ak,ar]
    refine fJ 11 (v:=?_) (fun wS hSw=>?_) pt ?_;rotate_left
    ·obtain⟨s0,s1⟩:=hSw;go_simp;try with_reducible rfl
    try simp only[ai,aj,ak,ar]
    refine pf (by kernel_rfl) ?_ _;clear pt;go_upto_region 17 with fail;have HD:=al (Mg.out.still (show Below w6.heap.size w6 w6.drew from(aw _ _).drew));refine pb (S:=(fun W=>W.heap[X]?=some (.cells #[.int .i64 oa,.int .i64 ob,.int .i64 oc,.int .i64 od] 26 (0,0))/\W.heap[R]?=some (.cells #[.int .i64 na,.int .i64 nb,.int .i64 nc,.int .i64 nd] 26 (0,0)))) (by kernel_rfl) ⟨Mg.out.2.2.2.1,Mg.out.2.2.2.2⟩ (fun pt=>?_);generalize w6.drew=wd at HD pt⊢;refine aM [0,1,2,3] ?_
    iterate 4 (refine bX (v:=?_) (fun wS hSw=>?_) pt ?_;rotate_left;(obtain⟨s0,s1⟩:=hSw;go_simp;try with_reducible rfl);try simp only[ai,aj,ak,ar])
    refine aN ?_;refine fJ 4 (v:=?_) (fun wS hSw=>?_) pt ?_;rotate_left
    ·obtain⟨s0,s1⟩:=hSw;have q0:=bw (r:=⟨na,nb,nc,nd⟩) s1 hlt;rw[HV.out.2]at q0;go_simp;try with_reducible rfl
    try simp only[ai,aj,ak,ar]
    refine aM [5,6] ?_
    iterate 2 (refine bX (v:=?_) (fun wS hSw=>?_) pt ?_;rotate_left;(obtain⟨s0,s1⟩:=hSw;go_simp;try with_reducible rfl);try simp only[ai,aj,ak,ar])
    refine aN ?_;refine fJ 7 (v:=?_) (fun wS hSw=>?_) pt ?_;rotate_left
    ·obtain⟨s0,s1⟩:=hSw;have q0:=bw (r:=⟨na,nb,nc,nd⟩) s1 hlt;rw[HV.out.2]at q0;go_simp;try with_reducible rfl
    try simp only[ai,aj,ak,ar]
    refine fJ 8 (v:=?_) (fun wS hSw=>?_) pt ?_;rotate_left
    ·obtain⟨s0,s1⟩:=hSw;go_simp;try with_reducible rfl
    try simp only[ai,aj,ak,ar]
    refine aW 9 (fun K hK=>?_);go_simp;refine hK.out _ _ (⟨pw (af _ _) pt.1,pw (af _ _) pt.2⟩) ?_;clear hK K pt;intro pt
    try simp only[ai,aj,ak,ar]
    have cD:=af wd (.cells #[.bool true,.int .i64 (c:Int),.string ⟨#[]⟩,.int .i64 y,.int .i64 y] 48);have HN:=al (ab cD (ab (rG (x:=⟨true,(c:Int),[],y,y⟩) (an wd (.cells #[.bool true,.int .i64 (c:Int),.string ⟨#[]⟩,.int .i64 y,.int .i64 y] 48))) (aX HD.out.1 cD)));clear cD;refine aW 10 (fun K hK=>?_);refine qz rfl _ _ 37 rfl w.heap.size 48 i0 _ 5 48 Tryz.underlying37 HI.out hz0 hz1 hz2 rfl (by decide) _ _ _ rfl HN.out.2.2 (fun _=>True) (.slice (some ⟨wd.heap.size,0,none⟩) 1 1) ([⟨true,(c:Int),[],y,y⟩].map Cl.cells) rfl HN.out.2.1 (di _) (kY _) (by have:=HW.out.2;simp;omega) (by have:=HW.out.2;simp[maxLen];omega) (by have:=HD.out.2.2.1.size;have:=HN.out.1.size;omega) ?_;intro v7 w7 CO vg Mh;have SE:=al (HD.out.more (x:=⟨true,(c:Int),[],y,y⟩) HN.out.1 CO vg Mh (aq _));clear CO vg Mh HN HD;refine hK.out _ _ (⟨SE.out.2.2.2.1,SE.out.2.2.2.2⟩) ?_;clear hK K pt;intro pt
    try simp only[ai,aj,ak,ar]
    refine fJ 11 (v:=?_) (fun wS hSw=>?_) pt ?_;rotate_left
    ·obtain⟨s0,s1⟩:=hSw;go_simp;try with_reducible rfl
    try simp only[ai,aj,ak,ar]
    refine pf (by kernel_rfl) ?_ _;clear pt;go_wp2_with fail;go_roundw
    case rel=>
     refine⟨c+1,by omega,by go_num,?_⟩
     have e:b7 k (some ⟨oa,ob,oc,od⟩) (some ⟨na,nb,nc,nd⟩) (c+1)=b7 k (some ⟨oa,ob,oc,od⟩) (some ⟨na,nb,nc,nd⟩) c++[⟨true,(c:Int),[],x,x⟩,⟨true,(c:Int),[],y,y⟩]:=by rw[b7];congr 1;unfold rh;simp only[HV.out.1,HV.out.2,ff rH.out]
     rw[e];have h:=SE.out;rw[lk]at h;exact h
    case measure=>simp[intOf];omega
  ·obtain rfl:c=4:=by omega
   clear nA hlen;go_wp2_with fail
   go_ret2
   have e:=jO k (some ⟨oa,ob,oc,od⟩) (some ⟨na,nb,nc,nd⟩);have h:=HW.out.1;rw[e]at h;exact⟨_,rfl,h.1,h.2.2.1⟩
theorem zX(w:World)(B T o:Nat)(most:Int)(l:av)(wl:pQ)(FT:Nat->Nat->Prop)(FB:Nat->Prop)(k:List UInt8)(hk:1<=k.length/\k.length<=16)(h:eV w B T most o l wl FT FB)(now:Rw)(hq:gh k wl l=none):
  Calls Tryz.prog 10 #[.int .i64 10,.pointer (some ⟨B,0,none⟩),.string ⟨k.toArray⟩,now.val] w (Jc (fx k none none) w):=by
 obtain⟨i0,hi,hz0,hz1,hz2⟩:=eC Tryz.l7;have HI:=al hi;obtain⟨na,nb,nc,nd⟩:=now;unfold Rw.val;have hb0:=af w (.cells #[.int .i64 na,.int .i64 nb,.int .i64 nc,.int .i64 nd] 26);have k0:=an w (.cells #[.int .i64 na,.int .i64 nb,.int .i64 nc,.int .i64 nd] 26);have HG:=al (fun w' (h':eV w' B T most o l wl FT FB)=>iu w' B T o most l wl FT FB k hk h');have h1:=h.below hb0;rw[hq]at HG;clear h hk hq hi;go_enter Tryz.func10,Tryz.ntmps10;go_upto_region 1 with fail;generalize w.alloc (.cells #[.int .i64 na,.int .i64 nb,.int .i64 nc,.int .i64 nd] 26)=w1 at hb0 k0 h1⊢;obtain⟨R,hR⟩: ∃x,w.heap.size=x:=⟨_,rfl⟩;rw[hR]at k0⊢;have HC:=al (HG.out w1 h1);have H1:=al (ab hb0 (ab k0 hR));clear hb0 k0 h1 hR HG;go_wp2_with fail;refine HC.out.mono ?_;rintro e w2 ⟨rfl,hb2⟩;simp only[Option.getD_none,mv,nh,if_false,Rw.zero];unfold Rw.val;have cK:=af w2 (.cells #[.int .i64 0,.int .i64 0,.int .i64 0,.int .i64 0] 26);have kx:=an w2 (.cells #[.int .i64 0,.int .i64 0,.int .i64 0,.int .i64 0] 26);have hb3:=(hb2.trans (cK.mono hb2.size));have kr:=pw hb3 H1.out.2.1;have HX:=al (ab (H1.out.1.trans (hb3.mono H1.out.1.size)) (ab kx kr));clear hb2 cK kx hb3 kr HC;go_upto_region 6 with fail;have rH:=HX.out;clear HX;generalize w2.alloc (.cells #[.int .i64 0,.int .i64 0,.int .i64 0,.int .i64 0] 26)=w3 at rH⊢;obtain⟨X,hX⟩: ∃x,w2.heap.size=x:=⟨_,rfl⟩;rw[hX]at rH⊢;have HX:=al (show Below w.heap.size w w3/\w3.heap[X]?=some (.cells #[.int .i64 0,.int .i64 0,.int .i64 0,.int .i64 0] 26 (0,0))/\w3.heap[R]?=some (.cells #[.int .i64 na,.int .i64 nb,.int .i64 nc,.int .i64 nd] 26 (0,0))from rH);clear rH hX;have hby:=af w3 (.cells #[.bool true,.int .i64 (-1),.string ⟨k.toArray⟩,.int .i64 0,.int .i64 0] 48);have ky:=an w3 (.cells #[.bool true,.int .i64 (-1),.string ⟨k.toArray⟩,.int .i64 0,.int .i64 0] 48);have hs3:w.heap.size<=w3.heap.size:=HX.out.1.size
 have vR:=al (show AL w X R Rw.zero ⟨na,nb,nc,nd⟩ (.slice (some ⟨w3.heap.size,0,none⟩) 1 1) [⟨true,-1,k,0,0⟩] (w3.alloc (.cells #[.bool true,.int .i64 (-1),.string ⟨k.toArray⟩,.int .i64 0,.int .i64 0] 48))from by
  have g4:=pw hby HX.out.2.1;have g5:=pw hby HX.out.2.2;have l4:=aO HX.out.2.1;have l5:=aO HX.out.2.2
  exact⟨qA (x:=⟨true,-1,k,0,0⟩) ky hs3,fun g hg=>by have hg2:some w3.heap.size=some g:=hg;injection hg2 with hg2;exact⟨by omega,by omega⟩,HX.out.1.trans (hby.mono hs3),g4,g5⟩)
 clear hby ky;go_upto_region 10 with fail;obtain⟨w4,hw4⟩: ∃x,w3.alloc (.cells #[.bool true,.int .i64 (-1),.string ⟨k.toArray⟩,.int .i64 0,.int .i64 0] 48)=x:=⟨_,rfl⟩;rw[hw4]at vR⊢;obtain⟨A4,Wj⟩: ∃x,some (⟨w3.heap.size,0,none⟩:Addr)=x:=⟨_,rfl⟩;rw[Wj]at vR⊢;have H4:=al vR.out;clear vR hw4 Wj;have HS:=al (show AL w X R Rw.zero ⟨na,nb,nc,nd⟩ _ (b7 k none none 0) w4 from H4.out);clear H4;go_wp2_with fail
 go_loopw [14,44] (fun v i wr=> ∃c:Nat,c<=4/\i=.int .i64 (c:Int)/\AL w X R Rw.zero ⟨na,nb,nc,nd⟩ v (b7 k none none c) wr) (fun _ i _=>4-(intOf i).toNat)
 case atStart=>exact⟨0,by decide,rfl,HS.out⟩
 case round=>
  obtain⟨c,hc,rfl,nA⟩:=hrel;have hlen:=ig k none none c;have HW:=al (ab nA hlen);by_cases hlt:c<4
  ·have i1:(0:Int)<=(c:Int):=by omega
   have i2:(c:Int)<4:=by omega
   have z0:=bw (r:=Rw.zero) nA.2.2.2.1 hlt;have y0:=bw (r:=⟨na,nb,nc,nd⟩) nA.2.2.2.2 hlt;obtain⟨x,hx⟩: ∃x,Rw.aK Rw.zero c=x:=⟨_,rfl⟩;obtain⟨y,hy⟩: ∃y,Rw.aK ⟨na,nb,nc,nd⟩ c=y:=⟨_,rfl⟩;rw[hx]at z0;rw[hy]at y0;have HV:=al (ab hx hy);clear nA hlen;clear hx hy;go_wp2_with fail;go_quiet(fail);rename_i nq;clear z0 y0;have HA:=al (HW.out.1.still (show Below wr.heap.size wr (wr.drewN nq)from Only.aG ((oB (fun _=>False) wr).drewN nq) (aq _) (fun _ _ h=>h)));generalize wr.drewN nq=wa at HA⊢;go_wp2_with fail;go_roundw
   case rel=>
    refine⟨c+1,by omega,by go_num,?_⟩
    have e:b7 k none none (c+1)=b7 k none none c++[]:=by
     rw[b7]
     skip
     rfl
     done
    rw[e];have h:=HA.out;rw[gd];exact h
   case measure=>simp[intOf];omega
  ·obtain rfl:c=4:=by omega
   clear nA hlen;go_wp2_with fail
   go_ret2
   have e:=jO k none none;have h:=HW.out.1;rw[e]at h;exact⟨_,rfl,h.1,h.2.2.1⟩
def yA(x:List UInt8×Rw):Bool->av->av
 |d,[]=>if d then[]else[x]
 |d,q::l=>(if d=false/\ ¬q.1<x.1 then[x]else[])++((if q.1≠x.1 then[q]else[])++yA x (d||!decide (q.1<x.1)) l)
theorem pJ(x:List UInt8×Rw): ∀(l:av),(∀q∈l,x.1<q.1)->yA x true l=l
 |[],_=>rfl
 |q::l,h=>by have hq:=h q (by simp);have hne:q.1≠x.1:=fun e=>aJ q.1 (by rw[e]at hq⊢;exact hq);simp only[yA,Bool.true_or];rw[ff (by simp),fi hne,pJ x l (fun y hy=>h y (by simp[hy]))];rfl
theorem vh{x:List UInt8×Rw}: ∀{l:av},ez l->yA x false l=bE x l
 |[],_=>rfl
 |q::l,hu=>by
  have hu':=eR.1 hu;simp only[yA,bE,Bool.false_or];by_cases h:q.1<x.1
  ·have hne:q.1≠x.1:=fun e=>aJ x.1 (by rw[e]at h;exact h);rw[fi h,ff (by simp[h]),fi hne,decide_eq_true h,Bool.not_true,vh hu'.2];rfl
  ·rw[ff h,fi (by simp[h]),decide_eq_false h,Bool.not_false];by_cases e:q.1=x.1
   ·rw[fi e,ff (fun h=>absurd e h),pJ x l (fun y hy=>by rw[<-e];exact hu'.1 y hy)];simp
   ·have hlt:x.1<q.1:=(tJ h).elim id (fun e'=>absurd e'.symm e);rw[ff e,fi e,pJ x l (fun y hy=>dY hlt (hu'.1 y hy))];rfl
theorem ag{w1 W:World}{p:Addr}{v:Value}(hb:Below w1.heap.size w1 W)(h:w1.cell? p=some v):W.cell? p=some v:=(hb.cell (aE _ _ h)).trans h
end Go.Proofs.YtagemonojdgbdaaGreatDoor
