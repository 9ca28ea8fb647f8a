import Derived.Test.YtmkofmeojbcakaaGreatDoorC23
namespace Go.Proofs.YtmkofmeojbcakaaGreatDoor
open Go.Proofs.Tryz
set_option maxRecDepth 100000
set_option maxHeartbeats 16000000
open Go.RowKit
section
open Go.RowKit Go.Maps Go.WideShapes
abbrev tN:=List (List UInt8×Option Rw)
def XE(w:World)(FR:Nat->Prop):Option Value->Option (Option Rw)->Prop
 |none,none=>True
 |some v,some x=>vh w v x/\ ∀b,v=.pointer (some ⟨b,0,none⟩)->FR b
 |_,_=>False
structure oI (w:World) (B T:Nat) (most:Int) (o:Nat) (l:ax) (wl:tN) (FT:Nat->Nat->Prop) (m n:Nat) (g:Value->Option Value) (FR:Nat->Prop):Prop where
 blk:w.heap[B]?=some (.cells #[.pointer (some ⟨T,0,none⟩),.map (some m)] 168 (0,0))
 map:bQ prog w 9 m n g
 tab:cd w T most o l FT
 up:fc wl
 key: ∀q∈wl,1<=q.1.length/\q.1.length<=16
 fit: ∀q∈wl,∀r,q.2=some r-> ∀c,I6 (r.aM c)
 wr: ∀k:List UInt8,XE w FR (g (.string ⟨k.toArray⟩)) (au k wl)
 bB: ∀q,¬FT B q
 bm: ∀q,¬FT m q
 bR: ∀b,FR b->b≠B/\b≠m/\b<w.heap.size/\ ∀q,¬FT b q
 Bm:B≠m
 cnt:n<=wl.length
def ig(w:World)(B T:Nat)(most:Int)(o:Nat)(l:ax)(wl:tN)(FT:Nat->Nat->Prop)(FB:Nat->Prop):Prop:=
 ∃m n g FR,oI w B T most o l wl FT m n g FR/\FB B/\FB m/\ ∀b,FR b->FB b
section
variable{w w':World}{B T o:Nat}{most:Int}{l:ax}{wl:tN}{FT:Nat->Nat->Prop}{FB S:Nat->Prop}{m n:Nat}{g:Value->Option Value}{FR:Nat->Prop}
theorem XE.only{a:Option Value}{b:Option (Option Rw)}(h:XE w FR a b)(ho:Only S w w')(hd: ∀b,FR b-> ¬S b):XE w' FR a b:=by
 match a,b,h with
 |none,none,_=>trivial
 |some v,some x,h=>exact⟨h.1.only ho (fun b e=>hd b (h.2 b e)),h.2⟩
theorem oI.only(h:oI w B T most o l wl FT m n g FR)(ho:Only S w w')(hB: ¬S B)(hm: ¬S m)(hR: ∀b,FR b-> ¬S b)(hT: ∀b q,FT b q-> ¬S b):oI w' B T most o l wl FT m n g FR:=
 ⟨ho.heap h.blk hB,h.map.only ho hm,h.tab.eJ ho hT,h.up,h.key,h.fit,fun k=>(h.wr k).only ho hR,h.bB,h.bm,fun b hb=>⟨(h.bR b hb).1,(h.bR b hb).2.1,cq (h.bR b hb).2.2.1 ho.size,(h.bR b hb).2.2.2⟩,h.Bm,h.cnt⟩
theorem ig.only(h:ig w B T most o l wl FT FB)(ho:Only S w w')(hB: ∀b,FB b-> ¬S b)(hT: ∀b q,FT b q-> ¬S b):ig w' B T most o l wl FT FB:=by obtain⟨m,n,g,FR,h1,h2,h3,h4⟩:=h;exact⟨m,n,g,FR,h1.only ho (hB B h2) (hB m h3) (fun b hb=>hB b (h4 b hb)) hT,h2,h3,h4⟩
theorem ig.below(h:ig w B T most o l wl FT FB)(hb:Below w.heap.size w w'):ig w' B T most o l wl FT FB:=h.only (pw hb) (fun _ _ h=>h) (fun _ _ _ h=>h)
theorem ig.tab(h:ig w B T most o l wl FT FB):cd w T most o l FT:=by obtain⟨m,n,g,FR,h1,_⟩:=h;exact h1.tab
end
theorem GM(w:World)(T o:Nat)(most:Int)(l:ax)(FT:Nat->Nat->Prop)(h:cd w T most o l FT)(hF: ∀b q,FT b q->b<w.heap.size):Calls prog 46 #[.pointer (some ⟨T,0,none⟩)] w fun e w'=>
  ∃B,e=.returned (.tuple #[.pointer (some ⟨B,0,none⟩),.int .i64 0])/\ig w' B T most o l [] FT (fun b=>w.heap.size<=b)/\Below w.heap.size w w':=by
 have hmm:= @run_makeMap prog;have hm:=bQ.made prog w 9;have hb:=ae w (.map #[] 0);obtain⟨hb2,k2⟩:=qn (w.alloc (.map #[] 0)) (.cells #[.pointer (some ⟨T,0,none⟩),.map (some w.heap.size)] 168)
 have H:=al (show ∃B,B=w.heap.size+1/\ig ((w.alloc (.map #[] 0)).alloc (.cells #[.pointer (some ⟨T,0,none⟩),.map (some w.heap.size)] 168)) B T most o l [] FT (fun b=>w.heap.size<=b)/\Below w.heap.size w ((w.alloc (.map #[] 0)).alloc (.cells #[.pointer (some ⟨T,0,none⟩),.map (some w.heap.size)] 168))from
  ⟨_,rfl,⟨w.heap.size,0,fun _=>none,fun _=>False,⟨by simpa using k2,hm.below hb2,(h.below hb).below hb2,et,fun q hq=>by simp at hq,fun q hq=>by simp at hq,fun k=>trivial,
   fun q hq=>by have:=hF _ q hq;omega,fun q hq=>by have:=hF _ q hq;omega,fun b hb=>hb.elim,by omega,dq _⟩,by omega,aE _,fun b hb=>hb.elim⟩,hb.x (hb2.m (by simp))⟩)
 clear h hm hb hb2 k2;go_enter func46,ntmps46;go_wp2
 go_ret2
 obtain⟨B,e,h4,h5⟩:=H.o;subst e;exact⟨_,rfl,h4,h5⟩
def jK(k:List UInt8)(wl:tN)(l:ax):Option Rw:=match au k wl with
 |some x=>x
 |none=>au k l
theorem pX(w:World)(B T o:Nat)(most:Int)(l:ax)(wl:tN)(FT:Nat->Nat->Prop)(FB:Nat->Prop)(k:List UInt8)(hk:1<=k.length/\k.length<=16)(h:ig w B T most o l wl FT FB):
  Calls prog 181 #[.pointer (some ⟨B,0,none⟩),.string ⟨k.toArray⟩] w (nU (jK k wl l) w):=by
 obtain⟨hb0,k0⟩:=qn w (.cells #[.int .i64 0,.int .i64 0,.int .i64 0,.int .i64 0] 113);obtain⟨m,n,g,FR,hW0,hW1⟩:=h;have XF: ∀b,FR b->b<w.heap.size:=fun b hb=>(hW0.bR b hb).2.2.1;have h1:=hW0.only (pw hb0) (fun h=>h) (fun h=>h) (fun _ _ h=>h) (fun _ _ _ h=>h);clear hW0 hW1;go_enter func181,ntmps181;go_upto_region 1 with fail;generalize w.alloc (.cells #[.int .i64 0,.int .i64 0,.int .i64 0,.int .i64 0] 113)=w1 at hb0 k0 h1⊢;obtain⟨A,hA⟩:=qt (w.heap.size);rw[hA]at k0⊢;have HA:=al (ab hA (ab hb0 k0));have hW:=h1;have ZA: ∀b,FR b-> ¬b=A:=fun b hb e=>by have:=XF b hb;have:=HA.o.1;omega
 clear h1 XF;have g1:=hW.blk;have d0:w1.cell? ⟨B,0,none⟩=some (.pointer (some ⟨T,0,none⟩)):=by simp[World.cell?,g1]
 have d1:w1.cell? ⟨B,1,none⟩=some (.map (some m)):=by simp[World.cell?,g1]
 have HC:=al (ej w1 k);rw[vM hk]at HC;have HM:=al (ab hW.map (Gg (k:=k) (by simp[maxLen];omega)));have hwr:=hW.wr k;have HW:=al (ab hW hk);clear hW g1 hk hb0 k0 hA;go_wp2_with fail;refine HC.o.m ?_;rintro e w2 ⟨rfl,rfl⟩;clear HC
 cases hq:au k wl with
 |none=>
  have HQ:=al (show jK k wl l=au k l by unfold jK;rw[hq]);rw[hq]at hwr;obtain⟨gv,Cj⟩:=qt (g (.string ⟨k.toArray⟩));rw[Cj]at hwr
  cases gv with
  |some v=>exact hwr.elim
  |none=>
   have HG:=al (tM w1 T o most l FT k HW.o.1.tab HW.o.2);clear hq hwr;go_wp2_with (first|(at_lookup;go_loud (refine eX (key:=.string ⟨k.toArray⟩) _ rfl _ _ 166 rfl yZ underlying166 (Tryz.pd _) rfl HM.o.1 rfl HM.o.2 (.pointer none) false (by rw[Cj];rfl) (by rw[Cj];rfl) ?_))|fail);refine HG.o.m ?_;rintro e w3 ⟨rfl,hb⟩;have k3:=pt hb HA.o.d;have HB:=al (ab hb k3);obtain⟨⟨z0,z1,z2,z3⟩,y0,y1,y2,y3⟩:=cL k3;obtain⟨⟨ra,rb,rc,rd⟩,hr⟩: ∃r,(au k l).getD .zero=r:=⟨_,rfl⟩;obtain⟨E,hE⟩: ∃E:Int,(if(au k l).isSome=true then 0 else 14)=E:=⟨_,rfl⟩;rw[hr,hE];unfold Rw.val;have HR:=al (ab hr hE);clear hb k3 hr hE Cj;go_wp2_with fail;have HO:=al (b6 (v0:=.int .i64 ra) (v1:=.int .i64 rb) (v2:=.int .i64 rc) (v3:=.int .i64 rd) HB.o.2);generalize ((((w3.setCell ⟨A,0,none⟩ (.int .i64 ra)).setCell ⟨A,1,none⟩ (.int .i64 rb)).setCell ⟨A,2,none⟩ (.int .i64 rc)).setCell ⟨A,3,none⟩ (.int .i64 rd))=w4 at HO⊢;refine dr (aB rfl _ _ _ _ _ _ _ rfl HO.o.1 underlying113 rfl (by kernel_rfl)) rfl ⟨?_,?_⟩
   ·rw[HQ.o,HR.o.1,HR.o.2];rfl
   ·have h3:Below w.heap.size w w3:=HA.o.2.1.x (HB.o.1.m HA.o.2.1.size);exact h3.x (HO.o.2.aG h3.size (fun k hk h=>by have:=HA.o.1;omega))
 |some x=>
  have HQ:=al (show jK k wl l=x by unfold jK;rw[hq]);rw[hq]at hwr;obtain⟨gv,Cj⟩:=qt (g (.string ⟨k.toArray⟩));rw[Cj]at hwr
  cases gv with
  |none=>exact hwr.elim
  |some v=>
   obtain⟨⟨z0,z1,z2,z3⟩,y0,y1,y2,y3⟩:=cL HA.o.d
   cases x with
   |none=>obtain rfl:=hwr.1;clear hq hwr;go_wp2_with (first|(at_lookup;go_loud (refine eX (key:=.string ⟨k.toArray⟩) _ rfl _ _ 166 rfl yZ underlying166 (Tryz.pd _) rfl HM.o.1 rfl HM.o.2 (.pointer none) true (by rw[Cj];rfl) (by rw[Cj];rfl) ?_))|fail);have HO:=al (b6 (v0:=.int .i64 0) (v1:=.int .i64 0) (v2:=.int .i64 0) (v3:=.int .i64 0) HA.o.d);generalize ((((w1.setCell ⟨A,0,none⟩ (.int .i64 0)).setCell ⟨A,1,none⟩ (.int .i64 0)).setCell ⟨A,2,none⟩ (.int .i64 0)).setCell ⟨A,3,none⟩ (.int .i64 0))=w4 at HO⊢;refine dr (aB rfl _ _ _ _ _ _ _ rfl HO.o.1 underlying113 rfl (by kernel_rfl)) rfl ⟨by rw[HQ.o];rfl,?_⟩;exact HA.o.2.1.x (HO.o.2.aG HA.o.2.1.size (fun k hk h=>by have:=HA.o.1;omega))
   |some r=>obtain⟨⟨b,rfl,BR⟩,Qx⟩:=hwr;obtain⟨ra,rb,rc,rd⟩:=r;obtain⟨⟨x0,x1,x2,x3⟩,-⟩:=cL BR;have hbl:=(HW.o.1.bR b (Qx b rfl)).2.2.1;have hbA: ¬b=A:=ZA b (Qx b rfl);clear hq Qx hbl BR ZA;go_wp2_with (first|(at_lookup;go_loud (refine eX (key:=.string ⟨k.toArray⟩) _ rfl _ _ 166 rfl yZ underlying166 (Tryz.pd _) rfl HM.o.1 rfl HM.o.2 (.pointer (some ⟨b,0,none⟩)) true (by rw[Cj];rfl) (by rw[Cj];rfl) ?_))|fail);have HO:=al (b6 (v0:=.int .i64 ra) (v1:=.int .i64 rb) (v2:=.int .i64 rc) (v3:=.int .i64 rd) HA.o.d);generalize ((((w1.setCell ⟨A,0,none⟩ (.int .i64 ra)).setCell ⟨A,1,none⟩ (.int .i64 rb)).setCell ⟨A,2,none⟩ (.int .i64 rc)).setCell ⟨A,3,none⟩ (.int .i64 rd))=w4 at HO⊢;refine dr (aB rfl _ _ _ _ _ _ _ rfl HO.o.1 underlying113 rfl (by kernel_rfl)) rfl ⟨by rw[HQ.o];rfl,?_⟩;exact HA.o.2.1.x (HO.o.2.aG HA.o.2.1.size (fun k hk h=>by have:=HA.o.1;omega))
end
theorem kO{P:Program}{w:World}{ops:Array Oper}{o:Oper}{a:Act}{K:Act->World->Prop}{Q:Exit->Act->World->Prop}{E:Prop}(hgd:o.guard=none)(s x:Operand)(t:TypeId)
  (ho:o.op=.call {callee:=.builtin .append,args:= #[s,x],argTypes:= #[t,t]})
  (base:Nat) (e:TypeId) (i:TypeInfo) (z:Value) (k bytes:Nat) (ht:P.underlying t=some (.slice e)) (hi:P.info? e=some i) (hz:i.zero=some z)
  (hsize:i.size=k) (hby:i.bytes=bytes) (hzs:z.cells.size=k) (eQ:0<k)
  (v:Value) (n:Nat) (xs:List Value) (hs:a.eval s=v) (hown:w.ownsRow base e k v n xs) (F:Nat->Prop) (vx:Value) (news:List (List Value)) (hx:a.eval x=vx) (hr:aS k w F vx news) (hk: ∀y∈news,y.length=k) (h1: ∀u∈news.flatten,u.oneCell'=true)
  (hbytes:(n+news.length)*bytes<=140737488355328) (h63:n+news.length<=maxLen) (hbase:base<=w.heap.size)
  (h: ∀v' w',w'.ownsRow base e k v' (n+news.length) (xs++news.flatten)->w.grownBy w' v.ownBlock->(v'.ownBlock=v.ownBlock\/v'.ownBlock=some w.heap.size)->K (a.put o.dst v') w'):
  if Region.wanted o (yielded ops a.tmps)=true then Oper.wp P o a w K Q else E:=by
 have hw:Region.wanted o (yielded ops a.tmps)=true:=by simp[Region.wanted,hgd]
 rw[fi hw];obtain⟨v',w',hrun,h2,h3,h4⟩:=kj (P:=P) w base t o.type e i z k bytes ht hi hz hsize hby hzs eQ v n xs hown F vx news hr hk h1 hbytes h63 hbase;unfold Oper.wp execOp;simp only[ho,resolve,invoke,builtin,Sem.run_bind,Sem.run_pure,Result.andThen_ok,List.map_toArray,lp,kc,hs,hx,hrun];exact h v' w' h2 h3 h4
def Mo(l:List Cl):List Value:=(l.map Cl.cells).flatten
theorem Sn(l m:List Cl):Mo (l++m)=Mo l++Mo m:=by simp[Mo]
theorem JB{w:World}{X base:Nat}{x:Cl}(h:w.heap[X]?=some (.cells #[.bool x.wr,.int .i64 x.aM,.string ⟨x.key.toArray⟩,.int .i64 x.lo,.int .i64 x.hi] 107 (0,0)))(hb:base<=X):w.ownsRow base 107 5 (.slice (some ⟨X,0,none⟩) 1 1) 1 (Mo [x]):=by refine⟨by simp[Mo,Cl.cells],.inr ⟨X,1,_,rfl,hb,h,aE _,by simp[maxLen],rfl,?_⟩⟩;simp[Mo,Cl.cells]
theorem GN{w:World}{X:Nat}{x:Cl}(h:w.heap[X]?=some (.cells #[.bool x.wr,.int .i64 x.aM,.string ⟨x.key.toArray⟩,.int .i64 x.lo,.int .i64 x.hi] 107 (0,0))):aS 5 w (fun _=>True) (.slice (some ⟨X,0,none⟩) 1 1) ([x].map Cl.cells):=
 aS.aU (JB h (dq _)) (cO _) (by decide) (fun _ _=>trivial)
def VW(l:List Cl)(w:World)(e:Ending)(w':World):Prop:= ∃v,e=.returned (.tuple #[v,.int .i64 0])/\w'.ownsRow w.heap.size 107 5 v l.length (Mo l)/\Below w.heap.size w w'
def Qy(w:World)(X R:Nat)(old now:Rw)(v:Value)(l:List Cl)(wr:World):Prop:=
 wr.ownsRow w.heap.size 107 5 v l.length (Mo l)/\(∀g,v.ownBlock=some g->g≠X/\g≠R)/\Below w.heap.size w wr/\wr.heap[X]?=some (.cells #[.int .i64 old.a,.int .i64 old.b,.int .i64 old.c,.int .i64 old.d] 113 (0,0))/\
  wr.heap[R]?=some (.cells #[.int .i64 now.a,.int .i64 now.b,.int .i64 now.c,.int .i64 now.d] 113 (0,0))
theorem Qy.still{w wr w1:World}{X R:Nat}{old now:Rw}{v:Value}{l:List Cl}(h:Qy w X R old now v l wr)(hb:Below wr.heap.size wr w1):Qy w X R old now v l w1:=by obtain⟨h1,h2,h3,h4,h5⟩:=h;exact⟨aY h1 hb,h2,h3.x (hb.m h3.size),pt hb h4,pt hb h5⟩
theorem Qy.more{w wr w1 w2:World}{X R Y:Nat}{old now:Rw}{v v':Value}{l:List Cl}{x:Cl}(h:Qy w X R old now v l wr)(hb:Below wr.heap.size wr w1)(hown:w2.ownsRow w.heap.size 107 5 v' (l.length+1) (Mo l++([x].map Cl.cells).flatten))
  (hg:w1.grownBy w2 v.ownBlock) (hat:v'.ownBlock=v.ownBlock\/v'.ownBlock=some Y) (hY:w1.heap.size<=Y):Qy w X R old now v' (l++[x]) w2:=by
 obtain⟨h1,h2,h3,h4,h5⟩:=h;have k4:=pt hb h4;have k5:=pt hb h5;have ho:=Only.of_grownBy hg;refine⟨by rw[Sn,fb];exact hown,fun g Cj=>?_,(h3.x (hb.m h3.size)).x (ho.aG (da h3.size hb.size) (fun k hk e=>?_)),ho.heap k4 (fun e=>(h2 X e).1 rfl),ho.heap k5 (fun e=>(h2 R e).2 rfl)⟩
 ·rcases hat with e|e
  ·exact h2 g (by rw[<-e];exact Cj)
  ·rw[Cj]at e;injection e with e;have:=aQ k4;have:=aQ k5;exact⟨by omega,by omega⟩
 ·have:=(h1.lt k e).1;omega
def mo(b:Bool)(r:Rw):Option Rw:=if b then some r else none
theorem Ou{b:Bool}{r:Rw}(h:b=false->r=Rw.zero):(mo b r).getD Rw.zero=r:=by
 cases b
 ·exact(h rfl).symm
 ·rfl
theorem Ck(b:Bool)(r:Rw):(mo b r).isSome=b:=by cases b<;>rfl
theorem jL(w:World)(B T o:Nat)(most:Int)(l:ax)(wl:tN)(FT:Nat->Nat->Prop)(FB:Nat->Prop)(k:List UInt8)(hk:1<=k.length/\k.length<=16)(h:ig w B T most o l wl FT FB)(b i:Bool)(old now:Rw)(ho:b=false->old=Rw.zero)(hq:jK k wl l=mo b old)(op:Int)(hop:op=if i=true then 9 else 10):
  Calls prog 138 #[.int .i64 op,.pointer (some ⟨B,0,none⟩),.string ⟨k.toArray⟩,now.val] w (VW (gY k (mo b old) (mo i now)) w):=by
 obtain⟨i0,hi,hz0,hz1,hz2⟩:=ep Tryz.sZ;have HI:=al hi;have HG:=al (fun w' (h':ig w' B T most o l wl FT FB)=>pX w' B T o most l wl FT FB k hk h');rw[hq]at HG;unfold nU at HG;rw[Ou ho,Ck]at HG;have HF:=al (ab (xe k (mo b old) (mo i now)) (ab (qO k (mo b old) (mo i now)) (show(∀c,ku k (mo b old) (mo i now) (c+1)=ku k (mo b old) (mo i now) c++uW c (mo b old) (mo i now))/\ku k (mo b old) (mo i now) 0=[⟨true,-1,k,0,0⟩]++(if b=i then[]else[⟨true,-1,[35],0,0⟩])from⟨fun _=>rfl,by rw[ku,Ck,Ck]⟩)));obtain⟨f,hf⟩:=qt (ku k (mo b old) (mo i now));rw[hf]at HF;rw[<-HF.o.1];obtain⟨oa,ob,oc,od⟩:=old;obtain⟨na,nb,nc,nd⟩:=now;unfold Rw.val;unfold Rw.val at HG;obtain⟨hb0,k0⟩:=qn w (.cells #[.int .i64 na,.int .i64 nb,.int .i64 nc,.int .i64 nd] 113);have h1:=h.below hb0;clear h hk hq hi hf ho;cases i<;>subst hop
 all_goals
  simp only[nh,if_false,if_true];go_enter func138,ntmps138;go_upto_region 1 with fail;generalize w.alloc (.cells #[.int .i64 na,.int .i64 nb,.int .i64 nc,.int .i64 nd] 113)=w1 at hb0 k0 h1⊢;obtain⟨R,hR⟩:=qt (w.heap.size);rw[hR]at k0⊢;have HC:=al (HG.o w1 h1);have H1:=al (ab hb0 (ab k0 hR));clear hb0 k0 h1 hR HG;go_wp2_with fail;refine HC.o.m ?_;rintro e w2 ⟨rfl,hb2⟩;obtain⟨ek,kx⟩:=qn w2 (.cells #[.int .i64 oa,.int .i64 ob,.int .i64 oc,.int .i64 od] 113);have hb3:=(hb2.x (ek.m hb2.size));have kr:=pt hb3 H1.o.2.1;have HX:=al (ab (H1.o.1.x (hb3.m H1.o.1.size)) (ab kx kr));clear hb2 ek kx hb3 kr HC;cases b
 all_goals
  simp only[nh,if_false,if_true];go_upto_region 6 with fail;have Mq:=HX.o;clear HX;generalize w2.alloc (.cells #[.int .i64 oa,.int .i64 ob,.int .i64 oc,.int .i64 od] 113)=w3 at Mq⊢;obtain⟨X,hX⟩:=qt (w2.heap.size);rw[hX]at Mq⊢;have HX:=al (show Below w.heap.size w w3/\w3.heap[X]?=some (.cells #[.int .i64 oa,.int .i64 ob,.int .i64 oc,.int .i64 od] 113 (0,0))/\w3.heap[R]?=some (.cells #[.int .i64 na,.int .i64 nb,.int .i64 nc,.int .i64 nd] 113 (0,0))from Mq);clear Mq hX;obtain⟨hby,ky⟩:=qn w3 (.cells #[.bool true,.int .i64 (-1),.string ⟨k.toArray⟩,.int .i64 0,.int .i64 0] 107);have hs3:w.heap.size<=w3.heap.size:=HX.o.1.size
  have HR:=al (show Qy w X R ⟨oa,ob,oc,od⟩ ⟨na,nb,nc,nd⟩ (.slice (some ⟨w3.heap.size,0,none⟩) 1 1) [⟨true,-1,k,0,0⟩] (w3.alloc (.cells #[.bool true,.int .i64 (-1),.string ⟨k.toArray⟩,.int .i64 0,.int .i64 0] 107))from by
   have g4:=pt hby HX.o.2.1;have g5:=pt hby HX.o.d;have l4:=aQ HX.o.2.1;have l5:=aQ HX.o.d
   exact⟨JB (x:=⟨true,-1,k,0,0⟩) ky hs3,fun g hg=>by have hg2:some w3.heap.size=some g:=hg;injection hg2 with hg2;exact⟨by omega,by omega⟩,HX.o.1.x (hby.m hs3),g4,g5⟩)
  clear hby ky HX
 have hsame:=trivial;rotate_left;have ZC:=trivial;rotate_left;have ZC:=trivial;rotate_left;have hsame:=trivial;rotate_left
 all_goals try
  clear ZC;obtain⟨hbz,kz⟩:=qn (w3.alloc (.cells #[.bool true,.int .i64 (-1),.string ⟨k.toArray⟩,.int .i64 0,.int .i64 0] 107)) (.cells #[.bool true,.int .i64 (-1),.string ⟨#[35]⟩,.int .i64 0,.int .i64 0] 107);rw[show(w3.alloc (.cells #[.bool true,.int .i64 (-1),.string ⟨k.toArray⟩,.int .i64 0,.int .i64 0] 107)).heap.size=w3.heap.size+1 by simp]at kz;have HZ:=al (ab hbz (ab (GN (x:=⟨true,-1,[35],0,0⟩) kz) (aY HR.o.1 hbz)));clear hbz kz;go_upto_region 10 with(at_builtin;go_loud (refine di _ rfl _ _ 44 rfl w.heap.size 107 i0 _ 5 48 underlying44 HI.o hz0 hz1 hz2 rfl (by decide) _ 1 (Mo [⟨true,-1,k,0,0⟩]) rfl HZ.o.d (fun _=>True) (.slice (some ⟨w3.heap.size+1,0,none⟩) 1 1) ([⟨true,-1,[35],0,0⟩].map Cl.cells) rfl HZ.o.2.1 (cO _) (qN _) (by decide) (by decide) (by have:=HR.o.d.1.size;have:=HZ.o.1.size;omega) ?_);intro v4 w4 eZ Ov ZE);have HS:=al (show Qy w X R ⟨oa,ob,oc,od⟩ ⟨na,nb,nc,nd⟩ v4 (f 0) w4 from by rw[HF.o.t];exact HR.o.more HZ.o.1 eZ Ov ZE (aE _));clear eZ Ov ZE HZ HR hs3
 all_goals try
  clear hsame;go_upto_region 10 with fail;obtain⟨w4,hw4⟩:=qt (w3.alloc (.cells #[.bool true,.int .i64 (-1),.string ⟨k.toArray⟩,.int .i64 0,.int .i64 0] 107));rw[hw4]at HR⊢;obtain⟨A4,hA4⟩:=qt (some (⟨w3.heap.size,0,none⟩:Addr));rw[hA4]at HR⊢;have HS:=al (show Qy w X R ⟨oa,ob,oc,od⟩ ⟨na,nb,nc,nd⟩ (.slice A4 1 1) (f 0) w4 from by rw[HF.o.t];exact HR.o);clear HR hw4 hA4 hs3
 all_goals
  go_wp2_with fail
  go_loopw [14,44] (fun v i wr=> ∃c:Nat,c<=4/\i=.int .i64 (c:Int)/\Qy w X R ⟨oa,ob,oc,od⟩ ⟨na,nb,nc,nd⟩ v (f c) wr) (fun _ i _=>4-(intOf i).toNat)
  case atStart=>exact⟨0,by decide,rfl,HS.o⟩
  obtain⟨c,hc,rfl,Av⟩:=hrel;have hlen:=HF.o.2.1 c;have HW:=al (ab Av hlen);by_cases hlt:c<4
  case neg=>
   obtain rfl:c=4:=by omega
   clear Av hlen;go_wp2_with fail
   go_ret2
   have h:=HW.o.1;exact⟨_,rfl,h.1,h.2.2.1⟩
  have i1:(0:Int)<=(c:Int):=by omega
  have i2:(c:Int)<4:=by omega
  have z0:=eA (r:=⟨oa,ob,oc,od⟩) Av.2.2.2.1 hlt;have y0:=eA (r:=⟨na,nb,nc,nd⟩) Av.2.2.2.2 hlt;obtain⟨x,hx⟩:=qt (Rw.aM ⟨oa,ob,oc,od⟩ c);obtain⟨y,hy⟩:=qt (Rw.aM ⟨na,nb,nc,nd⟩ c);rw[hx]at z0;rw[hy]at y0;have HV:=al (ab hx hy);clear Av hlen hx hy
 -- neither was nor is; was; is; both
 have h0:=trivial;rotate_left;have yU:=trivial;rotate_left;have h17:=trivial;rotate_left;by_cases hxy:x=y
 ·subst hxy;go_wp2_with fail;go_quiet(fail);rename_i nq;go_wp2_with fail;go_roundw
  case rel=>refine⟨c+1,by omega,by go_num,?_⟩;rw[HF.o.d.1 c];unfold uW mo;simp only[if_true,HV.o.1,HV.o.2,gn];exact HW.o.1.still (Only.aG ((ox (fun _=>False) wr).drewN nq) (aE _) (fun _ _ h=>h))
  case measure=>simp[intOf];omega
 have VS:(x==y)=false:=by simpa using hxy
 have Mq:=al hxy;clear hxy;have yU:=trivial;have h17:=trivial
 all_goals
  go_wp2_with fail;go_quiet(fail);rename_i nq
  try clear VS
  clear z0 y0;have HA:=al (HW.o.1.still (show Below wr.heap.size wr (wr.drewN nq)from Only.aG ((ox (fun _=>False) wr).drewN nq) (aE _) (fun _ _ h=>h)));generalize wr.drewN nq=wa at HA⊢
 all_goals try
  clear yU;go_upto_region 15 with fail;have HD:=al (HA.o.still (show Below wa.heap.size wa wa.drew from(aw _ _).drew));refine o0 (S:=(fun W=>W.heap[X]?=some (.cells #[.int .i64 oa,.int .i64 ob,.int .i64 oc,.int .i64 od] 113 (0,0))/\W.heap[R]?=some (.cells #[.int .i64 na,.int .i64 nb,.int .i64 nc,.int .i64 nd] 113 (0,0)))) (by kernel_rfl) ⟨HA.o.t.1,HA.o.q⟩ (fun ph=>?_);clear HA;generalize wa.drew=wd at HD ph⊢;refine aI [0,1,2,3] ?_
  iterate 4 (refine bO (v:=?_) (fun _ ⟨s0,s1⟩=>?_) ph ?_;rotate_left;(go_simp;try rfl);try simp only[ai,aj,ak,ar])
  refine aJ ?_;refine dR 4 (v:=?_) (fun wS hSw=>?_) ph ?_;rotate_left
  ·obtain⟨s0,s1⟩:=hSw;have q0:=eA (r:=⟨oa,ob,oc,od⟩) s0 hlt;rw[HV.o.1]at q0;go_simp;try rfl
  try simp only[ai,aj,ak,ar]
  refine aI [5,6] ?_
  iterate 2 (refine bO (v:=?_) (fun _ ⟨s0,s1⟩=>?_) ph ?_;rotate_left;(go_simp;try rfl);try simp only[ai,aj,ak,ar])
  refine aJ ?_;refine dR 7 (v:=?_) (fun wS hSw=>?_) ph ?_;rotate_left
  ·obtain⟨s0,s1⟩:=hSw;have q0:=eA (r:=⟨oa,ob,oc,od⟩) s0 hlt;rw[HV.o.1]at q0;go_simp;try rfl
  try simp only[ai,aj,ak,ar]
  refine dR 8 (v:=?_) (fun wS hSw=>?_) ph ?_;rotate_left
  ·obtain⟨s0,s1⟩:=hSw;go_simp;try rfl
  try simp only[ai,aj,ak,ar]
  refine aW 9 (fun K hK=>?_);go_simp;refine hK.o _ _ (⟨pt (ae _ _) ph.1,pt (ae _ _) ph.2⟩) ?_;clear hK K ph;intro ph
  try simp only[ai,aj,ak,ar]
  have aR:=ae wd (.cells #[.bool true,.int .i64 (c:Int),.string ⟨#[]⟩,.int .i64 x,.int .i64 x] 107);have HN:=al (ab aR (ab (GN (x:=⟨true,(c:Int),[],x,x⟩) (an wd (.cells #[.bool true,.int .i64 (c:Int),.string ⟨#[]⟩,.int .i64 x,.int .i64 x] 107))) (aY HD.o.1 aR)));clear aR;refine aW 10 (fun K hK=>?_);refine kO rfl _ _ 44 rfl w.heap.size 107 i0 _ 5 48 underlying44 HI.o hz0 hz1 hz2 rfl (by decide) _ _ _ rfl HN.o.d (fun _=>True) (.slice (some ⟨wd.heap.size,0,none⟩) 1 1) ([⟨true,(c:Int),[],x,x⟩].map Cl.cells) rfl HN.o.2.1 (cO _) (qN _) (by have:=HW.o.2;simp;omega) (by have:=HW.o.2;simp[maxLen];omega) (by have:=HD.o.d.1.size;have:=HN.o.1.size;omega) ?_;intro v6 wa lR xW xE;have HA:=al (HD.o.more (x:=⟨true,(c:Int),[],x,x⟩) HN.o.1 lR xW xE (aE _));clear lR xW xE HN HD;refine hK.o _ _ (⟨HA.o.t.1,HA.o.q⟩) ?_;clear hK K ph;intro ph
  try simp only[ai,aj,ak,ar]
  refine dR 11 (v:=?_) (fun wS hSw=>?_) ph ?_;rotate_left
  ·obtain⟨s0,s1⟩:=hSw;go_simp;try rfl
  try simp only[ai,aj,ak,ar]
  refine pb (by kernel_rfl) ?_ _;clear ph
 all_goals try
  clear h17;go_upto_region 17 with fail;have HD:=al (HA.o.still (show Below wa.heap.size wa wa.drew from(aw _ _).drew));refine o0 (S:=(fun W=>W.heap[X]?=some (.cells #[.int .i64 oa,.int .i64 ob,.int .i64 oc,.int .i64 od] 113 (0,0))/\W.heap[R]?=some (.cells #[.int .i64 na,.int .i64 nb,.int .i64 nc,.int .i64 nd] 113 (0,0)))) (by kernel_rfl) ⟨HA.o.t.1,HA.o.q⟩ (fun ph=>?_);clear HA;generalize wa.drew=wd at HD ph⊢;refine aI [0,1,2,3] ?_
  iterate 4 (refine bO (v:=?_) (fun _ ⟨s0,s1⟩=>?_) ph ?_;rotate_left;(go_simp;try rfl);try simp only[ai,aj,ak,ar])
  refine aJ ?_;refine dR 4 (v:=?_) (fun wS hSw=>?_) ph ?_;rotate_left
  ·obtain⟨s0,s1⟩:=hSw;have q0:=eA (r:=⟨na,nb,nc,nd⟩) s1 hlt;rw[HV.o.2]at q0;go_simp;try rfl
  try simp only[ai,aj,ak,ar]
  refine aI [5,6] ?_
  iterate 2 (refine bO (v:=?_) (fun _ ⟨s0,s1⟩=>?_) ph ?_;rotate_left;(go_simp;try rfl);try simp only[ai,aj,ak,ar])
  refine aJ ?_;refine dR 7 (v:=?_) (fun wS hSw=>?_) ph ?_;rotate_left
  ·obtain⟨s0,s1⟩:=hSw;have q0:=eA (r:=⟨na,nb,nc,nd⟩) s1 hlt;rw[HV.o.2]at q0;go_simp;try rfl
  try simp only[ai,aj,ak,ar]
  refine dR 8 (v:=?_) (fun wS hSw=>?_) ph ?_;rotate_left
  ·obtain⟨s0,s1⟩:=hSw;go_simp;try rfl
  try simp only[ai,aj,ak,ar]
  refine aW 9 (fun K hK=>?_);go_simp;refine hK.o _ _ (⟨pt (ae _ _) ph.1,pt (ae _ _) ph.2⟩) ?_;clear hK K ph;intro ph
  try simp only[ai,aj,ak,ar]
  have aR:=ae wd (.cells #[.bool true,.int .i64 (c:Int),.string ⟨#[]⟩,.int .i64 y,.int .i64 y] 107);have HN:=al (ab aR (ab (GN (x:=⟨true,(c:Int),[],y,y⟩) (an wd (.cells #[.bool true,.int .i64 (c:Int),.string ⟨#[]⟩,.int .i64 y,.int .i64 y] 107))) (aY HD.o.1 aR)));clear aR;refine aW 10 (fun K hK=>?_);refine kO rfl _ _ 44 rfl w.heap.size 107 i0 _ 5 48 underlying44 HI.o hz0 hz1 hz2 rfl (by decide) _ _ _ rfl HN.o.d (fun _=>True) (.slice (some ⟨wd.heap.size,0,none⟩) 1 1) ([⟨true,(c:Int),[],y,y⟩].map Cl.cells) rfl HN.o.2.1 (cO _) (qN _) (by have:=HW.o.2;simp;omega) (by have:=HW.o.2;simp[maxLen];omega) (by have:=HD.o.d.1.size;have:=HN.o.1.size;omega) ?_;intro v6 wa lR xW xE;have HA:=al (HD.o.more (x:=⟨true,(c:Int),[],y,y⟩) HN.o.1 lR xW xE (aE _));clear lR xW xE HN HD;refine hK.o _ _ (⟨HA.o.t.1,HA.o.q⟩) ?_;clear hK K ph;intro ph
  try simp only[ai,aj,ak,ar]
  refine dR 11 (v:=?_) (fun wS hSw=>?_) ph ?_;rotate_left
  ·obtain⟨s0,s1⟩:=hSw;go_simp;try rfl
  try simp only[ai,aj,ak,ar]
  refine pb (by kernel_rfl) ?_ _;clear ph
 all_goals
  go_wp2_with fail;go_roundw
  case rel=>
   refine⟨c+1,by omega,by go_num,?_⟩;rw[HF.o.d.1 c];unfold uW mo;have h:=HA.o
   first
   |simpa[HV.o.1,HV.o.2,Mq.o]using h
   |simpa[HV.o.1,HV.o.2]using h
  case measure=>simp[intOf];omega
def Aw(x:List UInt8×Rw):Bool->ax->ax
 |d,[]=>if d then[]else[x]
 |d,q::l=>(if d=false/\ ¬q.1<x.1 then[x]else[])++((if q.1≠x.1 then[q]else[])++Aw x (d||!decide (q.1<x.1)) l)
theorem qY(x:List UInt8×Rw): ∀(l:ax),(∀q∈l,x.1<q.1)->Aw x true l=l
 |[],_=>rfl
 |q::l,h=>by have hq:=h q (by simp);have hne:q.1≠x.1:=fun e=>aL q.1 (by rw[e]at hq⊢;exact hq);simp only[Aw,Bool.true_or];rw[ff (by simp),fi hne,qY x l (fun y hy=>h y (by simp[hy]))];rfl
theorem xX{x:List UInt8×Rw}: ∀{l:ax},fc l->Aw x false l=bP x l
 |[],_=>rfl
 |q::l,hu=>by
  have hu':=eR.1 hu;simp only[Aw,bP,Bool.false_or];by_cases h:q.1<x.1
  ·have hne:q.1≠x.1:=fun e=>aL x.1 (by rw[e]at h;exact h);rw[fi h,ff (by simp[h]),fi hne,decide_eq_true h,Bool.not_true,xX hu'.2];rfl
  ·rw[ff h,fi (by simp[h]),decide_eq_false h,Bool.not_false];by_cases e:q.1=x.1
   ·rw[fi e,ff (fun h=>absurd e h),qY x l (fun y hy=>by rw[<-e];exact hu'.1 y hy)];simp
   ·have hlt:x.1<q.1:=(wD h).elim id (fun e'=>absurd e'.symm e);rw[ff e,fi e,qY x l (fun y hy=>eT hlt (hu'.1 y hy))];rfl
theorem ah{w1 W:World}{p:Addr}{v:Value}(hb:Below w1.heap.size w1 W)(h:w1.cell? p=some v):W.cell? p=some v:=(hb.cell (aq _ _ h)).x h
section
open Go.RowKit Go.Maps Go.WideShapes
theorem GP(k:List UInt8)(wl:tN)(l:ax):jK k wl l=(au k wl).getD (au k l):=by unfold jK;cases au k wl<;>rfl
theorem jM{wl:tN}{l:ax}(hw:fc wl)(h:fc l)(k:List UInt8):jK k wl l=au k (bY wl l):=by rw[GP,fK hw h]
section
variable{P:Program}{w w':World}{K:TypeId}{b n:Nat}{g:Value->Option Value}
theorem bQ.Ow(h:bQ P w K b n g)(L:Keyed P K){t e:TypeId}(ht:P.underlying t=some (.map K e))(hn:n<maxLen){key val:Value}{kl:Lit}(hkey:keyOf P K key=some kl):
  ∃w',(Instr.mapUpdate t (.map (some b)) key val).run P w=.ok () w'/\bQ P w' K b (if(g key).isSome then n else n+1) (rS g key (some val))/\Only (fun k=>k=b) w w':=by
 obtain⟨D,h,r⟩:=h;obtain⟨w',hrun,h1,h2⟩:=h.store L ht hn hkey (show rR val=some (.held val,[])from rfl);refine⟨w',hrun,⟨D.put kl (.held val),?_,fun v l hl=>?_⟩,(Only.of_grownBy h2.grown).m (fun i _ e=>by injection e with e;exact e.symm)⟩
 ·have h3:=size_put (h.tidy L) (k:=kl) (.held val);rw[(r key kl hkey).1]at h3;have h4:=h.size_le;obtain⟨es,clock,h5,h6,h7,h8⟩:=h1;refine⟨es,clock,h5,h6,?_,h8⟩;have h9:Maps.size (D.put kl (.held val))=es.size:=by rw[h8];simp[Maps.size,length_sorted]
  rw[<-h9,h3];split<;>omega
 ·by_cases e:v=key
  ·subst e;have:l=kl:=eE (hl.symm.x hkey);subst this;rw[mI];exact⟨has_put_same h.isMap (L.key hkey) _,fun z=>atKey_put_same h.isMap (L.key hkey) _ _⟩
  ·have hne:l≠kl:=fun e1=>e (L.inj (by rw[<-e1];exact hl) hkey);rw[nQ _ _ e,has_put_other hne];exact⟨(r v l hl).1,fun z=>by rw[atKey_put_other hne];exact(r v l hl).2 z⟩
end
section
variable{P:Program}(w:World){ops:Array Oper}{rest:List Oper}{o:Oper}{a:Act}{Q:Exit->Act->World->Prop}
theorem jz(hg:o.guard=none)(m x v:Operand)(t:TypeId)(hop:o.op=Op.mapUpdate t m x v){K e:TypeId}(L:Keyed P K)(ht:P.underlying t=some (.map K e)){b n:Nat}{g:Value->Option Value}
  (hm:a.eval m=.map (some b)) (hown:bQ P w K b n g) (hn:n<maxLen) {key val:Value} {kl:Lit} (hx:a.eval x=key) (hv:a.eval v=val) (hkey:keyOf P K key=some kl)
  (hK: ∀w',bQ P w' K b (if(g key).isSome then n else n+1) (rS g key (some val))->Only (fun k=>k=b) w w'->wpList P ops Q rest (a.put o.dst undef) w'):wpList P ops Q (o::rest) a w:=by
 refine wpList_plain hg fun K' hK'=>?_;obtain⟨w',hrun,r1,r2⟩:=hown.Ow L ht hn (val:=val) hkey;unfold Oper.wp;simp[execOp,hop,hm,hx,hv,hrun,Result.andThen];exact hK' _ _ (hK w' r1 r2)
end
theorem XE.El{w:World}{FR:Nat->Prop}{a:Option Value}{b:Option (Option Rw)}(h:XE w FR a b):a.isSome=b.isSome:=by
 match a,b,h with
 |none,none,_=>rfl
 |some _,some _,_=>rfl
theorem oI.Um{w:World}{B T o m n:Nat}{most:Int}{l:ax}{wl:tN}{FT:Nat->Nat->Prop}{g:Value->Option Value}{FR:Nat->Prop}(h:oI w B T most o l wl FT m n g FR)(k:List UInt8):(g (.string ⟨k.toArray⟩)).isSome=true↔k∈wl.map Prod.fst:=by rw[(h.wr k).El];exact xz h.up k
theorem oI.VX{w:World}{B T o m n:Nat}{most:Int}{l:ax}{wl:tN}{FT:Nat->Nat->Prop}{g:Value->Option Value}{FR:Nat->Prop}(h:oI w B T most o l wl FT m n g FR): ∀k∈wl.map Prod.fst,1<=k.length/\k.length<=16:=by intro k hk;obtain⟨q,hq,rfl⟩:=ew.1 hk;exact h.key q hq
theorem nV(wl:tN)(l:ax): ∀ks:List (List UInt8),-(ks.length:Int)<=kG wl l ks/\kG wl l ks<=ks.length
 |[]=>⟨eL _,eL _⟩
 |k::ks=>by
  have ih:=nV wl l ks
  have h: -1<=kG wl l [k]/\kG wl l [k]<=1:=by
   unfold kG dQ;simp only[kG];split
   ·split<;>split<;>simp
   ·simp
  have e:=xC wl l k ks [];simp only[fs]at e;simp only[fm];omega
def ZF(w:World)(m r nn:Nat)(g:Value->Option Value)(wl:tN)(l:ax)(v:Value)(wr:World):Prop:=
 ∃ks,uZ wr m r nn g ks/\(∀k∈ks,k∈wl.map Prod.fst)/\ks.length<=wl.length/\v=.int .i64 (((bY wl l).length:Int)-kG wl l ks)/\Below w.heap.size w wr/\w.heap.size<=r
theorem Lb(w:World)(B T o:Nat)(most:Int)(l:ax)(wl:tN)(FT:Nat->Nat->Prop)(FB:Nat->Prop)(h:ig w B T most o l wl FT FB)(Sq:wl.length<=2305843009213693952):
  Calls prog 185 #[.pointer (some ⟨B,0,none⟩)] w fun e w'=>e=.returned (.int .i64 ((bY wl l).length:Int))/\Below w.heap.size w w':=by
 obtain⟨m,n,g,FR,hW,-,-,-⟩:=h;have g1:=hW.blk;have d0:w.cell? ⟨B,0,none⟩=some (.pointer (some ⟨T,0,none⟩)):=by simp[World.cell?,g1]
 have d1:w.cell? ⟨B,1,none⟩=some (.map (some m)):=by simp[World.cell?,g1]
 have hlen:=xD (l:=l) hW.up hW.tab.up;have C4:=hW.tab.len;have jo:=hW.tab.Jw;have H:=al (ab hW (ab hlen (ab Sq (ab C4 jo.2))));have HL:=al (tL w T o most l FT hW.tab);clear hW g1 hlen Sq C4 jo;go_enter func185,ntmps185;go_wp2_with fail;refine HL.o.m ?_;rintro e w1 ⟨rfl,rfl⟩;clear HL;go_wp2_with (at_range;go_loud (refine pg _ rfl _ 166 rfl underlying166 rfl H.o.1.map (wl.map Prod.fst) (fun k _=>H.o.1.Um k) (kF H.o.1.up) (fun k hk=>by have:=(H.o.1.VX k hk).2;unfold maxLen;omega) ?_);intro w1 hrg hb1;have H1:=al (ab hrg hb1);clear hrg hb1)
 go_frame
 go_loopw [3] (fun v wr=>ZF w m w.heap.size n g wl l v wr) (fun _ wr=>wr.rangeLeft m w.heap.size)
 case atStart=>exact⟨_,H1.o.1,fun k hk=>hk,by simp,by have:=H.o.2.1;congr 1;omega,H1.o.2,aE _⟩
 case round=>
  obtain⟨ks,hrg,hks,hkl,rfl,hbr,hr⟩:=hrel
  rename World=>wr
  have HR:=al (ab hks (ab hkl (ab hbr hr)));clear hks hkl hbr hr;go_wp2_with (at_next;refine qz _ rfl _ rfl rfl hrg ?_ ?_)
  ·intro eQ;subst eQ;go_wp2_with fail;go_ret
   exact⟨by simp[kG],HR.o.d.1⟩
  ·intro l1 l2 k v w2 Cm Me hrg2 hlt dY Ox hen;have hkx:=H.o.1.VX k (HR.o.1 k (by rw[Cm];simp));have hwr:=H.o.1.wr k;rw[Me]at hwr;have hb2:Below w.heap.size w w2:=HR.o.d.1.x (dY.aG HR.o.d.1.size (fun j hj e=>by have:=HR.o.t;omega))
   obtain⟨x,hx⟩: ∃x,au k wl=some x:=by
    cases hq:au k wl with
    |none=>rw[hq]at hwr;exact hwr.elim
    |some x=>exact⟨x,rfl⟩
   rw[hx]at hwr;have g2:=pt hb2 H.o.1.blk;have e0:w2.cell? ⟨B,0,none⟩=some (.pointer (some ⟨T,0,none⟩)):=by simp[World.cell?,g2]
   clear g2;have Sr:=xC wl l k l2 l1;rw[<-Cm]at Sr;have hd:kG wl l [k]=dQ l (k,x):=by simp[kG,hx]
   rw[hd]at Sr;have Ss:=nV wl l (l1++l2);have abp:=nV wl l ks;have VF:=HR.o.2.1;have HC:=al (ab hrg2 (ab hlt (ab hb2 (ab Sr (ab (show -(wl.length:Int)<=kG wl l ks/\kG wl l ks<=wl.length from by omega) (ab Ox (show(∀y∈l1++l2,y∈wl.map Prod.fst)/\(l1++l2).length<=wl.length from⟨fun y hy=>HR.o.1 y (by rw[Cm];rcases dy.1 hy with h|h<;>simp[h]),by have:=HR.o.2.1;rw[Cm]at this;simp at this⊢;omega⟩)))))));have HG:=al (tM w2 T o most l FT k (H.o.1.tab.below hb2) hkx);clear Sr hd Ss abp VF hrg2 hlt hb2 Ox dY hrg Cm Me;obtain⟨S,hS⟩: ∃S:Int,((bY wl l).length:Int)-kG wl l ks=S:=⟨_,rfl⟩;have Ay: -9000000000000000000<=S/\S<=9000000000000000000:=by have:=H.o.2.1;have:=H.o.d.1;have:=H.o.t.1;have:=H.o.q;have:=HC.o.q.1;have:=xD (l:=l) H.o.1.up H.o.1.tab.up;have h9:=nV wl l (wl.map Prod.fst);rw[fa]at h9;omega
   have hS':((bY wl l).length:Int)-kG wl l (l1++l2)=S+dQ l (k,x):=by have:=HC.o.t.1;omega
   rw[hS];have Qz:=al hS';have HSb:=al Ay;clear hS' hS Ay;obtain⟨q,hlk⟩:=qt (au k l);rw[hlk]at HG;have hdq:dQ l (k,x)=if q.isSome then(if x.isSome then 0 else -1)else(if x.isSome then 1 else 0):=by unfold dQ;rw[hlk]
   rw[hdq]at Qz
   have HE:=al (show ∀(w3 w4:World) (S':Int),Below w2.heap.size w2 w3->Below w3.heap.size w3 w4->S'=S+(if q.isSome then(if x.isSome then 0 else -1)else(if x.isSome then 1 else 0))->ZF w m w.heap.size n g wl l (.int .i64 S') w4/\w4.rangeLeft m w.heap.size<wr.rangeLeft m w.heap.size from by
    rintro w3 w4 S' hb3 hb4 rfl;have hb:=hb3.x (hb4.m hb3.size);have ho:=pw hb
    exact⟨⟨l1++l2,HC.o.1.only ho (fun h=>h) (fun h=>h),HC.o.q.d.1,HC.o.q.t,by rw[Qz.o],HC.o.d.1.x (hb.m HC.o.d.1.size),aE _⟩,by rw[HC.o.1.left ho (fun h=>h) (fun h=>h)];exact HC.o.2.1⟩)
   obtain⟨v,rfl,hv⟩: ∃p,v=.pointer p/\(x=none/\p=none\/ ∃b,x.isSome/\p=some b):=by
    cases x with
    |none=>exact⟨none,hwr.1,.inl ⟨rfl,rfl⟩⟩
    |some r=>obtain⟨⟨b,rfl,-⟩,-⟩:=hwr;exact⟨_,rfl,.inr ⟨_,rfl,rfl⟩⟩
   clear hwr hx hlk hdq;obtain⟨⟨ra,rb,rc,rd⟩,hr⟩: ∃r,q.getD .zero=r:=⟨_,rfl⟩;unfold nU at HG;rw[hr]at HG;clear hr;unfold Rw.val at HG;rcases hv with⟨rfl,rfl⟩|⟨b,hxs,rfl⟩
   ·cases q with
    |some rw0=>go_wp2_with fail;refine HG.o.m ?_;rintro e w3 ⟨rfl,hb3⟩;clear HG;go_wp2_with fail;refine HE.o _ _ _ hb3 (ae _ _) ?_;have:=HSb.o;simp;unfold wrap64;omega
    |none=>go_wp2_with fail;refine HG.o.m ?_;rintro e w3 ⟨rfl,hb3⟩;clear HG;go_wp2_with fail;exact HE.o _ _ _ hb3 (ae _ _) (by simp)
   ·cases q with
    |some rw0=>go_wp2_with fail;refine HG.o.m ?_;rintro e w3 ⟨rfl,hb3⟩;clear HG;go_wp2_with fail;exact HE.o _ _ _ hb3 (ae _ _) (by simp[hxs])
    |none=>go_wp2_with fail;refine HG.o.m ?_;rintro e w3 ⟨rfl,hb3⟩;clear HG;go_wp2_with fail;refine HE.o _ _ _ hb3 (ae _ _) ?_;have:=HSb.o;simp[hxs];unfold wrap64;omega
end
section
open Go.RowKit Go.Maps Go.WideShapes
theorem str_inj{a b:List UInt8}(h:Value.string ⟨a.toArray⟩=.string ⟨b.toArray⟩):a=b:=by injection h with h;injection h with h;simpa using h
section
variable{w w':World}{B T o m n:Nat}{most:Int}{l:ax}{wl:tN}{FT:Nat->Nat->Prop}{g:Value->Option Value}{FR:Nat->Prop}{k:List UInt8}{x:Option Rw}{v:Value}
theorem oI.put(h:oI w B T most o l wl FT m n g FR)(hk:1<=k.length/\k.length<=16)(hf: ∀r,x=some r-> ∀c,I6 (r.aM c))
  (hmap:bQ prog w' 9 m (if(g (.string ⟨k.toArray⟩)).isSome then n else n+1) (rS g (.string ⟨k.toArray⟩) (some v))) (ho:Only (fun j=>j=m) w w') (hv:vh w v x)
  (hF: ∀b,v=.pointer (some ⟨b,0,none⟩)->b≠B/\b≠m/\b<w.heap.size/\ ∀q,¬FT b q):
  oI w' B T most o l (bP (k,x) wl) FT m (if(g (.string ⟨k.toArray⟩)).isSome then n else n+1) (rS g (.string ⟨k.toArray⟩) (some v)) (fun b=>FR b\/v=.pointer (some ⟨b,0,none⟩)):=by
 refine⟨ho.heap h.blk h.Bm,hmap,h.tab.eJ ho (fun b q hb e=>h.bm q (e▸hb)),eK h.up,fun q hq=>?_,fun q hq=>?_,fun k'=>?_,h.bB,h.bm,fun b hb=>?_,h.Bm,?_⟩
 ·rcases gW hq with rfl|hq
  ·exact hk
  ·exact h.key q hq
 ·rcases gW hq with rfl|hq
  ·exact hf
  ·exact h.fit q hq
 ·rw[mF h.up];by_cases e:k'=k
  ·subst e;rw[fi rfl,mI];exact⟨hv.only ho (fun b e=>(hF b e).2.1),fun b e=>.inr e⟩
  ·rw[ff e,nQ _ _ (fun e1=>e (str_inj e1))];have h1:=(h.wr k').only ho (fun b hb=>(h.bR b hb).2.1);generalize g (.string ⟨k'.toArray⟩)=a at h1⊢;generalize au k' wl=b at h1⊢
   match a,b,h1 with
   |none,none,_=>trivial
   |some _,some _,h1=>exact⟨h1.1,fun b e=>.inl (h1.2 b e)⟩
 ·rcases hb with hb|hb
  ·exact⟨(h.bR b hb).1,(h.bR b hb).2.1,cq (h.bR b hb).2.2.1 ho.size,(h.bR b hb).2.2.2⟩
  ·exact⟨(hF b hb).1,(hF b hb).2.1,cq (hF b hb).2.2.1 ho.size,(hF b hb).2.2.2⟩
 ·have h1:=h.cnt;have h2:=(h.wr k).El;rw[ki h.up,h2];split<;>omega
end
def JC(w w':World)(B T o:Nat)(most:Int)(l:ax)(wl:tN)(FT:Nat->Nat->Prop)(m:Nat)(FR:Nat->Prop):Prop:=
 ∃n g FR',oI w' B T most o l wl FT m n g FR'/\(∀b,FR' b->FR b\/w.heap.size<=b)/\Only (fun k=>k=m) w w'
def r9(w:World)(B T o:Nat)(most:Int)(l:ax)(wl:tN)(FT:Nat->Nat->Prop)(m:Nat)(FR:Nat->Prop)(k:List UInt8)(r:Rw)(e:Ending)(w':World):Prop:=
 if au k (bY wl l)=none/\most<=(bY wl l).length then e=.returned (.int .i64 16)/\Below w.heap.size w w'
 else e=.returned (.int .i64 0)/\JC w w' B T o most l (bP (k,some r) wl) FT m FR
theorem oI.at_{w:World}{B T o m n:Nat}{most:Int}{l:ax}{wl:tN}{FT:Nat->Nat->Prop}{g:Value->Option Value}{FR:Nat->Prop}(h:oI w B T most o l wl FT m n g FR):ig w B T most o l wl FT (fun _=>True):=⟨m,n,g,FR,h,trivial,trivial,fun _ _=>trivial⟩
theorem ig.up{w:World}{B T o:Nat}{most:Int}{l:ax}{wl:tN}{FT:Nat->Nat->Prop}{FB:Nat->Prop}(h:ig w B T most o l wl FT FB):fc wl:=by obtain⟨m,n,g,FR,h1,_⟩:=h;exact h1.up
theorem Lc(w:World)(B T o m n:Nat)(most:Int)(l:ax)(wl:tN)(FT:Nat->Nat->Prop)(g:Value->Option Value)(FR:Nat->Prop)(k:List UInt8)(r:Rw)(hk:1<=k.length/\k.length<=16)(hr: ∀c,I6 (r.aM c))(hW0:oI w B T most o l wl FT m n g FR)
  (qi: ∀b q,FT b q->b<w.heap.size) (Sq:wl.length<=2305843009213693952):Calls prog 140 #[.pointer (some ⟨B,0,none⟩),.string ⟨k.toArray⟩,r.val] w (r9 w B T o most l wl FT m FR k r):=by
 have h:=hW0.at_;have ZG:=al hW0;obtain⟨FB,Oy⟩: ∃FB:Nat->Prop,FB=fun _=>True:=⟨_,rfl⟩;rw[<-Oy]at h;clear hW0 Oy;obtain⟨ra,rb,rc,rd⟩:=r;obtain⟨hb0,k0⟩:=qn w (.cells #[.int .i64 ra,.int .i64 rb,.int .i64 rc,.int .i64 rd] 113);unfold Rw.val;go_enter func140,ntmps140;go_upto_region 1 with fail;generalize w.alloc (.cells #[.int .i64 ra,.int .i64 rb,.int .i64 rc,.int .i64 rd] 113)=w1 at hb0 k0⊢;obtain⟨P,hP⟩:=qt (w.heap.size);rw[hP]at k0⊢;have h1:=h.below hb0;have hv:=jM (k:=k) (h.up) h.tab.up;have HH:=al (ab h1 (ab hb0 (ab k0 (ab hP (ab trivial (ab qi (ab Sq (ab hk hr))))))));have HG:=al (pX w1 B T o most l wl FT FB k hk h1);rw[hv]at HG;unfold nU at HG;clear hb0 k0 hP qi Sq hk hr h1 h hv;obtain⟨q,hq⟩:=qt (au k (bY wl l));rw[hq]at HG;obtain⟨⟨ya,yb,yc,yd⟩,hy⟩: ∃r,q.getD .zero=r:=⟨_,rfl⟩;rw[hy]at HG;clear hy;have HQ:=al hq;clear hq;go_wp2_with fail;refine HG.o.m ?_;rintro e w2 ⟨rfl,hb2⟩;unfold Rw.val;have dI:=ae w2 (.cells #[.int .i64 ya,.int .i64 yb,.int .i64 yc,.int .i64 yd] 113);have HB:=al (ab hb2 dI);clear hb2 dI HG;have hW:=ZG.o.only (pw (HH.o.2.1.x ((HB.o.1.x (HB.o.2.m HB.o.1.size)).m HH.o.2.1.size))) (fun h=>h) (fun h=>h) (fun _ _ h=>h) (fun _ _ _ h=>h);go_upto_region 2 with fail;generalize w2.alloc (.cells #[.int .i64 ya,.int .i64 yb,.int .i64 yc,.int .i64 yd] 113)=w3 at HB hW⊢;have gy:Below w1.heap.size w1 w3:=HB.o.1.x (HB.o.2.m HB.o.1.size);have xY:Below w.heap.size w w3:=HH.o.2.1.x (gy.m HH.o.2.1.size);have g1:=hW.blk;have z0:w3.cell? ⟨B,0,none⟩=some (.pointer (some ⟨T,0,none⟩)):=by simp[World.cell?,g1]
 have HX:=al (ab hW (ab trivial (ab gy xY)));clear g1 xY hW;have HL:=al (show ∀W,Below w3.heap.size w3 W->Calls prog 185 #[.pointer (some ⟨B,0,none⟩)] W fun e w'=>e=.returned (.int .i64 ((bY wl l).length:Int))/\Below W.heap.size W w' from fun W hb=>Lb W B T o most l wl FT FB (HH.o.1.below (gy.x (hb.m gy.size))) HH.o.q.d.1);have HM:=al (show ∀W,Below w3.heap.size w3 W->Calls prog 186 #[.pointer (some ⟨T,0,none⟩)] W fun e w'=>e=.returned (.int .i64 most)/\W=w' from fun W hb=>GK W T o most l FT (HH.o.1.below (gy.x (hb.m gy.size))).tab)
 have HS:=al (show ∀W,Below w3.heap.size w3 W->W.cell? ⟨B,1,none⟩=some (.map (some m))/\bQ prog W 9 m n g/\n<maxLen/\Below w.heap.size w W/\ ∀w',bQ prog w' 9 m (if(g (.string ⟨k.toArray⟩)).isSome then n else n+1) (rS g (.string ⟨k.toArray⟩) (some (.pointer (some ⟨P,0,none⟩))))->Only (fun j=>j=m) W w'->
   JC w w' B T o most l (bP (k,some ⟨ra,rb,rc,rd⟩) wl) FT m FR from by
  intro W hb;obtain⟨h1,h2,h3,h4⟩:=HX.o;obtain⟨-,-,k0,hP,-,qi,Sq,hk,hr⟩:=HH.o;have hW:=h1.only (pw hb) (fun h=>h) (fun h=>h) (fun _ _ h=>h) (fun _ _ _ h=>h);have dI:=h4.x (hb.m h4.size);have gB:=hW.blk;have kP:=pt (h3.x (hb.m h3.size)) k0;have l1:=aQ ZG.o.blk;have l2:=ZG.o.map.lt;refine⟨by simp[World.cell?,gB],hW.map,by have:=hW.cnt;unfold maxLen;omega,dI,fun w' hm ho=>⟨_,_,_,hW.put hk (x:=some ⟨ra,rb,rc,rd⟩) (fun r e c=>by injection e with e;subst e;exact hr c) hm ho ⟨P,rfl,kP⟩ (fun b e=>?_),fun b hb=>?_,(oj dI _).x ho (fun j _ e=>e)⟩⟩
  ·injection e with e;injection e with e;injection e with e;subst e;exact⟨by omega,by omega,aQ kP,fun q hq=>by have:=qi _ q hq;omega⟩
  ·rcases hb with hb|hb
   ·exact .inl hb
   ·injection hb with hb;injection hb with hb;injection hb with hb;exact .inr (by omega))
 clear gy
 cases q with
 |none=>
  simp only[lP,nh,if_false];refine o0 (S:=(fun W=>Below w3.heap.size w3 W/\W.cell? ⟨B,0,none⟩=some (.pointer (some ⟨T,0,none⟩)))) (by kernel_rfl) ⟨(aw _ _).drew,z0⟩ (fun ph=>?_);refine aI [0,1,2,3,5,6,7,8] ?_
  iterate 8 (refine bO (v:=?_) (fun _ ⟨s0,s1⟩=>?_) ph ?_;rotate_left;(go_simp;try rfl);try simp only[ai,aj,ak,ar])
  refine aJ ?_;refine aW 4 (fun K hK=>?_);go_simp;refine(HL.o _ ph.1).m ?_;rintro e wn ⟨rfl,aR⟩
  try go_simp
  refine hK.o _ _ (gN ph aR) ?_;clear hK K ph aR;intro ph
  try simp only[ai,aj,ak,ar]
  refine aW 9 (fun K hK=>?_);go_simp;refine(HM.o _ ph.1).m ?_;rintro e wn ⟨rfl,rfl⟩
  try go_simp
  refine hK.o _ _ (ph) ?_;clear hK K ph;intro ph
  try simp only[ai,aj,ak,ar]
  refine aI [10,11,12] ?_
  iterate 3 (refine bO (v:=?_) (fun _ ⟨s0,s1⟩=>?_) ph ?_;rotate_left;(go_simp;try rfl);try simp only[ai,aj,ak,ar])
  refine aJ ?_;refine pb (by kernel_rfl) ?_ _;have FQ:=al ph.1;clear ph z0
  rename World=>W
  have QA:=al (HS.o W FQ.o);by_cases hf:most<=((bY wl l).length:Int)
  ·have HF:=al (show au k (bY wl l)=none/\most<=((bY wl l).length:Int)from⟨HQ.o,hf⟩);clear HS HX HB HL HM;go_wp2_with fail;go_ret
   unfold r9;rw[fi HF.o];exact⟨rfl,QA.o.t.1⟩
  ·have HF:=al (show ¬(au k (bY wl l)=none/\most<=((bY wl l).length:Int))from fun h=>hf h.2);have HQ3:=al (Gg (k:=k) (by have:=HH.o.q.t.1;simp[maxLen];omega));have d1:=QA.o.1;clear HS HX HB HL HM;go_wp2_with (at_mapUpdate;go_loud (refine jz _ rfl _ _ _ 166 rfl yZ underlying166 rfl QA.o.2.1 QA.o.d.1 rfl rfl HQ3.o ?_);intro w5 oq jr;have HZ:=al (QA.o.q w5 oq jr);clear oq jr);go_ret
   unfold r9;rw[ff HF.o];exact⟨rfl,HZ.o⟩
 |some rq=> 
  simp only[lz,if_true];refine o0 (S:=(fun W=>Below w3.heap.size w3 W/\W.cell? ⟨B,0,none⟩=some (.pointer (some ⟨T,0,none⟩)))) (by kernel_rfl) ⟨(aw _ _).drew,z0⟩ (fun ph=>?_);refine aI [0,1,2] ?_
  iterate 3 (refine bO (v:=?_) (fun _ ⟨s0,s1⟩=>?_) ph ?_;rotate_left;(go_simp;try rfl);try simp only[ai,aj,ak,ar])
  refine aJ ?_;refine DX (i:=3) rfl (by kernel_rfl) (by kernel_rfl) (by kernel_rfl) (fun _ _ _ h=>h) (by rfl) ph ?_
  try simp only[ai,aj,ak,ar]
  refine DX (i:=4) rfl (by kernel_rfl) (by kernel_rfl) (by kernel_rfl) (fun _ _ _ h=>h) (by rfl) ph ?_
  try simp only[ai,aj,ak,ar]
  refine DX (i:=5) rfl (by kernel_rfl) (by kernel_rfl) (by kernel_rfl) (fun _ _ _ h=>h) (by rfl) ph ?_
  try simp only[ai,aj,ak,ar]
  refine DX (i:=6) rfl (by kernel_rfl) (by kernel_rfl) (by kernel_rfl) (fun _ _ _ h=>h) (by rfl) ph ?_
  try simp only[ai,aj,ak,ar]
  refine DX (i:=7) rfl (by kernel_rfl) (by kernel_rfl) (by kernel_rfl) (fun _ _ _ h=>h) (by rfl) ph ?_
  try simp only[ai,aj,ak,ar]
  refine DX (i:=8) rfl (by kernel_rfl) (by kernel_rfl) (by kernel_rfl) (fun _ _ _ h=>h) (by rfl) ph ?_
  try simp only[ai,aj,ak,ar]
  refine DX (i:=9) rfl (by kernel_rfl) (by kernel_rfl) (by kernel_rfl) (fun _ _ _ h=>h) (by rfl) ph ?_
  try simp only[ai,aj,ak,ar]
  refine DX (i:=10) rfl (by kernel_rfl) (by kernel_rfl) (by kernel_rfl) (fun _ _ _ h=>h) (by rfl) ph ?_
  try simp only[ai,aj,ak,ar]
  refine aI [11,12] ?_
  iterate 2 (refine bO (v:=?_) (fun _ ⟨s0,s1⟩=>?_) ph ?_;rotate_left;(go_simp;try rfl);try simp only[ai,aj,ak,ar])
  refine aJ ?_;refine pb (by kernel_rfl) ?_ _;have FQ:=al ph.1;clear ph z0;generalize w3.drew=W at FQ⊢;have QA:=al (HS.o W FQ.o);have HF:=al (show ¬(au k (bY wl l)=none/\most<=((bY wl l).length:Int))from fun h=>by rw[HQ.o]at h;cases h.1);have HQ3:=al (Gg (k:=k) (by have:=HH.o.q.t.1;simp[maxLen];omega));have d1:=QA.o.1;clear HS HX HB HL HM;go_wp2_with (at_mapUpdate;go_loud (refine jz _ rfl _ _ _ 166 rfl yZ underlying166 rfl QA.o.2.1 QA.o.d.1 rfl rfl HQ3.o ?_);intro w5 oq jr;have HZ:=al (QA.o.q w5 oq jr);clear oq jr);go_ret
  unfold r9;rw[ff HF.o];exact⟨rfl,HZ.o⟩
def vO(w:World)(B T o:Nat)(most:Int)(l:ax)(wl:tN)(FT:Nat->Nat->Prop)(m:Nat)(FR:Nat->Prop)(k:List UInt8)(e:Ending)(w':World):Prop:=
 if au k (bY wl l)=none then e=.returned (.int .i64 14)/\Below w.heap.size w w'
 else e=.returned (.int .i64 0)/\JC w w' B T o most l (bP (k,none) wl) FT m FR
theorem Ld(w:World)(B T o m n:Nat)(most:Int)(l:ax)(wl:tN)(FT:Nat->Nat->Prop)(g:Value->Option Value)(FR:Nat->Prop)(k:List UInt8)(hk:1<=k.length/\k.length<=16)(hW0:oI w B T most o l wl FT m n g FR)
  (Sq:wl.length<=2305843009213693952):Calls prog 141 #[.pointer (some ⟨B,0,none⟩),.string ⟨k.toArray⟩] w (vO w B T o most l wl FT m FR k):=by
 have h:=hW0.at_;have ZG:=al hW0;obtain⟨FB,Oy⟩: ∃FB:Nat->Prop,FB=fun _=>True:=⟨_,rfl⟩;rw[<-Oy]at h;clear hW0 Oy;have hv:=jM (k:=k) (h.up) h.tab.up;have HG:=al (pX w B T o most l wl FT FB k hk h);rw[hv]at HG;unfold nU at HG;have HH:=al (ab h (ab Sq hk));clear Sq hk h hv;obtain⟨q,hq⟩:=qt (au k (bY wl l));rw[hq]at HG;obtain⟨⟨ya,yb,yc,yd⟩,hy⟩: ∃r,q.getD .zero=r:=⟨_,rfl⟩;rw[hy]at HG;clear hy;have HQ:=al hq;clear hq;go_enter func141,ntmps141;go_wp2_with fail;refine HG.o.m ?_;rintro e w2 ⟨rfl,hb2⟩;unfold Rw.val;have dI:=ae w2 (.cells #[.int .i64 ya,.int .i64 yb,.int .i64 yc,.int .i64 yd] 113);have HB:=al (hb2.x (dI.m hb2.size));clear hb2 dI HG;have hW:=ZG.o.only (pw HB.o) (fun h=>h) (fun h=>h) (fun _ _ h=>h) (fun _ _ _ h=>h);have g1:=hW.blk;have HX:=al (ab hW trivial)
 cases q with
 |none=>
  simp only[lP,nh,if_false];clear hW g1 HX HH;go_wp2_with fail;go_ret
  unfold vO;rw[fi HQ.o];exact⟨rfl,HB.o⟩
 |some rq=>
  simp only[lz,if_true];have HK:=al (ab hW.map (Gg (k:=k) (by have:=HH.o.d;simp[maxLen];omega)));have hn:n<maxLen:=by have:=hW.cnt;have:=HH.o.2.1;unfold maxLen;omega
  clear hW;go_upto_region 4 with fail;generalize w2.alloc (.cells #[.int .i64 ya,.int .i64 yb,.int .i64 yc,.int .i64 yd] 113)=w3 at HB HX HK g1⊢;have d1:w3.cell? ⟨B,1,none⟩=some (.map (some m)):=by simp[World.cell?,g1]
  clear g1;go_wp2_with (at_mapUpdate;go_loud (refine jz _ rfl _ _ _ 166 rfl yZ underlying166 rfl HK.o.1 hn rfl rfl HK.o.2 ?_);intro w5 oq jr;have HZ:=al (ab oq jr);clear oq jr);go_ret
  unfold vO;rw[ff (by rw[HQ.o];exact fun h=>by cases h)];exact⟨rfl,_,_,_,HX.o.1.put HH.o.d (x:=none) (fun r e=>by cases e) HZ.o.1 HZ.o.2 rfl (fun b e=>by injection e with e;cases e),fun b hb=>hb.elim .inl (fun e=>by injection e with e;cases e),(oj HB.o _).x HZ.o.2 (fun j _ e=>e)⟩
end
end Go.Proofs.YtmkofmeojbcakaaGreatDoor
