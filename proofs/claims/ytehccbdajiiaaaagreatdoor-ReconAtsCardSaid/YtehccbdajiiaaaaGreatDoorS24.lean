import Derived.Test.YtehccbdajiiaaaaGreatDoorS08
import Derived.Deep.RegionHeld3
import Derived.Deep.RegionLaw
import Derived.Deep.DrawnRows
namespace Go.Proofs.YtehccbdajiiaaaaGreatDoor
open Go.Proofs.Tryz
set_option maxRecDepth 100000
set_option maxHeartbeats 16000000
open Go.RowKit
theorem I2{w w1 w2:World}{b:Nat}{o:Obj}{d:Obj}{a:Option Nat}(c:w.heap[b]?=some o)(g:Below w.heap.size w.drew w1)(f:(w1.alloc d).grownBy w2 a)(d:a≠some b):w2.heap[b]?=some o:=by have e:=(cq.1 c).1;have a:w1.heap[b]?=some o:=(g.block b e).x c;have c:=(cq.1 a).1;rw[f.block b (by simp;omega) (Ne.symm d),Below.heap_alloc _ _ _ c,a]
def yz(b:Nat)(v:Value)(n:Nat)(f xs:List Value)(w:World)(e:Ending)(w':World):Prop:=
 ∃g a c d,e=.returned (.tuple #[rm n,rm 0])/\Only (fun k=>k=b\/v.ownBlock=some k) w w'/\w'.heap[b]?=some (.cells #[.slice (some ⟨g,0,none⟩) (n+1) a] 70 (0,0))/\
  w'.ownsRow 0 53 1 (.slice (some ⟨g,0,none⟩) (n+1) a) (n+1) (f++[.slice c xs.length d])/\w'.ownsRow w.heap.size 5 1 (.slice c xs.length d) xs.length xs/\
  (v.ownBlock=some g\/w.heap.size<=g)
theorem I3{b:Nat}{v:Value}{n:Nat}{j xs:List Value}{w w1 w2:World}{a:Option Addr}{c d e:Nat}(f:b<w.heap.size)(o: ∀l,v.ownBlock=some l->l<w.heap.size)
  (h:w1.ownsRow w.heap.size 5 1 (.slice a xs.length c) xs.length xs) (k:Below w.heap.size w.drew w1)
  (g:w2.ownsRow 0 53 1 (.slice (some ⟨d,0,none⟩) (n+1) e) (n+1) (j++[.slice a xs.length c]))
  (f:(w1.alloc (Obj.cells #[.slice a xs.length c] 53)).grownBy w2 v.ownBlock) (m:v.ownBlock=some d\/d=w1.heap.size+1)
  (i:w2.heap[b]?=some (Obj.cells #[v] 70 (0,0))):
  yz b v n j xs w (.returned (.tuple #[rm n,rm 0])) (w2.setCell ⟨b,0,none⟩ (.slice (some ⟨d,0,none⟩) (n+1) e)):=by
 have j:w.heap.size<=w1.heap.size:=k.size;refine⟨d,e,a,c,rfl,?_,?_,?_,?_,?_⟩
 ·have d:Only (fun j=>j=b\/v.ownBlock=some j) w w1:=oB (dV k) _;exact((d.alloc _).grown f (fun j d _=>.inr d)).setCell (p:=⟨b,0,none⟩) (fun _=>.inl rfl) _
 ·simp[World.setCell,Array.getElem?_modify,i]
 ·refine aJ g (Only.aR _ _ _ _) ?_;intro l d k;subst k;exact cD g i (by decide) d
 ·have e:=h.lt;have i:(w1.alloc (Obj.cells #[.slice a xs.length c] 53)).ownsRow w.heap.size 5 1 (.slice a xs.length c) xs.length xs:=h.alloc _
  have g:w2.ownsRow w.heap.size 5 1 (.slice a xs.length c) xs.length xs:=i.kept f (by
   cases hA:(Value.slice a xs.length c).ownBlock with
   |none=>exact .inl rfl
   |some j=>
    refine .inr (fun k=>?_);have:=(e j hA).1;have:=o j k.symm
    omega)
  refine aJ g (Only.aR _ _ _ _) ?_;intro l d k;subst k;have:=(e l d).1;omega
 ·rcases m with h|h
  ·exact .inl h
  ·exact .inr (by omega)
theorem I4(b:Nat)(A:Option Addr)(n c:Nat)(vs:List Value)(w:World)(hc:w.heap[b]?=some (.cells #[.slice A n c] 70 (0,0)))
  (hown:w.ownsRow 0 53 1 (.slice A n c) n vs) (hn:n<1024) (G:Nat->Prop) (A2:Option Addr) (n2 c2:Nat) (xs:List Value) (hr:Rd w G (.slice A2 n2 c2) xs) (h1: ∀u∈xs,u.oneCell'=true) (hx:n2<=8192):
  Calls prog 21 #[rv b,.slice A2 n2 c2] w (yz b (.slice A n c) n vs xs w):=by
 obtain⟨i0,hi,hz0,hz1,hz2⟩:=eh Tryz.OU
 have hl:xs.length<=140737488355328:=by obtain⟨A',n',c',hv,hl,_⟩:=hr;injection hv with _ h2 _;omega
 have HL:=al hl;clear hl;have hcell:w.cell? ⟨b,0,none⟩=some (.slice A n c):=by simp[World.cell?,hc]
 have hfz:w.frozen? ⟨b,0,none⟩=false:=by simp[World.frozen?,hc]
 have hb:=aq w _ hcell;have hne:(Value.slice A n c).ownBlock≠some b:=cD hown hc (by decide);have HV:=al (fun g hg=>(hown.lt g hg).2);have HC:=al hc;have HO:=al hown;have HN:=al hne;clear hc hown hne;go_enter func21,ntmps21;go_wp2
 go_region_law
  (first
   |(refine step_append_lies _ (by rfl) _ _ _ (by rfl) 0 53 i0 _ 1 24 underlying22 hi hz0 hz1 hz2 rfl (by omega) (.slice A n c) n vs (by rfl) (hown1.alloc _) ⟨w1.heap.size,0,none⟩ 1 1 [.slice Ax xs.length cx] (by rfl) (by rfl) (eb (cs:= #[.slice Ax xs.length cx]) (t:=53) (fr:=(0,0)) (an w1 _)) (by simp[Value.oneCell']) (by omega) (by simp only[maxLen];omega) (by omega) (by omega) (w1.heap.size+1) (by simp) ?_;intro gg cap w2 hown2 hgrow2 Ab acP;have dh:=al (I2 HC.o lY hgrow2 HN.o);have acZ:=aL dh.o;have aey:=bL dh.o)
   |(go_simp;go_at_call 46;refine(jz _ xs G _ (by exact hr) h1 HL.o).m ?_;rintro e w1 ⟨Ax,cx,rfl,hx1,lY⟩;have Yk:w1.cell? ⟨b,0,none⟩=some (.slice A n c):=(lY.cell (p:=⟨b,0,none⟩) hb).x hcell;have acg: ∀o,(w1.alloc o).cell? ⟨b,0,none⟩=some (.slice A n c):=aI Yk;have hown1:=bE HO.o.drew lY;have hsz1:w.heap.size<=w1.heap.size:=lY.size))
 all_goals
  go_wp2
  go_ret2
  exact I3 hb HV.o hx1 lY hown2 hgrow2 Ab dh.o
def eX(w:World)(F:Nat->Prop)(b:Nat)(ps:List (List UInt8)):Prop:=
 ∃(v:Value) (a:List Value),w.heap[b]?=some (.cells #[v] 70 (0,0))/\F b/\w.ownsRow 0 53 1 v ps.length a/\(∀g,v.ownBlock=some g->F g)/\
  ∀(i:Nat) (p:List UInt8),ps[i]?=some p-> ∃x:Value,a[i]?=some x/\w.ownsRow 0 5 1 x p.length (p.map B8)/\ ∀g,x.ownBlock=some g->F g
def cg(w:World)(F:Nat->Prop)(v:Value)(ps:List (List UInt8)):Prop:=
 ∃a:List Value,Rd w F v a/\a.length=ps.length/\ ∀(i:Nat) (p:List UInt8),ps[i]?=some p-> ∃A c,a[i]?=some (Value.slice A p.length c)/\Rd w F (.slice A p.length c) (p.map B8)
section
variable{w w':World}{F G S:Nat->Prop}{b:Nat}{ps:List (List UInt8)}{v:Value}
theorem eX.only(j:eX w F b ps)(c:Only S w w')(a: ∀k,F k-> ¬S k):eX w' F b ps:=by obtain⟨v,i,f,d,h,e,g⟩:=j;refine⟨v,i,c.heap f (a b d),d,aJ h c (fun f d=>a f (e f d)),e,fun i p e=>?_⟩;obtain⟨x,f,h,d⟩:=g i p e;exact⟨x,f,aJ h c (fun k c=>a k (d k c)),d⟩
theorem eX.below(h:eX w F b ps)(a:Below w.heap.size w w'):eX w' F b ps:=h.only (oB a fun _=>False) (fun _ _=>id)
theorem eX.mono(i:eX w F b ps)(a: ∀k,F k->G k):eX w G b ps:=by obtain⟨v,h,e,c,f,d,g⟩:=i;refine⟨v,h,e,a b c,f,fun e c=>a e (d e c),fun i p c=>?_⟩;obtain⟨x,e,f,d⟩:=g i p c;exact⟨x,e,f,fun k c=>a k (d k c)⟩
abbrev eX.m:=@eX.mono
theorem cg.only(h:cg w F v ps)(b:Only S w w')(a: ∀k,F k-> ¬S k):cg w' F v ps:=by obtain⟨d,f,c,e⟩:=h;refine⟨d,f.only b a,c,fun i p d=>?_⟩;obtain⟨A,g,f,c⟩:=e i p d;exact⟨A,g,f,c.only b a⟩
theorem cg.below(h:cg w F v ps)(a:Below w.heap.size w w'):cg w' F v ps:=h.only (oB a fun _=>False) (fun _ _=>id)
theorem cg.agree(h:cg w F v ps)(a: ∀k o,F k->w.heap[k]?=some o->w'.heap[k]?=some o):cg w' F v ps:=by obtain⟨c,e,b,d⟩:=h;refine⟨c,e.agree a,b,fun i p c=>?_⟩;obtain⟨A,f,e,b⟩:=d i p c;exact⟨A,f,e,b.agree a⟩
theorem cg.bound(h:cg w F v ps):cg w (fun k=>F k/\k<w.heap.size) v ps:=by obtain⟨b,d,a,c⟩:=h;refine⟨b,d.bound,a,fun i p b=>?_⟩;obtain⟨A,e,d,a⟩:=c i p b;exact⟨A,e,d,a.bound⟩
theorem eX.bound(h:eX w F b ps):eX w (fun k=>F k/\k<w.heap.size) b ps:=by obtain⟨v,g,a,d,c,e,f⟩:=h;refine⟨v,g,a,⟨d,(cq.1 a).1⟩,c,fun g a=>⟨e g a,(c.lt g a).2⟩,fun i p a=>?_⟩;obtain⟨x,e,c,d⟩:=f i p a;exact⟨x,e,c,fun k a=>⟨d k a,(c.lt k a).2⟩⟩
theorem cg.nil(w:World)(F:Nat->Prop):cg w F (.slice none 0 0) []:=⟨[],Rd.nil _ _,rfl,fun i p a=>by simp at a⟩
theorem eX.lt(h:eX w F b ps):b<w.heap.size:=by obtain⟨v,c,a,_⟩:=h;exact(cq.1 a).1
end
def MR(F:Nat->Prop)(b:Nat)(ps:List (List UInt8))(xs:List UInt8)(w:World)(e:Ending)(w':World):Prop:=
 e=.returned (.tuple #[rm ps.length,rm 0])/\Only F w w'/\ ∃a,eX w' a b (ps++[xs])/\ ∀k,a k->F k\/w.heap.size<=k
theorem MT(w:World)(F:Nat->Prop)(b:Nat)(ps:List (List UInt8))(u:eX w F b ps)(C:ps.length<1024)(G:Nat->Prop)(i:Option Addr)(e h:Nat)(xs:List UInt8)(q:Rd w G (.slice i e h) (xs.map B8))(o:xs.length<=8192):
  Calls prog 21 #[rv b,.slice i e h] w (MR F b ps xs w):=by
 obtain⟨v,t,p,s,f,n,J⟩:=u;obtain⟨S,T,rfl⟩:=ai f
 have Q:e=xs.length:=by obtain⟨N,P,O,D,K,_⟩:=q;injection D with _ V _;simp at K;omega
 refine(I4 b S ps.length T t w p f C G i e h (xs.map B8) q (tz xs) (by omega)).m ?_;rintro V w' ⟨W,M,E,H,B,r,z,x,l,y⟩;have A:t.length=ps.length:=by simpa using f.1
 refine⟨B,r.m (fun L _ d=>?_),fun k=>F k\/w.heap.size<=k,⟨_,_,z,.inl s,by simpa using x,?_,?_⟩,fun k a=>a⟩
 ·rcases d with rfl|d
  ·exact s
  ·exact n L d
 ·intro k a;rcases y with u|u
  ·exact .inl (n k (u.x a))
  ·injection a with a;subst a;exact .inr u
 ·intro L U c;rw[List.getElem?_append]at c⊢;split at c
  ·rename_i d;obtain⟨R,o,g,I⟩:=J L U c;refine⟨R,by rw[ff (by omega)];exact o,aJ g r ?_,fun k a=>.inl (I k a)⟩;intro k a j;rcases j with rfl|j
   ·exact cD g p (by decide) a
   ·exact iZ g f (by decide) a j
  ·rename_i d
   have m:L-ps.length=0:=by have:=(aw.1 c).1;simp at this;omega
   rw[m]at c;simp at c;subst c;refine⟨.slice E (xs.map B8).length H,by rw[fb (by omega),A,m];simp,?_,fun k a=>.inr (l.lt k a).1⟩;have:=dI l (base':=0) (fun _ _=>dq _);simpa using this
theorem FI(w:World)(b:Nat)(d:Option Addr)(a c:Nat)(f:8192<a)(e:a<=9223372036854775807):
  Calls prog 21 #[rv b,.slice d a c] w fun g w'=>g=.returned (.tuple #[rm 0,rm 23])/\w=w':=by
 go_enter func21,ntmps21;go_wp2
 go_ret2
 exact⟨rfl,rfl⟩
def KT(ps:List (List UInt8))(w:World)(e:Ending)(w':World):Prop:=
 Below w.heap.size w w'/\if ∀p∈ps,p.length<=8192 then ∃b,e=.returned (.tuple #[rv b,rm 0])/\eX w' (fun k=>w.heap.size<=k) b ps
  else e=.returned (.tuple #[.pointer none,rm 23])
theorem cg.at_{w:World}{F:Nat->Prop}{v:Value}{ps:List (List UInt8)}(m:cg w F v ps): ∃A d,v=.slice A ps.length d/\ps.length<=d/\d<=maxLen/\
  ∀i p,ps[i]?=some p-> ∃b o a c,A=some ⟨b,o,none⟩/\w.cell? ⟨b,o+i,none⟩=some (.slice a p.length c)/\Rd w F (.slice a p.length c) (p.map B8):=by
 obtain⟨k,⟨A,n,d,rfl,j,l,h,g⟩,e,f⟩:=m;refine⟨A,d,by rw[<-e,j],by omega,h,fun i p d=>?_⟩;have e:=(aw.1 d).1;obtain⟨b,o,j,h,e⟩:=g (by omega);obtain⟨a,c,h,g⟩:=f i p d;exact⟨b,o,a,c,j,e i _ h,g⟩
def Yl(w:World)(ps:List (List UInt8))(x:Value×Value)(a:World):Prop:=
 ∃k:Nat,k<=ps.length/\x=(rm 0,rm k)/\(∀p∈ps.take k,p.length<=8192)/\eX a (fun j=>w.heap.size<=j) w.heap.size (ps.take k)/\Below w.heap.size w a
theorem MU(w:World):eX (w.alloc (.cells #[.slice none 0 0] 70)) (fun j=>w.heap.size<=j) w.heap.size []:=
 ⟨.slice none 0 0,[],an w _,b8 _,dy _ _ _ _,fun g a=>by simp[Value.ownBlock]at a,fun i p a=>by simp at a⟩
theorem sy(w:World)(F:Nat->Prop)(v:Value)(ps:List (List UInt8))(hr:cg w F v ps)(hF: ∀k,F k->k<w.heap.size)(hn:ps.length<=1024):
  Calls prog 8 #[v] w (KT ps w):=by
 obtain⟨A,c,rfl,hc,hm,hat⟩:=hr.at_;have HAT:=al hat;have HR:=al hr;clear hat hr;go_enter func8,ntmps8;go_wp2_with fail
 go_step3
 go_wp2_with fail
 go_step3
 go_wp2_with fail
 go_loopw [5,12] (fun e i wr=>Yl w ps (e,i) wr) (fun _ i _=>ps.length-(intOf i).toNat)
 case atStart=>exact⟨0,dq _,rfl,by simp,MU w,(bd _ _).alloc (b8 _) _⟩
 case round=>
  obtain⟨k,hk,h1,hsm,Um,hbl⟩:=hrel;simp only[mv]at h1;obtain⟨rfl,rfl⟩:=h1;by_cases hlt:k<ps.length
  ·obtain⟨p,hp⟩: ∃p,ps[k]?=some p:=⟨_,ao hlt⟩;obtain⟨b,o,A',c',rfl,hcell,fF⟩:=HAT.o k p hp;have hb:b<w.heap.size:=aq w _ hcell;have ac0:wr.cell? ⟨b,o+k,none⟩=some (.slice A' p.length c'):=(hbl.cell (p:=⟨b,o+k,none⟩) hb).x hcell;have ac1:Rd wr F (.slice A' p.length c') (p.map B8):=fF.only (hbl.WZ) (fun k hk=>by have:=hF k hk;omega);have hpl:p.length<=maxLen:=by have:=fF.length_le;simpa using this
   unfold maxLen at hpl hm;have hlk:(ps.take k).length=k:=by simp;omega
   have htk:ps.take (k+1)=ps.take k++[p]:=by rw[gO,hp];rfl
   have HTK:=al htk;have HP:=al hp;have HSM:=al hsm;have HLK:=al hlk;clear htk hp hsm hlk hcell fF HR HAT;by_cases hle:p.length<=8192
   ·go_wp2_with fail;refine(MT wr _ _ _ Um (by rw[HLK.o];omega) F A' p.length c' p ac1 hle).m ?_;rintro e w1 ⟨rfl,ho,F',abk,hF'⟩;go_wp2_with fail;go_roundw
    case rel=>
     refine⟨k+1,by omega,by go_num,?_,?_,?_⟩
     ·rw[HTK.o];intro q hq;rcases dr.1 hq with h|h
      ·exact HSM.o q h
      ·simp at h;subst h;exact hle
     ·rw[HTK.o];refine abk.m (fun j hj=>?_);have:=hbl.size;rcases hF' j hj with h|h
      ·exact h
      ·omega
     ·exact hbl.x (ho.aH hbl.size (fun j hj h=>by omega))
    case measure=>simp[intOf];omega
   ·go_wp2_with fail;refine(FI wr _ A' p.length c' (by omega) (by omega)).m ?_;rintro e w1 ⟨rfl,rfl⟩;go_wp2_with fail;rw[gx]
    go_ret2
    refine⟨hbl,?_⟩;rw[fb (fun h=>hle (h p (List.mem_of_getElem? HP.o)))];rfl
  ·obtain rfl:k=ps.length:=by omega
   simp only[gE]at Um hsm;have HSM:=al hsm;clear hsm HR HAT;go_wp2_with fail;rw[gx]
   go_ret2
   refine⟨hbl,?_⟩;rw[ff HSM.o];exact⟨_,rfl,Um⟩
theorem eX.at_{w:World}{F:Nat->Prop}{b:Nat}{ps:List (List UInt8)}(h:eX w F b ps): ∃A g,w.cell? ⟨b,0,none⟩=some (.slice A ps.length g)/\cg w F (.slice A ps.length g) ps:=by obtain⟨v,e,d,_,a,c,f⟩:=h;obtain⟨A,g,rfl⟩:=ai a;refine⟨A,g,aL d,e,Rd.bO a c,by simpa using a.1,fun i p c=>?_⟩;obtain⟨x,e,a,d⟩:=f i p c;obtain⟨c,f,rfl⟩:=ai a;exact⟨c,f,e,Rd.bO a d⟩
theorem cg.take{w:World}{F:Nat->Prop}{A:Option Addr}{n c:Nat}{ps:List (List UInt8)}(C:cg w F (.slice A n c) ps)(k:Nat)(s:k<=n):cg w F (.slice A k c) (ps.take k):=by
 obtain⟨g,⟨u,z,x,f,y,v,q,j⟩,r,i⟩:=C;injection f with h o p;subst h o p;refine⟨g.take k,⟨A,k,c,rfl,by simp;omega,by omega,q,fun t=>?_⟩,by simp;omega,fun D H a=>?_⟩
 ·obtain⟨b,G,I,m,l⟩:=j (by omega);refine⟨b,G,I,m,fun B E d=>l B E ?_⟩;rw[lP]at d;split at d
  ·exact d
  ·cases d
 ·rw[lP]at a⊢;split at a
  ·rename_i e;rw[ff e];exact i D H a
  ·cases a
theorem De(w:World)(F:Nat->Prop)(b:Nat)(ps:List (List UInt8))(j:eX w F b ps)(h: ∀k,F k->k<w.heap.size)(n:Nat)(i:n<=ps.length)(l:ps.length<=1024):
  Calls prog 42 #[rv b,rm n] w (KT (ps.take n) w):=by
 obtain⟨A,t,q,a⟩:=j.at_;obtain⟨p,r,g,m,c,e⟩:=a.at_;injection g with d _ f;subst d f;have d:=a.take n i;have f:=al d;have k:t<=9223372036854775807:=by unfold maxLen at c;omega
 clear e a j d c;have d:decide ((n:Int)<0)=false:=by simp
 go_enter func42,ntmps42;go_wp2_with fail;refine(sy _ F _ _ f.o h (by simp;omega)).m ?_;rintro u j a;have c:=a;obtain⟨e,a⟩:=a;split at a
 ·obtain⟨o,rfl,s⟩:=a;go_wp2_with fail
  go_ret2
  exact c
 ·subst a;go_wp2_with fail
  go_ret2
  exact c
theorem I5(w:World)(F:Nat->Prop)(b:Nat)(ps:List (List UInt8))(h:eX w F b ps)(i:Int)(hi:i<0\/ps.length<i):
  Calls prog 42 #[rv b,rm i] w fun e w'=>e=.returned (.tuple #[.pointer none,rm 10])/\w=w':=by
 obtain⟨A,f,e,a⟩:=h.at_;clear a h;by_cases a:i<0
 ·clear hi;have c:decide (i<0)=true:=by simpa using a
  go_enter func42,ntmps42;go_wp2
  go_ret2
  exact⟨rfl,rfl⟩
 ·have c:decide (i<0)=false:=by simpa using a
  have d:(ps.length:Int)<i:=by omega
  clear hi;go_enter func42,ntmps42;go_wp2
  go_ret2
  exact⟨rfl,rfl⟩
end Go.Proofs.YtehccbdajiiaaaaGreatDoor
