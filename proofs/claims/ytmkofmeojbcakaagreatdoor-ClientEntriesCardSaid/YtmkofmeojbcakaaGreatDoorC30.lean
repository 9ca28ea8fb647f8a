import Derived.Test.YtmkofmeojbcakaaGreatDoorC07
import Derived.Deep.RegionHeld3
import Derived.Deep.RegionLaw
import Derived.Deep.DrawnRows
namespace Go.Proofs.YtmkofmeojbcakaaGreatDoor
open Go.Proofs.Tryz
set_option maxRecDepth 100000
set_option maxHeartbeats 16000000
open Go.RowKit
theorem Hb{w w1 w2:World}{b:Nat}{o:Obj}{o1:Obj}{row:Option Nat}(hc:w.heap[b]?=some o)(hb:Below w.heap.size w.drew w1)(hg:(w1.alloc o1).grownBy w2 row)(hne:row≠some b):w2.heap[b]?=some o:=by have hlt:=(bd.1 hc).1;have h1:w1.heap[b]?=some o:=(hb.block b hlt).x hc;have qg:=(bd.1 h1).1;rw[hg.block b (by simp;omega) (Ne.symm hne),Below.heap_alloc _ _ _ qg,h1]
def yl(b:Nat)(v:Value)(n:Nat)(vs xs:List Value)(w:World)(e:Ending)(w':World):Prop:=
 ∃g cap Ax cx,e=.returned (.tuple #[.int .i64 n,.int .i64 0])/\Only (fun k=>k=b\/v.ownBlock=some k) w w'/\w'.heap[b]?=some (.cells #[.slice (some ⟨g,0,none⟩) (n+1) cap] 83 (0,0))/\
  w'.ownsRow 0 41 1 (.slice (some ⟨g,0,none⟩) (n+1) cap) (n+1) (vs++[.slice Ax xs.length cx])/\w'.ownsRow w.heap.size 5 1 (.slice Ax xs.length cx) xs.length xs/\
  (v.ownBlock=some g\/w.heap.size<=g)
theorem Hc{b:Nat}{v:Value}{n:Nat}{vs xs:List Value}{w w1 w2:World}{Ax:Option Addr}{cx gg cap:Nat}(hb:b<w.heap.size)(hv: ∀g,v.ownBlock=some g->g<w.heap.size)
  (hx1:w1.ownsRow w.heap.size 5 1 (.slice Ax xs.length cx) xs.length xs) (nC:Below w.heap.size w.drew w1)
  (hown2:w2.ownsRow 0 41 1 (.slice (some ⟨gg,0,none⟩) (n+1) cap) (n+1) (vs++[.slice Ax xs.length cx]))
  (hgrow2:(w1.alloc (Obj.cells #[.slice Ax xs.length cx] 41)).grownBy w2 v.ownBlock) (yV:v.ownBlock=some gg\/gg=w1.heap.size+1)
  (eV:w2.heap[b]?=some (Obj.cells #[v] 83 (0,0))):
  yl b v n vs xs w (.returned (.tuple #[.int .i64 n,.int .i64 0])) (w2.setCell ⟨b,0,none⟩ (.slice (some ⟨gg,0,none⟩) (n+1) cap)):=by
 have hsz:w.heap.size<=w1.heap.size:=nC.size;refine⟨gg,cap,Ax,cx,rfl,?_,?_,?_,?_,?_⟩
 ·have h1:Only (fun k=>k=b\/v.ownBlock=some k) w w1:=oj (nt nC) _;exact((h1.alloc _).grown hgrow2 (fun k hk _=>.inr hk)).setCell (p:=⟨b,0,none⟩) (fun _=>.inl rfl) _
 ·simp[World.setCell,Array.getElem?_modify,eV]
 ·refine aT hown2 (Only.aN _ _ _ _) ?_;intro g hg e;subst e;exact cN hown2 eV (by decide) hg
 ·have hl:=hx1.lt;have h3:(w1.alloc (Obj.cells #[.slice Ax xs.length cx] 41)).ownsRow w.heap.size 5 1 (.slice Ax xs.length cx) xs.length xs:=hx1.alloc _
  have h4:w2.ownsRow w.heap.size 5 1 (.slice Ax xs.length cx) xs.length xs:=h3.kept hgrow2 (by
   cases hA:(Value.slice Ax xs.length cx).ownBlock with
   |none=>exact .inl rfl
   |some k=>
    refine .inr (fun e=>?_);have:=(hl k hA).1;have:=hv k e.symm
    omega)
  refine aT h4 (Only.aN _ _ _ _) ?_;intro g hg e;subst e;have:=(hl g hg).1;omega
 ·rcases yV with h|h
  ·exact .inl h
  ·exact .inr (by omega)
theorem Hd(b:Nat)(A:Option Addr)(n c:Nat)(vs:List Value)(w:World)(hc:w.heap[b]?=some (.cells #[.slice A n c] 83 (0,0)))
  (hown:w.ownsRow 0 41 1 (.slice A n c) n vs) (hn:n<1024) (G:Nat->Prop) (A2:Option Addr) (n2 c2:Nat) (xs:List Value) (hr:Rd w G (.slice A2 n2 c2) xs) (h1: ∀u∈xs,u.oneCell'=true) (hx:n2<=8192):
  Calls prog 6 #[.pointer (some ⟨b,0,none⟩),.slice A2 n2 c2] w (yl b (.slice A n c) n vs xs w):=by
 obtain⟨i0,hi,hz0,hz1,hz2⟩:=ep Tryz.Va
 have hl:xs.length<=140737488355328:=by obtain⟨A',n',c',hv,hl,_⟩:=hr;injection hv with _ h2 _;omega
 have HL:=al hl;clear hl;have hcell:w.cell? ⟨b,0,none⟩=some (.slice A n c):=by simp[World.cell?,hc]
 have hfz:w.frozen? ⟨b,0,none⟩=false:=by simp[World.frozen?,hc]
 have hb:=aq w _ hcell;have hne:(Value.slice A n c).ownBlock≠some b:=cN hown hc (by decide);have HV:=al (fun g hg=>(hown.lt g hg).2);have HC:=al hc;have HO:=al hown;have HN:=al hne;clear hc hown hne;go_enter func6,ntmps6;go_wp2
 go_region_law
  (first
   |(refine step_append_lies _ (by rfl) _ _ _ (by rfl) 0 41 i0 _ 1 24 underlying81 hi hz0 hz1 hz2 rfl (by omega) (.slice A n c) n vs (by rfl) (hown1.alloc _) ⟨w1.heap.size,0,none⟩ 1 1 [.slice Ax xs.length cx] (by rfl) (by rfl) (eb (cs:= #[.slice Ax xs.length cx]) (t:=41) (fr:=(0,0)) (an w1 _)) (by simp[Value.oneCell']) (by omega) (by simp only[maxLen];omega) (by omega) (by omega) (w1.heap.size+1) (by simp) ?_;intro gg cap w2 hown2 hgrow2 yV aa3;have fg:=al (Hb HC.o nC hgrow2 HN.o);have abt:=bK fg.o;have acM:=dN fg.o)
   |(go_simp;go_at_call 22;refine(lK _ xs G _ (by exact hr) h1 HL.o).m ?_;rintro e w1 ⟨Ax,cx,rfl,hx1,nC⟩;have V9:w1.cell? ⟨b,0,none⟩=some (.slice A n c):=(nC.cell (p:=⟨b,0,none⟩) hb).x hcell;have aaL: ∀o,(w1.alloc o).cell? ⟨b,0,none⟩=some (.slice A n c):=aC V9;have hown1:=aY HO.o.drew nC;have hsz1:w.heap.size<=w1.heap.size:=nC.size))
 all_goals
  go_wp2
  go_ret2
  exact Hc hb HV.o hx1 nC hown2 hgrow2 yV fg.o
def fw(w:World)(F:Nat->Prop)(b:Nat)(ps:List (List UInt8)):Prop:=
 ∃(v:Value) (vs:List Value),w.heap[b]?=some (.cells #[v] 83 (0,0))/\F b/\w.ownsRow 0 41 1 v ps.length vs/\(∀g,v.ownBlock=some g->F g)/\
  ∀(i:Nat) (p:List UInt8),ps[i]?=some p-> ∃x:Value,vs[i]?=some x/\w.ownsRow 0 5 1 x p.length (p.map B8)/\ ∀g,x.ownBlock=some g->F g
def He(w:World)(F:Nat->Prop)(v:Value)(ps:List (List UInt8)):Prop:=
 ∃vs:List Value,Rd w F v vs/\vs.length=ps.length/\ ∀(i:Nat) (p:List UInt8),ps[i]?=some p-> ∃A c,vs[i]?=some (Value.slice A p.length c)/\Rd w F (.slice A p.length c) (p.map B8)
section
variable{w w':World}{F G S:Nat->Prop}{b:Nat}{ps:List (List UInt8)}{v:Value}
theorem fw.only(h:fw w F b ps)(ho:Only S w w')(hd: ∀k,F k-> ¬S k):fw w' F b ps:=by obtain⟨v,vs,h1,h2,h3,h4,h6⟩:=h;refine⟨v,vs,ho.heap h1 (hd b h2),h2,aT h3 ho (fun g hg=>hd g (h4 g hg)),h4,fun i p hp=>?_⟩;obtain⟨x,hx,hr,hf⟩:=h6 i p hp;exact⟨x,hx,aT hr ho (fun k hk=>hd k (hf k hk)),hf⟩
theorem fw.below(h:fw w F b ps)(hb:Below w.heap.size w w'):fw w' F b ps:=h.only (oj hb fun _=>False) (fun _ _=>id)
theorem fw.mono(h:fw w F b ps)(hF: ∀k,F k->G k):fw w G b ps:=by obtain⟨v,vs,h1,h2,h3,h4,h6⟩:=h;refine⟨v,vs,h1,hF b h2,h3,fun g hg=>hF g (h4 g hg),fun i p hp=>?_⟩;obtain⟨x,hx,hr,hf⟩:=h6 i p hp;exact⟨x,hx,hr,fun k hk=>hF k (hf k hk)⟩
abbrev fw.m:=@fw.mono
theorem fw.bound(h:fw w F b ps):fw w (fun k=>F k/\k<w.heap.size) b ps:=by obtain⟨v,vs,h1,h2,h3,h4,h6⟩:=h;refine⟨v,vs,h1,⟨h2,(bd.1 h1).1⟩,h3,fun g hg=>⟨h4 g hg,(h3.lt g hg).2⟩,fun i p hp=>?_⟩;obtain⟨x,hx,hr,hf⟩:=h6 i p hp;exact⟨x,hx,hr,fun k hk=>⟨hf k hk,(hr.lt k hk).2⟩⟩
end
def Lr(F:Nat->Prop)(b:Nat)(ps:List (List UInt8))(xs:List UInt8)(w:World)(e:Ending)(w':World):Prop:=
 e=.returned (.tuple #[.int .i64 ps.length,.int .i64 0])/\Only F w w'/\ ∃F',fw w' F' b (ps++[xs])/\ ∀k,F' k->F k\/w.heap.size<=k
theorem tR(w:World)(F:Nat->Prop)(b:Nat)(ps:List (List UInt8))(h:fw w F b ps)(hn:ps.length<1024)(G:Nat->Prop)(A2:Option Addr)(n2 c2:Nat)(xs:List UInt8)(hr:Rd w G (.slice A2 n2 c2) (xs.map B8))(hx:xs.length<=8192):
  Calls prog 6 #[.pointer (some ⟨b,0,none⟩),.slice A2 n2 c2] w (Lr F b ps xs w):=by
 obtain⟨v,vs,h1,h2,h3,h4,h6⟩:=h;obtain⟨A,c,rfl⟩:=ag h3
 have oC:n2=xs.length:=by obtain⟨A',n',c',hv,hl,_⟩:=hr;injection hv with _ e _;simp at hl;omega
 refine(Hd b A ps.length c vs w h1 h3 hn G A2 n2 c2 (xs.map B8) hr (vX xs) (by omega)).m ?_;rintro e w' ⟨g,cap,Ax,cx,he,ho,hb',hown',hx',hat⟩;have hlv:vs.length=ps.length:=by simpa using h3.1
 refine⟨he,ho.m (fun i _ hi=>?_),fun k=>F k\/w.heap.size<=k,⟨_,_,hb',.inl h2,by simpa using hown',?_,?_⟩,fun k hk=>hk⟩
 ·rcases hi with rfl|hi
  ·exact h2
  ·exact h4 i hi
 ·intro k hk;rcases hat with h|h
  ·exact .inl (h4 k (h.x hk))
  ·injection hk with hk;subst hk;exact .inr h
 ·intro i p hp;rw[List.getElem?_append]at hp⊢;split at hp
  ·rename_i hi;obtain⟨x,hx,hr2,hf⟩:=h6 i p hp;refine⟨x,by rw[fi (by omega)];exact hx,aT hr2 ho ?_,fun k hk=>.inl (hf k hk)⟩;intro k hk qR;rcases qR with rfl|qR
   ·exact cN hr2 h1 (by decide) hk
   ·exact iI hr2 h3 (by decide) hk qR
  ·rename_i hi
   have hi0:i-ps.length=0:=by have:=(b8.1 hp).1;simp at this;omega
   rw[hi0]at hp;simp at hp;subst hp;refine⟨.slice Ax (xs.map B8).length cx,by rw[ff (by omega),hlv,hi0];simp,?_,fun k hk=>.inr (hx'.lt k hk).1⟩;have:=dM hx' (base':=0) (fun _ _=>dq _);simpa using this
theorem tT(w:World)(F:Nat->Prop)(b:Nat)(ps:List (List UInt8))(h:fw w F b ps):
  Calls prog 13 #[.pointer (some ⟨b,0,none⟩)] w fun e w'=>e=.returned (.int .i64 ps.length)/\w=w':=by
 obtain⟨v,vs,h1,_,h3,_⟩:=h;obtain⟨A,c,rfl⟩:=ag h3;have hc:=bK h1;clear h1 h3;go_enter func13,ntmps13;go_wp2;go_ret
 exact⟨rfl,rfl⟩
theorem He.at_{w:World}{F:Nat->Prop}{v:Value}{ps:List (List UInt8)}(h:He w F v ps): ∃A c,v=.slice A ps.length c/\ps.length<=c/\c<=maxLen/\
  ∀i p,ps[i]?=some p-> ∃b o A' c',A=some ⟨b,o,none⟩/\w.cell? ⟨b,o+i,none⟩=some (.slice A' p.length c')/\Rd w F (.slice A' p.length c') (p.map B8):=by
 obtain⟨vs,⟨A,n,c,rfl,hl,hc,hm,hx⟩,hlen,hp⟩:=h;refine⟨A,c,by rw[<-hlen,hl],by omega,hm,fun i p hi=>?_⟩;have hlt:=(b8.1 hi).1;obtain⟨b,o,e,hF,hu⟩:=hx (by omega);obtain⟨A',c',hv,hr⟩:=hp i p hi;exact⟨b,o,A',c',e,hu i _ hv,hr⟩
theorem fw.at_{w:World}{F:Nat->Prop}{b:Nat}{ps:List (List UInt8)}(h:fw w F b ps): ∃A c,w.cell? ⟨b,0,none⟩=some (.slice A ps.length c)/\He w F (.slice A ps.length c) ps:=by obtain⟨v,vs,h1,_,h3,h4,h6⟩:=h;obtain⟨A,c,rfl⟩:=ag h3;refine⟨A,c,bK h1,vs,Rd.aU h3 h4,by simpa using h3.1,fun i p hp=>?_⟩;obtain⟨x,hx,hr,hf⟩:=h6 i p hp;obtain⟨A',c',rfl⟩:=ag hr;exact⟨A',c',hx,Rd.aU hr hf⟩
def AtP(p:List UInt8)(w:World)(e:Ending)(w':World):Prop:=
 ∃A c,e=.returned (.tuple #[.slice A p.length c,.int .i64 0])/\w'.ownsRow w.heap.size 5 1 (.slice A p.length c) p.length (p.map B8)/\Below w.heap.size w w'
theorem OV(w:World)(F:Nat->Prop)(b:Nat)(ps:List (List UInt8))(h:fw w F b ps)(i:Nat)(p:List UInt8)(hp:ps[i]?=some p)(hlp:p.length<=8192):
  Calls prog 12 #[.pointer (some ⟨b,0,none⟩),.int .i64 i] w (AtP p w):=by
 obtain⟨A,c,hc,Av⟩:=h.at_;have hi:=(b8.1 hp).1;obtain⟨A0,c0,he,hc0,hcm,hat⟩:=Av.at_;injection he with e1 _ e3;subst e1 e3;obtain⟨b',o,A',c',rfl,hcell,iB⟩:=hat i p hp;have HRD:=al iB;have hlen:ps.length<=9223372036854775807:=by unfold maxLen at hcm;omega
 clear iB hat Av h hp hc0 hcm;have hneg:decide ((i:Int)<0)=false:=by simp
 go_enter func12,ntmps12;go_wp2_with fail;refine(lK _ _ F _ HRD.o (vX p) (by simp;omega)).m ?_;rintro e w1 ⟨Ax,cx,rfl,hx,hbl⟩;rw[fa]at hx⊢;go_wp2_with fail
 go_ret2
 exact⟨Ax,cx,rfl,hx,hbl⟩
theorem tU(w:World)(F G:Nat->Prop)(va vb:Value)(xs:List UInt8)(ha:Rd w F va (xs.map B8))(hb:Rd w G vb (xs.map B8)):
  Calls prog 14 #[va,vb] w fun e w'=>e=.returned (.bool true)/\Below w.heap.size w w':=by
 obtain⟨A,n,c,rfl,hl,hc,hm,hx⟩:=ha;obtain⟨A',n',c',rfl,hl',hc',hm',hx'⟩:=hb;simp only[fa]at hl hl';subst hl hl';unfold maxLen at hm hm';have HX:=al hx;have HX':=al hx';clear hx hx';go_enter func14,ntmps14
 go_wp2
 go_loopw [5] (fun i wr=> ∃k:Nat,k<=xs.length/\i=.int .i64 k/\ ∃m,wr=w.drewN m) (fun i _=>xs.length-(intOf i).toNat)
 case atStart=>exact⟨0,dq _,rfl,0,rfl⟩
 case round=>
  obtain⟨k,hk,rfl,m,rfl⟩:=hrel;by_cases hlt:k<xs.length
  ·have hxk:(xs.map B8)[k]?=some (B8 xs[k]):=by simp[hlt]
   obtain⟨b,o,rfl,_,hu⟩:=HX.o (by omega);obtain⟨b',o',rfl,_,hu'⟩:=HX'.o (by omega);have c1:w.cell? ⟨b,o+k,none⟩=some (.int .u8 (xs[k].toNat:Int)):=hu k _ hxk;have c2:w.cell? ⟨b',o'+k,none⟩=some (.int .u8 (xs[k].toNat:Int)):=hu' k _ hxk;have i1:(0:Int)<=(k:Int):=by omega
   have i2:(k:Int)<(xs.length:Int):=by omega
   generalize xs[k]=x at c1 c2;clear hu hu' HX HX' hxk;go_wp2;go_quiet(fail)
   go_wp2
   go_roundw
   case rel=>exact⟨k+1,by omega,by go_num,_,rfl⟩
   case measure=>simp[intOf];omega
  ·go_wp2
   go_ret
   exact⟨rfl,below_drewN (aw _ _) _⟩
end Go.Proofs.YtmkofmeojbcakaaGreatDoor
