import Derived.Test.YtehccbdajiiaaaaGreatDoorP12
import Derived.Deep.RegionHeld3
import Derived.Deep.DrawnRows
namespace Go.Proofs.YtehccbdajiiaaaaGreatDoor
open Go.Proofs.Tryz
set_option maxRecDepth 100000
set_option maxHeartbeats 16000000
open Go.RowKit
theorem Ig{w w1 w2:World}{b:Nat}{o:Obj}{j:Obj}{a:Option Nat}(c:w.heap[b]?=some o)(h:Below w.heap.size w.drew w1)(g:(w1.alloc j).grownBy w2 a)(e:a≠some b):w2.heap[b]?=some o:=by have f:=(cq.1 c).1;have d:w1.heap[b]?=some o:=(h.block b f).x c;have i:=(cq.1 d).1;rw[g.block b (by simp;omega) (Ne.symm e),Below.heap_alloc _ _ _ i,d]
def xV(b:Nat)(v:Value)(n:Nat)(f xs:List Value)(w:World)(e:Ending)(w':World):Prop:=
 ∃g a d c,e=.returned (.tuple #[rv n,rv 0])/\Only (fun k=>k=b\/v.ownBlock=some k) w w'/\w'.heap[b]?=some (.cells #[.slice (some ⟨g,0,none⟩) (n+1) a] 70 (0,0))/\
  w'.ownsRow 0 53 1 (.slice (some ⟨g,0,none⟩) (n+1) a) (n+1) (f++[.slice d xs.length c])/\w'.ownsRow w.heap.size 5 1 (.slice d xs.length c) xs.length xs/\
  (v.ownBlock=some g\/w.heap.size<=g)
theorem Ih{b:Nat}{v:Value}{n:Nat}{k xs:List Value}{w w1 w2:World}{a:Option Addr}{c d e:Nat}(y:b<w.heap.size)(u: ∀p,v.ownBlock=some p->p<w.heap.size)
  (i:w1.ownsRow w.heap.size 5 1 (.slice a xs.length c) xs.length xs) (m:Below w.heap.size w.drew w1)
  (h:w2.ownsRow 0 53 1 (.slice (some ⟨d,0,none⟩) (n+1) e) (n+1) (k++[.slice a xs.length c]))
  (g:(w1.alloc (Obj.cells #[.slice a xs.length c] 53)).grownBy w2 v.ownBlock) (r:v.ownBlock=some d\/d=w1.heap.size+1)
  (l:w2.heap[b]?=some (Obj.cells #[v] 70 (0,0))):
  xV b v n k xs w (.returned (.tuple #[rv n,rv 0])) (w2.setCell ⟨b,0,none⟩ (.slice (some ⟨d,0,none⟩) (n+1) e)):=by
 have x:w.heap.size<=w1.heap.size:=m.size;refine⟨d,e,a,c,rfl,?_,?_,?_,?_,?_⟩
 ·have j:Only (fun o=>o=b\/v.ownBlock=some o) w w1:=oS (fI m) _;exact((j.alloc _).grown g (fun o f _=>.inr f)).setCell (p:=⟨b,0,none⟩) (fun _=>.inl rfl) _
 ·simp[World.setCell,Array.getElem?_modify,l]
 ·refine aQ h (Only.aR _ _ _ _) ?_;intro p f q;subst q;exact cw h l (by decide) f
 ·have j:=i.lt;have s:(w1.alloc (Obj.cells #[.slice a xs.length c] 53)).ownsRow w.heap.size 5 1 (.slice a xs.length c) xs.length xs:=i.alloc _
  have t:w2.ownsRow w.heap.size 5 1 (.slice a xs.length c) xs.length xs:=s.kept g (by
   cases hA:(Value.slice a xs.length c).ownBlock with
   |none=>exact .inl rfl
   |some o=>
    refine .inr (fun q=>?_);have:=(j o hA).1;have:=u o q.symm
    omega)
  refine aQ t (Only.aR _ _ _ _) ?_;intro p f q;subst q;have:=(j p f).1;omega
 ·rcases r with f|f
  ·exact .inl f
  ·exact .inr (by omega)
theorem Ii(b:Nat)(A:Option Addr)(n c:Nat)(vs:List Value)(w:World)(hc:w.heap[b]?=some (.cells #[.slice A n c] 70 (0,0)))
  (hown:w.ownsRow 0 53 1 (.slice A n c) n vs) (hn:n<1024) (G:Nat->Prop) (A2:Option Addr) (n2 c2:Nat) (xs:List Value) (hr:Rd w G (.slice A2 n2 c2) xs) (h1: ∀u∈xs,u.oneCell'=true) (hx:n2<=8192):
  Calls prog 21 #[.pointer (some ⟨b,0,none⟩),.slice A2 n2 c2] w (xV b (.slice A n c) n vs xs w):=by
 obtain⟨i0,hi,hz0,hz1,hz2⟩:=ef Tryz.N4
 have hl:xs.length<=140737488355328:=by obtain⟨A',n',c',hv,hl,_⟩:=hr;injection hv with _ h2 _;omega
 have HL:=al hl;clear hl;have hcell:w.cell? ⟨b,0,none⟩=some (.slice A n c):=by simp[World.cell?,hc]
 have hfz:w.frozen? ⟨b,0,none⟩=false:=by simp[World.frozen?,hc]
 have hb:=aq w _ hcell;have hne:(Value.slice A n c).ownBlock≠some b:=cw hown hc (by decide);have HV:=al (fun g hg=>(hown.lt g hg).2);have HC:=al hc;have HO:=al hown;have HN:=al hne;clear hc hown hne;go_enter func21,ntmps21;go_wp2_with fail
 go_region_law
  (first
   |(refine step_append_lies _ (by rfl) _ _ _ (by rfl) 0 53 i0 _ 1 24 underlying22 hi hz0 hz1 hz2 rfl (by omega) (.slice A n c) n vs (by rfl) (hown1.alloc _) ⟨w1.heap.size,0,none⟩ 1 1 [.slice Ax xs.length cx] (by rfl) (by rfl) (eb (cs:= #[.slice Ax xs.length cx]) (t:=53) (fr:=(0,0)) (an w1 _)) (by simp[Value.oneCell']) (by omega) (by simp only[maxLen];omega) (by omega) (by omega) (w1.heap.size+1) (by simp) ?_;intro gg cap w2 hown2 hgrow2 yY oh;have fu:=al (Ig HC.o lL hgrow2 HN.o);have acD:=aB fu.o;have ad5:=bj fu.o)
   |(go_simp;go_at_call 46;refine(jr _ xs G _ (by exact hr) h1 HL.o).m ?_;rintro e w1 ⟨Ax,cx,rfl,hx1,lL⟩;have Xe:w1.cell? ⟨b,0,none⟩=some (.slice A n c):=(lL.cell (p:=⟨b,0,none⟩) hb).x hcell;have abS: ∀o,(w1.alloc o).cell? ⟨b,0,none⟩=some (.slice A n c):=aJ Xe;have hown1:=bD HO.o.drew lL;have hsz1:w.heap.size<=w1.heap.size:=lL.size))
 all_goals
  go_wp2
  go_ret2
  exact Ih hb HV.o hx1 lL hown2 hgrow2 yY fu.o
def fF(w:World)(F:Nat->Prop)(b:Nat)(ps:List (List UInt8)):Prop:=
 ∃(v:Value) (a:List Value),w.heap[b]?=some (.cells #[v] 70 (0,0))/\F b/\w.ownsRow 0 53 1 v ps.length a/\(∀g,v.ownBlock=some g->F g)/\
  ∀(i:Nat) (p:List UInt8),ps[i]?=some p-> ∃x:Value,a[i]?=some x/\w.ownsRow 0 5 1 x p.length (p.map B8)/\ ∀g,x.ownBlock=some g->F g
def dt(w:World)(F:Nat->Prop)(v:Value)(ps:List (List UInt8)):Prop:=
 ∃a:List Value,Rd w F v a/\a.length=ps.length/\ ∀(i:Nat) (p:List UInt8),ps[i]?=some p-> ∃A c,a[i]?=some (Value.slice A p.length c)/\Rd w F (.slice A p.length c) (p.map B8)
section
variable{w w':World}{F G S:Nat->Prop}{b:Nat}{ps:List (List UInt8)}{v:Value}
theorem fF.only(o:fF w F b ps)(c:Only S w w')(a: ∀k,F k-> ¬S k):fF w' F b ps:=by obtain⟨v,m,j,d,n,f,h⟩:=o;refine⟨v,m,c.heap j (a b d),d,aQ n c (fun g e=>a g (f g e)),f,fun q p i=>?_⟩;obtain⟨x,l,g,e⟩:=h q p i;exact⟨x,l,aQ g c (fun k i=>a k (e k i)),e⟩
theorem fF.below(h:fF w F b ps)(a:Below w.heap.size w w'):fF w' F b ps:=h.only (oS a fun _=>False) (fun _ _=>id)
theorem fF.mono(n:fF w F b ps)(a: ∀k,F k->G k):fF w G b ps:=by obtain⟨v,j,g,d,l,m,e⟩:=n;refine⟨v,j,g,a b d,l,fun f c=>a f (m f c),fun o p f=>?_⟩;obtain⟨x,h,c,i⟩:=e o p f;exact⟨x,h,c,fun k f=>a k (i k f)⟩
abbrev fF.m:=@fF.mono
theorem dt.only(l:dt w F v ps)(b:Only S w w')(a: ∀k,F k-> ¬S k):dt w' F v ps:=by obtain⟨i,h,d,e⟩:=l;refine⟨i,h.only b a,d,fun k p f=>?_⟩;obtain⟨A,j,g,c⟩:=e k p f;exact⟨A,j,g,c.only b a⟩
theorem dt.below(h:dt w F v ps)(a:Below w.heap.size w w'):dt w' F v ps:=h.only (oS a fun _=>False) (fun _ _=>id)
theorem dt.agree(j:dt w F v ps)(a: ∀k o,F k->w.heap[k]?=some o->w'.heap[k]?=some o):dt w' F v ps:=by obtain⟨h,g,c,d⟩:=j;refine⟨h,g.agree a,c,fun k p e=>?_⟩;obtain⟨A,i,f,b⟩:=d k p e;exact⟨A,i,f,b.agree a⟩
theorem dt.bound(i:dt w F v ps):dt w (fun k=>F k/\k<w.heap.size) v ps:=by obtain⟨g,f,b,c⟩:=i;refine⟨g,f.bound,b,fun j p d=>?_⟩;obtain⟨A,h,e,a⟩:=c j p d;exact⟨A,h,e,a.bound⟩
theorem fF.bound(m:fF w F b ps):fF w (fun k=>F k/\k<w.heap.size) b ps:=by obtain⟨v,j,d,f,e,l,g⟩:=m;refine⟨v,j,d,⟨f,(cq.1 d).1⟩,e,fun c a=>⟨l c a,(e.lt c a).2⟩,fun n p c=>?_⟩;obtain⟨x,h,a,i⟩:=g n p c;exact⟨x,h,a,fun k c=>⟨i k c,(a.lt k c).2⟩⟩
theorem dt.nil(w:World)(F:Nat->Prop):dt w F (.slice none 0 0) []:=⟨[],Rd.nil _ _,rfl,fun i p a=>by simp at a⟩
theorem fF.lt(h:fF w F b ps):b<w.heap.size:=by obtain⟨v,c,a,_⟩:=h;exact(cq.1 a).1
end
def L3(F:Nat->Prop)(b:Nat)(ps:List (List UInt8))(xs:List UInt8)(w:World)(e:Ending)(w':World):Prop:=
 e=.returned (.tuple #[rv ps.length,rv 0])/\Only F w w'/\ ∃a,fF w' a b (ps++[xs])/\ ∀k,a k->F k\/w.heap.size<=k
theorem L4(w:World)(F:Nat->Prop)(b:Nat)(ps:List (List UInt8))(u:fF w F b ps)(C:ps.length<1024)(G:Nat->Prop)(i:Option Addr)(e j:Nat)(xs:List UInt8)(n:Rd w G (.slice i e j) (xs.map B8))(o:xs.length<=8192):
  Calls prog 21 #[r7 b,.slice i e j] w (L3 F b ps xs w):=by
 obtain⟨v,p,t,s,f,r,H⟩:=u;obtain⟨V,T,rfl⟩:=ar f
 have O:e=xs.length:=by obtain⟨P,N,Q,J,E,_⟩:=n;injection J with _ S _;simp at E;omega
 refine(Ii b V ps.length T p w t f C G i e j (xs.map B8) n (sD xs) (by omega)).m ?_;rintro S w' ⟨W,M,D,K,B,q,A,x,m,y⟩;have z:p.length=ps.length:=by simpa using f.1
 refine⟨B,q.m (fun L _ d=>?_),fun k=>F k\/w.heap.size<=k,⟨_,_,A,.inl s,by simpa using x,?_,?_⟩,fun k a=>a⟩
 ·rcases d with rfl|d
  ·exact s
  ·exact r L d
 ·intro k a;rcases y with u|u
  ·exact .inl (r k (u.x a))
  ·injection a with a;subst a;exact .inr u
 ·intro L U c;rw[List.getElem?_append]at c⊢;split at c
  ·rename_i d;obtain⟨R,o,g,I⟩:=H L U c;refine⟨R,by rw[fi (by omega)];exact o,aQ g q ?_,fun k a=>.inl (I k a)⟩;intro k a h;rcases h with rfl|h
   ·exact cw g t (by decide) a
   ·exact iX g f (by decide) a h
  ·rename_i d
   have l:L-ps.length=0:=by have:=(bd.1 c).1;simp at this;omega
   rw[l]at c;simp at c;subst c;refine⟨.slice D (xs.map B8).length K,by rw[ff (by omega),z,l];simp,?_,fun k a=>.inr (m.lt k a).1⟩;have:=dF m (base':=0) (fun _ _=>dq _);simpa using this
theorem EU(w:World)(b:Nat)(d:Option Addr)(a c:Nat)(f:8192<a)(e:a<=9223372036854775807):
  Calls prog 21 #[r7 b,.slice d a c] w fun g w'=>g=.returned (.tuple #[rv 0,rv 23])/\w=w':=by
 go_enter func21,ntmps21;go_wp2_with fail
 go_ret2
 exact⟨rfl,rfl⟩
theorem L5(w:World)(F:Nat->Prop)(b:Nat)(ps:List (List UInt8))(h:fF w F b ps):
  Calls prog 27 #[r7 b] w fun e w'=>e=.returned (rv ps.length)/\w=w':=by
 obtain⟨v,d,c,_,a,_⟩:=h;obtain⟨A,f,rfl⟩:=ar a;have e:=aB c;clear c a;go_enter func27,ntmps27;go_wp2_with fail;go_ret
 exact⟨rfl,rfl⟩
def Tp(ps:List (List UInt8))(w:World)(e:Ending)(w':World):Prop:=
 Below w.heap.size w w'/\if ∀p∈ps,p.length<=8192 then ∃b,e=.returned (.tuple #[r7 b,rv 0])/\fF w' (fun k=>w.heap.size<=k) b ps
  else e=.returned (.tuple #[.pointer none,rv 23])
theorem dt.at_{w:World}{F:Nat->Prop}{v:Value}{ps:List (List UInt8)}(x:dt w F v ps): ∃A e,v=.slice A ps.length e/\ps.length<=e/\e<=maxLen/\
  ∀i p,ps[i]?=some p-> ∃b o a c,A=some ⟨b,o,none⟩/\w.cell? ⟨b,o+i,none⟩=some (.slice a p.length c)/\Rd w F (.slice a p.length c) (p.map B8):=by
 obtain⟨r,⟨A,y,e,rfl,h,t,n,j⟩,f,l⟩:=x;refine⟨A,e,by rw[<-f,h],by omega,n,fun i p d=>?_⟩;have q:=(bd.1 d).1;obtain⟨b,o,u,s,k⟩:=j (by omega);obtain⟨a,c,m,g⟩:=l i p d;exact⟨b,o,a,c,u,k i _ m,g⟩
def Xf(w:World)(ps:List (List UInt8))(x:Value×Value)(a:World):Prop:=
 ∃k:Nat,k<=ps.length/\x=(rv 0,rv k)/\(∀p∈ps.take k,p.length<=8192)/\fF a (fun j=>w.heap.size<=j) w.heap.size (ps.take k)/\Below w.heap.size w a
theorem L6(w:World):fF (w.alloc (.cells #[.slice none 0 0] 70)) (fun j=>w.heap.size<=j) w.heap.size []:=
 ⟨.slice none 0 0,[],an w _,b8 _,ea _ _ _ _,fun g a=>by simp[Value.ownBlock]at a,fun i p a=>by simp at a⟩
theorem Tq(w:World)(F:Nat->Prop)(v:Value)(ps:List (List UInt8))(a:dt w F v ps)(G: ∀k,F k->k<w.heap.size)(L:ps.length<=1024):
  Calls prog 8 #[v] w (Tp ps w):=by
 obtain⟨P,O,rfl,N,C,c⟩:=a.at_;have j:=al c;have u:=al a;clear c a;go_enter func8,ntmps8;go_wp2_with fail
 go_step3
 go_wp2_with fail
 go_step3
 go_wp2_with fail
 go_loopw [5,12] (fun e i wr=>Xf w ps (e,i) wr) (fun _ i _=>ps.length-(intOf i).toNat)
 case atStart=>exact⟨0,dq _,rfl,by simp,L6 w,(aw _ _).alloc (b8 _) _⟩
 case round=>
  obtain⟨k,s,t,c,m,a⟩:=hrel;simp only[me]at t;obtain⟨rfl,rfl⟩:=t;by_cases A:k<ps.length
  ·obtain⟨p,f⟩: ∃p,ps[k]?=some p:=⟨_,ao A⟩;obtain⟨b,J,d,g,rfl,h,n⟩:=j.o k p f;have H:b<w.heap.size:=aq w _ h;have K:wr.cell? ⟨b,J+k,none⟩=some (.slice d p.length g):=(a.cell (p:=⟨b,J+k,none⟩) H).x h;have z:Rd wr F (.slice d p.length g) (p.map B8):=n.only (a.VQ) (fun k s=>by have:=G k s;omega);have y:p.length<=maxLen:=by have:=n.length_le;simpa using this
   unfold maxLen at y C;have o:(ps.take k).length=k:=by simp;omega
   have q:ps.take (k+1)=ps.take k++[p]:=by rw[ir,f];rfl
   have r:=al q;have D:=al f;have l:=al c;have x:=al o;clear q f c o h n u j;by_cases f:p.length<=8192
   ·go_wp2_with fail;refine(L4 wr _ _ _ m (by rw[x.o];omega) F d p.length g p z f).m ?_;rintro e E ⟨rfl,B,M,q,o⟩;go_wp2_with fail;go_roundw
    case rel=>
     refine⟨k+1,by omega,by go_num,?_,?_,?_⟩
     ·rw[r.o];intro I n;rcases dr.1 n with h|h
      ·exact l.o I h
      ·simp at h;subst h;exact f
     ·rw[r.o];refine q.m (fun I n=>?_);have:=a.size;rcases o I n with h|h
      ·exact h
      ·omega
     ·exact a.x (B.aI a.size (fun I n h=>by omega))
    case measure=>simp[intOf];omega
   ·go_wp2_with fail;refine(EU wr _ d p.length g (by omega) (by omega)).m ?_;rintro e E ⟨rfl,rfl⟩;go_wp2_with fail;rw[fs]
    go_ret2
    refine⟨a,?_⟩;rw[ff (fun h=>f (h p (List.mem_of_getElem? D.o)))];rfl
  ·obtain rfl:k=ps.length:=by omega
   simp only[gn]at m c;have l:=al c;clear c u j;go_wp2_with fail;rw[fs]
   go_ret2
   refine⟨a,?_⟩;rw[fi l.o];exact⟨_,rfl,m⟩
theorem fF.at_{w:World}{F:Nat->Prop}{b:Nat}{ps:List (List UInt8)}(m:fF w F b ps): ∃A l,w.cell? ⟨b,0,none⟩=some (.slice A ps.length l)/\dt w F (.slice A ps.length l) ps:=by obtain⟨v,i,f,_,a,j,d⟩:=m;obtain⟨A,l,rfl⟩:=ar a;refine⟨A,l,aB f,i,Rd.bO a j,by simpa using a.1,fun k p e=>?_⟩;obtain⟨x,g,c,h⟩:=d k p e;obtain⟨e,k,rfl⟩:=ar c;exact⟨e,k,g,Rd.bO c h⟩
end Go.Proofs.YtehccbdajiiaaaaGreatDoor
