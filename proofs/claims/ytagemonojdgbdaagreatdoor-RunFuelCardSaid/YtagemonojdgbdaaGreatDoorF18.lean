import Derived.Test.YtagemonojdgbdaaGreatDoorF12
import Derived.Lib.BufferRead
import Derived.WalkSmall
namespace Go.Proofs.YtagemonojdgbdaaGreatDoor
set_option maxRecDepth 100000
set_option maxHeartbeats 16000000
open Go.RowKit
theorem OO(w:World)(F:Nat->Prop)(b:Nat)(all:List UInt8)(pos p0:Nat)(h:cX w F b all pos)(hp:p0<=all.length):
  Calls Tryz.prog 207 #[.agg #[.pointer (some ⟨b,0,none⟩),.int .i64 p0]] w fun e w'=>e=.returned (.tuple #[])/\Only (fun k=>k=b) w w'/\cX w' F b all p0:=by
 have H:=al h;obtain⟨A,c,hc0,hc1,xV,hb,hpl,hcl,hcm,_⟩:=h.at_;have hw1:=cH hc1 (.cells #[.pointer (some ⟨b,0,none⟩),.int .i64 p0] 318);have hz1:(w.alloc (.cells #[.pointer (some ⟨b,0,none⟩),.int .i64 p0] 318)).frozen? ⟨b,1,none⟩=false:=(World.frozen?_of_block (Below.heap_alloc w _ b hb)).trans xV;clear h hc0 hc1 xV;go_enter Tryz.func207,Tryz.ntmps207;go_wp2_with fail
 go_end0
 refine⟨rfl,?_,?_⟩
 ·exact(Only.setCell (oB (fun k=>k=b) w) (p:=⟨b,1,none⟩) (fun _=>rfl) _).alloc _
 ·exact(H.out.set p0 hp).below ((aw _ _).alloc (aq _) _)
theorem OP(w:World)(F:Nat->Prop)(b:Nat)(all:List UInt8)(pos:Nat)(h:cX w F b all pos):
  Calls Tryz.prog 135 #[.pointer (some ⟨b,0,none⟩)] w fun e w'=>e=.returned (.int .i64 ((all.length-pos:Nat):Int))/\Only (fun _=>False) w w':=by
 obtain⟨A,c,hc0,hc1,xV,hb,hpl,hcl,hcm,_⟩:=h.at_;unfold maxLen at hcm;clear h;go_enter Tryz.func135,Tryz.ntmps135;go_wp2_with fail;go_quiet(fail);go_wp2_with fail;go_ret
 exact⟨by simp;omega,(oB _ _).drewN _⟩
theorem zC{P:Program}{w:World}{F:Nat->Prop}{A:Option Addr}{n c:Nat}{xs:List UInt8}(src dst e:TypeId)(hs:P.underlying src=some (.slice e))(he:P.underlying e=some (.int .u8))(hd:P.underlying dst=some .string)
  (h:Rd w F (.slice A n c) (xs.map B8)):(convert src dst (.slice A n c)).run P w=.ok (.string ⟨xs.toArray⟩) w:=by
 have hcells:=h.cells rfl;obtain⟨A',n',c',hv,hl,hc,hm,hx⟩:=h;injection hv with e1 e2 e3;subst e1 e2 e3;simp only[fb]at hl;subst hl;rcases A with _|a
 ·have:xs=[]:=by
   rcases Nat.eq_zero_or_pos xs.length with h0|h0
   ·exact db h0
   ·obtain⟨_,_,h,_⟩:=hx h0;cases h
  subst this;exact Lib.run_convert_nil_bytes w src dst e c hs he hd
 ·exact run_convert_bytes_back w src dst e a c xs hs he hd (fun j hj=>hcells a rfl j _ (by simp[hj,B8]))
theorem OQ(w:World)(F:Nat->Prop)(v:Value)(all:List UInt8)(hr:Rd w F v (all.map B8))(hl:all.length<=140737488355328):
  Calls Tryz.prog 133 #[v] w fun e w'=> ∃b,e=.returned (.pointer (some ⟨b,0,none⟩))/\Below w.heap.size w w'/\cX w' (fun k=>w.heap.size<=k) b all 0:=by
 obtain⟨A,n,c,rfl,_⟩:=id hr;have HR:=al hr;clear hr;go_enter Tryz.func133,Tryz.ntmps133;go_wp2_with fail;refine(rT _ _ F _ HR.out (JY all) (by simpa using hl)).mono ?_;rintro e w1 ⟨Ax,cx,rfl,hx,hbl⟩;rw[fb]at hx⊢;have HX:=al (ab hx hbl);clear hx hbl;go_wp2_with fail;go_ret
 have hsz:=HX.out.2.size;refine⟨w1.heap.size,rfl,HX.out.2.alloc hsz _,.slice Ax all.length cx,an _ _,hsz,dj _,dW (HX.out.1.alloc _) (fun _ _=>dj _),fun g hg=>⟨(HX.out.1.lt g hg).1,?_⟩⟩;have:=(HX.out.1.lt g hg).2;omega
def oV(n:Int):Nat:=if n<0 then 2*(-1-n).toNat+1 else 2*n.toNat
def QF(n:Nat):Int:=if n%2=1 then -1-((n/2:Nat):Int)else((n/2:Nat):Int)
theorem OS(n:Int):QF (oV n)=n:=by unfold QF oV;split<;>split<;>omega
theorem Lp{n:Int}(h1: -9223372036854775808<=n)(h2:n<=9223372036854775807):oV n<18446744073709551616:=by unfold oV;split<;>omega
def NG(bs:List UInt8):Option (Int×List UInt8):=(vM 0 0 bs).map fun x=>(QF x.1,x.2)
theorem R8(w:World)(F:Nat->Prop)(b:Nat)(bs:List UInt8)(h:wH w F b bs)(n:Int)(h1: -9223372036854775808<=n)(h2:n<=9223372036854775807)(hlen:bs.length<=1000000000):
  Calls Tryz.prog 79 #[.pointer (some ⟨b,0,none⟩),.int .i64 n] w (RB 0 F b (bs++oL (oV n)) w):=by
 have H:=al h;have hz:=Lp h1 h2;clear h;by_cases hn:n<0
 ·have hg:=xU w F b bs H.out (oV n) hz hlen;have e:((oV n:Nat):Int)=2*(-1-n)+1:=by unfold oV;rw[fi hn];omega
  rw[e]at hg;have HG:=al hg;clear hg hz e;go_enter Tryz.func79,Tryz.ntmps79;go_wp2_with fail;refine HG.out.mono ?_;rintro e w1 ⟨rfl,ho,F',hw,hF'⟩;go_wp2_with fail;go_ret
  exact⟨rfl,ho,F',hw,hF'⟩
 ·have hg:=xU w F b bs H.out (oV n) hz hlen;have e:((oV n:Nat):Int)=2*n:=by unfold oV;rw[ff hn];omega
  rw[e]at hg;have HG:=al hg;clear hg hz e;go_enter Tryz.func79,Tryz.ntmps79;go_wp2_with fail;refine HG.out.mono ?_;rintro e w1 ⟨rfl,ho,F',hw,hF'⟩;go_wp2_with fail;go_ret
  exact⟨rfl,ho,F',hw,hF'⟩
def Y1(F:Nat->Prop)(b:Nat)(all:List UInt8)(pos:Nat)(w:World)(e:Ending)(w':World):Prop:=
 Only (fun k=>k=b) w w'/\match NG (all.drop pos)with
  |some (n,rest)=>e=.returned (.tuple #[.int .i64 n,.int .i64 0])/\ ∃p',rest=all.drop p'/\pos<=p'/\cX w' F b all p'
  |none=>e=.returned (.tuple #[.int .i64 0,.int .i64 11])/\ ∃p',cX w' F b all p'
theorem IC(w:World)(F:Nat->Prop)(b:Nat)(all:List UInt8)(pos:Nat)(h:cX w F b all pos):
  Calls Tryz.prog 163 #[.pointer (some ⟨b,0,none⟩)] w (Y1 F b all pos w):=by
 have H:=al h;clear h;go_enter Tryz.func163,Tryz.ntmps163;go_wp2_with fail;refine(D2 w F b all pos H.out).mono ?_;rintro e w1 ⟨ho,hm⟩
 cases hg:vM 0 0 (all.drop pos)with
 |none=>
  rw[hg]at hm;obtain⟨rfl,p',hr⟩:=hm;have HU:=al (show NG (all.drop pos)=none by simp[NG,hg]);clear hg;go_wp2_with fail
  go_ret2
  refine⟨ho,?_⟩;rw[HU.out];exact⟨rfl,p',hr⟩
 |some x=>
  obtain⟨n,rest⟩:=x;rw[hg]at hm;obtain⟨rfl,p',hrest,Ny,hr⟩:=hm
  have hn:n<18446744073709551616:=by obtain⟨m,hm,_,hlt,_⟩:=Ou _ 0 0 n rest (by omega) hg;simp at hm hlt;omega
  have HU:=al (ab (show NG (all.drop pos)=some (QF n,rest) by simp[NG,hg]) hrest);have ha:=and_one_u64 (n:Int) (by omega) (by omega);clear hg hrest;by_cases OT:n%2=1
  ·have eo:(n:Int)%2=1:=by omega
   have HZ:=al (show QF n= -1-(n:Int)/2 by unfold QF;rw[fi OT];omega);clear OT;go_wp2_with fail
   go_ret2
   refine⟨ho,?_⟩;rw[HU.out.1];refine⟨?_,p',HU.out.2,Ny,hr⟩;rw[HZ.out];rfl
  ·have eo:((n:Int)%2==1)=false:=by simp;omega
   have HZ:=al (show QF n=(n:Int)/2 by unfold QF;rw[ff OT];omega);clear OT;go_wp2_with fail
   go_ret2
   refine⟨ho,?_⟩;rw[HU.out.1];refine⟨?_,p',HU.out.2,Ny,hr⟩;rw[HZ.out];rfl
def Vo(F:Nat->Prop)(b:Nat)(all:List UInt8)(pos:Nat)(w:World)(e:Ending)(w':World):Prop:=
 Only (fun k=>k=b) w w'/\match NG (all.drop pos)with
  |some (n,rest)=>e=.returned (.tuple #[.int .i64 n,.int .i64 0])/\ ∃p',rest=all.drop p'/\pos<=p'/\cX w' F b all p'
  |none=>e=.returned (.tuple #[.int .i64 0,.int .i64 11])/\cX w' F b all pos
theorem Lq(w:World)(F:Nat->Prop)(b:Nat)(all:List UInt8)(pos:Nat)(h:cX w F b all pos):
  Calls Tryz.prog 162 #[.pointer (some ⟨b,0,none⟩),.func (.func 163) #[.pointer (some ⟨b,0,none⟩)] #[]] w (Vo F b all pos w):=by
 have H:=al h;obtain⟨A,c,hc0,hc1,xV,hb,hpl,hcl,hcm,_⟩:=h.at_;clear h hc0 xV;go_enter Tryz.func162,Tryz.ntmps162;go_wp2_with fail;refine(IC w F b all pos H.out).mono ?_;rintro e w1 ⟨ho,hm⟩
 cases hg:NG (all.drop pos)with
 |none=>
  rw[hg]at hm;obtain⟨rfl,p',hr⟩:=hm;have HG:=al (ab hg ho);clear hg ho;go_wp2_with fail;refine(OO w1 F b all p' pos hr hpl).mono ?_;rintro e w2 ⟨rfl,eo,hr2⟩;have HR:=al (ab eo hr2);clear eo hr2;go_wp2_with fail
  go_ret2
  refine⟨HG.out.2.trans HR.out.1 (fun _ _ h=>h),?_⟩;rw[HG.out.1];exact⟨rfl,HR.out.2⟩
 |some x=>
  obtain⟨n,rest⟩:=x;rw[hg]at hm;obtain⟨rfl,p',hrest,Ny,hr⟩:=hm;have HG:=al (ab hg (ab ho hrest));clear hg ho hrest;go_wp2_with fail
  go_ret2
  refine⟨HG.out.2.1,?_⟩;rw[HG.out.1];exact⟨rfl,p',HG.out.2.2,Ny,hr⟩
theorem R9(w:World)(F:Nat->Prop)(b:Nat)(all:List UInt8)(pos:Nat)(h:cX w F b all pos):
  Calls Tryz.prog 134 #[.pointer (some ⟨b,0,none⟩)] w (Vo F b all pos w):=by
 have H:=al h;clear h;go_enter Tryz.func134,Tryz.ntmps134;go_wp2_with fail;refine(Lq w F b all pos H.out).mono ?_;rintro e w1 hP;have HP:=al hP;obtain⟨ho,hm⟩:=hP
 cases hg:NG (all.drop pos)with
 |none=>
  rw[hg]at hm;obtain⟨rfl,hr⟩:=hm;clear hg;go_wp2_with fail
  go_ret2
  exact HP.out
 |some x=>
  obtain⟨n,rest⟩:=x;rw[hg]at hm;obtain⟨rfl,_⟩:=hm;clear hg;go_wp2_with fail
  go_ret2
  exact HP.out
def fH(r:Rw):List UInt8:=oL (oV r.a)++oL (oV r.b)++oL (oV r.c)++oL (oV r.d)
theorem ql(r:Rw):(fH r).length<=40:=by have h1:=ic (oV r.a);have h2:=ic (oV r.b);have h3:=ic (oV r.c);have h4:=ic (oV r.d);unfold fH;simp only[gk];omega
def iY{α:Type}(f:Nat->α)(i:Nat)(v:α):Nat->α:=fun j=>if j=i then v else f j
theorem fg{α:Type}(f:Nat->α)(i:Nat)(v:α):iY f i v i=v:=fi rfl
theorem fh{α:Type}(f:Nat->α){i j:Nat}(v:α)(h:j≠i):iY f i v j=f j:=ff h
structure Ch where
 aK:Nat
 v:Int
 k:List UInt8
 add:Bool
def JQ(k:List UInt8)(old now:Option Rw)(c:Nat):List Ch:=
 match old,now with
 |some o,some n=>if o.aK c=n.aK c then[]else[⟨c,o.aK c,k,false⟩,⟨c,n.aK c,k,true⟩]
 |some o,none=>[⟨c,o.aK c,k,false⟩]
 |none,some n=>[⟨c,n.aK c,k,true⟩]
 |none,none=>[]
def iF(k:List UInt8)(old now:Option Rw):Nat->List Ch
 |0=>[]
 |c+1=>iF k old now c++JQ k old now c
def Lr(k:List UInt8)(old now:Option Rw):List Ch:=iF k old now 4
theorem sY(k:List UInt8)(old now:Option Rw)(c:Nat):(JQ k old now c).length<=2:=by unfold JQ;cases old<;>cases now<;>simp;split<;>simp
theorem qm(k:List UInt8)(old now:Option Rw): ∀c,(iF k old now c).length<=2*c
 |0=>by simp[iF]
 |c+1=>by have h1:=qm k old now c;have h2:=sY k old now c;simp only[iF,gk];omega
theorem OU{k:List UInt8}{old now:Option Rw}{c:Nat}{x:Ch}(h:x∈JQ k old now c):x.aK=c/\x.k=k:=by
 unfold JQ at h;split at h
 ·split at h
  ·simp at h
  ·simp only[List.mem_cons,List.not_mem_nil,or_false]at h;rcases h with rfl|rfl<;>exact⟨rfl,rfl⟩
 ·simp only[List.mem_cons,List.not_mem_nil,or_false]at h;subst h;exact⟨rfl,rfl⟩
 ·simp only[List.mem_cons,List.not_mem_nil,or_false]at h;subst h;exact⟨rfl,rfl⟩
 ·simp at h
theorem Gn{k:List UInt8}{old now:Option Rw}{x:Ch}: ∀{c:Nat},x∈iF k old now c->x.aK<c/\x.k=k
 |0,h=>by simp[iF]at h
 |c+1,h=>by
  rcases dy.1 h with h|h
  ·have:=Gn h;exact⟨by omega,this.2⟩
  ·have:=OU h;exact⟨by omega,this.2⟩
theorem OV{k:List UInt8}{old now:Option Rw}{c:Nat}{x:Ch}(ho: ∀r,old=some r-> ∀c,I6 (r.aK c))(hn: ∀r,now=some r-> ∀c,I6 (r.aK c))(h:x∈JQ k old now c):I6 x.v:=by
 unfold JQ at h;split at h
 ·split at h
  ·simp at h
  ·simp only[List.mem_cons,List.not_mem_nil,or_false]at h;rcases h with rfl|rfl
   ·exact ho _ rfl _
   ·exact hn _ rfl _
 ·simp only[List.mem_cons,List.not_mem_nil,or_false]at h;subst h;exact ho _ rfl _
 ·simp only[List.mem_cons,List.not_mem_nil,or_false]at h;subst h;exact hn _ rfl _
 ·simp at h
theorem Gp{k:List UInt8}{old now:Option Rw}{x:Ch}(ho: ∀r,old=some r-> ∀c,I6 (r.aK c))(hn: ∀r,now=some r-> ∀c,I6 (r.aK c)): ∀{c:Nat},x∈iF k old now c->I6 x.v
 |0,h=>by simp[iF]at h
 |c+1,h=>by
  rcases dy.1 h with h|h
  ·exact Gp ho hn h
  ·exact OV ho hn h
def XD(k:List UInt8)(old now:Option Rw)(c:Nat)(l:List Pr):List Pr:=
 match old,now with
 |some o,some n=>if o.aK c=n.aK c then l else bE (dB (n.aK c) k,[]) (fp (dB (o.aK c) k) l)
 |some o,none=>fp (dB (o.aK c) k) l
 |none,some n=>bE (dB (n.aK c) k,[]) l
 |none,none=>l
def km(ls:Nat->List Pr)(x:Ch):Nat->List Pr:=iY ls (x.aK+1) (if x.add then ins (dB x.v x.k,[]) (ls (x.aK+1))else del (dB x.v x.k) (ls (x.aK+1)))
theorem Sa(k:List UInt8)(old now:Option Rw)(c:Nat)(ls:Nat->List Pr):(JQ k old now c).foldl km ls=iY ls (c+1) (XD k old now c (ls (c+1))):=by
 have h0: ∀v:List Pr,v=ls (c+1)->ls=iY ls (c+1) v:=by
  rintro v rfl
  funext j
  unfold iY;split
  ·rename_i h;rw[h]
  ·rfl
 unfold JQ XD;split
 ·split
  ·rename_i h;simp only[List.foldl_nil];exact h0 _ rfl
  ·rename_i h;simp only[List.foldl_cons,List.foldl_nil,km,if_true,nh,if_false]
   funext j
   unfold iY;split
   ·rename_i e;rw[fi rfl,mV,del_eq]
   ·rfl
 ·simp only[List.foldl_cons,List.foldl_nil,km,nh,if_false,del_eq]
 ·simp only[List.foldl_cons,List.foldl_nil,km,if_true,mV]
 ·simp only[List.foldl_nil];exact h0 _ rfl
theorem Ls(k:List UInt8)(old now:Option Rw)(ls:Nat->List Pr): ∀c,(iF k old now c).foldl km ls=fun i=>if 1<=i/\i<=c then XD k old now (i-1) (ls i)else ls i
 |0=>by
  funext i
  simp only[iF,List.foldl_nil];rw[ff (by omega)]
 |c+1=>by
  rw[iF,List.foldl_append,Ls k old now ls c,Sa]
  funext i
  unfold iY;by_cases h:i=c+1
  ·subst h;rw[fi rfl,ff (show ¬(1<=c+1/\c+1<=c) by omega),fi (show 1<=c+1/\c+1<=c+1 by omega)];rfl
  ·rw[ff h];show(if 1<=i/\i<=c then _ else _)=_;by_cases h1:1<=i/\i<=c
   ·rw[fi h1,fi ⟨h1.1,by omega⟩]
   ·rw[ff h1,ff (by omega)]
theorem kL{α:Type}(p:List UInt8×α): ∀l:List (List UInt8×α),(bE p l).length<=l.length+1
 |[]=>by simp[bE]
 |q::l=>by
  have:=kL p l;simp only[bE];split
  ·simp only[iS];omega
  ·split
   ·simp only[iS];omega
   ·simp only[iS];omega
theorem rY{α:Type}(k:List UInt8): ∀l:List (List UInt8×α),(fp k l).length<=l.length
 |[]=>by simp[fp]
 |q::l=>by
  have:=rY k l;simp only[fp];split
  ·simp only[iS];omega
  ·split
   ·simp only[iS];omega
   ·simp only[iS];omega
theorem Lt(ls:Nat->List Pr)(x:Ch)(i n:Nat)(h:(ls i).length<=n):(km ls x i).length<=n+1:=by
 unfold km iY;split
 ·rename_i e;subst e;split
  ·rw[mV];have:=kL (dB x.v x.k,([]:List UInt8)) (ls (x.aK+1));omega
  ·rw[del_eq];have:=rY (dB x.v x.k) (ls (x.aK+1));omega
 ·omega
theorem uD(i:Nat): ∀(xs:List Ch) (ls:Nat->List Pr) (n:Nat),(ls i).length<=n->(xs.foldl km ls i).length<=n+xs.length
 |[],ls,n,h=>by simpa using h
 |x::xs,ls,n,h=>by have:=uD i xs (km ls x) (n+1) (Lt ls x i n h);simp only[List.foldl_cons,iS];omega
def gQ(l:av)(i:Nat):List Pr:=if i=0 then l.map (Br fH)else qU (i-1) l
theorem Cj{l:av}{k:List UInt8}{r:Rw}(h:ez l)(hf:RowsFit l)(hr: ∀c,I6 (r.aK c))(i:Nat)(hi:i<5):
  (Lr k (au k l) (some r)).foldl km (iY (gQ l) 0 (ins (k,fH r) (gQ l 0))) i=gQ (bE (k,r) l) i:=by
 unfold Lr;rw[Ls];show(if 1<=i/\i<=4 then _ else _)=_;by_cases h0:i=0
 ·subst h0;rw[ff (by omega),fg];show ins (Br fH (k,r)) (l.map (Br fH))=_;rw[FO];rfl
 ·rw[fi ⟨by omega,by omega⟩,fh _ _ h0];unfold gQ;rw[ff h0,ff h0];unfold XD
  cases hl:au k l with
  |none=>simp only;exact Kg (p:=(k,r)) h hf hr hl
  |some o=>
   simp only;split
   ·rename_i e;exact N2 h hf hr hl e
   ·exact FQ h hf hr hl
theorem jT{l:av}(h:ez l)(hf:RowsFit l)(i:Nat):(gQ l i).length=l.length:=by
 unfold gQ;split
 ·rw[fb]
 ·exact FP h hf
def iM(r:Rw):Nat->List UInt8
 |0=>[]
 |c+1=>iM r c++oL (oV (r.aK c))
theorem uE(r:Rw):iM r 4=fH r:=by simp[iM,fH,Rw.aK]
theorem uF(r:Rw): ∀k,(iM r k).length<=10*k
 |0=>by simp[iM]
 |k+1=>by have h1:=uF r k;have h2:=ic (oV (r.aK k));simp only[iM,gk];omega
theorem ID(r:Rw){k:Nat}(hk:k<4): ∃rest,fH r=iM r k++(oL (oV (r.aK k))++rest)/\fH r=iM r (k+1)++rest:=by
 rw[<-uE]
 match k,hk with
 |0,_=>exact⟨oL (oV (r.aK 1))++oL (oV (r.aK 2))++oL (oV (r.aK 3)),by simp[iM],by simp[iM]⟩
 |1,_=>exact⟨oL (oV (r.aK 2))++oL (oV (r.aK 3)),by simp[iM],by simp[iM]⟩
 |2,_=>exact⟨oL (oV (r.aK 3)),by simp[iM],by simp[iM]⟩
 |3,_=>exact⟨[],by simp[iM],by simp[iM]⟩
theorem OW{n:Int}(h:I6 n)(rest:List UInt8):NG (oL (oV n)++rest)=some (n,rest):=by have h1:=Lp h.1 (by have:=h.2;omega);have:=Ot 9 0 0 (oV n) rest rfl (by simpa using h1) (.inl rfl);unfold NG oL;rw[this];simp[OS]
theorem bw{w:World}{R:Nat}{r:Rw}{t:TypeId}(h:w.heap[R]?=some (.cells #[.int .i64 r.a,.int .i64 r.b,.int .i64 r.c,.int .i64 r.d] t (0,0))){k:Nat}(hk:k<4):w.cell? ⟨R,k,none⟩=some (.int .i64 (r.aK k)):=by
 match k,hk with
 |0,_|1,_|2,_|3,_=>simp[World.cell?,h,Rw.aK]
theorem Lu{w:World}{R:Nat}{cs:Array Value}{t:TypeId}(h:w.heap[R]?=some (.cells cs t (0,0)))(k:Nat):w.frozen? ⟨R,k,none⟩=false:=by simp[World.frozen?,h]
theorem ye(w:World)(r:Rw)(hr: ∀c,I6 (r.aK c)):Calls Tryz.prog 63 #[r.val] w (KE 5 ((fH r).map B8) w):=by
 obtain⟨ra,rb,rc,rd⟩:=r;unfold Rw.val;have hb0:=af w (.cells #[.int .i64 ra,.int .i64 rb,.int .i64 rc,.int .i64 rd] 26);have k0:=an w (.cells #[.int .i64 ra,.int .i64 rb,.int .i64 rc,.int .i64 rd] 26);have HR:=al hr;go_enter Tryz.func63,Tryz.ntmps63;go_upto_region 1 with fail;generalize w.alloc (.cells #[.int .i64 ra,.int .i64 rb,.int .i64 rc,.int .i64 rd] 26)=w1 at hb0 k0⊢;obtain⟨R,hR⟩: ∃x,w.heap.size=x:=⟨_,rfl⟩;rw[hR]at k0⊢;have hb1:=af w1 (.cells #[.slice none 0 0] 188);have k1:=an w1 (.cells #[.slice none 0 0] 188);have Lv:=pw hb1 k0;go_upto_region 2 with fail;generalize w1.alloc (.cells #[.slice none 0 0] 188)=w2 at hb1 k1 Lv⊢;obtain⟨W,hW⟩: ∃x,w1.heap.size=x:=⟨_,rfl⟩;rw[hW]at k1⊢;have Vp:R<W:=by have:=aO k0;omega
 have H:=al (show Below w.heap.size w w2/\wH w2 (fun k=>W<=k) W []/\w2.heap[R]?=some (.cells #[.int .i64 ra,.int .i64 rb,.int .i64 rc,.int .i64 rd] 26 (0,0))/\R<W/\w.heap.size<=R from
  ⟨hb0.trans (hb1.mono hb0.size),⟨_,k1,aq _,ee _ _ _ _,fun g hg=>by simp[Value.ownBlock]at hg⟩,Lv,Vp,by omega⟩)
 clear hb0 k0 hR hb1 k1 Lv hW hr Vp;go_wp2_with fail
 go_loopw [7] (fun i wr=> ∃k:Nat,k<=4/\i=.int .i64 (k:Int)/\wH wr (fun k=>W<=k) W (iM ⟨ra,rb,rc,rd⟩ k)/\Only (fun k=>W<=k) w2 wr) (fun i _=>4-(intOf i).toNat)
 case atStart=>exact⟨0,by decide,rfl,H.out.2.1,oB _ _⟩
 case round=>
  obtain⟨k,hk,rfl,hwr,vQ⟩:=hrel;by_cases hlt:k<4
  ·have q1:=vQ.heap H.out.2.2.1 (fun h=>by have:=H.out.2.2.2.1;omega);have z0:=bw (r:=⟨ra,rb,rc,rd⟩) q1 hlt;have i1:(0:Int)<=(k:Int):=by omega
   have i2:(k:Int)<4:=by omega
   obtain⟨v,hv⟩: ∃v,Rw.aK ⟨ra,rb,rc,rd⟩ k=v:=⟨_,rfl⟩;have XE:=HR.out k;rw[hv]at z0 XE;have hl:=uF ⟨ra,rb,rc,rd⟩ k;have HC:=al (R8 wr _ W _ hwr v XE.1 (by have:=XE.2;omega) (by omega));have HW:=al (ab hv vQ);clear hwr vQ q1 hv XE hl;go_wp2_with fail;refine HC.out.mono ?_;rintro e w3 ⟨rfl,ho,F',hw,hF'⟩
   have HN:=al (show wH w3 (fun k=>W<=k) W (iM ⟨ra,rb,rc,rd⟩ (k+1))/\Only (fun k=>W<=k) w2 w3 from by
    have hs:=HW.out.2.size;have hWl:=aO H.out.2.1.choose_spec.1;refine⟨?_,HW.out.2.trans ho (fun _ _ h=>h)⟩;rw[show iM ⟨ra,rb,rc,rd⟩ (k+1)=iM ⟨ra,rb,rc,rd⟩ k++oL (oV v) by rw[iM,HW.out.1]];obtain⟨v',g1,g2,g3,g4⟩:=hw
    exact⟨v',g1,aq _,g3,fun g hg=>by rcases hF' g (g4 g hg)with h|h<;>omega⟩)
   clear ho hw hF' z0;go_wp2_with fail;go_roundw
   case rel=>exact⟨k+1,by omega,by go_num,HN.out.1,HN.out.2⟩
   case measure=>simp[intOf];omega
  ·obtain rfl:k=4:=by omega
   have HC:=al (ab (Ik wr _ W _ hwr (by have:=uF ⟨ra,rb,rc,rd⟩ 4;omega)) vQ);clear hwr vQ;go_wp2_with fail;refine HC.out.1.mono ?_;rintro e w3 ⟨A,c,rfl,hx,hb⟩;have HX:=al (ab hx hb);clear hx hb;go_wp2_with fail;go_ret
   have hb2:Below w.heap.size w wr:=H.out.1.trans (HC.out.2.aG H.out.1.size (fun k hk h=>by have:=H.out.2.2.2;omega));rw[uE]at HX⊢;refine⟨A,c,by simp,dW HX.out.1 (fun g hg=>by have:=(HX.out.1.lt g hg).1;have:=hb2.size;omega),hb2.trans (HX.out.2.mono hb2.size)⟩
def ma(r:Rw)(k:Nat):Rw:=⟨if 0<k then r.a else 0,if 1<k then r.b else 0,if 2<k then r.c else 0,if 3<k then r.d else 0⟩
theorem Lx(r:Rw){k:Nat}(hk:k<4):(#[.int .i64 (ma r k).a,.int .i64 (ma r k).b,.int .i64 (ma r k).c,.int .i64 (ma r k).d]:Array Value).setIfInBounds k (.int .i64 (r.aK k))= #[.int .i64 (ma r (k+1)).a,.int .i64 (ma r (k+1)).b,.int .i64 (ma r (k+1)).c,.int .i64 (ma r (k+1)).d]:=by
 match k,hk with
 |0,_|1,_|2,_|3,_=>simp[ma,Rw.aK]
theorem IE(w:World)(v:Value)(r:Rw)(F:Nat->Prop)(hr: ∀c,I6 (r.aK c))(hv:Rd w F v ((fH r).map B8)):
  Calls Tryz.prog 90 #[v] w fun e w'=>e=.returned (.tuple #[r.val,.int .i64 0])/\Below w.heap.size w w':=by
 have hb0:=af w (.cells #[.int .i64 0,.int .i64 0,.int .i64 0,.int .i64 0] 26);have k0:=an w (.cells #[.int .i64 0,.int .i64 0,.int .i64 0,.int .i64 0] 26);have HR:=al hr;have hv1:=hv.below hb0;obtain⟨A,n,c,rfl,_⟩:=id hv;clear hr hv;go_enter Tryz.func90,Tryz.ntmps90;go_upto_region 1 with fail;generalize w.alloc (.cells #[.int .i64 0,.int .i64 0,.int .i64 0,.int .i64 0] 26)=w1 at hb0 k0 hv1⊢;obtain⟨R,hR⟩: ∃x,w.heap.size=x:=⟨_,rfl⟩;rw[hR]at k0⊢;have HC:=al (OQ w1 F _ (fH r) hv1 (by have:=ql r;omega));have H1:=al (ab hb0 (ab k0 hR));clear hb0 k0 hR hv1;go_wp2_with fail;refine HC.out.mono ?_;rintro e w2 ⟨b,rfl,hb2,kj⟩;have hb3:=af w2 (.cells #[.int .i64 0,.int .i64 0,.int .i64 0,.int .i64 0] 26);have k3:=an w2 (.cells #[.int .i64 0,.int .i64 0,.int .i64 0,.int .i64 0] 26)
 have H2:=al (show Below w.heap.size w (w2.alloc (.cells #[.int .i64 0,.int .i64 0,.int .i64 0,.int .i64 0] 26))/\cX (w2.alloc (.cells #[.int .i64 0,.int .i64 0,.int .i64 0,.int .i64 0] 26)) (fun k=>R<k/\k<w2.heap.size) b (fH r) 0/\
   (w2.alloc (.cells #[.int .i64 0,.int .i64 0,.int .i64 0,.int .i64 0] 26)).heap[R]?=some (.cells #[.int .i64 0,.int .i64 0,.int .i64 0,.int .i64 0] 26 (0,0))/\R<w2.heap.size/\w.heap.size<=R from by
  have Xp:=aO H1.out.2.1;obtain⟨v',g1,g2,g3,g4,g5⟩:=kj.bound
  exact⟨(H1.out.1.trans (hb2.mono H1.out.1.size)).trans (hb3.mono (de H1.out.1.size hb2.size)),(show cX w2 (fun k=>R<k/\k<w2.heap.size) b (fH r) 0 from⟨v',g1,⟨by omega,g2.2⟩,g3,g4,fun g hg=>⟨⟨by have:=(g5 g hg).1.1;omega,(g5 g hg).1.2⟩,(g5 g hg).2⟩⟩).below hb3,
   pw (hb2.trans (hb3.mono hb2.size)) H1.out.2.1,by have:=hb2.size;omega,by have:=H1.out.2.2;omega⟩)
 clear hb2 kj hb3 HC;go_upto_region 4 with fail;generalize w2.alloc (.cells #[.int .i64 0,.int .i64 0,.int .i64 0,.int .i64 0] 26)=w3 at H2 k3⊢;obtain⟨B,hB⟩: ∃x,w2.heap.size=x:=⟨_,rfl⟩;rw[hB]at H2 k3⊢;have H3:=al k3;clear hB k3 H1;go_wp2_with fail
 go_loopw [14] (fun i wr=> ∃k:Nat,k<=4/\i=.int .i64 (k:Int)/\cX wr (fun k=>R<k/\k<B) b (fH r) (iM r k).length/\Only (fun k=>R<k) w3 wr/\
   wr.heap[B]?=some (.cells #[.int .i64 (ma r k).a,.int .i64 (ma r k).b,.int .i64 (ma r k).c,.int .i64 (ma r k).d] 26 (0,0))) (fun i _=>4-(intOf i).toNat)
 case atStart=>exact⟨0,by decide,rfl,H2.out.2.1,oB _ _,H3.out⟩
 case round=>
  obtain⟨k,hk,rfl,kj,vQ,mO⟩:=hrel;have Y2:b<B:=by obtain⟨v',g1,g2,_⟩:=kj;exact g2.2
  have hbR:R<b:=by obtain⟨v',g1,g2,_⟩:=kj;exact g2.1
  by_cases hlt:k<4
  ·have HC:=al (R9 wr _ b _ _ kj);have HW:=al (ab vQ mO);have i1:(0:Int)<=(k:Int):=by omega
   have i2:(k:Int)<4:=by omega
   obtain⟨v,hv⟩: ∃v,r.aK k=v:=⟨_,rfl⟩;have HV:=al hv;clear kj vQ mO hv;go_wp2_with fail;refine HC.out.mono ?_;rintro e w4 ⟨ho,hm⟩;obtain⟨rest,e1,e2⟩:=ID r hlt;have hd:(fH r).drop (iM r k).length=oL (oV (r.aK k))++rest:=by rw[e1,List.drop_left]
   rw[hd,OW (HR.out k),HV.out]at hm;obtain⟨rfl,p',hp1,hp2,hr4⟩:=hm
   have hp:p'=(iM r (k+1)).length:=by
    have hpl:p'<=(fH r).length:=by obtain⟨_,_,_,h,_⟩:=hr4;exact h
    have h1:=eL List.length hp1;have h2:=eL List.length e2;rw[my]at h1;rw[gk]at h2;omega
   subst hp;have k4:=ho.heap HW.out.2 (fun e=>by omega);have z0:=bw (r:=ma r k) k4 hlt;have z1:=Lu k4 k
   have H4:=al (show cX (w4.setCell ⟨B,k,none⟩ (.int .i64 v)) (fun k=>R<k/\k<B) b (fH r) (iM r (k+1)).length/\Only (fun k=>R<k) w3 (w4.setCell ⟨B,k,none⟩ (.int .i64 v))/\
     (w4.setCell ⟨B,k,none⟩ (.int .i64 v)).heap[B]?=some (.cells #[.int .i64 (ma r (k+1)).a,.int .i64 (ma r (k+1)).b,.int .i64 (ma r (k+1)).c,.int .i64 (ma r (k+1)).d] 26 (0,0))from by
    refine⟨hr4.only (aT w4 B k _) (fun j hj e=>by omega),(HW.out.1.trans (ho.mono (fun j _ hj=>by subst hj;exact hbR)) (fun _ _ h=>h)).trans (aT w4 B k _) (fun j _ hj=>by omega),?_⟩
    rw[heap_setCell_same w4 B k _ _ (.int .i64 v) k4,<-HV.out,Lx r hlt])
   clear ho hd e1 e2 hp1 hp2 hr4 k4 HC HW HV;go_wp2_with fail;go_roundw
   case rel=>exact⟨k+1,by omega,by go_num,H4.out⟩
   case measure=>simp[intOf];omega
  ·obtain rfl:k=4:=by omega
   have HC:=al (OP wr _ b _ _ kj);have HW:=al (ab vQ mO);have hl0:(fH r).length-(iM r 4).length=0:=by rw[uE];omega
   rw[hl0]at HC;clear kj vQ mO hl0;go_wp2_with fail;refine HC.out.mono ?_;rintro e w4 ⟨rfl,ho⟩;have k4:=ho.heap HW.out.2 (fun h=>h);have kR:=ho.heap (HW.out.1.heap H2.out.2.2.1 (fun e=>by omega)) (fun h=>h);simp only[ma,show(0:Nat)<4 by decide,show(1:Nat)<4 by decide,show(2:Nat)<4 by decide,show(3:Nat)<4 by decide,if_true]at k4;obtain⟨⟨x0,x1,x2,x3⟩,-⟩:=ct k4;obtain⟨⟨z0,z1,z2,z3⟩,y0,y1,y2,y3⟩:=ct kR;obtain⟨ra,rb,rc,rd⟩:=r;have hne: ¬B=R:=by omega
   have H6:=al (ab kR (show Only (fun k=>R<k) w3 w4 from HW.out.1.trans ho (fun _ _ h=>h.elim)));clear k4 kR ho HC HW;go_wp2_with fail;have sZ:=rU (v0:=.int .i64 ra) (v1:=.int .i64 rb) (v2:=.int .i64 rc) (v3:=.int .i64 rd) H6.out.1;have ho:=(((aT w4 R 0 (.int .i64 ra)).setCell (p:=⟨R,1,none⟩) (fun _=>rfl) (.int .i64 rb)).setCell (p:=⟨R,2,none⟩) (fun _=>rfl) (.int .i64 rc)).setCell (p:=⟨R,3,none⟩) (fun _=>rfl) (.int .i64 rd);have HO:=al (ab sZ ho);clear sZ ho;generalize ((((w4.setCell ⟨R,0,none⟩ (.int .i64 ra)).setCell ⟨R,1,none⟩ (.int .i64 rb)).setCell ⟨R,2,none⟩ (.int .i64 rc)).setCell ⟨R,3,none⟩ (.int .i64 rd))=w7 at HO⊢;refine dq (aC rfl _ _ _ _ _ _ _ rfl HO.out.1 Tryz.underlying26 rfl (by kernel_rfl)) rfl ⟨rfl,?_⟩;exact H2.out.1.trans (((H6.out.2.mono (T:=fun k=>R<=k) (fun k _ h=>by omega)).trans (HO.out.2.mono (T:=fun k=>R<=k) (fun k _ h=>by omega)) (fun _ _ h=>h)).aG H2.out.1.size (fun k hk h=>by have:=H2.out.2.2.2.2;omega))
end Go.Proofs.YtagemonojdgbdaaGreatDoor
