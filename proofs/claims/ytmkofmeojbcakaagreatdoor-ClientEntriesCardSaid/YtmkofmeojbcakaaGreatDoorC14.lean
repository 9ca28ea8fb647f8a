import Derived.Test.YtmkofmeojbcakaaGreatDoorC12
import Derived.Lib.BufferRead
import Derived.WalkSmall
namespace Go.Proofs.YtmkofmeojbcakaaGreatDoor
open Go.Proofs.Tryz
set_option maxRecDepth 100000
set_option maxHeartbeats 16000000
open Go.RowKit
theorem RF(w:World)(F:Nat->Prop)(b:Nat)(all:List UInt8)(pos p0:Nat)(h:dC w F b all pos)(hp:p0<=all.length):
  Calls prog 192 #[.agg #[.pointer (some ⟨b,0,none⟩),.int .i64 p0]] w fun e w'=>e=.returned (.tuple #[])/\Only (fun k=>k=b) w w'/\dC w' F b all p0:=by
 have H:=al h;obtain⟨A,c,hc0,hc1,F6,hb,hpl,hcl,hcm,_⟩:=h.at_;have hw1:=aC hc1 (.cells #[.pointer (some ⟨b,0,none⟩),.int .i64 p0] 302);have hz1:(w.alloc (.cells #[.pointer (some ⟨b,0,none⟩),.int .i64 p0] 302)).frozen? ⟨b,1,none⟩=false:=(World.frozen?_of_block (Below.heap_alloc w _ b hb)).x F6;clear h hc0 hc1 F6;go_enter func192,ntmps192;go_wp2
 go_end0
 refine⟨rfl,?_,?_⟩
 ·exact(Only.setCell (ox (fun k=>k=b) w) (p:=⟨b,1,none⟩) (fun _=>rfl) _).alloc _
 ·exact(H.o.set p0 hp).below ((aw _ _).alloc (aE _) _)
theorem RG(w:World)(F:Nat->Prop)(b:Nat)(all:List UInt8)(pos:Nat)(h:dC w F b all pos):
  Calls prog 117 #[.pointer (some ⟨b,0,none⟩)] w fun e w'=>e=.returned (.int .i64 ((all.length-pos:Nat):Int))/\Only (fun _=>False) w w':=by
 obtain⟨A,c,hc0,hc1,F6,hb,hpl,hcl,hcm,_⟩:=h.at_;unfold maxLen at hcm;clear h;go_enter func117,ntmps117;go_wp2;go_quiet(fail);go_wp2;go_ret
 exact⟨by simp;omega,(ox _ _).drewN _⟩
theorem BS{P:Program}{w:World}{F:Nat->Prop}{A:Option Addr}{n c:Nat}{xs:List UInt8}(src dst e:TypeId)(hs:P.underlying src=some (.slice e))(he:P.underlying e=some (.int .u8))(hd:P.underlying dst=some .string)
  (h:Rd w F (.slice A n c) (xs.map B8)):(convert src dst (.slice A n c)).run P w=.ok (.string ⟨xs.toArray⟩) w:=by
 have hcells:=h.cells rfl;obtain⟨A',n',c',hv,hl,hc,hm,hx⟩:=h;injection hv with e1 e2 e3;subst e1 e2 e3;simp only[fa]at hl;subst hl;rcases A with _|a
 ·have:xs=[]:=by
   rcases Nat.eq_zero_or_pos xs.length with h0|h0
   ·exact dj h0
   ·obtain⟨_,_,h,_⟩:=hx h0;cases h
  subst this;exact Lib.run_convert_nil_bytes w src dst e c hs he hd
 ·exact run_convert_bytes_back w src dst e a c xs hs he hd (fun j hj=>hcells a rfl j _ (by simp[hj,B8]))
theorem RH(w:World)(F:Nat->Prop)(v:Value)(all:List UInt8)(hr:Rd w F v (all.map B8))(hl:all.length<=140737488355328):
  Calls prog 115 #[v] w fun e w'=> ∃b,e=.returned (.pointer (some ⟨b,0,none⟩))/\Below w.heap.size w w'/\dC w' (fun k=>w.heap.size<=k) b all 0:=by
 obtain⟨A,n,c,rfl,_⟩:=id hr;have HR:=al hr;clear hr;go_enter func115,ntmps115;go_wp2_with fail;refine(lK _ _ F _ HR.o (vX all) (by simpa using hl)).m ?_;rintro e w1 ⟨Ax,cx,rfl,hx,hbl⟩;rw[fa]at hx⊢;have HX:=al (ab hx hbl);clear hx hbl;go_wp2_with fail;go_ret
 have hsz:=HX.o.2.size;refine⟨w1.heap.size,rfl,HX.o.2.alloc hsz _,.slice Ax all.length cx,an _ _,hsz,dq _,dM (HX.o.1.alloc _) (fun _ _=>dq _),fun g hg=>⟨(HX.o.1.lt g hg).1,?_⟩⟩;have:=(HX.o.1.lt g hg).2;omega
def oY(n:Int):Nat:=if n<0 then 2*(-1-n).toNat+1 else 2*n.toNat
def T5(n:Nat):Int:=if n%2=1 then -1-((n/2:Nat):Int)else((n/2:Nat):Int)
theorem RI(n:Int):T5 (oY n)=n:=by unfold T5 oY;split<;>split<;>omega
theorem Nr{n:Int}(h1: -9223372036854775808<=n)(h2:n<=9223372036854775807):oY n<18446744073709551616:=by unfold oY;split<;>omega
def Qs(bs:List UInt8):Option (Int×List UInt8):=(yH 0 0 bs).map fun x=>(T5 x.1,x.2)
theorem Ns(w:World)(F:Nat->Prop)(b:Nat)(bs:List UInt8)(h:nM w F b bs)(n:Int)(h1: -9223372036854775808<=n)(h2:n<=9223372036854775807)(hlen:bs.length<=1000000000):
  Calls prog 31 #[.pointer (some ⟨b,0,none⟩),.int .i64 n] w (F7 0 F b (bs++lQ (oY n)) w):=by
 have H:=al h;have hz:=Nr h1 h2;clear h;by_cases hn:n<0
 focus
  have hg:=pS w F b bs H.o (oY n) hz hlen;have e:((oY n:Nat):Int)=2*(-1-n)+1:=by unfold oY;rw[fi hn];omega
 rotate_left
 focus
  have hg:=pS w F b bs H.o (oY n) hz hlen;have e:((oY n:Nat):Int)=2*n:=by unfold oY;rw[ff hn];omega
 all_goals
  rw[e]at hg;have HG:=al hg;clear hg hz e;go_enter func31,ntmps31;go_wp2_with fail;refine HG.o.m ?_;rintro e w1 ⟨rfl,ho,F',hw,hF'⟩;go_wp2_with fail;go_ret
  exact⟨rfl,ho,F',hw,hF'⟩
def aba(F:Nat->Prop)(b:Nat)(all:List UInt8)(pos:Nat)(w:World)(e:Ending)(w':World):Prop:=
 Only (fun k=>k=b) w w'/\match Qs (all.drop pos)with
  |some (n,rest)=>e=.returned (.tuple #[.int .i64 n,.int .i64 0])/\ ∃p',rest=all.drop p'/\pos<=p'/\dC w' F b all p'
  |none=>e=.returned (.tuple #[.int .i64 0,.int .i64 11])/\ ∃p',dC w' F b all p'
theorem KS(w:World)(F:Nat->Prop)(b:Nat)(all:List UInt8)(pos:Nat)(h:dC w F b all pos):
  Calls prog 145 #[.pointer (some ⟨b,0,none⟩)] w (aba F b all pos w):=by
 have H:=al h;clear h;go_enter func145,ntmps145;go_wp2_with fail;refine(F8 w F b all pos H.o).m ?_;rintro e w1 ⟨ho,hm⟩
 cases hg:yH 0 0 (all.drop pos)with
 |none=>
  rw[hg]at hm;obtain⟨rfl,p',hr⟩:=hm;have HU:=al (show Qs (all.drop pos)=none by simp[Qs,hg]);clear hg;go_wp2_with fail
  go_ret2
  refine⟨ho,?_⟩;rw[HU.o];exact⟨rfl,p',hr⟩
 |some x=>
  obtain⟨n,rest⟩:=x;rw[hg]at hm;obtain⟨rfl,p',hrest,Xn,hr⟩:=hm
  have hn:n<18446744073709551616:=by obtain⟨m,hm,_,hlt,_⟩:=Rs _ 0 0 n rest (by omega) hg;simp at hm hlt;omega
  have HU:=al (ab (show Qs (all.drop pos)=some (T5 n,rest) by simp[Qs,hg]) hrest);have ha:=and_one_u64 (n:Int) (by omega) (by omega);clear hg hrest;by_cases RJ:n%2=1
  ·have dY:(n:Int)%2=1:=by omega
   have HZ:=al (show T5 n= -1-(n:Int)/2 by unfold T5;rw[fi RJ];omega);clear RJ;go_wp2_with fail
   go_ret2
   refine⟨ho,?_⟩;rw[HU.o.1];refine⟨?_,p',HU.o.2,Xn,hr⟩;rw[HZ.o];rfl
  ·have dY:((n:Int)%2==1)=false:=by simp;omega
   have HZ:=al (show T5 n=(n:Int)/2 by unfold T5;rw[ff RJ];omega);clear RJ;go_wp2_with fail
   go_ret2
   refine⟨ho,?_⟩;rw[HU.o.1];refine⟨?_,p',HU.o.2,Xn,hr⟩;rw[HZ.o];rfl
def YL(F:Nat->Prop)(b:Nat)(all:List UInt8)(pos:Nat)(w:World)(e:Ending)(w':World):Prop:=
 Only (fun k=>k=b) w w'/\match Qs (all.drop pos)with
  |some (n,rest)=>e=.returned (.tuple #[.int .i64 n,.int .i64 0])/\ ∃p',rest=all.drop p'/\pos<=p'/\dC w' F b all p'
  |none=>e=.returned (.tuple #[.int .i64 0,.int .i64 11])/\dC w' F b all pos
theorem Nt(w:World)(F:Nat->Prop)(b:Nat)(all:List UInt8)(pos:Nat)(h:dC w F b all pos):
  Calls prog 144 #[.pointer (some ⟨b,0,none⟩),.func (.func 145) #[.pointer (some ⟨b,0,none⟩)] #[]] w (YL F b all pos w):=by
 have H:=al h;obtain⟨A,c,hc0,hc1,F6,hb,hpl,hcl,hcm,_⟩:=h.at_;clear h hc0 F6;go_enter func144,ntmps144;go_wp2_with fail;refine(KS w F b all pos H.o).m ?_;rintro e w1 ⟨ho,hm⟩
 cases hg:Qs (all.drop pos)with
 |none=>
  rw[hg]at hm;obtain⟨rfl,p',hr⟩:=hm;have HG:=al (ab hg ho);clear hg ho;go_wp2_with fail;refine(RF w1 F b all p' pos hr hpl).m ?_;rintro e w2 ⟨rfl,dY,hr2⟩;have HR:=al (ab dY hr2);clear dY hr2;go_wp2_with fail
  go_ret2
  refine⟨HG.o.2.x HR.o.1 (fun _ _ h=>h),?_⟩;rw[HG.o.1];exact⟨rfl,HR.o.2⟩
 |some x=>
  obtain⟨n,rest⟩:=x;rw[hg]at hm;obtain⟨rfl,p',hrest,Xn,hr⟩:=hm;have HG:=al (ab hg (ab ho hrest));clear hg ho hrest;go_wp2_with fail
  go_ret2
  refine⟨HG.o.2.1,?_⟩;rw[HG.o.1];exact⟨rfl,p',HG.o.d,Xn,hr⟩
theorem Vp(w:World)(F:Nat->Prop)(b:Nat)(all:List UInt8)(pos:Nat)(h:dC w F b all pos):
  Calls prog 116 #[.pointer (some ⟨b,0,none⟩)] w (YL F b all pos w):=by
 have H:=al h;clear h;go_enter func116,ntmps116;go_wp2_with fail;refine(Nt w F b all pos H.o).m ?_;rintro e w1 hP;have HP:=al hP;obtain⟨ho,hm⟩:=hP
 cases hg:Qs (all.drop pos)with
 |none=>
  rw[hg]at hm;obtain⟨rfl,hr⟩:=hm;clear hg;go_wp2_with fail
  go_ret2
  exact HP.o
 |some x=>
  obtain⟨n,rest⟩:=x;rw[hg]at hm;obtain⟨rfl,_⟩:=hm;clear hg;go_wp2_with fail
  go_ret2
  exact HP.o
def fT(r:Rw):List UInt8:=lQ (oY r.a)++lQ (oY r.b)++lQ (oY r.c)++lQ (oY r.d)
theorem rP(r:Rw):(fT r).length<=40:=by have h1:=dv (oY r.a);have h2:=dv (oY r.b);have h3:=dv (oY r.c);have h4:=dv (oY r.d);unfold fT;simp only[fb];omega
def jw{α:Type}(f:Nat->α)(i:Nat)(v:α):Nat->α:=fun j=>if j=i then v else f j
theorem fD{α:Type}(f:Nat->α)(i:Nat)(v:α):jw f i v i=v:=fi rfl
theorem fE{α:Type}(f:Nat->α){i j:Nat}(v:α)(h:j≠i):jw f i v j=f j:=ff h
structure Ch where
 aM:Nat
 v:Int
 k:List UInt8
 add:Bool
def Mh(k:List UInt8)(old now:Option Rw)(c:Nat):List Ch:=
 match old,now with
 |some o,some n=>if o.aM c=n.aM c then[]else[⟨c,o.aM c,k,false⟩,⟨c,n.aM c,k,true⟩]
 |some o,none=>[⟨c,o.aM c,k,false⟩]
 |none,some n=>[⟨c,n.aM c,k,true⟩]
 |none,none=>[]
def ja(k:List UInt8)(old now:Option Rw):Nat->List Ch
 |0=>[]
 |c+1=>ja k old now c++Mh k old now c
def Nu(k:List UInt8)(old now:Option Rw):List Ch:=ja k old now 4
theorem vE(k:List UInt8)(old now:Option Rw)(c:Nat):(Mh k old now c).length<=2:=by unfold Mh;cases old<;>cases now<;>simp;split<;>simp
theorem rQ(k:List UInt8)(old now:Option Rw): ∀c,(ja k old now c).length<=2*c
 |0=>by simp[ja]
 |c+1=>by have h1:=rQ k old now c;have h2:=vE k old now c;simp only[ja,fb];omega
theorem RM{k:List UInt8}{old now:Option Rw}{c:Nat}{x:Ch}(h:x∈Mh k old now c):x.aM=c/\x.k=k:=by
 unfold Mh at h;split at h
 ·split at h
  ·simp at h
  ·simp only[List.mem_cons,List.not_mem_nil,or_false]at h;rcases h with rfl|rfl<;>exact⟨rfl,rfl⟩
 ·simp only[List.mem_cons,List.not_mem_nil,or_false]at h;subst h;exact⟨rfl,rfl⟩
 ·simp only[List.mem_cons,List.not_mem_nil,or_false]at h;subst h;exact⟨rfl,rfl⟩
 ·simp at h
theorem Je{k:List UInt8}{old now:Option Rw}{x:Ch}: ∀{c:Nat},x∈ja k old now c->x.aM<c/\x.k=k
 |0,h=>by simp[ja]at h
 |c+1,h=>by
  rcases dy.1 h with h|h
  ·have:=Je h;exact⟨by omega,this.2⟩
  ·have:=RM h;exact⟨by omega,this.2⟩
theorem RN{k:List UInt8}{old now:Option Rw}{c:Nat}{x:Ch}(ho: ∀r,old=some r-> ∀c,I6 (r.aM c))(hn: ∀r,now=some r-> ∀c,I6 (r.aM c))(h:x∈Mh k old now c):I6 x.v:=by
 unfold Mh at h;split at h
 ·split at h
  ·simp at h
  ·simp only[List.mem_cons,List.not_mem_nil,or_false]at h;rcases h with rfl|rfl
   ·exact ho _ rfl _
   ·exact hn _ rfl _
 ·simp only[List.mem_cons,List.not_mem_nil,or_false]at h;subst h;exact ho _ rfl _
 ·simp only[List.mem_cons,List.not_mem_nil,or_false]at h;subst h;exact hn _ rfl _
 ·simp at h
theorem Jf{k:List UInt8}{old now:Option Rw}{x:Ch}(ho: ∀r,old=some r-> ∀c,I6 (r.aM c))(hn: ∀r,now=some r-> ∀c,I6 (r.aM c)): ∀{c:Nat},x∈ja k old now c->I6 x.v
 |0,h=>by simp[ja]at h
 |c+1,h=>by
  rcases dy.1 h with h|h
  ·exact Jf ho hn h
  ·exact RN ho hn h
def ixC(k:List UInt8)(old now:Option Rw)(c:Nat)(l:List Pr):List Pr:=
 match old,now with
 |some o,some n=>if o.aM c=n.aM c then l else bP (dP (n.aM c) k,[]) (fG (dP (o.aM c) k) l)
 |some o,none=>fG (dP (o.aM c) k) l
 |none,some n=>bP (dP (n.aM c) k,[]) l
 |none,none=>l
def lu(ls:Nat->List Pr)(x:Ch):Nat->List Pr:=jw ls (x.aM+1) (if x.add then ins (dP x.v x.k,[]) (ls (x.aM+1))else del (dP x.v x.k) (ls (x.aM+1)))
theorem Vq(k:List UInt8)(old now:Option Rw)(c:Nat)(ls:Nat->List Pr):(Mh k old now c).foldl lu ls=jw ls (c+1) (ixC k old now c (ls (c+1))):=by
 have h0: ∀v:List Pr,v=ls (c+1)->ls=jw ls (c+1) v:=by
  rintro v rfl
  funext j
  unfold jw;split
  ·rename_i h;rw[h]
  ·rfl
 unfold Mh ixC;split
 ·split
  ·rename_i h;simp only[List.foldl_nil];exact h0 _ rfl
  ·rename_i h;simp only[List.foldl_cons,List.foldl_nil,lu,if_true,nh,if_false]
   funext j
   unfold jw;split
   ·rename_i e;rw[fi rfl,oO,del_eq]
   ·rfl
 ·simp only[List.foldl_cons,List.foldl_nil,lu,nh,if_false,del_eq]
 ·simp only[List.foldl_cons,List.foldl_nil,lu,if_true,oO]
 ·simp only[List.foldl_nil];exact h0 _ rfl
theorem Nv(k:List UInt8)(old now:Option Rw)(ls:Nat->List Pr): ∀c,(ja k old now c).foldl lu ls=fun i=>if 1<=i/\i<=c then ixC k old now (i-1) (ls i)else ls i
 |0=>by
  funext i
  simp only[ja,List.foldl_nil];rw[ff (by omega)]
 |c+1=>by
  rw[ja,List.foldl_append,Nv k old now ls c,Vq]
  funext i
  unfold jw;by_cases h:i=c+1
  ·subst h;rw[fi rfl,ff (show ¬(1<=c+1/\c+1<=c) by omega),fi (show 1<=c+1/\c+1<=c+1 by omega)];rfl
  ·rw[ff h];show(if 1<=i/\i<=c then _ else _)=_;by_cases h1:1<=i/\i<=c
   ·rw[fi h1,fi ⟨h1.1,by omega⟩]
   ·rw[ff h1,ff (by omega)]
theorem lT{α:Type}(p:List UInt8×α): ∀l:List (List UInt8×α),(bP p l).length<=l.length+1
 |[]=>by simp[bP]
 |q::l=>by
  have:=lT p l;simp only[bP];split
  ·simp only[fm];omega
  ·split
   ·simp only[fm];omega
   ·simp only[fm];omega
theorem uD{α:Type}(k:List UInt8): ∀l:List (List UInt8×α),(fG k l).length<=l.length
 |[]=>by simp[fG]
 |q::l=>by
  have:=uD k l;simp only[fG];split
  ·simp only[fm];omega
  ·split
   ·simp only[fm];omega
   ·simp only[fm];omega
theorem Nw(ls:Nat->List Pr)(x:Ch)(i n:Nat)(h:(ls i).length<=n):(lu ls x i).length<=n+1:=by
 unfold lu jw;split
 ·rename_i e;subst e;split
  ·rw[oO];have:=lT (dP x.v x.k,([]:List UInt8)) (ls (x.aM+1));omega
  ·rw[del_eq];have:=uD (dP x.v x.k) (ls (x.aM+1));omega
 ·omega
theorem xG(i:Nat): ∀(xs:List Ch) (ls:Nat->List Pr) (n:Nat),(ls i).length<=n->(xs.foldl lu ls i).length<=n+xs.length
 |[],ls,n,h=>by simpa using h
 |x::xs,ls,n,h=>by have:=xG i xs (lu ls x) (n+1) (Nw ls x i n h);simp only[List.foldl_cons,fm];omega
def iC(l:ax)(i:Nat):List Pr:=if i=0 then l.map (Dd fT)else sW (i-1) l
theorem DT{l:ax}{k:List UInt8}{r:Rw}(h:fc l)(hf:RowsFit l)(hr: ∀c,I6 (r.aM c))(i:Nat)(hi:i<5):
  (Nu k (au k l) (some r)).foldl lu (jw (iC l) 0 (ins (k,fT r) (iC l 0))) i=iC (bP (k,r) l) i:=by
 unfold Nu;rw[Nv];show(if 1<=i/\i<=4 then _ else _)=_;by_cases h0:i=0
 ·subst h0;rw[ff (by omega),fD];show ins (Dd fT (k,r)) (l.map (Dd fT))=_;rw[IM];rfl
 ·rw[fi ⟨by omega,by omega⟩,fE _ _ h0];unfold iC;rw[ff h0,ff h0];unfold ixC
  cases hl:au k l with
  |none=>simp only;exact MP (p:=(k,r)) h hf hr hl
  |some o=>
   simp only;split
   ·rename_i e;exact QU h hf hr hl e
   ·exact IQ h hf hr hl
theorem kI{l:ax}(h:fc l)(hf:RowsFit l)(i:Nat):(iC l i).length=l.length:=by
 unfold iC;split
 ·rw[fa]
 ·exact IP h hf
def jk(r:Rw):Nat->List UInt8
 |0=>[]
 |c+1=>jk r c++lQ (oY (r.aM c))
theorem xH(r:Rw):jk r 4=fT r:=by simp[jk,fT,Rw.aM]
theorem xI(r:Rw): ∀k,(jk r k).length<=10*k
 |0=>by simp[jk]
 |k+1=>by have h1:=xI r k;have h2:=dv (oY (r.aM k));simp only[jk,fb];omega
theorem KT(r:Rw){k:Nat}(hk:k<4): ∃rest,fT r=jk r k++(lQ (oY (r.aM k))++rest)/\fT r=jk r (k+1)++rest:=by
 rw[<-xH]
 match k,hk with
 |0,_=>exact⟨lQ (oY (r.aM 1))++lQ (oY (r.aM 2))++lQ (oY (r.aM 3)),by simp[jk],by simp[jk]⟩
 |1,_=>exact⟨lQ (oY (r.aM 2))++lQ (oY (r.aM 3)),by simp[jk],by simp[jk]⟩
 |2,_=>exact⟨lQ (oY (r.aM 3)),by simp[jk],by simp[jk]⟩
 |3,_=>exact⟨[],by simp[jk],by simp[jk]⟩
theorem RO{n:Int}(h:I6 n)(rest:List UInt8):Qs (lQ (oY n)++rest)=some (n,rest):=by have h1:=Nr h.1 (by have:=h.2;omega);have:=Rq 9 0 0 (oY n) rest rfl (by simpa using h1) (.inl rfl);unfold Qs lQ;rw[this];simp[RI]
theorem eA{w:World}{R:Nat}{r:Rw}{t:TypeId}(h:w.heap[R]?=some (.cells #[.int .i64 r.a,.int .i64 r.b,.int .i64 r.c,.int .i64 r.d] t (0,0))){k:Nat}(hk:k<4):w.cell? ⟨R,k,none⟩=some (.int .i64 (r.aM k)):=by
 match k,hk with
 |0,_|1,_|2,_|3,_=>simp[World.cell?,h,Rw.aM]
theorem Ny{w:World}{R:Nat}{cs:Array Value}{t:TypeId}(h:w.heap[R]?=some (.cells cs t (0,0)))(k:Nat):w.frozen? ⟨R,k,none⟩=false:=by simp[World.frozen?,h]
theorem Am(w:World)(r:Rw)(hr: ∀c,I6 (r.aM c)):Calls prog 59 #[r.val] w (I3 5 ((fT r).map B8) w):=by
 obtain⟨ra,rb,rc,rd⟩:=r;unfold Rw.val;obtain⟨hb0,k0⟩:=qn w (.cells #[.int .i64 ra,.int .i64 rb,.int .i64 rc,.int .i64 rd] 113);have HR:=al hr;go_enter func59,ntmps59;go_upto_region 1 with fail;generalize w.alloc (.cells #[.int .i64 ra,.int .i64 rb,.int .i64 rc,.int .i64 rd] 113)=w1 at hb0 k0⊢;obtain⟨R,hR⟩:=qt (w.heap.size);rw[hR]at k0⊢;obtain⟨hb1,k1⟩:=qn w1 (.cells #[.slice none 0 0] 102);have Nz:=pt hb1 k0;go_upto_region 2 with fail;generalize w1.alloc (.cells #[.slice none 0 0] 102)=w2 at hb1 k1 Nz⊢;obtain⟨W,hW⟩:=qt (w1.heap.size);rw[hW]at k1⊢;have YM:R<W:=by have:=aQ k0;omega
 have H:=al (show Below w.heap.size w w2/\nM w2 (fun k=>W<=k) W []/\w2.heap[R]?=some (.cells #[.int .i64 ra,.int .i64 rb,.int .i64 rc,.int .i64 rd] 113 (0,0))/\R<W/\w.heap.size<=R from
  ⟨hb0.x (hb1.m hb0.size),⟨_,k1,aE _,ea _ _ _ _,fun g hg=>by simp[Value.ownBlock]at hg⟩,Nz,YM,by omega⟩)
 clear hb0 k0 hR hb1 k1 Nz hW hr YM;go_wp2_with fail
 go_loopw [7] (fun i wr=> ∃k:Nat,k<=4/\i=.int .i64 (k:Int)/\nM wr (fun k=>W<=k) W (jk ⟨ra,rb,rc,rd⟩ k)/\Only (fun k=>W<=k) w2 wr) (fun i _=>4-(intOf i).toNat)
 case atStart=>exact⟨0,by decide,rfl,H.o.2.1,ox _ _⟩
 case round=>
  obtain⟨k,hk,rfl,hwr,qR⟩:=hrel;by_cases hlt:k<4
  ·have q1:=qR.heap H.o.d.1 (fun h=>by have:=H.o.t.1;omega);have z0:=eA (r:=⟨ra,rb,rc,rd⟩) q1 hlt;have i1:(0:Int)<=(k:Int):=by omega
   have i2:(k:Int)<4:=by omega
   obtain⟨v,hv⟩:=qt (Rw.aM ⟨ra,rb,rc,rd⟩ k);have hv6:=HR.o k;rw[hv]at z0 hv6;have hl:=xI ⟨ra,rb,rc,rd⟩ k;have HC:=al (Ns wr _ W _ hwr v hv6.1 (by have:=hv6.2;omega) (by omega));have HW:=al (ab hv qR);clear hwr qR q1 hv hv6 hl;go_wp2_with fail;refine HC.o.m ?_;rintro e w3 ⟨rfl,ho,F',hw,hF'⟩
   have HN:=al (show nM w3 (fun k=>W<=k) W (jk ⟨ra,rb,rc,rd⟩ (k+1))/\Only (fun k=>W<=k) w2 w3 from by
    have hs:=HW.o.2.size;have hWl:=aQ H.o.2.1.choose_spec.1;refine⟨?_,HW.o.2.x ho (fun _ _ h=>h)⟩;rw[show jk ⟨ra,rb,rc,rd⟩ (k+1)=jk ⟨ra,rb,rc,rd⟩ k++lQ (oY v) by rw[jk,HW.o.1]];obtain⟨v',g1,g2,g3,g4⟩:=hw
    exact⟨v',g1,aE _,g3,fun g hg=>by rcases hF' g (g4 g hg)with h|h<;>omega⟩)
   clear ho hw hF' z0;go_wp2_with fail;go_roundw
   case rel=>exact⟨k+1,by omega,by go_num,HN.o.1,HN.o.2⟩
   case measure=>simp[intOf];omega
  ·obtain rfl:k=4:=by omega
   have HC:=al (ab (Ah wr _ W _ hwr (by have:=xI ⟨ra,rb,rc,rd⟩ 4;omega)) qR);clear hwr qR;go_wp2_with fail;refine HC.o.1.m ?_;rintro e w3 ⟨A,c,rfl,hx,hb⟩;have HX:=al (ab hx hb);clear hx hb;go_wp2_with fail;go_ret
   have hb2:Below w.heap.size w wr:=H.o.1.x (HC.o.2.aG H.o.1.size (fun k hk h=>by have:=H.o.t;omega));rw[xH]at HX⊢;refine⟨A,c,by simp,dM HX.o.1 (fun g hg=>by have:=(HX.o.1.lt g hg).1;have:=hb2.size;omega),hb2.x (HX.o.2.m hb2.size)⟩
def nO(r:Rw)(k:Nat):Rw:=⟨if 0<k then r.a else 0,if 1<k then r.b else 0,if 2<k then r.c else 0,if 3<k then r.d else 0⟩
theorem NA(r:Rw){k:Nat}(hk:k<4):(#[.int .i64 (nO r k).a,.int .i64 (nO r k).b,.int .i64 (nO r k).c,.int .i64 (nO r k).d]:Array Value).setIfInBounds k (.int .i64 (r.aM k))= #[.int .i64 (nO r (k+1)).a,.int .i64 (nO r (k+1)).b,.int .i64 (nO r (k+1)).c,.int .i64 (nO r (k+1)).d]:=by
 match k,hk with
 |0,_|1,_|2,_|3,_=>simp[nO,Rw.aM]
theorem KU(w:World)(v:Value)(r:Rw)(F:Nat->Prop)(hr: ∀c,I6 (r.aM c))(hv:Rd w F v ((fT r).map B8)):
  Calls prog 76 #[v] w fun e w'=>e=.returned (.tuple #[r.val,.int .i64 0])/\Below w.heap.size w w':=by
 obtain⟨hb0,k0⟩:=qn w (.cells #[.int .i64 0,.int .i64 0,.int .i64 0,.int .i64 0] 113);have HR:=al hr;have hv1:=hv.below hb0;obtain⟨A,n,c,rfl,_⟩:=id hv;clear hr hv;go_enter func76,ntmps76;go_upto_region 1 with fail;generalize w.alloc (.cells #[.int .i64 0,.int .i64 0,.int .i64 0,.int .i64 0] 113)=w1 at hb0 k0 hv1⊢;obtain⟨R,hR⟩:=qt (w.heap.size);rw[hR]at k0⊢;have HC:=al (RH w1 F _ (fT r) hv1 (by have:=rP r;omega));have H1:=al (ab hb0 (ab k0 hR));clear hb0 k0 hR hv1;go_wp2_with fail;refine HC.o.m ?_;rintro e w2 ⟨b,rfl,hb2,iB⟩;obtain⟨hb3,k3⟩:=qn w2 (.cells #[.int .i64 0,.int .i64 0,.int .i64 0,.int .i64 0] 113)
 have H2:=al (show Below w.heap.size w (w2.alloc (.cells #[.int .i64 0,.int .i64 0,.int .i64 0,.int .i64 0] 113))/\dC (w2.alloc (.cells #[.int .i64 0,.int .i64 0,.int .i64 0,.int .i64 0] 113)) (fun k=>R<k/\k<w2.heap.size) b (fT r) 0/\
   (w2.alloc (.cells #[.int .i64 0,.int .i64 0,.int .i64 0,.int .i64 0] 113)).heap[R]?=some (.cells #[.int .i64 0,.int .i64 0,.int .i64 0,.int .i64 0] 113 (0,0))/\R<w2.heap.size/\w.heap.size<=R from by
  have Fx:=aQ H1.o.2.1;obtain⟨v',g1,g2,g3,g4,g5⟩:=iB.bound
  exact⟨(H1.o.1.x (hb2.m H1.o.1.size)).x (hb3.m (da H1.o.1.size hb2.size)),(show dC w2 (fun k=>R<k/\k<w2.heap.size) b (fT r) 0 from⟨v',g1,⟨by omega,g2.2⟩,g3,g4,fun g hg=>⟨⟨by have:=(g5 g hg).1.1;omega,(g5 g hg).1.2⟩,(g5 g hg).2⟩⟩).below hb3,
   pt (hb2.x (hb3.m hb2.size)) H1.o.2.1,by have:=hb2.size;omega,by have:=H1.o.d;omega⟩)
 clear hb2 iB hb3 HC;go_upto_region 4 with fail;generalize w2.alloc (.cells #[.int .i64 0,.int .i64 0,.int .i64 0,.int .i64 0] 113)=w3 at H2 k3⊢;obtain⟨B,hB⟩:=qt (w2.heap.size);rw[hB]at H2 k3⊢;have H3:=al k3;clear hB k3 H1;go_wp2_with fail
 go_loopw [14] (fun i wr=> ∃k:Nat,k<=4/\i=.int .i64 (k:Int)/\dC wr (fun k=>R<k/\k<B) b (fT r) (jk r k).length/\Only (fun k=>R<k) w3 wr/\
   wr.heap[B]?=some (.cells #[.int .i64 (nO r k).a,.int .i64 (nO r k).b,.int .i64 (nO r k).c,.int .i64 (nO r k).d] 113 (0,0))) (fun i _=>4-(intOf i).toNat)
 case atStart=>exact⟨0,by decide,rfl,H2.o.2.1,ox _ _,H3.o⟩
 case round=>
  obtain⟨k,hk,rfl,iB,qR,oK⟩:=hrel;have hbB:b<B:=by obtain⟨v',g1,g2,_⟩:=iB;exact g2.2
  have hbR:R<b:=by obtain⟨v',g1,g2,_⟩:=iB;exact g2.1
  by_cases hlt:k<4
  ·have HC:=al (Vp wr _ b _ _ iB);have HW:=al (ab qR oK);have i1:(0:Int)<=(k:Int):=by omega
   have i2:(k:Int)<4:=by omega
   obtain⟨v,hv⟩:=qt (r.aM k);have HV:=al hv;clear iB qR oK hv;go_wp2_with fail;refine HC.o.m ?_;rintro e w4 ⟨ho,hm⟩;obtain⟨rest,e1,e2⟩:=KT r hlt;have hd:(fT r).drop (jk r k).length=lQ (oY (r.aM k))++rest:=by rw[e1,List.drop_left]
   rw[hd,RO (HR.o k),HV.o]at hm;obtain⟨rfl,p',hp1,hp2,hr4⟩:=hm
   have hp:p'=(jk r (k+1)).length:=by
    have hpl:p'<=(fT r).length:=by obtain⟨_,_,_,h,_⟩:=hr4;exact h
    have h1:=eM List.length hp1;have h2:=eM List.length e2;rw[mT]at h1;rw[fb]at h2;omega
   subst hp;have k4:=ho.heap HW.o.2 (fun e=>by omega);have z0:=eA (r:=nO r k) k4 hlt;have z1:=Ny k4 k
   have H4:=al (show dC (w4.setCell ⟨B,k,none⟩ (.int .i64 v)) (fun k=>R<k/\k<B) b (fT r) (jk r (k+1)).length/\Only (fun k=>R<k) w3 (w4.setCell ⟨B,k,none⟩ (.int .i64 v))/\
     (w4.setCell ⟨B,k,none⟩ (.int .i64 v)).heap[B]?=some (.cells #[.int .i64 (nO r (k+1)).a,.int .i64 (nO r (k+1)).b,.int .i64 (nO r (k+1)).c,.int .i64 (nO r (k+1)).d] 113 (0,0))from by
    refine⟨hr4.only (bj w4 B k _) (fun j hj e=>by omega),(HW.o.1.x (ho.m (fun j _ hj=>by subst hj;exact hbR)) (fun _ _ h=>h)).x (bj w4 B k _) (fun j _ hj=>by omega),?_⟩
    rw[heap_setCell_same w4 B k _ _ (.int .i64 v) k4,<-HV.o,NA r hlt])
   clear ho hd e1 e2 hp1 hp2 hr4 k4 HC HW HV;go_wp2_with fail;go_roundw
   case rel=>exact⟨k+1,by omega,by go_num,H4.o⟩
   case measure=>simp[intOf];omega
  ·obtain rfl:k=4:=by omega
   have HC:=al (RG wr _ b _ _ iB);have HW:=al (ab qR oK);have hl0:(fT r).length-(jk r 4).length=0:=by rw[xH];omega
   rw[hl0]at HC;clear iB qR oK hl0;go_wp2_with fail;refine HC.o.m ?_;rintro e w4 ⟨rfl,ho⟩;have k4:=ho.heap HW.o.2 (fun h=>h);have kR:=ho.heap (HW.o.1.heap H2.o.d.1 (fun e=>by omega)) (fun h=>h);simp only[nO,show(0:Nat)<4 by decide,show(1:Nat)<4 by decide,show(2:Nat)<4 by decide,show(3:Nat)<4 by decide,if_true]at k4;obtain⟨⟨x0,x1,x2,x3⟩,-⟩:=cL k4;obtain⟨⟨z0,z1,z2,z3⟩,y0,y1,y2,y3⟩:=cL kR;obtain⟨ra,rb,rc,rd⟩:=r;have hne: ¬B=R:=by omega
   have H6:=al (ab kR (show Only (fun k=>R<k) w3 w4 from HW.o.1.x ho (fun _ _ h=>h.elim)));clear k4 kR ho HC HW;go_wp2_with fail;have vF:=zS (v0:=.int .i64 ra) (v1:=.int .i64 rb) (v2:=.int .i64 rc) (v3:=.int .i64 rd) H6.o.1;have ho:=(((bj w4 R 0 (.int .i64 ra)).setCell (p:=⟨R,1,none⟩) (fun _=>rfl) (.int .i64 rb)).setCell (p:=⟨R,2,none⟩) (fun _=>rfl) (.int .i64 rc)).setCell (p:=⟨R,3,none⟩) (fun _=>rfl) (.int .i64 rd);have HO:=al (ab vF ho);clear vF ho;generalize ((((w4.setCell ⟨R,0,none⟩ (.int .i64 ra)).setCell ⟨R,1,none⟩ (.int .i64 rb)).setCell ⟨R,2,none⟩ (.int .i64 rc)).setCell ⟨R,3,none⟩ (.int .i64 rd))=w7 at HO⊢;refine dr (aB rfl _ _ _ _ _ _ _ rfl HO.o.1 underlying113 rfl (by kernel_rfl)) rfl ⟨rfl,?_⟩;exact H2.o.1.x (((H6.o.2.mono (T:=fun k=>R<=k) (fun k _ h=>by omega)).x (HO.o.2.mono (T:=fun k=>R<=k) (fun k _ h=>by omega)) (fun _ _ h=>h)).aG H2.o.1.size (fun k hk h=>by have:=H2.o.q;omega))
end Go.Proofs.YtmkofmeojbcakaaGreatDoor
