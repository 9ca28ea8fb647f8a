import Derived.Test.YtagemonojdgbdaaGreatDoorF01
import Derived.Test.YtagemonojdgbdaaGreatDoorProg
import Derived.Shelf.Spec.SlicesInsertGrow
import Derived.Deep.RegionLaw
namespace Go.Proofs.YtagemonojdgbdaaGreatDoor
set_option maxRecDepth 100000
set_option maxHeartbeats 16000000
open Go.RowKit
theorem cg{P:Program}(w:World)(dT sT ty elem:TypeId)(k b o dLen dCap:Nat)(a:Addr)(sLen sCap n:Nat)(cs:List Value)
  (hu:P.underlying dT=some (.slice elem)) (hs:(P.info? elem).map (·.size)=some k) (hn:Nat.min sLen dLen=n) (hl:cs.length=n*k)
  (hsrc: ∀j v,cs[j]?=some v->w.cell? (a.add j)=some v) (hc: ∀j,j<cs.length->(w.cell? ⟨b,o+j,none⟩).isSome=true) (hf: ∀j,j<cs.length->w.frozen? ⟨b,o+j,none⟩=false) (h1: ∀v∈cs,v.oneCell'=true):
  (Builtin.copy_ #[dT,sT] ty #[.slice (some ⟨b,o,none⟩) dLen dCap,.slice (some a) sLen sCap]).run P w=.ok (goInt n) (w.setCells b o cs):=by
 have hfc:=run_firstCells_some (P:=P) w k n a sLen sCap cs hl hsrc;have hst:=run_storeCells_cells (P:=P) b o cs 0 w (by simpa using hc) (by simpa using hf) h1
 cases hq:P.info? elem with
 |none=>simp[hq]at hs
 |some i=>
  have hi:i.size=k:=by simpa[hq]using hs
  subst hi;simp[Builtin.copy_,run_underlying hu,Builtin.lenOf,sizeOf,typeInfo,hq,hn,hfc,hst]
def AV(k:Nat)(t:TypeId)(w:World)(F:Nat->Nat->Prop)(ys:List (List Value))(e:Ending)(w':World):Prop:=
 ∃v',e=.returned v'/\az k t w' v' ys (fun b o=>F b o\/w.heap.size<=b)/\OnlyC F w w'
theorem nN{P:Program}{e:TypeId}{z:Value}{k b:Nat}(h:(P.info? e).map (fun i=>(i.zero,i.size,i.bytes))=some (some z,k,b)):(P.info? e).map (·.size)=some k:=by obtain⟨i0,hi0,_,h1,_⟩:=eC h;rw[hi0];simp[h1]
theorem xt{k:Nat}{xs:List (List Value)}(hk: ∀x∈xs,x.length=k)(i:Nat)(hi:i<=xs.length):(xs.drop i).flatten=xs.flatten.drop (i*k):=by
 have h:=eL List.flatten (List.take_append_drop i xs);rw[lF]at h;have hl:(xs.take i).flatten.length=i*k:=by rw[bA (fun x hx=>hk x (List.mem_of_mem_take hx)),ke,nf hi]
 rw[<-h,<-hl,List.drop_left]
theorem xu{k:Nat}{xs:List (List Value)}(hk: ∀x∈xs,x.length=k)(i:Nat)(hi:i<=xs.length):(xs.take i).flatten=xs.flatten.take (i*k):=by
 have h:=eL List.flatten (List.take_append_drop i xs);rw[lF]at h;have hl:(xs.take i).flatten.length=i*k:=by rw[bA (fun x hx=>hk x (List.mem_of_mem_take hx)),ke,nf hi]
 rw[<-h,<-hl,List.take_left]
theorem AX{k i:Nat}{xs:List (List Value)}{x:List Value}(hk: ∀y∈xs,y.length=k)(hx:x.length=k): ∀y∈xs.take i++x::xs.drop i,y.length=k:=by
 intro y hy;rcases dy.1 hy with hy|hy
 ·exact hk y (List.mem_of_mem_take hy)
 ·rcases fa.1 hy with rfl|hy
  ·exact hx
  ·exact hk y (List.mem_of_mem_drop hy)
theorem spliced{k i:Nat}{xs:List (List Value)}{x:List Value}(hk: ∀y∈xs,y.length=k)(hx:x.length=k)(hi:i<=xs.length)(get:Nat->Option Value)
  (h1: ∀(j:Nat) (u:Value),(xs.flatten.take (i*k))[j]?=some u->get j=some u) (h2: ∀(j:Nat) (u:Value),x[j]?=some u->get (i*k+j)=some u) (h3: ∀(j:Nat) (u:Value),(xs.flatten.drop (i*k))[j]?=some u->get ((i+1)*k+j)=some u):
  ∀(j:Nat) (u:Value),(xs.take i++x::xs.drop i).flatten[j]?=some u->get j=some u:=by
 intro j u hj;rw[lF,List.flatten_cons,xt hk i hi,xu hk i hi]at hj;have hfl:=bA hk;have hik:i*k<=xs.length*k:=eb k hi;have htl:(xs.flatten.take (i*k)).length=i*k:=by rw[ke,hfl];omega
 by_cases c1:j<i*k
 ·rw[lr (by omega)]at hj;exact h1 j u hj
 ·rw[kd (by omega),htl]at hj;by_cases c2:j-i*k<k
  ·rw[lr (by omega)]at hj;have:=h2 _ u hj;rwa[show i*k+(j-i*k)=j by omega]at this
  ·rw[kd (by omega),hx]at hj;have:=h3 _ u hj;rw[kh]at this;rwa[show i*k+k+(j-i*k-k)=j by omega]at this
theorem iB{w:World}{b:Nat}{cs:Array Value}{t:TypeId}(h:w.heap[b]?=some (.cells cs t (0,0))):w.shape? b=some (t,cs.size):=by simp[World.shape?,h]
theorem rN{k:Nat}{t:TypeId}{w:World}{F:Nat->Nat->Prop}{b off c i:Nat}{cs:Array Value}{xs:List (List Value)}{x:List Value}(dX:0<k)(hi:i<xs.length)(hroom:xs.length+1<=c)(hcm:c<=maxLen)(hk: ∀y∈xs,y.length=k)(hx:x.length=k)
  (hb:w.heap[b]?=some (.cells cs t (0,0))) (h7:off+c*k<=cs.size) (h8: ∀j,off<=j->j<off+c*k->F b j) (h9: ∀j u,xs.flatten[j]?=some u->cs[off+j]?=some u):
  AV k t w F (xs.take i++x::xs.drop i) (.returned (.slice (some ⟨b,off,none⟩) (xs.length+1) c)) ((w.drew.setCells b (off+(i+1)*k) (xs.flatten.drop (i*k))).setCells b (off+i*k) x):=by
 have hfl:=bA hk;have hmul:(xs.length+1)*k<=c*k:=eb k hroom;have Qk:(i+1)*k<=xs.length*k:=eb k hi;rw[kh]at hmul Qk;have mR:(xs.flatten.drop (i*k)).length=xs.length*k-i*k:=by rw[my,hfl]
 obtain⟨c1,k1,k2,k3,k4⟩:=bY (xs.flatten.drop (i*k)) (off+(i+1)*k) w.drew cs hb (by rw[mR,kh];omega);obtain⟨c2,l1,l2,l3,l4⟩:=bY x (off+i*k) _ c1 k1 (by rw[hx];omega);refine⟨_,rfl,az.rewritten (n:=xs.length+1) l1 (l2.trans k2) h7 (fun j a b=>.inl (h8 j a b)) (by simp;omega) hroom hcm (AX hk hx) (spliced hk hx (Nat.le_of_lt hi) (fun j=>c2[off+j]?) (fun j u hj=>?_) (fun j u hj=>?_) (fun j u hj=>?_)),?_⟩
 ·have hlt:=(b8.1 hj).1;rw[ke]at hlt;rw[lz]at hj;split at hj
  ·show c2[off+j]?=some u;rw[l3 _ (by omega),k3 _ (by rw[kh];omega)];exact h9 j u hj
  ·cases hj
 ·show c2[off+(i*k+j)]?=some u;rw[<-gO];exact l4 j u hj
 ·have hlt:=(b8.1 hj).1;rw[mR]at hlt;show c2[off+((i+1)*k+j)]?=some u;rw[<-gO,l3 _ (by rw[kh];omega)];exact k4 j u hj
 ·refine OnlyC.mQ (w:=w) (OnlyC.trans (F:=F) (G:=F) ((bG b (xs.flatten.drop (i*k)) (off+(i+1)*k) w.drew).mono (fun b' j _ ⟨e1,e2,e3⟩=>?_)) ((bG b x (off+i*k) _).mono (fun b' j _ ⟨e1,e2,e3⟩=>?_)) (fun _ _ _ h=>h))
  ·subst e1;rw[kh]at e2 e3;exact h8 j (by omega) (by omega)
  ·subst e1;exact h8 j (by omega) (by omega)
theorem xx{k:Nat}{t:TypeId}{w:World}{F:Nat->Nat->Prop}{G i:Nat}{ROW:Array Value}{xs:List (List Value)}{x:List Value}(dX:0<k)(hi:i<xs.length)(hG:xs.length+1<=G)(hcm:G<=maxLen)(hk: ∀y∈xs,y.length=k)(hx:x.length=k)
  (hR:ROW.size=G*k) (Q7: ∀(j:Nat) (v:Value),(xs.flatten.take (i*k))[j]?=some v->ROW[j]?=some v):
  AV k t w F (xs.take i++x::xs.drop i) (.returned (.slice (some ⟨w.heap.size,0,none⟩) (xs.length+1) G)) ((((w.alloc (.cells ROW t)).drew.setCells w.heap.size (i*k) x).drew).setCells w.heap.size ((i+1)*k) (xs.flatten.drop (i*k))):=by
 have hfl:=bA hk;have hmul:(xs.length+1)*k<=G*k:=eb k hG;have Qk:(i+1)*k<=xs.length*k:=eb k hi;rw[kh]at hmul Qk;have mR:(xs.flatten.drop (i*k)).length=xs.length*k-i*k:=by rw[my,hfl]
 have hb:(w.alloc (.cells ROW t)).drew.heap[w.heap.size]?=some (.cells ROW t (0,0)):=an w _;obtain⟨c1,k1,k2,k3,k4⟩:=bY x (i*k) _ ROW hb (by rw[hx];omega);obtain⟨c2,l1,l2,l3,l4⟩:=bY (xs.flatten.drop (i*k)) ((i+1)*k) (((w.alloc (.cells ROW t)).drew.setCells w.heap.size (i*k) x).drew) c1 k1 (by rw[mR,kh];omega);refine⟨_,rfl,az.rewritten (n:=xs.length+1) (o:=0) l1 (l2.trans k2) (by omega) (fun j a b=>.inr (aq _)) (by simp;omega) hG hcm (AX hk hx) (spliced hk hx (Nat.le_of_lt hi) (fun j=>c2[0+j]?) (fun j u hj=>?_) (fun j u hj=>?_) (fun j u hj=>?_)),?_⟩
 ·have hlt:=(b8.1 hj).1;rw[ke]at hlt;show c2[0+j]?=some u;rw[gn,l3 _ (by rw[kh];omega),k3 _ (by omega)];exact Q7 j u hj
 ·have hlt:=(b8.1 hj).1;show c2[0+(i*k+j)]?=some u;rw[gn,l3 _ (by rw[kh];omega)];exact k4 j u hj
 ·show c2[0+((i+1)*k+j)]?=some u;rw[gn];exact l4 j u hj
 ·refine oE ?_ F;have a1:OnlyC (fun b _=>w.heap.size<=b) w (w.alloc (.cells ROW t)).drew:=((OnlyC.refl _ w).alloc _).drew;have a2:=a1.trans (bG w.heap.size x (i*k) _) (fun b j hb ⟨e,_⟩=>by omega);have a3:=a2.drew.trans (bG w.heap.size (xs.flatten.drop (i*k)) ((i+1)*k) _) (fun b j hb ⟨e,_⟩=>by omega);exact a3.below (fun b o hb h=>by omega)
theorem Tryz.Dv:(Tryz.prog.info? 210).map (fun i=>(i.zero,i.size,i.bytes))=some (some (.agg #[.string ⟨#[]⟩,.string ⟨#[]⟩]),2,32):=by kernel_rfl
set_option maxRecDepth 1000000 in
theorem NP(w:World)(F:Nat->Nat->Prop)(v:Value)(xs:List (List Value))(x:List Value)(vb:Nat)(h:az 2 210 w v xs F)(hlen:xs.length<=1000)(hx:x.length=2)(AY: ∀u∈x,u.oneCell'=true)
  (hb:w.heap[vb]?=some (.cells x.toArray 210 (0,0))):
  Calls Tryz.prog 138 #[v,.int .i64 xs.length,.slice (some ⟨vb,0,none⟩) 1 1] w (AV 2 210 w F (xs++[x])):=by
 obtain⟨i0,hi0,hz0,hz1,hz2⟩:=eC Tryz.Dv;have H:=al h;have HI:=al hi0;obtain⟨A,c,rfl,q2,q3,q4,q5⟩:=h;unfold maxLen at q3;have HX:=al (ab hx (ab AY hb));have hq:A=none/\c=0\/ ∃b o,A=some ⟨b,o,none⟩:=q5.elim (fun h=>h.2.imp (fun h'=>⟨h',h.1⟩) id) (fun⟨b,o,cs,h,_⟩=>.inr ⟨b,o,h⟩);clear q4 q5 hx AY hb hi0;have e1:(((xs.length:Int))==((xs.length:Int)))=true:=by simp
 rcases hq with⟨rfl,rfl⟩|⟨b,o,rfl⟩
 ·have hx0:xs=[]:=db (by omega);subst hx0;go_enter Tryz.func138,Tryz.ntmps138;go_wp2_with (at_builtin;refine dw _ rfl _ _ 198 rfl i0 (.agg #[.string ⟨#[]⟩,.string ⟨#[]⟩]) 32 Tryz.underlying198 HI.out hz0 hz1 hz2 (by rfl) (by decide) _ [] rfl H.out ⟨vb,0,none⟩ 1 1 [x] rfl rfl (fun y hy=>by rw[fl]at hy;subst hy;exact HX.out.1) (fun j u hj=>by rw[gE,gn];exact oT HX.out.2.2 (by simpa using hj)) (by simpa using HX.out.2.1) (by simp[maxLen]) (by simp) ?_;intro v' w' ho hc;have HO:=al (ab ho hc);clear ho hc);go_ret
  exact⟨_,rfl,HO.out.1,HO.out.2⟩
 ·by_cases Tz:c=xs.length
  ·subst Tz;go_enter Tryz.func138,Tryz.ntmps138;go_wp2_with (at_builtin;refine dw _ rfl _ _ 198 rfl i0 (.agg #[.string ⟨#[]⟩,.string ⟨#[]⟩]) 32 Tryz.underlying198 HI.out hz0 hz1 hz2 (by rfl) (by decide) _ xs rfl H.out ⟨vb,0,none⟩ 1 1 [x] rfl rfl (fun y hy=>by rw[fl]at hy;subst hy;exact HX.out.1) (fun j u hj=>by rw[gE,gn];exact oT HX.out.2.2 (by simpa using hj)) (by simpa using HX.out.2.1) (by unfold maxLen;omega) (by omega) ?_;intro v' w' ho hc;have HO:=al (ab ho hc);clear ho hc);go_ret
   exact⟨_,rfl,HO.out.1,HO.out.2⟩
  ·go_enter Tryz.func138,Tryz.ntmps138;go_wp2_with (at_builtin;refine dw _ rfl _ _ 198 rfl i0 (.agg #[.string ⟨#[]⟩,.string ⟨#[]⟩]) 32 Tryz.underlying198 HI.out hz0 hz1 hz2 (by rfl) (by decide) _ xs rfl H.out ⟨vb,0,none⟩ 1 1 [x] rfl rfl (fun y hy=>by rw[fl]at hy;subst hy;exact HX.out.1) (fun j u hj=>by rw[gE,gn];exact oT HX.out.2.2 (by simpa using hj)) (by simpa using HX.out.2.1) (by unfold maxLen;omega) (by omega) ?_;intro v' w' ho hc;have HO:=al (ab ho hc);clear ho hc);go_ret
   exact⟨_,rfl,HO.out.1,HO.out.2⟩
set_option maxRecDepth 1000000 in
theorem Hb(w:World)(b off n c i vb:Nat)(cs vs:List Value)(hi:i<n)(hroom:n+1<=c)(aan:c<=9223372036854775807)(hvb:vb≠b)(tF:n<=1000)
  (hcl:cs.length=n*2) (hvl:vs.length=2)
  (hcs: ∀j v,cs[j]?=some v->w.cell? ⟨b,off+j,none⟩=some v) (hsp: ∀j,j<(n+1)*2->(w.cell? ⟨b,off+j,none⟩).isSome=true) (hfz: ∀j,j<(n+1)*2->w.frozen? ⟨b,off+j,none⟩=false)
  (hvs: ∀j v,vs[j]?=some v->w.cell? ⟨vb,j,none⟩=some v) (h1c: ∀v∈cs,v.oneCell'=true) (Hc: ∀v∈vs,v.oneCell'=true)
  (tA tB:TypeId) (kA kB:Nat) (hsa:w.shape? vb=some (tA,kA)) (Ub:w.shape? b=some (tB,kB)) (mO:kB≠0) (Dw:w.frozen? ⟨vb,0,none⟩=false) (Uc:w.frozen? ⟨vb,kA,none⟩=false):
  Calls Tryz.prog 138 #[.slice (some ⟨b,off,none⟩) n c,.int .i64 i,.slice (some ⟨vb,0,none⟩) 1 1] w fun e w'=>
   e=.returned (.slice (some ⟨b,off,none⟩) (n+1) c)/\w'=(w.drew.setCells b (off+(i+1)*2) (cs.drop (i*2))).setCells b (off+i*2) vs:=by
 have hsz:(Tryz.prog.info? 210).map (·.size)=some 2:=nN Tryz.Dv;have hz2: ¬((i:Int)=(n:Int)):=by omega
 have hov: ∀lb cb,(callFunc 166 #[.slice (some ⟨vb,0,none⟩) 1 1,.slice (some ⟨b,off+(i+1)*2,none⟩) lb cb]).run Tryz.prog w=.ok (.value (.bool false)) w:=fun lb cb=>by
  rw[run_callFunc_extern Tryz.func166 (by kernel_rfl) (by kernel_rfl) (by kernel_rfl) (e:=Extern.SlicesOverlaps.overlaps #[198,198] #[4]) (by kernel_rfl),
   Lib.run_overlaps_apart w 198 4 210 Tryz.underlying198 2 (fun w=>by kernel_rfl) ⟨vb,0,none⟩ ⟨b,off+(i+1)*2,none⟩ 1 1 lb cb hvb tA tB kA kB hsa Ub mO Dw Uc]
  rfl
 have mR:(cs.drop (i*2)).length=(n-i)*2:=by rw[my,hcl];omega
 have hw1:IntKind.i64.wrap ((i:Int)+1)=(i:Int)+1:=by rw[fm];omega
 have hb1:(0:Int)<=(i:Int)+1:=by omega
 have hin:i<=n:=by omega
 have htn:((i:Int)+1).toNat=i+1:=by omega
 have hb2: ¬(c=i+1):=by omega
 have hb3:(i:Int)<=(n:Int)+1:=by omega
 have hb4: ¬(c=i):=by omega
 have J0: ∀ty dc sc,(Builtin.copy_ #[198,198] ty #[.slice (some ⟨b,off+(i+1)*2,none⟩) (n-i) dc,.slice (some ⟨b,off+i*2,none⟩) (n+1-i) sc]).run Tryz.prog w.drew=.ok (goInt ((n-i:Nat):Int)) (w.drew.setCells b (off+(i+1)*2) (cs.drop (i*2))):=fun ty dc sc=>
  cg w.drew _ _ ty 210 2 b (off+(i+1)*2) (n-i) dc ⟨b,off+i*2,none⟩ (n+1-i) sc (n-i) (cs.drop (i*2)) Tryz.underlying198 hsz (by simp only[Nat.min_def];split<;>omega) (by first|exact mR|(rw[mR];omega))
   (fun j v hj=>by rw[gE,gO];exact hcs (i*2+j) v (by rwa[lE]at hj))
   (fun j hj=>by rw[gO];exact hsp _ (by omega)) (fun j hj=>by rw[gO];exact hfz _ (by omega)) (fun v hv=>h1c v (List.mem_of_mem_drop hv))
 obtain⟨W1,hW1⟩: ∃W1,W1=w.drew.setCells b (off+(i+1)*2) (cs.drop (i*2)):=⟨_,rfl⟩
 have tG: ∀k,k<(n+1)*2->(W1.cell? ⟨b,off+k,none⟩).isSome=true:=fun k hk=>by rw[hW1];exact isSome_setCells b _ _ _ (fun j hj=>by rw[gO];exact hsp _ (by omega)) _ (hsp k hk)
 have J1: ∀(W:World),(∀x,W.cell? x=W1.cell? x)->(∀x,W.frozen? x=W1.frozen? x)-> ∀ty dc,(Builtin.copy_ #[198,198] ty #[.slice (some ⟨b,off+i*2,none⟩) (n+1-i) dc,.slice (some ⟨vb,0,none⟩) 1 1]).run Tryz.prog W=.ok (goInt ((1:Nat):Int)) (W.setCells b (off+i*2) vs):=fun W Ba J2 ty dc=>
  cg W _ _ ty 210 2 b (off+i*2) (n+1-i) dc ⟨vb,0,none⟩ 1 1 1 vs Tryz.underlying198 hsz (by simp only[Nat.min_def];split<;>omega) (by rw[hvl])
   (fun j v hj=>by
    rw[gE,gn,Ba,hW1,World.cell?_setCells_out b _ _ _ _ (fun h _=>absurd h hvb)]
    exact hvs j v hj)
   (fun j hj=>by rw[Ba,gO];exact tG _ (by omega)) (fun j hj=>by rw[J2,hW1,World.frozen?_setCells,gO];exact hfz _ (by omega)) Hc
 rw[<-hW1]at J0⊢;have Q8:=al J1;have HW:=al hW1;clear J1 hW1 hsp hfz hcs tG hvs hsa Ub Dw Uc h1c Hc hcl hvl mR hsz mO;go_enter Tryz.func138,Tryz.ntmps138;go_wp2_with (simp only[hov])
 go_region_law (refine step_copy_runI rfl _ _ 198 198 rfl _ _ (by simp[Act.eval,Act.put]) (by simp[Act.eval,Act.put]) (J0 _ _ _) ?_)
 have Yb:=Q8.out W1 (fun _=>rfl) (fun _=>rfl);go_wp2_with fail;go_ret
 exact⟨rfl,rfl⟩
set_option maxRecDepth 1000000 in
theorem J3(w:World)(b off n c i vb:Nat)(cs vs:List Value)(hi:i<n)(hnc:n<=c)(hroom:c<n+1)(tF:n<=1000)
  (hcl:cs.length=n*2) (hvl:vs.length=2)
  (hcs: ∀j v,cs[j]?=some v->w.cell? ⟨b,off+j,none⟩=some v)
  (hvs: ∀j v,vs[j]?=some v->w.cell? ⟨vb,j,none⟩=some v) (h1c: ∀v∈cs,v.oneCell'=true) (Hc: ∀v∈vs,v.oneCell'=true):
  Calls Tryz.prog 138 #[.slice (some ⟨b,off,none⟩) n c,.int .i64 i,.slice (some ⟨vb,0,none⟩) 1 1] w fun e w'=>
   ∃(G:Nat) (ROW:Array Value),n+1<=G/\G<=maxLen/\ROW.size=G*2/\(∀(j:Nat) (v:Value),(cs.take (i*2))[j]?=some v->ROW[j]?=some v)/\e=.returned (.slice (some ⟨w.heap.size,0,none⟩) (n+1) G)/\
   w'=(((w.alloc (.cells ROW 210)).drew.setCells w.heap.size (i*2) vs).drew).setCells w.heap.size ((i+1)*2) (cs.drop (i*2)):=by
 obtain⟨i0,hi0,hz0,hzs,hzb⟩:=eC Tryz.Dv;have hsz:(Tryz.prog.info? 210).map (·.size)=some 2:=nN Tryz.Dv;have hz2: ¬((i:Int)=(n:Int)):=by omega
 have hz3:(c:Int)<(n:Int)+1:=by omega
 have dP:b<w.heap.size:=aE w _ (hcs 0 _ (ao (by omega)));have NQ:vb<w.heap.size:=aE w _ (hvs 0 _ (ao (by omega)));have hkk:(n:Int)+1-(i:Int)=((n+1-i:Nat):Int):=by omega
 have hik:i+(n+1-i)=n+1:=by omega
 have hold:(Builtin.firstCells i0.size i (.slice (some ⟨b,off,none⟩) i c)).run Tryz.prog w.drew=.ok (cs.take (i*2)).toArray w.drew:=by
  rw[hzs]
  exact run_firstCells_some w.drew 2 i ⟨b,off,none⟩ i c (cs.take (i*2)) (by rw[ke];omega) (fun j v hj=>by
   rw[gE];rw[lz]at hj;split at hj
   ·exact hcs j v hj
   ·cases hj)
 have NR: ∀ty,(Builtin.append_ #[198,3] ty #[.slice (some ⟨b,off,none⟩) i c,.int .i64 ((n:Int)+1-(i:Int))]).run Tryz.prog w=
   .ok (.slice (some ⟨w.heap.size,0,none⟩) (n+1) (grownCap w (n+1) c 210)) (w.drew.alloc (.cells ((cs.take (i*2)).toArray++Builtin.zeroCells (Value.cells (.agg #[.string ⟨#[]⟩,.string ⟨#[]⟩])) (n+1-i)++Builtin.zeroCells (Value.cells (.agg #[.string ⟨#[]⟩,.string ⟨#[]⟩])) (grownCap w (n+1) c 210-(n+1))) 210)):=fun ty=>by
  have h:=Lib.run_append_grow_zeros w 198 3 ty 210 i0 _ .i64 .i64 Tryz.underlying198 Tryz.underlying3 hi0 hz0 (some ⟨b,off,none⟩) i c (cs.take (i*2)) hold (n+1-i) (by omega) (by omega) (by omega) (by omega) (by rw[hzb];omega) (by rw[hzb,hik];exact growslice_fits hroom (by omega));rw[hik]at h;rw[hkk];exact h
 obtain⟨G,hG⟩: ∃G,G=grownCap w (n+1) c 210:=⟨_,rfl⟩;obtain⟨ROW,yR⟩: ∃ROW:Array Value,ROW=(cs.take (i*2)).toArray++Builtin.zeroCells (Value.cells (.agg #[.string ⟨#[]⟩,.string ⟨#[]⟩])) (n+1-i)++Builtin.zeroCells (Value.cells (.agg #[.string ⟨#[]⟩,.string ⟨#[]⟩])) (G-(n+1)):=⟨_,rfl⟩;rw[<-hG]at NR;rw[<-yR]at NR;have Yc:n+1<=G:=by rw[hG];exact grownCap_ge w _ _ _
 have Ud:G<=maxLen:=by have:=grownCap_le_maxLen w (n+1) c 210 (by unfold maxLen;omega);rw[<-hG]at this;exact this
 have Yd:G<=9223372036854775807:=by unfold maxLen at Ud;omega
 have vV:ROW.size=G*2:=by rw[yR];simp only[Array.size_append,nF,size_zeroCells,Value.cells,ke];simp;omega
 have Xp:(n+1)*2<=ROW.size:=by rw[vV];omega
 have Q7: ∀(j:Nat) (v:Value),(cs.take (i*2))[j]?=some v->ROW[j]?=some v:=by intro j v hj;have hlt:=(b8.1 hj).1;rw[yR,Array.append_assoc,Array.getElem?_append_left (by simpa using hlt)];simpa using hj
 obtain⟨W1,hW1⟩: ∃W1,W1=w.drew.alloc (.cells ROW 210):=⟨_,rfl⟩;rw[<-hW1]at NR
 have hN: ∀j,j<(n+1)*2->(W1.cell? ⟨w.heap.size,j,none⟩).isSome=true:=fun j hj=>by rw[hW1,World.cell?_alloc_at (w:=w.drew) ROW _ w.heap.size j rfl,ir (by omega)];rfl
 have Q9: ∀j,W1.frozen? ⟨w.heap.size,j,none⟩=false:=fun j=>by rw[hW1];exact World.frozen?_alloc_at (w:=w.drew) ROW _ w.heap.size j rfl
 have Ue: ∀j v,w.cell? ⟨b,j,none⟩=some v->W1.cell? ⟨b,j,none⟩=some v:=fun j v h=>by rw[hW1,World.cell?_alloc_past (w:=w.drew) _ b j dP];exact h
 have Uf: ∀j v,w.cell? ⟨vb,j,none⟩=some v->W1.cell? ⟨vb,j,none⟩=some v:=fun j v h=>by rw[hW1,World.cell?_alloc_past (w:=w.drew) _ vb j NQ];exact h
 have J4: ∀(W:World),(∀x,W.cell? x=W1.cell? x)->(∀x,W.frozen? x=W1.frozen? x)-> ∀ty dc,(Builtin.copy_ #[198,198] ty #[.slice (some ⟨w.heap.size,i*2,none⟩) (n+1-i) dc,.slice (some ⟨vb,0,none⟩) 1 1]).run Tryz.prog W=.ok (goInt ((1:Nat):Int)) (W.setCells w.heap.size (i*2) vs):=fun W Ba J2 ty dc=>
  cg W _ _ ty 210 2 w.heap.size (i*2) (n+1-i) dc ⟨vb,0,none⟩ 1 1 1 vs Tryz.underlying198 hsz (by simp only[Nat.min_def];split<;>omega) (by rw[hvl])
   (fun j v hj=>by rw[gE,gn,Ba];exact Uf _ v (hvs j v hj))
   (fun j hj=>by rw[Ba];exact hN _ (by omega)) (fun j hj=>by rw[J2];exact Q9 _) Hc
 have hGi: ¬(G=i):=by omega
 have Ye: ¬(G=i+1):=by omega
 have hci: ¬(c=i):=by omega
 have Yf:b≠w.heap.size:=by omega
 have mR:(cs.drop (i*2)).length=(n-i)*2:=by rw[my,hcl];omega
 have J5: ∀(W:World),(∀x,W.cell? x=(W1.setCells w.heap.size (i*2) vs).cell? x)->(∀x,W.frozen? x=(W1.setCells w.heap.size (i*2) vs).frozen? x)-> ∀ty dc sc,(Builtin.copy_ #[198,198] ty #[.slice (some ⟨w.heap.size,(i+1)*2,none⟩) (n-i) dc,.slice (some ⟨b,off+i*2,none⟩) (n-i) sc]).run Tryz.prog W=.ok (goInt ((n-i:Nat):Int)) (W.setCells w.heap.size ((i+1)*2) (cs.drop (i*2))):=fun W Ba J2 ty dc sc=>
  cg W _ _ ty 210 2 w.heap.size ((i+1)*2) (n-i) dc ⟨b,off+i*2,none⟩ (n-i) sc (n-i) (cs.drop (i*2)) Tryz.underlying198 hsz (by simp only[Nat.min_def];split<;>omega) (by first|exact mR|(rw[mR];omega))
   (fun j v hj=>by
    rw[gE,Ba,World.cell?_setCells_out _ _ _ _ _ (fun h _=>absurd h Yf),gO]
    exact Ue _ v (hcs (i*2+j) v (by rwa[lE]at hj)))
   (fun j hj=>by rw[Ba];exact isSome_setCells _ _ _ _ (fun t ht=>hN _ (by omega)) _ (hN _ (by omega)))
   (fun j hj=>by rw[J2,World.frozen?_setCells];exact Q9 _) (fun v hv=>h1c v (List.mem_of_mem_drop hv))
 subst hW1;have Ug:=J4 ((w.alloc (.cells ROW 210)).drew) (fun x=>rfl) (fun x=>rfl);have J6:=J5 (((w.alloc (.cells ROW 210)).drew.setCells w.heap.size (i*2) vs).drew) (fun x=>rfl) (fun x=>rfl);have hw1:IntKind.i64.wrap ((i:Int)+1)=(i:Int)+1:=by rw[fm];omega
 have hb1:(0:Int)<=(i:Int)+1:=by omega
 have hin:i<=n:=by omega
 have htn:((i:Int)+1).toNat=i+1:=by omega
 have hb3:(i:Int)<=(n:Int):=by omega
 have HF:=al (show ∃(G':Nat) (yS:Array Value),n+1<=G'/\G'<=maxLen/\yS.size=G'*2/\(∀(j:Nat) (v:Value),(cs.take (i*2))[j]?=some v->yS[j]?=some v)/\G'=G/\yS=ROW from⟨G,ROW,Yc,Ud,vV,Q7,rfl,rfl⟩);clear hkk hik hold yR hG Xp vV Q7 hN Q9 Ue Uf J4 J5 hsz hcs hvs h1c Hc hcl hvl mR hzs hzb hz0 hi0;go_enter Tryz.func138,Tryz.ntmps138;go_wp2_with (at_builtin;refine Lib.wpList_append_run _ rfl _ _ _ _ rfl _ _ rfl rfl _ _ (NR _) ?_)
 go_region_law (refine step_copy_runI rfl _ _ 198 198 rfl _ _ (by simp[Act.eval,Act.put]) (by simp[Act.eval,Act.put]) (J6 _ _ _) ?_)
 go_wp2_with fail;go_ret
 obtain⟨G',yS,a1,a2,a3,a4,rfl,rfl⟩:=HF.out;exact⟨_,_,a1,a2,a3,a4,rfl,rfl⟩
theorem NS(w:World)(F:Nat->Nat->Prop)(v:Value)(xs:List (List Value))(i:Nat)(x:List Value)(vb:Nat)(h:az 2 210 w v xs F)(hi:i<=xs.length)(hlen:xs.length<=1000)(hx:x.length=2)(AY: ∀u∈x,u.oneCell'=true)(h1: ∀u∈xs.flatten,u.oneCell'=true)
  (hb:w.heap[vb]?=some (.cells x.toArray 210 (0,0))) (hvb: ∀j,¬F vb j):
  Calls Tryz.prog 138 #[v,.int .i64 i,.slice (some ⟨vb,0,none⟩) 1 1] w (AV 2 210 w F (xs.take i++x::xs.drop i)):=by
 by_cases he:i=xs.length
 ·subst he;have:=NP w F v xs x vb h hlen hx AY hb;simpa using this
 ·obtain⟨b,off,c,cs,rfl,q2,q3,q4,q6,q7,q8,q9⟩:=h.lies (by omega);have hfl:=bA q4;have hcs: ∀j u,xs.flatten[j]?=some u->w.cell? ⟨b,off+j,none⟩=some u:=fun j u hj=>oT q6 (q9 j u hj);have hxs: ∀j u,x[j]?=some u->w.cell? ⟨vb,j,none⟩=some u:=fun j u hj=>oT hb (by simpa using hj);by_cases hr:xs.length+1<=c
  ·have hmul:(xs.length+1)*2<=c*2:=eb _ hr;have hne:vb≠b:=fun e=>hvb off (by rw[e];exact q8 off (aq _) (by omega));have Ra:=iB hb
   have:=Hb w b off xs.length c i vb xs.flatten x (by omega) hr (by unfold maxLen at q3;omega) hne hlen hfl hx hcs
    (fun j hj=>by simp[World.cell?,q6,ir (show off+j<cs.size by omega)]) (fun j _=>frozen_of_heap q6 _) hxs h1 AY _ _ _ _ Ra (iB q6) (by omega) (frozen_of_heap hb _) (frozen_of_heap hb _)
   refine this.mono ?_;rintro e w' ⟨rfl,rfl⟩;have hh:=rN (F:=F) (by decide) (show i<xs.length by omega) hr q3 q4 hx q6 q7 q8 q9;simpa using hh
  ·have:=J3 w b off xs.length c i vb xs.flatten x (by omega) q2 (by omega) hlen hfl hx hcs hxs h1 AY;refine this.mono ?_;rintro e w' ⟨G,ROW,g1,g2,g3,g4,rfl,rfl⟩;have hh:=xx (F:=F) (t:=210) (w:=w) (k:=2) (by decide) (show i<xs.length by omega) g1 g2 q4 hx g3 (by simpa using g4);simpa using hh
theorem Tryz.Dx:(Tryz.prog.info? 197).map (fun i=>(i.zero,i.size,i.bytes))=some (some (.pointer none),1,8):=by kernel_rfl
set_option maxRecDepth 1000000 in
theorem NT(w:World)(F:Nat->Nat->Prop)(v:Value)(xs:List (List Value))(x:List Value)(vb:Nat)(h:az 1 197 w v xs F)(hlen:xs.length<=1000)(hx:x.length=1)(AY: ∀u∈x,u.oneCell'=true)
  (hb:w.heap[vb]?=some (.cells x.toArray 197 (0,0))):
  Calls Tryz.prog 139 #[v,.int .i64 xs.length,.slice (some ⟨vb,0,none⟩) 1 1] w (AV 1 197 w F (xs++[x])):=by
 obtain⟨i0,hi0,hz0,hz1,hz2⟩:=eC Tryz.Dx;have H:=al h;have HI:=al hi0;obtain⟨A,c,rfl,q2,q3,q4,q5⟩:=h;unfold maxLen at q3;have HX:=al (ab hx (ab AY hb));have hq:A=none/\c=0\/ ∃b o,A=some ⟨b,o,none⟩:=q5.elim (fun h=>h.2.imp (fun h'=>⟨h',h.1⟩) id) (fun⟨b,o,cs,h,_⟩=>.inr ⟨b,o,h⟩);clear q4 q5 hx AY hb hi0;have e1:(((xs.length:Int))==((xs.length:Int)))=true:=by simp
 rcases hq with⟨rfl,rfl⟩|⟨b,o,rfl⟩
 ·have hx0:xs=[]:=db (by omega);subst hx0;go_enter Tryz.func139,Tryz.ntmps139;go_wp2_with (at_builtin;refine dw _ rfl _ _ 199 rfl i0 (.pointer none) 8 Tryz.underlying199 HI.out hz0 hz1 hz2 (by rfl) (by decide) _ [] rfl H.out ⟨vb,0,none⟩ 1 1 [x] rfl rfl (fun y hy=>by rw[fl]at hy;subst hy;exact HX.out.1) (fun j u hj=>by rw[gE,gn];exact oT HX.out.2.2 (by simpa using hj)) (by simpa using HX.out.2.1) (by simp[maxLen]) (by simp) ?_;intro v' w' ho hc;have HO:=al (ab ho hc);clear ho hc);go_ret
  exact⟨_,rfl,HO.out.1,HO.out.2⟩
 ·by_cases Tz:c=xs.length
  ·subst Tz;go_enter Tryz.func139,Tryz.ntmps139;go_wp2_with (at_builtin;refine dw _ rfl _ _ 199 rfl i0 (.pointer none) 8 Tryz.underlying199 HI.out hz0 hz1 hz2 (by rfl) (by decide) _ xs rfl H.out ⟨vb,0,none⟩ 1 1 [x] rfl rfl (fun y hy=>by rw[fl]at hy;subst hy;exact HX.out.1) (fun j u hj=>by rw[gE,gn];exact oT HX.out.2.2 (by simpa using hj)) (by simpa using HX.out.2.1) (by unfold maxLen;omega) (by omega) ?_;intro v' w' ho hc;have HO:=al (ab ho hc);clear ho hc);go_ret
   exact⟨_,rfl,HO.out.1,HO.out.2⟩
  ·go_enter Tryz.func139,Tryz.ntmps139;go_wp2_with (at_builtin;refine dw _ rfl _ _ 199 rfl i0 (.pointer none) 8 Tryz.underlying199 HI.out hz0 hz1 hz2 (by rfl) (by decide) _ xs rfl H.out ⟨vb,0,none⟩ 1 1 [x] rfl rfl (fun y hy=>by rw[fl]at hy;subst hy;exact HX.out.1) (fun j u hj=>by rw[gE,gn];exact oT HX.out.2.2 (by simpa using hj)) (by simpa using HX.out.2.1) (by unfold maxLen;omega) (by omega) ?_;intro v' w' ho hc;have HO:=al (ab ho hc);clear ho hc);go_ret
   exact⟨_,rfl,HO.out.1,HO.out.2⟩
set_option maxRecDepth 1000000 in
theorem Hd(w:World)(b off n c i vb:Nat)(cs vs:List Value)(hi:i<n)(hroom:n+1<=c)(_aah:c<=9223372036854775807)(hvb:vb≠b)(tF:n<=1000)
  (hcl:cs.length=n*1) (hvl:vs.length=1)
  (hcs: ∀j v,cs[j]?=some v->w.cell? ⟨b,off+j,none⟩=some v) (hsp: ∀j,j<(n+1)*1->(w.cell? ⟨b,off+j,none⟩).isSome=true) (hfz: ∀j,j<(n+1)*1->w.frozen? ⟨b,off+j,none⟩=false)
  (hvs: ∀j v,vs[j]?=some v->w.cell? ⟨vb,j,none⟩=some v) (h1c: ∀v∈cs,v.oneCell'=true) (Hc: ∀v∈vs,v.oneCell'=true)
  (tA tB:TypeId) (kA kB:Nat) (hsa:w.shape? vb=some (tA,kA)) (Ub:w.shape? b=some (tB,kB)) (mO:kB≠0) (Dw:w.frozen? ⟨vb,0,none⟩=false) (Uc:w.frozen? ⟨vb,kA,none⟩=false):
  Calls Tryz.prog 139 #[.slice (some ⟨b,off,none⟩) n c,.int .i64 i,.slice (some ⟨vb,0,none⟩) 1 1] w fun e w'=>
   e=.returned (.slice (some ⟨b,off,none⟩) (n+1) c)/\w'=(w.drew.setCells b (off+(i+1)) (cs.drop (i))).setCells b (off+i) vs:=by
 have hsz:(Tryz.prog.info? 197).map (·.size)=some 1:=nN Tryz.Dx;have hz2: ¬((i:Int)=(n:Int)):=by omega
 have hov: ∀lb cb,(callFunc 168 #[.slice (some ⟨vb,0,none⟩) 1 1,.slice (some ⟨b,off+(i+1),none⟩) lb cb]).run Tryz.prog w=.ok (.value (.bool false)) w:=fun lb cb=>by
  rw[run_callFunc_extern Tryz.func168 (by kernel_rfl) (by kernel_rfl) (by kernel_rfl) (e:=Extern.SlicesOverlaps.overlaps #[199,199] #[4]) (by kernel_rfl),
   Lib.run_overlaps_apart w 199 4 197 Tryz.underlying199 1 (fun w=>by kernel_rfl) ⟨vb,0,none⟩ ⟨b,off+(i+1),none⟩ 1 1 lb cb hvb tA tB kA kB hsa Ub mO Dw Uc]
  rfl
 have mR:(cs.drop (i)).length=(n-i):=by rw[my,hcl];omega
 have hw1:IntKind.i64.wrap ((i:Int)+1)=(i:Int)+1:=by rw[fm];omega
 have hb1:(0:Int)<=(i:Int)+1:=by omega
 have hin:i<=n:=by omega
 have htn:((i:Int)+1).toNat=i+1:=by omega
 have hb2: ¬(c=i+1):=by omega
 have hb3:(i:Int)<=(n:Int)+1:=by omega
 have hb4: ¬(c=i):=by omega
 have J0: ∀ty dc sc,(Builtin.copy_ #[199,199] ty #[.slice (some ⟨b,off+(i+1),none⟩) (n-i) dc,.slice (some ⟨b,off+i,none⟩) (n+1-i) sc]).run Tryz.prog w.drew=.ok (goInt ((n-i:Nat):Int)) (w.drew.setCells b (off+(i+1)) (cs.drop (i))):=fun ty dc sc=>
  cg w.drew _ _ ty 197 1 b (off+(i+1)) (n-i) dc ⟨b,off+i,none⟩ (n+1-i) sc (n-i) (cs.drop (i)) Tryz.underlying199 hsz (by simp only[Nat.min_def];split<;>omega) (by first|exact mR|(rw[mR];omega))
   (fun j v hj=>by rw[gE,gO];exact hcs (i+j) v (by rwa[lE]at hj))
   (fun j hj=>by rw[gO];exact hsp _ (by omega)) (fun j hj=>by rw[gO];exact hfz _ (by omega)) (fun v hv=>h1c v (List.mem_of_mem_drop hv))
 obtain⟨W1,hW1⟩: ∃W1,W1=w.drew.setCells b (off+(i+1)) (cs.drop (i)):=⟨_,rfl⟩
 have tG: ∀k,k<(n+1)*1->(W1.cell? ⟨b,off+k,none⟩).isSome=true:=fun k hk=>by rw[hW1];exact isSome_setCells b _ _ _ (fun j hj=>by rw[gO];exact hsp _ (by omega)) _ (hsp k hk)
 have J1: ∀(W:World),(∀x,W.cell? x=W1.cell? x)->(∀x,W.frozen? x=W1.frozen? x)-> ∀ty dc,(Builtin.copy_ #[199,199] ty #[.slice (some ⟨b,off+i,none⟩) (n+1-i) dc,.slice (some ⟨vb,0,none⟩) 1 1]).run Tryz.prog W=.ok (goInt ((1:Nat):Int)) (W.setCells b (off+i) vs):=fun W Ba J2 ty dc=>
  cg W _ _ ty 197 1 b (off+i) (n+1-i) dc ⟨vb,0,none⟩ 1 1 1 vs Tryz.underlying199 hsz (by simp only[Nat.min_def];split<;>omega) (by rw[hvl])
   (fun j v hj=>by
    rw[gE,gn,Ba,hW1,World.cell?_setCells_out b _ _ _ _ (fun h _=>absurd h hvb)]
    exact hvs j v hj)
   (fun j hj=>by rw[Ba,gO];exact tG _ (by omega)) (fun j hj=>by rw[J2,hW1,World.frozen?_setCells,gO];exact hfz _ (by omega)) Hc
 rw[<-hW1]at J0⊢;have Q8:=al J1;have HW:=al hW1;clear J1 hW1 hsp hfz hcs tG hvs hsa Ub Dw Uc h1c Hc hcl hvl mR hsz mO;go_enter Tryz.func139,Tryz.ntmps139;go_wp2_with (simp only[hov])
 go_region_law (refine step_copy_runI rfl _ _ 199 199 rfl _ _ (by simp[Act.eval,Act.put]) (by simp[Act.eval,Act.put]) (J0 _ _ _) ?_)
 have Yb:=Q8.out W1 (fun _=>rfl) (fun _=>rfl);go_wp2_with fail;go_ret
 exact⟨rfl,rfl⟩
set_option maxRecDepth 1000000 in
theorem J7(w:World)(b off n c i vb:Nat)(cs vs:List Value)(hi:i<n)(hnc:n<=c)(hroom:c<n+1)(tF:n<=1000)
  (hcl:cs.length=n*1) (hvl:vs.length=1)
  (hcs: ∀j v,cs[j]?=some v->w.cell? ⟨b,off+j,none⟩=some v)
  (hvs: ∀j v,vs[j]?=some v->w.cell? ⟨vb,j,none⟩=some v) (h1c: ∀v∈cs,v.oneCell'=true) (Hc: ∀v∈vs,v.oneCell'=true):
  Calls Tryz.prog 139 #[.slice (some ⟨b,off,none⟩) n c,.int .i64 i,.slice (some ⟨vb,0,none⟩) 1 1] w fun e w'=>
   ∃(G:Nat) (ROW:Array Value),n+1<=G/\G<=maxLen/\ROW.size=G*1/\(∀(j:Nat) (v:Value),(cs.take (i))[j]?=some v->ROW[j]?=some v)/\e=.returned (.slice (some ⟨w.heap.size,0,none⟩) (n+1) G)/\
   w'=(((w.alloc (.cells ROW 197)).drew.setCells w.heap.size (i) vs).drew).setCells w.heap.size ((i+1)) (cs.drop (i)):=by
 obtain⟨i0,hi0,hz0,hzs,hzb⟩:=eC Tryz.Dx;have hsz:(Tryz.prog.info? 197).map (·.size)=some 1:=nN Tryz.Dx;have hz2: ¬((i:Int)=(n:Int)):=by omega
 have hz3:(c:Int)<(n:Int)+1:=by omega
 have dP:b<w.heap.size:=aE w _ (hcs 0 _ (ao (by omega)));have NQ:vb<w.heap.size:=aE w _ (hvs 0 _ (ao (by omega)));have hkk:(n:Int)+1-(i:Int)=((n+1-i:Nat):Int):=by omega
 have hik:i+(n+1-i)=n+1:=by omega
 have hold:(Builtin.firstCells i0.size i (.slice (some ⟨b,off,none⟩) i c)).run Tryz.prog w.drew=.ok (cs.take (i)).toArray w.drew:=by
  rw[hzs]
  exact run_firstCells_some w.drew 1 i ⟨b,off,none⟩ i c (cs.take (i)) (by rw[ke];omega) (fun j v hj=>by
   rw[gE];rw[lz]at hj;split at hj
   ·exact hcs j v hj
   ·cases hj)
 have NR: ∀ty,(Builtin.append_ #[199,3] ty #[.slice (some ⟨b,off,none⟩) i c,.int .i64 ((n:Int)+1-(i:Int))]).run Tryz.prog w=
   .ok (.slice (some ⟨w.heap.size,0,none⟩) (n+1) (grownCap w (n+1) c 197)) (w.drew.alloc (.cells ((cs.take (i)).toArray++Builtin.zeroCells (Value.cells (.pointer none)) (n+1-i)++Builtin.zeroCells (Value.cells (.pointer none)) (grownCap w (n+1) c 197-(n+1))) 197)):=fun ty=>by
  have h:=Lib.run_append_grow_zeros w 199 3 ty 197 i0 _ .i64 .i64 Tryz.underlying199 Tryz.underlying3 hi0 hz0 (some ⟨b,off,none⟩) i c (cs.take (i)) hold (n+1-i) (by omega) (by omega) (by omega) (by omega) (by rw[hzb];omega) (by rw[hzb,hik];exact growslice_fits hroom (by omega));rw[hik]at h;rw[hkk];exact h
 obtain⟨G,hG⟩: ∃G,G=grownCap w (n+1) c 197:=⟨_,rfl⟩;obtain⟨ROW,yR⟩: ∃ROW:Array Value,ROW=(cs.take (i)).toArray++Builtin.zeroCells (Value.cells (.pointer none)) (n+1-i)++Builtin.zeroCells (Value.cells (.pointer none)) (G-(n+1)):=⟨_,rfl⟩;rw[<-hG]at NR;rw[<-yR]at NR;have Yc:n+1<=G:=by rw[hG];exact grownCap_ge w _ _ _
 have Ud:G<=maxLen:=by have:=grownCap_le_maxLen w (n+1) c 197 (by unfold maxLen;omega);rw[<-hG]at this;exact this
 have Yd:G<=9223372036854775807:=by unfold maxLen at Ud;omega
 have vV:ROW.size=G*1:=by rw[yR];simp only[Array.size_append,nF,size_zeroCells,Value.cells,ke];simp;omega
 have Xp:(n+1)*1<=ROW.size:=by rw[vV];omega
 have Q7: ∀(j:Nat) (v:Value),(cs.take (i))[j]?=some v->ROW[j]?=some v:=by intro j v hj;have hlt:=(b8.1 hj).1;rw[yR,Array.append_assoc,Array.getElem?_append_left (by simpa using hlt)];simpa using hj
 obtain⟨W1,hW1⟩: ∃W1,W1=w.drew.alloc (.cells ROW 197):=⟨_,rfl⟩;rw[<-hW1]at NR
 have hN: ∀j,j<(n+1)*1->(W1.cell? ⟨w.heap.size,j,none⟩).isSome=true:=fun j hj=>by rw[hW1,World.cell?_alloc_at (w:=w.drew) ROW _ w.heap.size j rfl,ir (by omega)];rfl
 have Q9: ∀j,W1.frozen? ⟨w.heap.size,j,none⟩=false:=fun j=>by rw[hW1];exact World.frozen?_alloc_at (w:=w.drew) ROW _ w.heap.size j rfl
 have Ue: ∀j v,w.cell? ⟨b,j,none⟩=some v->W1.cell? ⟨b,j,none⟩=some v:=fun j v h=>by rw[hW1,World.cell?_alloc_past (w:=w.drew) _ b j dP];exact h
 have Uf: ∀j v,w.cell? ⟨vb,j,none⟩=some v->W1.cell? ⟨vb,j,none⟩=some v:=fun j v h=>by rw[hW1,World.cell?_alloc_past (w:=w.drew) _ vb j NQ];exact h
 have J4: ∀(W:World),(∀x,W.cell? x=W1.cell? x)->(∀x,W.frozen? x=W1.frozen? x)-> ∀ty dc,(Builtin.copy_ #[199,199] ty #[.slice (some ⟨w.heap.size,i,none⟩) (n+1-i) dc,.slice (some ⟨vb,0,none⟩) 1 1]).run Tryz.prog W=.ok (goInt ((1:Nat):Int)) (W.setCells w.heap.size (i) vs):=fun W Ba J2 ty dc=>
  cg W _ _ ty 197 1 w.heap.size (i) (n+1-i) dc ⟨vb,0,none⟩ 1 1 1 vs Tryz.underlying199 hsz (by simp only[Nat.min_def];split<;>omega) (by rw[hvl])
   (fun j v hj=>by rw[gE,gn,Ba];exact Uf _ v (hvs j v hj))
   (fun j hj=>by rw[Ba];exact hN _ (by omega)) (fun j hj=>by rw[J2];exact Q9 _) Hc
 have hGi: ¬(G=i):=by omega
 have Ye: ¬(G=i+1):=by omega
 have hci: ¬(c=i):=by omega
 have Yf:b≠w.heap.size:=by omega
 have mR:(cs.drop (i)).length=(n-i):=by rw[my,hcl];omega
 have J5: ∀(W:World),(∀x,W.cell? x=(W1.setCells w.heap.size (i) vs).cell? x)->(∀x,W.frozen? x=(W1.setCells w.heap.size (i) vs).frozen? x)-> ∀ty dc sc,(Builtin.copy_ #[199,199] ty #[.slice (some ⟨w.heap.size,(i+1),none⟩) (n-i) dc,.slice (some ⟨b,off+i,none⟩) (n-i) sc]).run Tryz.prog W=.ok (goInt ((n-i:Nat):Int)) (W.setCells w.heap.size ((i+1)) (cs.drop (i))):=fun W Ba J2 ty dc sc=>
  cg W _ _ ty 197 1 w.heap.size ((i+1)) (n-i) dc ⟨b,off+i,none⟩ (n-i) sc (n-i) (cs.drop (i)) Tryz.underlying199 hsz (by simp only[Nat.min_def];split<;>omega) (by first|exact mR|(rw[mR];omega))
   (fun j v hj=>by
    rw[gE,Ba,World.cell?_setCells_out _ _ _ _ _ (fun h _=>absurd h Yf),gO]
    exact Ue _ v (hcs (i+j) v (by rwa[lE]at hj)))
   (fun j hj=>by rw[Ba];exact isSome_setCells _ _ _ _ (fun t ht=>hN _ (by omega)) _ (hN _ (by omega)))
   (fun j hj=>by rw[J2,World.frozen?_setCells];exact Q9 _) (fun v hv=>h1c v (List.mem_of_mem_drop hv))
 subst hW1;have Ug:=J4 ((w.alloc (.cells ROW 197)).drew) (fun x=>rfl) (fun x=>rfl);have J6:=J5 (((w.alloc (.cells ROW 197)).drew.setCells w.heap.size (i) vs).drew) (fun x=>rfl) (fun x=>rfl);have hw1:IntKind.i64.wrap ((i:Int)+1)=(i:Int)+1:=by rw[fm];omega
 have hb1:(0:Int)<=(i:Int)+1:=by omega
 have hin:i<=n:=by omega
 have htn:((i:Int)+1).toNat=i+1:=by omega
 have hb3:(i:Int)<=(n:Int):=by omega
 have HF:=al (show ∃(G':Nat) (yS:Array Value),n+1<=G'/\G'<=maxLen/\yS.size=G'*1/\(∀(j:Nat) (v:Value),(cs.take (i))[j]?=some v->yS[j]?=some v)/\G'=G/\yS=ROW from⟨G,ROW,Yc,Ud,vV,Q7,rfl,rfl⟩);clear hkk hik hold yR hG Xp vV Q7 hN Q9 Ue Uf J4 J5 hsz hcs hvs h1c Hc hcl hvl mR hzs hzb hz0 hi0;go_enter Tryz.func139,Tryz.ntmps139;go_wp2_with (at_builtin;refine Lib.wpList_append_run _ rfl _ _ _ _ rfl _ _ rfl rfl _ _ (NR _) ?_)
 go_region_law (refine step_copy_runI rfl _ _ 199 199 rfl _ _ (by simp[Act.eval,Act.put]) (by simp[Act.eval,Act.put]) (J6 _ _ _) ?_)
 go_wp2_with fail;go_ret
 obtain⟨G',yS,a1,a2,a3,a4,rfl,rfl⟩:=HF.out;exact⟨_,_,a1,a2,a3,a4,rfl,rfl⟩
theorem NU(w:World)(F:Nat->Nat->Prop)(v:Value)(xs:List (List Value))(i:Nat)(x:List Value)(vb:Nat)(h:az 1 197 w v xs F)(hi:i<=xs.length)(hlen:xs.length<=1000)(hx:x.length=1)(AY: ∀u∈x,u.oneCell'=true)(h1: ∀u∈xs.flatten,u.oneCell'=true)
  (hb:w.heap[vb]?=some (.cells x.toArray 197 (0,0))) (hvb: ∀j,¬F vb j):
  Calls Tryz.prog 139 #[v,.int .i64 i,.slice (some ⟨vb,0,none⟩) 1 1] w (AV 1 197 w F (xs.take i++x::xs.drop i)):=by
 by_cases he:i=xs.length
 ·subst he;have:=NT w F v xs x vb h hlen hx AY hb;simpa using this
 ·obtain⟨b,off,c,cs,rfl,q2,q3,q4,q6,q7,q8,q9⟩:=h.lies (by omega);have hfl:=bA q4;have hcs: ∀j u,xs.flatten[j]?=some u->w.cell? ⟨b,off+j,none⟩=some u:=fun j u hj=>oT q6 (q9 j u hj);have hxs: ∀j u,x[j]?=some u->w.cell? ⟨vb,j,none⟩=some u:=fun j u hj=>oT hb (by simpa using hj);by_cases hr:xs.length+1<=c
  ·have hmul:(xs.length+1)*1<=c*1:=eb _ hr;have hne:vb≠b:=fun e=>hvb off (by rw[e];exact q8 off (aq _) (by omega));have Ra:=iB hb
   have:=Hd w b off xs.length c i vb xs.flatten x (by omega) hr (by unfold maxLen at q3;omega) hne hlen hfl hx hcs
    (fun j hj=>by simp[World.cell?,q6,ir (show off+j<cs.size by omega)]) (fun j _=>frozen_of_heap q6 _) hxs h1 AY _ _ _ _ Ra (iB q6) (by omega) (frozen_of_heap hb _) (frozen_of_heap hb _)
   refine this.mono ?_;rintro e w' ⟨rfl,rfl⟩;have hh:=rN (F:=F) (by decide) (show i<xs.length by omega) hr q3 q4 hx q6 q7 q8 q9;simpa using hh
  ·have:=J7 w b off xs.length c i vb xs.flatten x (by omega) q2 (by omega) hlen hfl hx hcs hxs h1 AY;refine this.mono ?_;rintro e w' ⟨G,ROW,g1,g2,g3,g4,rfl,rfl⟩;have hh:=xx (F:=F) (t:=197) (w:=w) (k:=1) (by decide) (show i<xs.length by omega) g1 g2 q4 hx g3 (by simpa using g4);simpa using hh
theorem oP{P:Program}(w:World)(t e ty:TypeId)(z:Value)(zs:List Value)(ht:P.underlying t=some (.slice e))(hv: ∀w,(zeroValue e).run P w=.ok z w)(hz:(Builtin.zeroCells z.cells 1).toList=zs)(h1: ∀v∈zs,v.oneCell'=true)(b o c:Nat)
  (hc: ∀j,j<zs.length->(w.cell? ⟨b,o+j,none⟩).isSome=true) (hf: ∀j,j<zs.length->w.frozen? ⟨b,o+j,none⟩=false):
  (Builtin.clear_ #[t] ty #[.slice (some ⟨b,o,none⟩) 1 c]).run P w=.ok (.tuple #[]) (w.setCells b o zs):=by
 have hst:=run_storeCells_cells (P:=P) b o zs 0 w (by simpa using hc) (by simpa using hf) h1;simp only[mu]at hst;simp[Builtin.clear_,run_underlying ht,hv,hz,hst]
def Rb(k:Nat)(t:TypeId)(w:World)(F:Nat->Nat->Prop)(ys:List (List Value))(e:Ending)(w':World):Prop:=
 ∃v',e=.returned v'/\az k t w' v' ys F/\OnlyC F w w'
theorem Bb{k:Nat}{t:TypeId}{w:World}{F:Nat->Nat->Prop}{b off c i:Nat}{cs:Array Value}{xs:List (List Value)}{zs:List Value}(hi:i<xs.length)(hnc:xs.length<=c)(hcm:c<=maxLen)(hk: ∀y∈xs,y.length=k)(hz:zs.length=k)
  (hb:w.heap[b]?=some (.cells cs t (0,0))) (h7:off+c*k<=cs.size) (h8: ∀j,off<=j->j<off+c*k->F b j) (h9: ∀j u,xs.flatten[j]?=some u->cs[off+j]?=some u):
  Rb k t w F (xs.take i++xs.drop (i+1)) (.returned (.slice (some ⟨b,off,none⟩) (xs.length-1) c)) ((w.drew.setCells b (off+i*k) (xs.flatten.drop ((i+1)*k))).setCells b (off+(xs.length-1)*k) zs):=by
 have hfl:=bA hk;have hmul:xs.length*k<=c*k:=eb k hnc;have Qk:(i+1)*k<=xs.length*k:=eb k hi;have tF:(xs.length-1)*k+k=xs.length*k:=by rw[<-kh];congr 1;omega
 have mR:(xs.flatten.drop ((i+1)*k)).length=xs.length*k-(i+1)*k:=by rw[my,hfl]
 rw[kh]at Qk;obtain⟨c1,k1,k2,k3,k4⟩:=bY (xs.flatten.drop ((i+1)*k)) (off+i*k) w.drew cs hb (by rw[mR,kh];omega);obtain⟨c2,l1,l2,l3,l4⟩:=bY zs (off+(xs.length-1)*k) _ c1 k1 (by rw[hz];omega);refine⟨_,rfl,az.rewritten (n:=xs.length-1) l1 (l2.trans k2) h7 h8 (by simp;omega) (by omega) hcm (fun y hy=>(dy.1 hy).elim (fun h=>hk y (List.mem_of_mem_take h)) (fun h=>hk y (List.mem_of_mem_drop h))) (fun j u hj=>?_),?_⟩
 ·rw[lF,xt hk (i+1) hi,xu hk i (by omega)]at hj;have htl:(xs.flatten.take (i*k)).length=i*k:=by rw[ke,hfl];omega
  have hjl:=(b8.1 hj).1;rw[gk,htl,mR,kh]at hjl;rw[l3 _ (by rw[hz];omega)];by_cases c1:j<i*k
  ·rw[lr (by omega),lz,fi c1]at hj;rw[k3 _ (by omega)];exact h9 j u hj
  ·rw[kd (by omega),htl]at hj;have:=k4 _ u hj;rwa[show off+i*k+(j-i*k)=off+j by omega]at this
 ·refine OnlyC.mQ (w:=w) (OnlyC.trans (F:=F) (G:=F) ((bG b (xs.flatten.drop ((i+1)*k)) (off+i*k) w.drew).mono (fun b' j _ ⟨e1,e2,e3⟩=>?_)) ((bG b zs (off+(xs.length-1)*k) _).mono (fun b' j _ ⟨e1,e2,e3⟩=>?_)) (fun _ _ _ h=>h))
  ·subst e1;rw[mR,kh]at e3;exact h8 j (by omega) (by omega)
  ·subst e1;exact h8 j (by omega) (by omega)
set_option maxRecDepth 1000000 in
theorem J8(w:World)(b off n c i j:Nat)(cs:List Value)(hj:Hid (j=i+1))(hij:i<j)(hi:i<n)(hjn:j<=n)(hnc:n<=c)(_Rc:c<=maxLen)(tF:n<=1000)(hcl:cs.length=n*2)
  (hcs: ∀j v,cs[j]?=some v->w.cell? ⟨b,off+j,none⟩=some v) (hsp: ∀j,j<n*2->(w.cell? ⟨b,off+j,none⟩).isSome=true) (hfz: ∀j,j<n*2->w.frozen? ⟨b,off+j,none⟩=false) (h1c: ∀v∈cs,v.oneCell'=true):
  Calls Tryz.prog 171 #[.slice (some ⟨b,off,none⟩) n c,.int .i64 i,.int .i64 j] w fun e w'=>
   e=.returned (.slice (some ⟨b,off,none⟩) (n-1) c)/\w'=(w.drew.setCells b (off+i*2) (cs.drop ((i+1)*2))).setCells b (off+(n-1)*2) [.string ⟨#[]⟩,.string ⟨#[]⟩]:=by
 obtain⟨i0,hi0,hz0,hz1,hz2⟩:=eC Tryz.Dv;unfold maxLen at _Rc;obtain⟨news,hnews⟩: ∃news,news=cs.drop (j*2):=⟨_,rfl⟩;have hlen:news.length=(n-j)*2:=by rw[hnews,my,hcl];omega
 obtain⟨A,hA,hsrc⟩: ∃A:Addr,(if c=j then some (⟨b,off,none⟩:Addr)else some ⟨b,off+j*2,none⟩)=some A/\Hid (∀t u,news[t]?=some u->w.drew.cell? (A.add t)=some u):=by
  by_cases h:c=j
  ·refine⟨⟨b,off,none⟩,by simp[h],fun t u hu=>?_⟩;have h0:news.length=0:=by rw[hlen];omega
   rw[List.length_eq_zero_iff.1 h0]at hu;simp at hu
  ·refine⟨⟨b,off+j*2,none⟩,by simp[h],fun t u hu=>?_⟩;rw[gE,gO];rw[hnews,lE]at hu;have:=hcs _ u hu
   first|exact this|simpa using this
 have s1:Hid (news.length=(n-j)*2):=al hlen;have s2:Hid (∀u∈news,u.oneCell'=true):=al (by rw[hnews];exact fun u hu=>h1c u (List.mem_of_mem_drop hu))
 have s3:Hid (∀t,t<news.length->(w.drew.cell? ⟨b,off+i*2+t,none⟩).isSome=true/\w.drew.frozen? ⟨b,off+i*2+t,none⟩=false):=by intro t ht;rw[hlen]at ht;rw[gO];exact⟨hsp _ (by omega),hfz _ (by omega)⟩
 obtain⟨W1,hW1⟩: ∃W1,W1=w.drew.setCells b (off+i*2) news:=⟨_,rfl⟩
 have tG: ∀j,j<n*2->(W1.cell? ⟨b,off+j,none⟩).isSome=true:=fun j hj=>by rw[hW1];exact isSome_setCells b _ _ _ (fun t ht=>by rw[hlen]at ht;rw[gO];exact hsp _ (by omega)) _ (hsp j hj)
 have J9: ∀j,j<n*2->W1.frozen? ⟨b,off+j,none⟩=false:=fun j hj=>by rw[hW1,World.frozen?_setCells];exact hfz j hj
 have hone:n-(i+(n-j))=1:=by have:=hj.out;omega
 have Yg: ∀ty cc,(Builtin.clear_ #[198] ty #[.slice (some ⟨b,off+(i+(n-j))*2,none⟩) (n-(i+(n-j))) cc]).run Tryz.prog W1=.ok (.tuple #[]) (W1.setCells b (off+(i+(n-j))*2) [.string ⟨#[]⟩,.string ⟨#[]⟩]):=fun ty cc=>by rw[hone];exact oP W1 198 210 ty (.agg #[.string ⟨#[]⟩,.string ⟨#[]⟩]) [.string ⟨#[]⟩,.string ⟨#[]⟩] Tryz.underlying198 (fun w=>by kernel_rfl) (by kernel_rfl) (by simp;first|rfl|(constructor<;>rfl)) b (off+(i+(n-j))*2) cc (fun j hj=>by simp at hj;rw[gO];exact tG _ (by omega)) (fun j hj=>by simp at hj;rw[gO];exact J9 _ (by omega))
 have hW:Hid (W1=w.drew.setCells b (off+i*2) news):=al hW1;have HE:=al (show i+(n-j)=n-1/\W1.setCells b (off+(i+(n-j))*2) [.string ⟨#[]⟩,.string ⟨#[]⟩]=(w.drew.setCells b (off+i*2) (cs.drop ((i+1)*2))).setCells b (off+(n-1)*2) [.string ⟨#[]⟩,.string ⟨#[]⟩]from⟨by omega,by rw[hW1,hnews,hj.out,show i+(n-(i+1))=n-1 by have:=hj.out;omega]<;>simp⟩);have hic:i<=c:=by omega
 have hjc:j<=c:=by omega
 clear hW1 hsp hfz hcs h1c hcl hlen hnews tG J9 hone;go_enter Tryz.func171,Tryz.ntmps171;go_wp2_with fail
 go_region_law (refine step_append_room rfl (.tmp 22) (.tmp 25) 198 rfl 210 i0 2 Tryz.underlying198 hi0 hz1 b off i c (by simp[Act.eval,Act.put]) A (n-j) (c-j) news (by simp[Act.eval,Act.put]) s1.out hsrc.out s2.out (by omega) s3.out ?_;rw[<-hW.out])
 go_wp2_with fail;go_ret
 exact⟨by rw[HE.out.1];rfl,HE.out.2⟩
theorem kD(w:World)(F:Nat->Nat->Prop)(v:Value)(xs:List (List Value))(i:Nat)(a z:Int)(ha:a=(i:Int))(hz:z=(i:Int)+1)(h:az 2 210 w v xs F)(hi:i<xs.length)(hlen:xs.length<=1000)(h1: ∀u∈xs.flatten,u.oneCell'=true):
  Calls Tryz.prog 171 #[v,.int .i64 a,.int .i64 z] w (Rb 2 210 w F (xs.take i++xs.drop (i+1))):=by
 subst ha;obtain rfl:z=((i+1:Nat):Int):=by omega
 obtain⟨b,off,c,cs,rfl,q2,q3,q4,q6,q7,q8,q9⟩:=h.lies (by omega);have hfl:=bA q4;have hmul:xs.length*2<=c*2:=eb _ q2;have:=J8 w b off xs.length c i (i+1) xs.flatten (al rfl) (by omega) hi hi q2 q3 hlen hfl (fun j u hj=>oT q6 (q9 j u hj)) (fun j hj=>by simp[World.cell?,q6,ir (show off+j<cs.size by omega)]) (fun j _=>frozen_of_heap q6 _) h1;refine this.mono ?_;rintro e w' ⟨rfl,rfl⟩;exact Bb hi q2 q3 q4 (by rfl) q6 q7 q8 q9
theorem iG(w:World)(F:Nat->Nat->Prop)(v:Value)(xs:List (List Value))(i:Nat)(a:Int)(ha:a=(i:Int))(x:List Value)(vb:Nat)(h:az 2 210 w v xs F)(hi:i<=xs.length)(hlen:xs.length<=1000)(hx:x.length=2)(AY: ∀u∈x,u.oneCell'=true)(h1: ∀u∈xs.flatten,u.oneCell'=true)
  (hb:w.heap[vb]?=some (.cells x.toArray 210 (0,0))) (hvb: ∀j,¬F vb j):
  Calls Tryz.prog 138 #[v,.int .i64 a,.slice (some ⟨vb,0,none⟩) 1 1] w (AV 2 210 w F (xs.take i++x::xs.drop i)):=by
 subst ha;exact NS w F v xs i x vb h hi hlen hx AY h1 hb hvb
set_option maxRecDepth 1000000 in
theorem Ka(w:World)(b off n c i j:Nat)(cs:List Value)(hj:Hid (j=i+1))(hij:i<j)(hi:i<n)(hjn:j<=n)(hnc:n<=c)(_Rc:c<=maxLen)(tF:n<=1000)(hcl:cs.length=n*1)
  (hcs: ∀j v,cs[j]?=some v->w.cell? ⟨b,off+j,none⟩=some v) (hsp: ∀j,j<n*1->(w.cell? ⟨b,off+j,none⟩).isSome=true) (hfz: ∀j,j<n*1->w.frozen? ⟨b,off+j,none⟩=false) (h1c: ∀v∈cs,v.oneCell'=true):
  Calls Tryz.prog 235 #[.slice (some ⟨b,off,none⟩) n c,.int .i64 i,.int .i64 j] w fun e w'=>
   e=.returned (.slice (some ⟨b,off,none⟩) (n-1) c)/\w'=(w.drew.setCells b (off+i*1) (cs.drop ((i+1)*1))).setCells b (off+(n-1)*1) [.pointer none]:=by
 obtain⟨i0,hi0,hz0,hz1,hz2⟩:=eC Tryz.Dx;unfold maxLen at _Rc;obtain⟨news,hnews⟩: ∃news,news=cs.drop (j*1):=⟨_,rfl⟩;have hlen:news.length=(n-j)*1:=by rw[hnews,my,hcl];omega
 obtain⟨A,hA,hsrc⟩: ∃A:Addr,(if c=j then some (⟨b,off,none⟩:Addr)else some ⟨b,off+j,none⟩)=some A/\Hid (∀t u,news[t]?=some u->w.drew.cell? (A.add t)=some u):=by
  by_cases h:c=j
  ·refine⟨⟨b,off,none⟩,by simp[h],fun t u hu=>?_⟩;have h0:news.length=0:=by rw[hlen];omega
   rw[List.length_eq_zero_iff.1 h0]at hu;simp at hu
  ·refine⟨⟨b,off+j,none⟩,by simp[h],fun t u hu=>?_⟩;rw[gE,gO];rw[hnews,lE]at hu;have:=hcs _ u hu
   first|exact this|simpa using this
 have s1:Hid (news.length=(n-j)*1):=al hlen;have s2:Hid (∀u∈news,u.oneCell'=true):=al (by rw[hnews];exact fun u hu=>h1c u (List.mem_of_mem_drop hu))
 have s3:Hid (∀t,t<news.length->(w.drew.cell? ⟨b,off+i*1+t,none⟩).isSome=true/\w.drew.frozen? ⟨b,off+i*1+t,none⟩=false):=by intro t ht;rw[hlen]at ht;rw[gO];exact⟨hsp _ (by omega),hfz _ (by omega)⟩
 obtain⟨W1,hW1⟩: ∃W1,W1=w.drew.setCells b (off+i*1) news:=⟨_,rfl⟩
 have tG: ∀j,j<n*1->(W1.cell? ⟨b,off+j,none⟩).isSome=true:=fun j hj=>by rw[hW1];exact isSome_setCells b _ _ _ (fun t ht=>by rw[hlen]at ht;rw[gO];exact hsp _ (by omega)) _ (hsp j hj)
 have J9: ∀j,j<n*1->W1.frozen? ⟨b,off+j,none⟩=false:=fun j hj=>by rw[hW1,World.frozen?_setCells];exact hfz j hj
 have hone:n-(i+(n-j))=1:=by have:=hj.out;omega
 have Yg: ∀ty cc,(Builtin.clear_ #[199] ty #[.slice (some ⟨b,off+(i+(n-j)),none⟩) (n-(i+(n-j))) cc]).run Tryz.prog W1=.ok (.tuple #[]) (W1.setCells b (off+(i+(n-j))) [.pointer none]):=fun ty cc=>by rw[hone];exact oP W1 199 197 ty (.pointer none) [.pointer none] Tryz.underlying199 (fun w=>by kernel_rfl) (by kernel_rfl) (by simp;first|rfl|(constructor<;>rfl)) b (off+(i+(n-j))) cc (fun j hj=>by simp at hj;rw[gO];exact tG _ (by omega)) (fun j hj=>by simp at hj;rw[gO];exact J9 _ (by omega))
 have hW:Hid (W1=w.drew.setCells b (off+i*1) news):=al hW1;have HE:=al (show i+(n-j)=n-1/\W1.setCells b (off+(i+(n-j))) [.pointer none]=(w.drew.setCells b (off+i*1) (cs.drop ((i+1)*1))).setCells b (off+(n-1)*1) [.pointer none]from⟨by omega,by rw[hW1,hnews,hj.out,show i+(n-(i+1))=n-1 by have:=hj.out;omega]<;>simp⟩);have hic:i<=c:=by omega
 have hjc:j<=c:=by omega
 clear hW1 hsp hfz hcs h1c hcl hlen hnews tG J9 hone;go_enter Tryz.func235,Tryz.ntmps235;go_wp2_with fail
 go_region_law (refine step_append_room rfl (.tmp 22) (.tmp 25) 199 rfl 197 i0 1 Tryz.underlying199 hi0 hz1 b off i c (by simp[Act.eval,Act.put]) A (n-j) (c-j) news (by simp[Act.eval,Act.put]) s1.out hsrc.out s2.out (by omega) s3.out ?_;rw[<-hW.out])
 go_wp2_with fail;go_ret
 exact⟨by rw[HE.out.1];rfl,HE.out.2⟩
theorem iC(w:World)(F:Nat->Nat->Prop)(v:Value)(xs:List (List Value))(i:Nat)(a z:Int)(ha:a=(i:Int))(hz:z=(i:Int)+1)(h:az 1 197 w v xs F)(hi:i<xs.length)(hlen:xs.length<=1000)(h1: ∀u∈xs.flatten,u.oneCell'=true):
  Calls Tryz.prog 235 #[v,.int .i64 a,.int .i64 z] w (Rb 1 197 w F (xs.take i++xs.drop (i+1))):=by
 subst ha;obtain rfl:z=((i+1:Nat):Int):=by omega
 obtain⟨b,off,c,cs,rfl,q2,q3,q4,q6,q7,q8,q9⟩:=h.lies (by omega);have hfl:=bA q4;have hmul:xs.length*1<=c*1:=eb _ q2;have:=Ka w b off xs.length c i (i+1) xs.flatten (al rfl) (by omega) hi hi q2 q3 hlen hfl (fun j u hj=>oT q6 (q9 j u hj)) (fun j hj=>by simp[World.cell?,q6,ir (show off+j<cs.size by omega)]) (fun j _=>frozen_of_heap q6 _) h1;refine this.mono ?_;rintro e w' ⟨rfl,rfl⟩;exact Bb hi q2 q3 q4 (by rfl) q6 q7 q8 q9
theorem iH(w:World)(F:Nat->Nat->Prop)(v:Value)(xs:List (List Value))(i:Nat)(a:Int)(ha:a=(i:Int))(x:List Value)(vb:Nat)(h:az 1 197 w v xs F)(hi:i<=xs.length)(hlen:xs.length<=1000)(hx:x.length=1)(AY: ∀u∈x,u.oneCell'=true)(h1: ∀u∈xs.flatten,u.oneCell'=true)
  (hb:w.heap[vb]?=some (.cells x.toArray 197 (0,0))) (hvb: ∀j,¬F vb j):
  Calls Tryz.prog 139 #[v,.int .i64 a,.slice (some ⟨vb,0,none⟩) 1 1] w (AV 1 197 w F (xs.take i++x::xs.drop i)):=by
 subst ha;exact NU w F v xs i x vb h hi hlen hx AY h1 hb hvb
end Go.Proofs.YtagemonojdgbdaaGreatDoor
