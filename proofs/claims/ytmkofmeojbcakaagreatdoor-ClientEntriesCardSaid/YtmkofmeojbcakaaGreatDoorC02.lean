import Derived.Test.YtmkofmeojbcakaaGreatDoorC01
import Derived.Test.YtmkofmeojbcakaaGreatDoorProg
import Derived.Shelf.Spec.SlicesInsertGrow
import Derived.Deep.RegionLaw
namespace Go.Proofs.YtmkofmeojbcakaaGreatDoor
open Go.Proofs.Tryz
set_option maxRecDepth 100000
set_option maxHeartbeats 16000000
open Go.RowKit
theorem cF{P:Program}(w:World)(dT sT ty elem:TypeId)(k b o dLen dCap:Nat)(a:Addr)(sLen sCap n:Nat)(cs:List Value)
  (hu:P.underlying dT=some (.slice elem)) (hs:(P.info? elem).map (·.size)=some k) (hn:Nat.min sLen dLen=n) (hl:cs.length=n*k)
  (hsrc: ∀j v,cs[j]?=some v->w.cell? (a.add j)=some v) (hc: ∀j,j<cs.length->(w.cell? ⟨b,o+j,none⟩).isSome=true) (hf: ∀j,j<cs.length->w.frozen? ⟨b,o+j,none⟩=false) (h1: ∀v∈cs,v.oneCell'=true):
  (Builtin.copy_ #[dT,sT] ty #[.slice (some ⟨b,o,none⟩) dLen dCap,.slice (some a) sLen sCap]).run P w=.ok (goInt n) (w.setCells b o cs):=by
 have hfc:=run_firstCells_some (P:=P) w k n a sLen sCap cs hl hsrc;have hst:=run_storeCells_cells (P:=P) b o cs 0 w (by simpa using hc) (by simpa using hf) h1
 cases hq:P.info? elem with
 |none=>simp[hq]at hs
 |some i=>
  have hi:i.size=k:=by simpa[hq]using hs
  subst hi;simp[Builtin.copy_,run_underlying hu,Builtin.lenOf,sizeOf,typeInfo,hq,hn,hfc,hst]
def CR(k:Nat)(t:TypeId)(w:World)(F:Nat->Nat->Prop)(ys:List (List Value))(e:Ending)(w':World):Prop:=
 ∃v',e=.returned v'/\az k t w' v' ys (fun b o=>F b o\/w.heap.size<=b)/\OnlyC F w w'
theorem pI{P:Program}{e:TypeId}{z:Value}{k b:Nat}(h:(P.info? e).map (fun i=>(i.zero,i.size,i.bytes))=some (some z,k,b)):(P.info? e).map (·.size)=some k:=by obtain⟨i0,hi0,_,h1,_⟩:=ep h;rw[hi0];simp[h1]
theorem zE{k:Nat}{xs:List (List Value)}(hk: ∀x∈xs,x.length=k)(i:Nat)(hi:i<=xs.length):(xs.drop i).flatten=xs.flatten.drop (i*k):=by
 have h:=eM List.flatten (List.take_append_drop i xs);rw[lE]at h;have hl:(xs.take i).flatten.length=i*k:=by rw[bL (fun x hx=>hk x (List.mem_of_mem_take hx)),kh,nw hi]
 rw[<-h,<-hl,List.drop_left]
theorem zF{k:Nat}{xs:List (List Value)}(hk: ∀x∈xs,x.length=k)(i:Nat)(hi:i<=xs.length):(xs.take i).flatten=xs.flatten.take (i*k):=by
 have h:=eM List.flatten (List.take_append_drop i xs);rw[lE]at h;have hl:(xs.take i).flatten.length=i*k:=by rw[bL (fun x hx=>hk x (List.mem_of_mem_take hx)),kh,nw hi]
 rw[<-h,<-hl,List.take_left]
theorem CS{k i:Nat}{xs:List (List Value)}{x:List Value}(hk: ∀y∈xs,y.length=k)(hx:x.length=k): ∀y∈xs.take i++x::xs.drop i,y.length=k:=by
 intro y hy;rcases dy.1 hy with hy|hy
 ·exact hk y (List.mem_of_mem_take hy)
 ·rcases e7.1 hy with rfl|hy
  ·exact hx
  ·exact hk y (List.mem_of_mem_drop hy)
theorem spliced{k i:Nat}{xs:List (List Value)}{x:List Value}(hk: ∀y∈xs,y.length=k)(hx:x.length=k)(hi:i<=xs.length)(get:Nat->Option Value)
  (h1: ∀(j:Nat) (u:Value),(xs.flatten.take (i*k))[j]?=some u->get j=some u) (h2: ∀(j:Nat) (u:Value),x[j]?=some u->get (i*k+j)=some u) (h3: ∀(j:Nat) (u:Value),(xs.flatten.drop (i*k))[j]?=some u->get ((i+1)*k+j)=some u):
  ∀(j:Nat) (u:Value),(xs.take i++x::xs.drop i).flatten[j]?=some u->get j=some u:=by
 intro j u hj;rw[lE,List.flatten_cons,zE hk i hi,zF hk i hi]at hj;have hfl:=bL hk;have hik:i*k<=xs.length*k:=ef k hi;have htl:(xs.flatten.take (i*k)).length=i*k:=by rw[kh,hfl];omega
 by_cases c1:j<i*k
 ·rw[lr (by omega)]at hj;exact h1 j u hj
 ·rw[ke (by omega),htl]at hj;by_cases c2:j-i*k<k
  ·rw[lr (by omega)]at hj;have:=h2 _ u hj;rwa[show i*k+(j-i*k)=j by omega]at this
  ·rw[ke (by omega),hx]at hj;have:=h3 _ u hj;rw[la]at this;rwa[show i*k+k+(j-i*k-k)=j by omega]at this
theorem iY{w:World}{b:Nat}{cs:Array Value}{t:TypeId}(h:w.heap[b]?=some (.cells cs t (0,0))):w.shape? b=some (t,cs.size):=by simp[World.shape?,h]
theorem uq{k:Nat}{t:TypeId}{w:World}{F:Nat->Nat->Prop}{b off c i:Nat}{cs:Array Value}{xs:List (List Value)}{x:List Value}(eQ:0<k)(hi:i<xs.length)(hroom:xs.length+1<=c)(hcm:c<=maxLen)(hk: ∀y∈xs,y.length=k)(hx:x.length=k)
  (hb:w.heap[b]?=some (.cells cs t (0,0))) (h7:off+c*k<=cs.size) (h8: ∀j,off<=j->j<off+c*k->F b j) (h9: ∀j u,xs.flatten[j]?=some u->cs[off+j]?=some u):
  CR k t w F (xs.take i++x::xs.drop i) (.returned (.slice (some ⟨b,off,none⟩) (xs.length+1) c)) ((w.drew.setCells b (off+(i+1)*k) (xs.flatten.drop (i*k))).setCells b (off+i*k) x):=by
 have hfl:=bL hk;have hmul:(xs.length+1)*k<=c*k:=ef k hroom;have TR:(i+1)*k<=xs.length*k:=ef k hi;rw[la]at hmul TR;have oL:(xs.flatten.drop (i*k)).length=xs.length*k-i*k:=by rw[mT,hfl]
 obtain⟨c1,k1,k2,k3,k4⟩:=cE (xs.flatten.drop (i*k)) (off+(i+1)*k) w.drew cs hb (by rw[oL,la];omega);obtain⟨c2,l1,l2,l3,l4⟩:=cE x (off+i*k) _ c1 k1 (by rw[hx];omega);refine⟨_,rfl,az.rewritten (n:=xs.length+1) l1 (l2.x k2) h7 (fun j a b=>.inl (h8 j a b)) (by simp;omega) hroom hcm (CS hk hx) (spliced hk hx (Nat.le_of_lt hi) (fun j=>c2[off+j]?) (fun j u hj=>?_) (fun j u hj=>?_) (fun j u hj=>?_)),?_⟩
 ·have hlt:=(b8.1 hj).1;rw[kh]at hlt;rw[mu]at hj;split at hj
  ·show c2[off+j]?=some u;rw[l3 _ (by omega),k3 _ (by rw[la];omega)];exact h9 j u hj
  ·cases hj
 ·show c2[off+(i*k+j)]?=some u;rw[<-gR];exact l4 j u hj
 ·have hlt:=(b8.1 hj).1;rw[oL]at hlt;show c2[off+((i+1)*k+j)]?=some u;rw[<-gR,l3 _ (by rw[la];omega)];exact k4 j u hj
 ·refine OnlyC.nt (w:=w) (OnlyC.trans (F:=F) (G:=F) ((bU b (xs.flatten.drop (i*k)) (off+(i+1)*k) w.drew).m (fun b' j _ ⟨e1,e2,e3⟩=>?_)) ((bU b x (off+i*k) _).m (fun b' j _ ⟨e1,e2,e3⟩=>?_)) (fun _ _ _ h=>h))
  ·subst e1;rw[la]at e2 e3;exact h8 j (by omega) (by omega)
  ·subst e1;exact h8 j (by omega) (by omega)
theorem zG{k:Nat}{t:TypeId}{w:World}{F:Nat->Nat->Prop}{G i:Nat}{ROW:Array Value}{xs:List (List Value)}{x:List Value}(eQ:0<k)(hi:i<xs.length)(hG:xs.length+1<=G)(hcm:G<=maxLen)(hk: ∀y∈xs,y.length=k)(hx:x.length=k)
  (hR:ROW.size=G*k) (UN: ∀(j:Nat) (v:Value),(xs.flatten.take (i*k))[j]?=some v->ROW[j]?=some v):
  CR k t w F (xs.take i++x::xs.drop i) (.returned (.slice (some ⟨w.heap.size,0,none⟩) (xs.length+1) G)) ((((w.alloc (.cells ROW t)).drew.setCells w.heap.size (i*k) x).drew).setCells w.heap.size ((i+1)*k) (xs.flatten.drop (i*k))):=by
 have hfl:=bL hk;have hmul:(xs.length+1)*k<=G*k:=ef k hG;have TR:(i+1)*k<=xs.length*k:=ef k hi;rw[la]at hmul TR;have oL:(xs.flatten.drop (i*k)).length=xs.length*k-i*k:=by rw[mT,hfl]
 have hb:(w.alloc (.cells ROW t)).drew.heap[w.heap.size]?=some (.cells ROW t (0,0)):=an w _;obtain⟨c1,k1,k2,k3,k4⟩:=cE x (i*k) _ ROW hb (by rw[hx];omega);obtain⟨c2,l1,l2,l3,l4⟩:=cE (xs.flatten.drop (i*k)) ((i+1)*k) (((w.alloc (.cells ROW t)).drew.setCells w.heap.size (i*k) x).drew) c1 k1 (by rw[oL,la];omega);refine⟨_,rfl,az.rewritten (n:=xs.length+1) (o:=0) l1 (l2.x k2) (by omega) (fun j a b=>.inr (aE _)) (by simp;omega) hG hcm (CS hk hx) (spliced hk hx (Nat.le_of_lt hi) (fun j=>c2[0+j]?) (fun j u hj=>?_) (fun j u hj=>?_) (fun j u hj=>?_)),?_⟩
 ·have hlt:=(b8.1 hj).1;rw[kh]at hlt;show c2[0+j]?=some u;rw[gx,l3 _ (by rw[la];omega),k3 _ (by omega)];exact UN j u hj
 ·have hlt:=(b8.1 hj).1;show c2[0+(i*k+j)]?=some u;rw[gx,l3 _ (by rw[la];omega)];exact k4 j u hj
 ·show c2[0+((i+1)*k+j)]?=some u;rw[gx];exact l4 j u hj
 ·refine oy ?_ F;have a1:OnlyC (fun b _=>w.heap.size<=b) w (w.alloc (.cells ROW t)).drew:=((OnlyC.refl _ w).alloc _).drew;have a2:=a1.x (bU w.heap.size x (i*k) _) (fun b j hb ⟨e,_⟩=>by omega);have a3:=a2.drew.x (bU w.heap.size (xs.flatten.drop (i*k)) ((i+1)*k) _) (fun b j hb ⟨e,_⟩=>by omega);exact a3.below (fun b o hb h=>by omega)
theorem Tryz.Fv:(prog.info? 195).map (fun i=>(i.zero,i.size,i.bytes))=some (some (.agg #[.string ⟨#[]⟩,.string ⟨#[]⟩]),2,32):=by kernel_rfl
set_option maxRecDepth 1000000 in
theorem QJ(w:World)(F:Nat->Nat->Prop)(v:Value)(xs:List (List Value))(x:List Value)(vb:Nat)(h:az 2 195 w v xs F)(hlen:xs.length<=1000)(hx:x.length=2)(CT: ∀u∈x,u.oneCell'=true)
  (hb:w.heap[vb]?=some (.cells x.toArray 195 (0,0))):
  Calls prog 120 #[v,.int .i64 xs.length,.slice (some ⟨vb,0,none⟩) 1 1] w (CR 2 195 w F (xs++[x])):=by
 obtain⟨i0,hi0,hz0,hz1,hz2⟩:=ep Tryz.Fv;have H:=al h;have HI:=al hi0;obtain⟨A,c,rfl,q2,q3,q4,q5⟩:=h;unfold maxLen at q3;have HX:=al (ab hx (ab CT hb));have hq:A=none/\c=0\/ ∃b o,A=some ⟨b,o,none⟩:=q5.elim (fun h=>h.2.imp (fun h'=>⟨h',h.1⟩) id) (fun⟨b,o,cs,h,_⟩=>.inr ⟨b,o,h⟩);clear q4 q5 hx CT hb hi0;have e1:(((xs.length:Int))==((xs.length:Int)))=true:=by simp
 rcases hq with⟨rfl,rfl⟩|⟨b,o,rfl⟩
 ·have hx0:xs=[]:=dj (by omega);subst hx0;go_enter func120,ntmps120;go_wp2_with (at_builtin;refine dL _ rfl _ _ 182 rfl i0 (.agg #[.string ⟨#[]⟩,.string ⟨#[]⟩]) 32 underlying182 HI.o hz0 hz1 hz2 (by rfl) (by decide) _ [] rfl H.o ⟨vb,0,none⟩ 1 1 [x] rfl rfl (fun y hy=>by rw[fj]at hy;subst hy;exact HX.o.1) (fun j u hj=>by rw[gO,gx];exact oS HX.o.d (by simpa using hj)) (by simpa using HX.o.2.1) (by simp[maxLen]) (by simp) ?_;intro v' w' ho hc;have HO:=al (ab ho hc);clear ho hc);go_ret
  exact⟨_,rfl,HO.o.1,HO.o.2⟩
 ·by_cases Xk:c=xs.length
  ·subst Xk;go_enter func120,ntmps120;go_wp2_with (at_builtin;refine dL _ rfl _ _ 182 rfl i0 (.agg #[.string ⟨#[]⟩,.string ⟨#[]⟩]) 32 underlying182 HI.o hz0 hz1 hz2 (by rfl) (by decide) _ xs rfl H.o ⟨vb,0,none⟩ 1 1 [x] rfl rfl (fun y hy=>by rw[fj]at hy;subst hy;exact HX.o.1) (fun j u hj=>by rw[gO,gx];exact oS HX.o.d (by simpa using hj)) (by simpa using HX.o.2.1) (by unfold maxLen;omega) (by omega) ?_;intro v' w' ho hc;have HO:=al (ab ho hc);clear ho hc);go_ret
   exact⟨_,rfl,HO.o.1,HO.o.2⟩
  ·go_enter func120,ntmps120;go_wp2_with (at_builtin;refine dL _ rfl _ _ 182 rfl i0 (.agg #[.string ⟨#[]⟩,.string ⟨#[]⟩]) 32 underlying182 HI.o hz0 hz1 hz2 (by rfl) (by decide) _ xs rfl H.o ⟨vb,0,none⟩ 1 1 [x] rfl rfl (fun y hy=>by rw[fj]at hy;subst hy;exact HX.o.1) (fun j u hj=>by rw[gO,gx];exact oS HX.o.d (by simpa using hj)) (by simpa using HX.o.2.1) (by unfold maxLen;omega) (by omega) ?_;intro v' w' ho hc;have HO:=al (ab ho hc);clear ho hc);go_ret
   exact⟨_,rfl,HO.o.1,HO.o.2⟩
set_option maxRecDepth 1000000 in
theorem J4(w:World)(b off n c i vb:Nat)(cs vs:List Value)(hi:i<n)(hroom:n+1<=c)(ack:c<=9223372036854775807)(hvb:vb≠b)(sK:n<=1000)
  (hcl:cs.length=n*2) (hvl:vs.length=2)
  (hcs: ∀j v,cs[j]?=some v->w.cell? ⟨b,off+j,none⟩=some v) (hsp: ∀j,j<(n+1)*2->(w.cell? ⟨b,off+j,none⟩).isSome=true) (hfz: ∀j,j<(n+1)*2->w.frozen? ⟨b,off+j,none⟩=false)
  (hvs: ∀j v,vs[j]?=some v->w.cell? ⟨vb,j,none⟩=some v) (h1c: ∀v∈cs,v.oneCell'=true) (Mw: ∀v∈vs,v.oneCell'=true)
  (tA tB:TypeId) (kA kB:Nat) (hsa:w.shape? vb=some (tA,kA)) (X4:w.shape? b=some (tB,kB)) (oK:kB≠0) (Fw:w.frozen? ⟨vb,0,none⟩=false) (X5:w.frozen? ⟨vb,kA,none⟩=false):
  Calls prog 120 #[.slice (some ⟨b,off,none⟩) n c,.int .i64 i,.slice (some ⟨vb,0,none⟩) 1 1] w fun e w'=>
   e=.returned (.slice (some ⟨b,off,none⟩) (n+1) c)/\w'=(w.drew.setCells b (off+(i+1)*2) (cs.drop (i*2))).setCells b (off+i*2) vs:=by
 have hsz:(prog.info? 195).map (·.size)=some 2:=pI Tryz.Fv;have hz2: ¬((i:Int)=(n:Int)):=by omega
 have hov: ∀lb cb,(callFunc 148 #[.slice (some ⟨vb,0,none⟩) 1 1,.slice (some ⟨b,off+(i+1)*2,none⟩) lb cb]).run prog w=.ok (.value (.bool false)) w:=fun lb cb=>by
  rw[run_callFunc_extern func148 (by kernel_rfl) (by kernel_rfl) (by kernel_rfl) (e:=Extern.SlicesOverlaps.overlaps #[182,182] #[4]) (by kernel_rfl),
   Lib.run_overlaps_apart w 182 4 195 underlying182 2 (fun w=>by kernel_rfl) ⟨vb,0,none⟩ ⟨b,off+(i+1)*2,none⟩ 1 1 lb cb hvb tA tB kA kB hsa X4 oK Fw X5]
  rfl
 have oL:(cs.drop (i*2)).length=(n-i)*2:=by rw[mT,hcl];omega
 have hw1:IntKind.i64.wrap ((i:Int)+1)=(i:Int)+1:=by rw[gr];omega
 have hb1:(0:Int)<=(i:Int)+1:=by omega
 have hin:i<=n:=by omega
 have htn:((i:Int)+1).toNat=i+1:=by omega
 have hb2: ¬(c=i+1):=by omega
 have hb3:(i:Int)<=(n:Int)+1:=by omega
 have hb4: ¬(c=i):=by omega
 have Mx: ∀ty dc sc,(Builtin.copy_ #[182,182] ty #[.slice (some ⟨b,off+(i+1)*2,none⟩) (n-i) dc,.slice (some ⟨b,off+i*2,none⟩) (n+1-i) sc]).run prog w.drew=.ok (goInt ((n-i:Nat):Int)) (w.drew.setCells b (off+(i+1)*2) (cs.drop (i*2))):=fun ty dc sc=>
  cF w.drew _ _ ty 195 2 b (off+(i+1)*2) (n-i) dc ⟨b,off+i*2,none⟩ (n+1-i) sc (n-i) (cs.drop (i*2)) underlying182 hsz (by simp only[Nat.min_def];split<;>omega) (by first|exact oL|(rw[oL];omega))
   (fun j v hj=>by rw[gO,gR];exact hcs (i*2+j) v (by rwa[mv]at hj))
   (fun j hj=>by rw[gR];exact hsp _ (by omega)) (fun j hj=>by rw[gR];exact hfz _ (by omega)) (fun v hv=>h1c v (List.mem_of_mem_drop hv))
 obtain⟨W1,hW1⟩:=qS (w.drew.setCells b (off+(i+1)*2) (cs.drop (i*2)))
 have wm: ∀k,k<(n+1)*2->(W1.cell? ⟨b,off+k,none⟩).isSome=true:=fun k hk=>by rw[hW1];exact isSome_setCells b _ _ _ (fun j hj=>by rw[gR];exact hsp _ (by omega)) _ (hsp k hk)
 have My: ∀(W:World),(∀x,W.cell? x=W1.cell? x)->(∀x,W.frozen? x=W1.frozen? x)-> ∀ty dc,(Builtin.copy_ #[182,182] ty #[.slice (some ⟨b,off+i*2,none⟩) (n+1-i) dc,.slice (some ⟨vb,0,none⟩) 1 1]).run prog W=.ok (goInt ((1:Nat):Int)) (W.setCells b (off+i*2) vs):=fun W CU Mz ty dc=>
  cF W _ _ ty 195 2 b (off+i*2) (n+1-i) dc ⟨vb,0,none⟩ 1 1 1 vs underlying182 hsz (by simp only[Nat.min_def];split<;>omega) (by rw[hvl])
   (fun j v hj=>by
    rw[gO,gx,CU,hW1,World.cell?_setCells_out b _ _ _ _ (fun h _=>absurd h hvb)]
    exact hvs j v hj)
   (fun j hj=>by rw[CU,gR];exact wm _ (by omega)) (fun j hj=>by rw[Mz,hW1,World.frozen?_setCells,gR];exact hfz _ (by omega)) Mw
 rw[<-hW1]at Mx⊢;have UO:=al My;have HW:=al hW1;clear My hW1 hsp hfz hcs wm hvs hsa X4 Fw X5 h1c Mw hcl hvl oL hsz oK;go_enter func120,ntmps120;go_wp2_with (simp only[hov])
 go_region_law (refine step_copy_runI rfl _ _ 182 182 rfl _ _ (by simp[Act.eval,Act.put]) (by simp[Act.eval,Act.put]) (Mx _ _ _) ?_)
 have aaM:=UO.o W1 (fun _=>rfl) (fun _=>rfl);go_wp2;go_ret
 exact⟨rfl,rfl⟩
set_option maxRecDepth 1000000 in
theorem MA(w:World)(b off n c i vb:Nat)(cs vs:List Value)(hi:i<n)(hnc:n<=c)(hroom:c<n+1)(sK:n<=1000)
  (hcl:cs.length=n*2) (hvl:vs.length=2)
  (hcs: ∀j v,cs[j]?=some v->w.cell? ⟨b,off+j,none⟩=some v)
  (hvs: ∀j v,vs[j]?=some v->w.cell? ⟨vb,j,none⟩=some v) (h1c: ∀v∈cs,v.oneCell'=true) (Mw: ∀v∈vs,v.oneCell'=true):
  Calls prog 120 #[.slice (some ⟨b,off,none⟩) n c,.int .i64 i,.slice (some ⟨vb,0,none⟩) 1 1] w fun e w'=>
   ∃(G:Nat) (ROW:Array Value),n+1<=G/\G<=maxLen/\ROW.size=G*2/\(∀(j:Nat) (v:Value),(cs.take (i*2))[j]?=some v->ROW[j]?=some v)/\e=.returned (.slice (some ⟨w.heap.size,0,none⟩) (n+1) G)/\
   w'=(((w.alloc (.cells ROW 195)).drew.setCells w.heap.size (i*2) vs).drew).setCells w.heap.size ((i+1)*2) (cs.drop (i*2)):=by
 obtain⟨i0,hi0,hz0,hzs,hzb⟩:=ep Tryz.Fv;have hsz:(prog.info? 195).map (·.size)=some 2:=pI Tryz.Fv;have hz2: ¬((i:Int)=(n:Int)):=by omega
 have hz3:(c:Int)<(n:Int)+1:=by omega
 have dI:b<w.heap.size:=aq w _ (hcs 0 _ (ao (by omega)));have QK:vb<w.heap.size:=aq w _ (hvs 0 _ (ao (by omega)));have hkk:(n:Int)+1-(i:Int)=((n+1-i:Nat):Int):=by omega
 have hik:i+(n+1-i)=n+1:=by omega
 have hold:(Builtin.firstCells i0.size i (.slice (some ⟨b,off,none⟩) i c)).run prog w.drew=.ok (cs.take (i*2)).toArray w.drew:=by
  rw[hzs]
  exact run_firstCells_some w.drew 2 i ⟨b,off,none⟩ i c (cs.take (i*2)) (by rw[kh];omega) (fun j v hj=>by
   rw[gO];rw[mu]at hj;split at hj
   ·exact hcs j v hj
   ·cases hj)
 have QL: ∀ty,(Builtin.append_ #[182,3] ty #[.slice (some ⟨b,off,none⟩) i c,.int .i64 ((n:Int)+1-(i:Int))]).run prog w=
   .ok (.slice (some ⟨w.heap.size,0,none⟩) (n+1) (grownCap w (n+1) c 195)) (w.drew.alloc (.cells ((cs.take (i*2)).toArray++Builtin.zeroCells (Value.cells (.agg #[.string ⟨#[]⟩,.string ⟨#[]⟩])) (n+1-i)++Builtin.zeroCells (Value.cells (.agg #[.string ⟨#[]⟩,.string ⟨#[]⟩])) (grownCap w (n+1) c 195-(n+1))) 195)):=fun ty=>by
  have h:=Lib.run_append_grow_zeros w 182 3 ty 195 i0 _ .i64 .i64 underlying182 underlying3 hi0 hz0 (some ⟨b,off,none⟩) i c (cs.take (i*2)) hold (n+1-i) (by omega) (by omega) (by omega) (by omega) (by rw[hzb];omega) (by rw[hzb,hik];exact growslice_fits hroom (by omega));rw[hik]at h;rw[hkk];exact h
 obtain⟨G,hG⟩:=qS (grownCap w (n+1) c 195);obtain⟨ROW,Bq⟩: ∃ROW:Array Value,ROW=(cs.take (i*2)).toArray++Builtin.zeroCells (Value.cells (.agg #[.string ⟨#[]⟩,.string ⟨#[]⟩])) (n+1-i)++Builtin.zeroCells (Value.cells (.agg #[.string ⟨#[]⟩,.string ⟨#[]⟩])) (G-(n+1)):=⟨_,rfl⟩;rw[<-hG]at QL;rw[<-Bq]at QL;have hGn:n+1<=G:=by rw[hG];exact grownCap_ge w _ _ _
 have X6:G<=maxLen:=by have:=grownCap_le_maxLen w (n+1) c 195 (by unfold maxLen;omega);rw[<-hG]at this;exact this
 have aaN:G<=9223372036854775807:=by unfold maxLen at X6;omega
 have MB:ROW.size=G*2:=by rw[Bq];simp only[Array.size_append,nF,size_zeroCells,Value.cells,kh];simp;omega
 have Fx:(n+1)*2<=ROW.size:=by rw[MB];omega
 have UN: ∀(j:Nat) (v:Value),(cs.take (i*2))[j]?=some v->ROW[j]?=some v:=by intro j v hj;have hlt:=(b8.1 hj).1;rw[Bq,Array.append_assoc,Array.getElem?_append_left (by simpa using hlt)];simpa using hj
 obtain⟨W1,hW1⟩:=qS (w.drew.alloc (.cells ROW 195));rw[<-hW1]at QL
 have hN: ∀j,j<(n+1)*2->(W1.cell? ⟨w.heap.size,j,none⟩).isSome=true:=fun j hj=>by rw[hW1,World.cell?_alloc_at (w:=w.drew) ROW _ w.heap.size j rfl,gC (by omega)];rfl
 have UQ: ∀j,W1.frozen? ⟨w.heap.size,j,none⟩=false:=fun j=>by rw[hW1];exact World.frozen?_alloc_at (w:=w.drew) ROW _ w.heap.size j rfl
 have X7: ∀j v,w.cell? ⟨b,j,none⟩=some v->W1.cell? ⟨b,j,none⟩=some v:=fun j v h=>by rw[hW1,World.cell?_alloc_past (w:=w.drew) _ b j dI];exact h
 have X8: ∀j v,w.cell? ⟨vb,j,none⟩=some v->W1.cell? ⟨vb,j,none⟩=some v:=fun j v h=>by rw[hW1,World.cell?_alloc_past (w:=w.drew) _ vb j QK];exact h
 have MC: ∀(W:World),(∀x,W.cell? x=W1.cell? x)->(∀x,W.frozen? x=W1.frozen? x)-> ∀ty dc,(Builtin.copy_ #[182,182] ty #[.slice (some ⟨w.heap.size,i*2,none⟩) (n+1-i) dc,.slice (some ⟨vb,0,none⟩) 1 1]).run prog W=.ok (goInt ((1:Nat):Int)) (W.setCells w.heap.size (i*2) vs):=fun W CU Mz ty dc=>
  cF W _ _ ty 195 2 w.heap.size (i*2) (n+1-i) dc ⟨vb,0,none⟩ 1 1 1 vs underlying182 hsz (by simp only[Nat.min_def];split<;>omega) (by rw[hvl])
   (fun j v hj=>by rw[gO,gx,CU];exact X8 _ v (hvs j v hj))
   (fun j hj=>by rw[CU];exact hN _ (by omega)) (fun j hj=>by rw[Mz];exact UQ _) Mw
 have hGi: ¬(G=i):=by omega
 have aaO: ¬(G=i+1):=by omega
 have hci: ¬(c=i):=by omega
 have hbN:b≠w.heap.size:=by omega
 have oL:(cs.drop (i*2)).length=(n-i)*2:=by rw[mT,hcl];omega
 have MD: ∀(W:World),(∀x,W.cell? x=(W1.setCells w.heap.size (i*2) vs).cell? x)->(∀x,W.frozen? x=(W1.setCells w.heap.size (i*2) vs).frozen? x)-> ∀ty dc sc,(Builtin.copy_ #[182,182] ty #[.slice (some ⟨w.heap.size,(i+1)*2,none⟩) (n-i) dc,.slice (some ⟨b,off+i*2,none⟩) (n-i) sc]).run prog W=.ok (goInt ((n-i:Nat):Int)) (W.setCells w.heap.size ((i+1)*2) (cs.drop (i*2))):=fun W CU Mz ty dc sc=>
  cF W _ _ ty 195 2 w.heap.size ((i+1)*2) (n-i) dc ⟨b,off+i*2,none⟩ (n-i) sc (n-i) (cs.drop (i*2)) underlying182 hsz (by simp only[Nat.min_def];split<;>omega) (by first|exact oL|(rw[oL];omega))
   (fun j v hj=>by
    rw[gO,CU,World.cell?_setCells_out _ _ _ _ _ (fun h _=>absurd h hbN),gR]
    exact X7 _ v (hcs (i*2+j) v (by rwa[mv]at hj)))
   (fun j hj=>by rw[CU];exact isSome_setCells _ _ _ _ (fun t ht=>hN _ (by omega)) _ (hN _ (by omega)))
   (fun j hj=>by rw[Mz,World.frozen?_setCells];exact UQ _) (fun v hv=>h1c v (List.mem_of_mem_drop hv))
 subst hW1;have X9:=MC ((w.alloc (.cells ROW 195)).drew) (fun x=>rfl) (fun x=>rfl);have ME:=MD (((w.alloc (.cells ROW 195)).drew.setCells w.heap.size (i*2) vs).drew) (fun x=>rfl) (fun x=>rfl);have hw1:IntKind.i64.wrap ((i:Int)+1)=(i:Int)+1:=by rw[gr];omega
 have hb1:(0:Int)<=(i:Int)+1:=by omega
 have hin:i<=n:=by omega
 have htn:((i:Int)+1).toNat=i+1:=by omega
 have hb3:(i:Int)<=(n:Int):=by omega
 have HF:=al (show ∃(G':Nat) (Br:Array Value),n+1<=G'/\G'<=maxLen/\Br.size=G'*2/\(∀(j:Nat) (v:Value),(cs.take (i*2))[j]?=some v->Br[j]?=some v)/\G'=G/\Br=ROW from⟨G,ROW,hGn,X6,MB,UN,rfl,rfl⟩);clear hkk hik hold Bq hG Fx MB UN hN UQ X7 X8 MC MD hsz hcs hvs h1c Mw hcl hvl oL hzs hzb hz0 hi0;go_enter func120,ntmps120;go_wp2_with (at_builtin;refine Lib.wpList_append_run _ rfl _ _ _ _ rfl _ _ rfl rfl _ _ (QL _) ?_)
 go_region_law (refine step_copy_runI rfl _ _ 182 182 rfl _ _ (by simp[Act.eval,Act.put]) (by simp[Act.eval,Act.put]) (ME _ _ _) ?_)
 go_wp2;go_ret
 obtain⟨G',Br,a1,a2,a3,a4,rfl,rfl⟩:=HF.o;exact⟨_,_,a1,a2,a3,a4,rfl,rfl⟩
theorem QM(w:World)(F:Nat->Nat->Prop)(v:Value)(xs:List (List Value))(i:Nat)(x:List Value)(vb:Nat)(h:az 2 195 w v xs F)(hi:i<=xs.length)(hlen:xs.length<=1000)(hx:x.length=2)(CT: ∀u∈x,u.oneCell'=true)(h1: ∀u∈xs.flatten,u.oneCell'=true)
  (hb:w.heap[vb]?=some (.cells x.toArray 195 (0,0))) (hvb: ∀j,¬F vb j):
  Calls prog 120 #[v,.int .i64 i,.slice (some ⟨vb,0,none⟩) 1 1] w (CR 2 195 w F (xs.take i++x::xs.drop i)):=by
 by_cases he:i=xs.length
 ·subst he;have:=QJ w F v xs x vb h hlen hx CT hb;simpa using this
 ·obtain⟨b,off,c,cs,rfl,q2,q3,q4,q6,q7,q8,q9⟩:=h.lies (by omega);have hfl:=bL q4;have hcs: ∀j u,xs.flatten[j]?=some u->w.cell? ⟨b,off+j,none⟩=some u:=fun j u hj=>oS q6 (q9 j u hj);have hxs: ∀j u,x[j]?=some u->w.cell? ⟨vb,j,none⟩=some u:=fun j u hj=>oS hb (by simpa using hj);by_cases hr:xs.length+1<=c
  ·have hmul:(xs.length+1)*2<=c*2:=ef _ hr;have hne:vb≠b:=fun e=>hvb off (by rw[e];exact q8 off (aE _) (by omega));have UR:=iY hb
   have:=J4 w b off xs.length c i vb xs.flatten x (by omega) hr (by unfold maxLen at q3;omega) hne hlen hfl hx hcs
    (fun j hj=>by simp[World.cell?,q6,gC (show off+j<cs.size by omega)]) (fun j _=>frozen_of_heap q6 _) hxs h1 CT _ _ _ _ UR (iY q6) (by omega) (frozen_of_heap hb _) (frozen_of_heap hb _)
   refine this.m ?_;rintro e w' ⟨rfl,rfl⟩;have hh:=uq (F:=F) (by decide) (show i<xs.length by omega) hr q3 q4 hx q6 q7 q8 q9;simpa using hh
  ·have:=MA w b off xs.length c i vb xs.flatten x (by omega) q2 (by omega) hlen hfl hx hcs hxs h1 CT;refine this.m ?_;rintro e w' ⟨G,ROW,g1,g2,g3,g4,rfl,rfl⟩;have hh:=zG (F:=F) (t:=195) (w:=w) (k:=2) (by decide) (show i<xs.length by omega) g1 g2 q4 hx g3 (by simpa using g4);simpa using hh
theorem Tryz.Fy:(prog.info? 181).map (fun i=>(i.zero,i.size,i.bytes))=some (some (.pointer none),1,8):=by kernel_rfl
set_option maxRecDepth 1000000 in
theorem QN(w:World)(F:Nat->Nat->Prop)(v:Value)(xs:List (List Value))(x:List Value)(vb:Nat)(h:az 1 181 w v xs F)(hlen:xs.length<=1000)(hx:x.length=1)(CT: ∀u∈x,u.oneCell'=true)
  (hb:w.heap[vb]?=some (.cells x.toArray 181 (0,0))):
  Calls prog 121 #[v,.int .i64 xs.length,.slice (some ⟨vb,0,none⟩) 1 1] w (CR 1 181 w F (xs++[x])):=by
 obtain⟨i0,hi0,hz0,hz1,hz2⟩:=ep Tryz.Fy;have H:=al h;have HI:=al hi0;obtain⟨A,c,rfl,q2,q3,q4,q5⟩:=h;unfold maxLen at q3;have HX:=al (ab hx (ab CT hb));have hq:A=none/\c=0\/ ∃b o,A=some ⟨b,o,none⟩:=q5.elim (fun h=>h.2.imp (fun h'=>⟨h',h.1⟩) id) (fun⟨b,o,cs,h,_⟩=>.inr ⟨b,o,h⟩);clear q4 q5 hx CT hb hi0;have e1:(((xs.length:Int))==((xs.length:Int)))=true:=by simp
 rcases hq with⟨rfl,rfl⟩|⟨b,o,rfl⟩
 ·have hx0:xs=[]:=dj (by omega);subst hx0;go_enter func121,ntmps121;go_wp2_with (at_builtin;refine dL _ rfl _ _ 183 rfl i0 (.pointer none) 8 underlying183 HI.o hz0 hz1 hz2 (by rfl) (by decide) _ [] rfl H.o ⟨vb,0,none⟩ 1 1 [x] rfl rfl (fun y hy=>by rw[fj]at hy;subst hy;exact HX.o.1) (fun j u hj=>by rw[gO,gx];exact oS HX.o.d (by simpa using hj)) (by simpa using HX.o.2.1) (by simp[maxLen]) (by simp) ?_;intro v' w' ho hc;have HO:=al (ab ho hc);clear ho hc);go_ret
  exact⟨_,rfl,HO.o.1,HO.o.2⟩
 ·by_cases Xk:c=xs.length
  ·subst Xk;go_enter func121,ntmps121;go_wp2_with (at_builtin;refine dL _ rfl _ _ 183 rfl i0 (.pointer none) 8 underlying183 HI.o hz0 hz1 hz2 (by rfl) (by decide) _ xs rfl H.o ⟨vb,0,none⟩ 1 1 [x] rfl rfl (fun y hy=>by rw[fj]at hy;subst hy;exact HX.o.1) (fun j u hj=>by rw[gO,gx];exact oS HX.o.d (by simpa using hj)) (by simpa using HX.o.2.1) (by unfold maxLen;omega) (by omega) ?_;intro v' w' ho hc;have HO:=al (ab ho hc);clear ho hc);go_ret
   exact⟨_,rfl,HO.o.1,HO.o.2⟩
  ·go_enter func121,ntmps121;go_wp2_with (at_builtin;refine dL _ rfl _ _ 183 rfl i0 (.pointer none) 8 underlying183 HI.o hz0 hz1 hz2 (by rfl) (by decide) _ xs rfl H.o ⟨vb,0,none⟩ 1 1 [x] rfl rfl (fun y hy=>by rw[fj]at hy;subst hy;exact HX.o.1) (fun j u hj=>by rw[gO,gx];exact oS HX.o.d (by simpa using hj)) (by simpa using HX.o.2.1) (by unfold maxLen;omega) (by omega) ?_;intro v' w' ho hc;have HO:=al (ab ho hc);clear ho hc);go_ret
   exact⟨_,rfl,HO.o.1,HO.o.2⟩
set_option maxRecDepth 1000000 in
theorem J5(w:World)(b off n c i vb:Nat)(cs vs:List Value)(hi:i<n)(hroom:n+1<=c)(_ace:c<=9223372036854775807)(hvb:vb≠b)(sK:n<=1000)
  (hcl:cs.length=n*1) (hvl:vs.length=1)
  (hcs: ∀j v,cs[j]?=some v->w.cell? ⟨b,off+j,none⟩=some v) (hsp: ∀j,j<(n+1)*1->(w.cell? ⟨b,off+j,none⟩).isSome=true) (hfz: ∀j,j<(n+1)*1->w.frozen? ⟨b,off+j,none⟩=false)
  (hvs: ∀j v,vs[j]?=some v->w.cell? ⟨vb,j,none⟩=some v) (h1c: ∀v∈cs,v.oneCell'=true) (Mw: ∀v∈vs,v.oneCell'=true)
  (tA tB:TypeId) (kA kB:Nat) (hsa:w.shape? vb=some (tA,kA)) (X4:w.shape? b=some (tB,kB)) (oK:kB≠0) (Fw:w.frozen? ⟨vb,0,none⟩=false) (X5:w.frozen? ⟨vb,kA,none⟩=false):
  Calls prog 121 #[.slice (some ⟨b,off,none⟩) n c,.int .i64 i,.slice (some ⟨vb,0,none⟩) 1 1] w fun e w'=>
   e=.returned (.slice (some ⟨b,off,none⟩) (n+1) c)/\w'=(w.drew.setCells b (off+(i+1)) (cs.drop (i))).setCells b (off+i) vs:=by
 have hsz:(prog.info? 181).map (·.size)=some 1:=pI Tryz.Fy;have hz2: ¬((i:Int)=(n:Int)):=by omega
 have hov: ∀lb cb,(callFunc 150 #[.slice (some ⟨vb,0,none⟩) 1 1,.slice (some ⟨b,off+(i+1),none⟩) lb cb]).run prog w=.ok (.value (.bool false)) w:=fun lb cb=>by
  rw[run_callFunc_extern func150 (by kernel_rfl) (by kernel_rfl) (by kernel_rfl) (e:=Extern.SlicesOverlaps.overlaps #[183,183] #[4]) (by kernel_rfl),
   Lib.run_overlaps_apart w 183 4 181 underlying183 1 (fun w=>by kernel_rfl) ⟨vb,0,none⟩ ⟨b,off+(i+1),none⟩ 1 1 lb cb hvb tA tB kA kB hsa X4 oK Fw X5]
  rfl
 have oL:(cs.drop (i)).length=(n-i):=by rw[mT,hcl];omega
 have hw1:IntKind.i64.wrap ((i:Int)+1)=(i:Int)+1:=by rw[gr];omega
 have hb1:(0:Int)<=(i:Int)+1:=by omega
 have hin:i<=n:=by omega
 have htn:((i:Int)+1).toNat=i+1:=by omega
 have hb2: ¬(c=i+1):=by omega
 have hb3:(i:Int)<=(n:Int)+1:=by omega
 have hb4: ¬(c=i):=by omega
 have Mx: ∀ty dc sc,(Builtin.copy_ #[183,183] ty #[.slice (some ⟨b,off+(i+1),none⟩) (n-i) dc,.slice (some ⟨b,off+i,none⟩) (n+1-i) sc]).run prog w.drew=.ok (goInt ((n-i:Nat):Int)) (w.drew.setCells b (off+(i+1)) (cs.drop (i))):=fun ty dc sc=>
  cF w.drew _ _ ty 181 1 b (off+(i+1)) (n-i) dc ⟨b,off+i,none⟩ (n+1-i) sc (n-i) (cs.drop (i)) underlying183 hsz (by simp only[Nat.min_def];split<;>omega) (by first|exact oL|(rw[oL];omega))
   (fun j v hj=>by rw[gO,gR];exact hcs (i+j) v (by rwa[mv]at hj))
   (fun j hj=>by rw[gR];exact hsp _ (by omega)) (fun j hj=>by rw[gR];exact hfz _ (by omega)) (fun v hv=>h1c v (List.mem_of_mem_drop hv))
 obtain⟨W1,hW1⟩:=qS (w.drew.setCells b (off+(i+1)) (cs.drop (i)))
 have wm: ∀k,k<(n+1)*1->(W1.cell? ⟨b,off+k,none⟩).isSome=true:=fun k hk=>by rw[hW1];exact isSome_setCells b _ _ _ (fun j hj=>by rw[gR];exact hsp _ (by omega)) _ (hsp k hk)
 have My: ∀(W:World),(∀x,W.cell? x=W1.cell? x)->(∀x,W.frozen? x=W1.frozen? x)-> ∀ty dc,(Builtin.copy_ #[183,183] ty #[.slice (some ⟨b,off+i,none⟩) (n+1-i) dc,.slice (some ⟨vb,0,none⟩) 1 1]).run prog W=.ok (goInt ((1:Nat):Int)) (W.setCells b (off+i) vs):=fun W CU Mz ty dc=>
  cF W _ _ ty 181 1 b (off+i) (n+1-i) dc ⟨vb,0,none⟩ 1 1 1 vs underlying183 hsz (by simp only[Nat.min_def];split<;>omega) (by rw[hvl])
   (fun j v hj=>by
    rw[gO,gx,CU,hW1,World.cell?_setCells_out b _ _ _ _ (fun h _=>absurd h hvb)]
    exact hvs j v hj)
   (fun j hj=>by rw[CU,gR];exact wm _ (by omega)) (fun j hj=>by rw[Mz,hW1,World.frozen?_setCells,gR];exact hfz _ (by omega)) Mw
 rw[<-hW1]at Mx⊢;have UO:=al My;have HW:=al hW1;clear My hW1 hsp hfz hcs wm hvs hsa X4 Fw X5 h1c Mw hcl hvl oL hsz oK;go_enter func121,ntmps121;go_wp2_with (simp only[hov])
 go_region_law (refine step_copy_runI rfl _ _ 183 183 rfl _ _ (by simp[Act.eval,Act.put]) (by simp[Act.eval,Act.put]) (Mx _ _ _) ?_)
 have aaM:=UO.o W1 (fun _=>rfl) (fun _=>rfl);go_wp2;go_ret
 exact⟨rfl,rfl⟩
set_option maxRecDepth 1000000 in
theorem MF(w:World)(b off n c i vb:Nat)(cs vs:List Value)(hi:i<n)(hnc:n<=c)(hroom:c<n+1)(sK:n<=1000)
  (hcl:cs.length=n*1) (hvl:vs.length=1)
  (hcs: ∀j v,cs[j]?=some v->w.cell? ⟨b,off+j,none⟩=some v)
  (hvs: ∀j v,vs[j]?=some v->w.cell? ⟨vb,j,none⟩=some v) (h1c: ∀v∈cs,v.oneCell'=true) (Mw: ∀v∈vs,v.oneCell'=true):
  Calls prog 121 #[.slice (some ⟨b,off,none⟩) n c,.int .i64 i,.slice (some ⟨vb,0,none⟩) 1 1] w fun e w'=>
   ∃(G:Nat) (ROW:Array Value),n+1<=G/\G<=maxLen/\ROW.size=G*1/\(∀(j:Nat) (v:Value),(cs.take (i))[j]?=some v->ROW[j]?=some v)/\e=.returned (.slice (some ⟨w.heap.size,0,none⟩) (n+1) G)/\
   w'=(((w.alloc (.cells ROW 181)).drew.setCells w.heap.size (i) vs).drew).setCells w.heap.size ((i+1)) (cs.drop (i)):=by
 obtain⟨i0,hi0,hz0,hzs,hzb⟩:=ep Tryz.Fy;have hsz:(prog.info? 181).map (·.size)=some 1:=pI Tryz.Fy;have hz2: ¬((i:Int)=(n:Int)):=by omega
 have hz3:(c:Int)<(n:Int)+1:=by omega
 have dI:b<w.heap.size:=aq w _ (hcs 0 _ (ao (by omega)));have QK:vb<w.heap.size:=aq w _ (hvs 0 _ (ao (by omega)));have hkk:(n:Int)+1-(i:Int)=((n+1-i:Nat):Int):=by omega
 have hik:i+(n+1-i)=n+1:=by omega
 have hold:(Builtin.firstCells i0.size i (.slice (some ⟨b,off,none⟩) i c)).run prog w.drew=.ok (cs.take (i)).toArray w.drew:=by
  rw[hzs]
  exact run_firstCells_some w.drew 1 i ⟨b,off,none⟩ i c (cs.take (i)) (by rw[kh];omega) (fun j v hj=>by
   rw[gO];rw[mu]at hj;split at hj
   ·exact hcs j v hj
   ·cases hj)
 have QL: ∀ty,(Builtin.append_ #[183,3] ty #[.slice (some ⟨b,off,none⟩) i c,.int .i64 ((n:Int)+1-(i:Int))]).run prog w=
   .ok (.slice (some ⟨w.heap.size,0,none⟩) (n+1) (grownCap w (n+1) c 181)) (w.drew.alloc (.cells ((cs.take (i)).toArray++Builtin.zeroCells (Value.cells (.pointer none)) (n+1-i)++Builtin.zeroCells (Value.cells (.pointer none)) (grownCap w (n+1) c 181-(n+1))) 181)):=fun ty=>by
  have h:=Lib.run_append_grow_zeros w 183 3 ty 181 i0 _ .i64 .i64 underlying183 underlying3 hi0 hz0 (some ⟨b,off,none⟩) i c (cs.take (i)) hold (n+1-i) (by omega) (by omega) (by omega) (by omega) (by rw[hzb];omega) (by rw[hzb,hik];exact growslice_fits hroom (by omega));rw[hik]at h;rw[hkk];exact h
 obtain⟨G,hG⟩:=qS (grownCap w (n+1) c 181);obtain⟨ROW,Bq⟩: ∃ROW:Array Value,ROW=(cs.take (i)).toArray++Builtin.zeroCells (Value.cells (.pointer none)) (n+1-i)++Builtin.zeroCells (Value.cells (.pointer none)) (G-(n+1)):=⟨_,rfl⟩;rw[<-hG]at QL;rw[<-Bq]at QL;have hGn:n+1<=G:=by rw[hG];exact grownCap_ge w _ _ _
 have X6:G<=maxLen:=by have:=grownCap_le_maxLen w (n+1) c 181 (by unfold maxLen;omega);rw[<-hG]at this;exact this
 have aaN:G<=9223372036854775807:=by unfold maxLen at X6;omega
 have MB:ROW.size=G*1:=by rw[Bq];simp only[Array.size_append,nF,size_zeroCells,Value.cells,kh];simp;omega
 have Fx:(n+1)*1<=ROW.size:=by rw[MB];omega
 have UN: ∀(j:Nat) (v:Value),(cs.take (i))[j]?=some v->ROW[j]?=some v:=by intro j v hj;have hlt:=(b8.1 hj).1;rw[Bq,Array.append_assoc,Array.getElem?_append_left (by simpa using hlt)];simpa using hj
 obtain⟨W1,hW1⟩:=qS (w.drew.alloc (.cells ROW 181));rw[<-hW1]at QL
 have hN: ∀j,j<(n+1)*1->(W1.cell? ⟨w.heap.size,j,none⟩).isSome=true:=fun j hj=>by rw[hW1,World.cell?_alloc_at (w:=w.drew) ROW _ w.heap.size j rfl,gC (by omega)];rfl
 have UQ: ∀j,W1.frozen? ⟨w.heap.size,j,none⟩=false:=fun j=>by rw[hW1];exact World.frozen?_alloc_at (w:=w.drew) ROW _ w.heap.size j rfl
 have X7: ∀j v,w.cell? ⟨b,j,none⟩=some v->W1.cell? ⟨b,j,none⟩=some v:=fun j v h=>by rw[hW1,World.cell?_alloc_past (w:=w.drew) _ b j dI];exact h
 have X8: ∀j v,w.cell? ⟨vb,j,none⟩=some v->W1.cell? ⟨vb,j,none⟩=some v:=fun j v h=>by rw[hW1,World.cell?_alloc_past (w:=w.drew) _ vb j QK];exact h
 have MC: ∀(W:World),(∀x,W.cell? x=W1.cell? x)->(∀x,W.frozen? x=W1.frozen? x)-> ∀ty dc,(Builtin.copy_ #[183,183] ty #[.slice (some ⟨w.heap.size,i,none⟩) (n+1-i) dc,.slice (some ⟨vb,0,none⟩) 1 1]).run prog W=.ok (goInt ((1:Nat):Int)) (W.setCells w.heap.size (i) vs):=fun W CU Mz ty dc=>
  cF W _ _ ty 181 1 w.heap.size (i) (n+1-i) dc ⟨vb,0,none⟩ 1 1 1 vs underlying183 hsz (by simp only[Nat.min_def];split<;>omega) (by rw[hvl])
   (fun j v hj=>by rw[gO,gx,CU];exact X8 _ v (hvs j v hj))
   (fun j hj=>by rw[CU];exact hN _ (by omega)) (fun j hj=>by rw[Mz];exact UQ _) Mw
 have hGi: ¬(G=i):=by omega
 have aaO: ¬(G=i+1):=by omega
 have hci: ¬(c=i):=by omega
 have hbN:b≠w.heap.size:=by omega
 have oL:(cs.drop (i)).length=(n-i):=by rw[mT,hcl];omega
 have MD: ∀(W:World),(∀x,W.cell? x=(W1.setCells w.heap.size (i) vs).cell? x)->(∀x,W.frozen? x=(W1.setCells w.heap.size (i) vs).frozen? x)-> ∀ty dc sc,(Builtin.copy_ #[183,183] ty #[.slice (some ⟨w.heap.size,(i+1),none⟩) (n-i) dc,.slice (some ⟨b,off+i,none⟩) (n-i) sc]).run prog W=.ok (goInt ((n-i:Nat):Int)) (W.setCells w.heap.size ((i+1)) (cs.drop (i))):=fun W CU Mz ty dc sc=>
  cF W _ _ ty 181 1 w.heap.size ((i+1)) (n-i) dc ⟨b,off+i,none⟩ (n-i) sc (n-i) (cs.drop (i)) underlying183 hsz (by simp only[Nat.min_def];split<;>omega) (by first|exact oL|(rw[oL];omega))
   (fun j v hj=>by
    rw[gO,CU,World.cell?_setCells_out _ _ _ _ _ (fun h _=>absurd h hbN),gR]
    exact X7 _ v (hcs (i+j) v (by rwa[mv]at hj)))
   (fun j hj=>by rw[CU];exact isSome_setCells _ _ _ _ (fun t ht=>hN _ (by omega)) _ (hN _ (by omega)))
   (fun j hj=>by rw[Mz,World.frozen?_setCells];exact UQ _) (fun v hv=>h1c v (List.mem_of_mem_drop hv))
 subst hW1;have X9:=MC ((w.alloc (.cells ROW 181)).drew) (fun x=>rfl) (fun x=>rfl);have ME:=MD (((w.alloc (.cells ROW 181)).drew.setCells w.heap.size (i) vs).drew) (fun x=>rfl) (fun x=>rfl);have hw1:IntKind.i64.wrap ((i:Int)+1)=(i:Int)+1:=by rw[gr];omega
 have hb1:(0:Int)<=(i:Int)+1:=by omega
 have hin:i<=n:=by omega
 have htn:((i:Int)+1).toNat=i+1:=by omega
 have hb3:(i:Int)<=(n:Int):=by omega
 have HF:=al (show ∃(G':Nat) (Br:Array Value),n+1<=G'/\G'<=maxLen/\Br.size=G'*1/\(∀(j:Nat) (v:Value),(cs.take (i))[j]?=some v->Br[j]?=some v)/\G'=G/\Br=ROW from⟨G,ROW,hGn,X6,MB,UN,rfl,rfl⟩);clear hkk hik hold Bq hG Fx MB UN hN UQ X7 X8 MC MD hsz hcs hvs h1c Mw hcl hvl oL hzs hzb hz0 hi0;go_enter func121,ntmps121;go_wp2_with (at_builtin;refine Lib.wpList_append_run _ rfl _ _ _ _ rfl _ _ rfl rfl _ _ (QL _) ?_)
 go_region_law (refine step_copy_runI rfl _ _ 183 183 rfl _ _ (by simp[Act.eval,Act.put]) (by simp[Act.eval,Act.put]) (ME _ _ _) ?_)
 go_wp2;go_ret
 obtain⟨G',Br,a1,a2,a3,a4,rfl,rfl⟩:=HF.o;exact⟨_,_,a1,a2,a3,a4,rfl,rfl⟩
theorem QO(w:World)(F:Nat->Nat->Prop)(v:Value)(xs:List (List Value))(i:Nat)(x:List Value)(vb:Nat)(h:az 1 181 w v xs F)(hi:i<=xs.length)(hlen:xs.length<=1000)(hx:x.length=1)(CT: ∀u∈x,u.oneCell'=true)(h1: ∀u∈xs.flatten,u.oneCell'=true)
  (hb:w.heap[vb]?=some (.cells x.toArray 181 (0,0))) (hvb: ∀j,¬F vb j):
  Calls prog 121 #[v,.int .i64 i,.slice (some ⟨vb,0,none⟩) 1 1] w (CR 1 181 w F (xs.take i++x::xs.drop i)):=by
 by_cases he:i=xs.length
 ·subst he;have:=QN w F v xs x vb h hlen hx CT hb;simpa using this
 ·obtain⟨b,off,c,cs,rfl,q2,q3,q4,q6,q7,q8,q9⟩:=h.lies (by omega);have hfl:=bL q4;have hcs: ∀j u,xs.flatten[j]?=some u->w.cell? ⟨b,off+j,none⟩=some u:=fun j u hj=>oS q6 (q9 j u hj);have hxs: ∀j u,x[j]?=some u->w.cell? ⟨vb,j,none⟩=some u:=fun j u hj=>oS hb (by simpa using hj);by_cases hr:xs.length+1<=c
  ·have hmul:(xs.length+1)*1<=c*1:=ef _ hr;have hne:vb≠b:=fun e=>hvb off (by rw[e];exact q8 off (aE _) (by omega));have UR:=iY hb
   have:=J5 w b off xs.length c i vb xs.flatten x (by omega) hr (by unfold maxLen at q3;omega) hne hlen hfl hx hcs
    (fun j hj=>by simp[World.cell?,q6,gC (show off+j<cs.size by omega)]) (fun j _=>frozen_of_heap q6 _) hxs h1 CT _ _ _ _ UR (iY q6) (by omega) (frozen_of_heap hb _) (frozen_of_heap hb _)
   refine this.m ?_;rintro e w' ⟨rfl,rfl⟩;have hh:=uq (F:=F) (by decide) (show i<xs.length by omega) hr q3 q4 hx q6 q7 q8 q9;simpa using hh
  ·have:=MF w b off xs.length c i vb xs.flatten x (by omega) q2 (by omega) hlen hfl hx hcs hxs h1 CT;refine this.m ?_;rintro e w' ⟨G,ROW,g1,g2,g3,g4,rfl,rfl⟩;have hh:=zG (F:=F) (t:=181) (w:=w) (k:=1) (by decide) (show i<xs.length by omega) g1 g2 q4 hx g3 (by simpa using g4);simpa using hh
theorem qm{P:Program}(w:World)(t e ty:TypeId)(z:Value)(zs:List Value)(ht:P.underlying t=some (.slice e))(hv: ∀w,(zeroValue e).run P w=.ok z w)(hz:(Builtin.zeroCells z.cells 1).toList=zs)(h1: ∀v∈zs,v.oneCell'=true)(b o c:Nat)
  (hc: ∀j,j<zs.length->(w.cell? ⟨b,o+j,none⟩).isSome=true) (hf: ∀j,j<zs.length->w.frozen? ⟨b,o+j,none⟩=false):
  (Builtin.clear_ #[t] ty #[.slice (some ⟨b,o,none⟩) 1 c]).run P w=.ok (.tuple #[]) (w.setCells b o zs):=by
 have hst:=run_storeCells_cells (P:=P) b o zs 0 w (by simpa using hc) (by simpa using hf) h1;simp only[my]at hst;simp[Builtin.clear_,run_underlying ht,hv,hz,hst]
def UT(k:Nat)(t:TypeId)(w:World)(F:Nat->Nat->Prop)(ys:List (List Value))(e:Ending)(w':World):Prop:=
 ∃v',e=.returned v'/\az k t w' v' ys F/\OnlyC F w w'
theorem CV{k:Nat}{t:TypeId}{w:World}{F:Nat->Nat->Prop}{b off c i:Nat}{cs:Array Value}{xs:List (List Value)}{zs:List Value}(hi:i<xs.length)(hnc:xs.length<=c)(hcm:c<=maxLen)(hk: ∀y∈xs,y.length=k)(hz:zs.length=k)
  (hb:w.heap[b]?=some (.cells cs t (0,0))) (h7:off+c*k<=cs.size) (h8: ∀j,off<=j->j<off+c*k->F b j) (h9: ∀j u,xs.flatten[j]?=some u->cs[off+j]?=some u):
  UT k t w F (xs.take i++xs.drop (i+1)) (.returned (.slice (some ⟨b,off,none⟩) (xs.length-1) c)) ((w.drew.setCells b (off+i*k) (xs.flatten.drop ((i+1)*k))).setCells b (off+(xs.length-1)*k) zs):=by
 have hfl:=bL hk;have hmul:xs.length*k<=c*k:=ef k hnc;have TR:(i+1)*k<=xs.length*k:=ef k hi;have sK:(xs.length-1)*k+k=xs.length*k:=by rw[<-la];congr 1;omega
 have oL:(xs.flatten.drop ((i+1)*k)).length=xs.length*k-(i+1)*k:=by rw[mT,hfl]
 rw[la]at TR;obtain⟨c1,k1,k2,k3,k4⟩:=cE (xs.flatten.drop ((i+1)*k)) (off+i*k) w.drew cs hb (by rw[oL,la];omega);obtain⟨c2,l1,l2,l3,l4⟩:=cE zs (off+(xs.length-1)*k) _ c1 k1 (by rw[hz];omega);refine⟨_,rfl,az.rewritten (n:=xs.length-1) l1 (l2.x k2) h7 h8 (by simp;omega) (by omega) hcm (fun y hy=>(dy.1 hy).elim (fun h=>hk y (List.mem_of_mem_take h)) (fun h=>hk y (List.mem_of_mem_drop h))) (fun j u hj=>?_),?_⟩
 ·rw[lE,zE hk (i+1) hi,zF hk i (by omega)]at hj;have htl:(xs.flatten.take (i*k)).length=i*k:=by rw[kh,hfl];omega
  have hjl:=(b8.1 hj).1;rw[fb,htl,oL,la]at hjl;rw[l3 _ (by rw[hz];omega)];by_cases c1:j<i*k
  ·rw[lr (by omega),mu,fi c1]at hj;rw[k3 _ (by omega)];exact h9 j u hj
  ·rw[ke (by omega),htl]at hj;have:=k4 _ u hj;rwa[show off+i*k+(j-i*k)=off+j by omega]at this
 ·refine OnlyC.nt (w:=w) (OnlyC.trans (F:=F) (G:=F) ((bU b (xs.flatten.drop ((i+1)*k)) (off+i*k) w.drew).m (fun b' j _ ⟨e1,e2,e3⟩=>?_)) ((bU b zs (off+(xs.length-1)*k) _).m (fun b' j _ ⟨e1,e2,e3⟩=>?_)) (fun _ _ _ h=>h))
  ·subst e1;rw[oL,la]at e3;exact h8 j (by omega) (by omega)
  ·subst e1;exact h8 j (by omega) (by omega)
set_option maxRecDepth 1000000 in
theorem MG(w:World)(b off n c i j:Nat)(cs:List Value)(hj:Hid (j=i+1))(hij:i<j)(hi:i<n)(hjn:j<=n)(hnc:n<=c)(_UU:c<=maxLen)(sK:n<=1000)(hcl:cs.length=n*2)
  (hcs: ∀j v,cs[j]?=some v->w.cell? ⟨b,off+j,none⟩=some v) (hsp: ∀j,j<n*2->(w.cell? ⟨b,off+j,none⟩).isSome=true) (hfz: ∀j,j<n*2->w.frozen? ⟨b,off+j,none⟩=false) (h1c: ∀v∈cs,v.oneCell'=true):
  Calls prog 153 #[.slice (some ⟨b,off,none⟩) n c,.int .i64 i,.int .i64 j] w fun e w'=>
   e=.returned (.slice (some ⟨b,off,none⟩) (n-1) c)/\w'=(w.drew.setCells b (off+i*2) (cs.drop ((i+1)*2))).setCells b (off+(n-1)*2) [.string ⟨#[]⟩,.string ⟨#[]⟩]:=by
 obtain⟨i0,hi0,hz0,hz1,hz2⟩:=ep Tryz.Fv;unfold maxLen at _UU;obtain⟨news,hnews⟩:=qS (cs.drop (j*2));have hlen:news.length=(n-j)*2:=by rw[hnews,mT,hcl];omega
 obtain⟨A,hA,hsrc⟩: ∃A:Addr,(if c=j then some (⟨b,off,none⟩:Addr)else some ⟨b,off+j*2,none⟩)=some A/\Hid (∀t u,news[t]?=some u->w.drew.cell? (A.add t)=some u):=by
  by_cases h:c=j
  ·refine⟨⟨b,off,none⟩,by simp[h],fun t u hu=>?_⟩;have h0:news.length=0:=by rw[hlen];omega
   rw[List.length_eq_zero_iff.1 h0]at hu;simp at hu
  ·refine⟨⟨b,off+j*2,none⟩,by simp[h],fun t u hu=>?_⟩;rw[gO,gR];rw[hnews,mv]at hu;have:=hcs _ u hu
   first|exact this|simpa using this
 have s1:Hid (news.length=(n-j)*2):=al hlen;have s2:Hid (∀u∈news,u.oneCell'=true):=al (by rw[hnews];exact fun u hu=>h1c u (List.mem_of_mem_drop hu))
 have s3:Hid (∀t,t<news.length->(w.drew.cell? ⟨b,off+i*2+t,none⟩).isSome=true/\w.drew.frozen? ⟨b,off+i*2+t,none⟩=false):=by intro t ht;rw[hlen]at ht;rw[gR];exact⟨hsp _ (by omega),hfz _ (by omega)⟩
 obtain⟨W1,hW1⟩:=qS (w.drew.setCells b (off+i*2) news)
 have wm: ∀j,j<n*2->(W1.cell? ⟨b,off+j,none⟩).isSome=true:=fun j hj=>by rw[hW1];exact isSome_setCells b _ _ _ (fun t ht=>by rw[hlen]at ht;rw[gR];exact hsp _ (by omega)) _ (hsp j hj)
 have MH: ∀j,j<n*2->W1.frozen? ⟨b,off+j,none⟩=false:=fun j hj=>by rw[hW1,World.frozen?_setCells];exact hfz j hj
 have hone:n-(i+(n-j))=1:=by have:=hj.o;omega
 have aaP: ∀ty cc,(Builtin.clear_ #[182] ty #[.slice (some ⟨b,off+(i+(n-j))*2,none⟩) (n-(i+(n-j))) cc]).run prog W1=.ok (.tuple #[]) (W1.setCells b (off+(i+(n-j))*2) [.string ⟨#[]⟩,.string ⟨#[]⟩]):=fun ty cc=>by rw[hone];exact qm W1 182 195 ty (.agg #[.string ⟨#[]⟩,.string ⟨#[]⟩]) [.string ⟨#[]⟩,.string ⟨#[]⟩] underlying182 (fun w=>by kernel_rfl) (by kernel_rfl) (by simp;first|rfl|(constructor<;>rfl)) b (off+(i+(n-j))*2) cc (fun j hj=>by simp at hj;rw[gR];exact wm _ (by omega)) (fun j hj=>by simp at hj;rw[gR];exact MH _ (by omega))
 have hW:Hid (W1=w.drew.setCells b (off+i*2) news):=al hW1;have HE:=al (show i+(n-j)=n-1/\W1.setCells b (off+(i+(n-j))*2) [.string ⟨#[]⟩,.string ⟨#[]⟩]=(w.drew.setCells b (off+i*2) (cs.drop ((i+1)*2))).setCells b (off+(n-1)*2) [.string ⟨#[]⟩,.string ⟨#[]⟩]from⟨by omega,by rw[hW1,hnews,hj.o,show i+(n-(i+1))=n-1 by have:=hj.o;omega]<;>simp⟩);have hic:i<=c:=by omega
 have hjc:j<=c:=by omega
 clear hW1 hsp hfz hcs h1c hcl hlen hnews wm MH hone;go_enter func153,ntmps153;go_wp2
 go_region_law (refine step_append_room rfl (.tmp 22) (.tmp 25) 182 rfl 195 i0 2 underlying182 hi0 hz1 b off i c (by simp[Act.eval,Act.put]) A (n-j) (c-j) news (by simp[Act.eval,Act.put]) s1.o hsrc.o s2.o (by omega) s3.o ?_;rw[<-hW.o])
 go_wp2;go_ret
 exact⟨by rw[HE.o.1];rfl,HE.o.2⟩
theorem lG(w:World)(F:Nat->Nat->Prop)(v:Value)(xs:List (List Value))(i:Nat)(a z:Int)(ha:a=(i:Int))(hz:z=(i:Int)+1)(h:az 2 195 w v xs F)(hi:i<xs.length)(hlen:xs.length<=1000)(h1: ∀u∈xs.flatten,u.oneCell'=true):
  Calls prog 153 #[v,.int .i64 a,.int .i64 z] w (UT 2 195 w F (xs.take i++xs.drop (i+1))):=by
 subst ha;obtain rfl:z=((i+1:Nat):Int):=by omega
 obtain⟨b,off,c,cs,rfl,q2,q3,q4,q6,q7,q8,q9⟩:=h.lies (by omega);have hfl:=bL q4;have hmul:xs.length*2<=c*2:=ef _ q2;have:=MG w b off xs.length c i (i+1) xs.flatten (al rfl) (by omega) hi hi q2 q3 hlen hfl (fun j u hj=>oS q6 (q9 j u hj)) (fun j hj=>by simp[World.cell?,q6,gC (show off+j<cs.size by omega)]) (fun j _=>frozen_of_heap q6 _) h1;refine this.m ?_;rintro e w' ⟨rfl,rfl⟩;exact CV hi q2 q3 q4 (by rfl) q6 q7 q8 q9
theorem jd(w:World)(F:Nat->Nat->Prop)(v:Value)(xs:List (List Value))(i:Nat)(a:Int)(ha:a=(i:Int))(x:List Value)(vb:Nat)(h:az 2 195 w v xs F)(hi:i<=xs.length)(hlen:xs.length<=1000)(hx:x.length=2)(CT: ∀u∈x,u.oneCell'=true)(h1: ∀u∈xs.flatten,u.oneCell'=true)
  (hb:w.heap[vb]?=some (.cells x.toArray 195 (0,0))) (hvb: ∀j,¬F vb j):
  Calls prog 120 #[v,.int .i64 a,.slice (some ⟨vb,0,none⟩) 1 1] w (CR 2 195 w F (xs.take i++x::xs.drop i)):=by
 subst ha;exact QM w F v xs i x vb h hi hlen hx CT h1 hb hvb
set_option maxRecDepth 1000000 in
theorem MJ(w:World)(b off n c i j:Nat)(cs:List Value)(hj:Hid (j=i+1))(hij:i<j)(hi:i<n)(hjn:j<=n)(hnc:n<=c)(_UU:c<=maxLen)(sK:n<=1000)(hcl:cs.length=n*1)
  (hcs: ∀j v,cs[j]?=some v->w.cell? ⟨b,off+j,none⟩=some v) (hsp: ∀j,j<n*1->(w.cell? ⟨b,off+j,none⟩).isSome=true) (hfz: ∀j,j<n*1->w.frozen? ⟨b,off+j,none⟩=false) (h1c: ∀v∈cs,v.oneCell'=true):
  Calls prog 221 #[.slice (some ⟨b,off,none⟩) n c,.int .i64 i,.int .i64 j] w fun e w'=>
   e=.returned (.slice (some ⟨b,off,none⟩) (n-1) c)/\w'=(w.drew.setCells b (off+i*1) (cs.drop ((i+1)*1))).setCells b (off+(n-1)*1) [.pointer none]:=by
 obtain⟨i0,hi0,hz0,hz1,hz2⟩:=ep Tryz.Fy;unfold maxLen at _UU;obtain⟨news,hnews⟩:=qS (cs.drop (j*1));have hlen:news.length=(n-j)*1:=by rw[hnews,mT,hcl];omega
 obtain⟨A,hA,hsrc⟩: ∃A:Addr,(if c=j then some (⟨b,off,none⟩:Addr)else some ⟨b,off+j,none⟩)=some A/\Hid (∀t u,news[t]?=some u->w.drew.cell? (A.add t)=some u):=by
  by_cases h:c=j
  ·refine⟨⟨b,off,none⟩,by simp[h],fun t u hu=>?_⟩;have h0:news.length=0:=by rw[hlen];omega
   rw[List.length_eq_zero_iff.1 h0]at hu;simp at hu
  ·refine⟨⟨b,off+j,none⟩,by simp[h],fun t u hu=>?_⟩;rw[gO,gR];rw[hnews,mv]at hu;have:=hcs _ u hu
   first|exact this|simpa using this
 have s1:Hid (news.length=(n-j)*1):=al hlen;have s2:Hid (∀u∈news,u.oneCell'=true):=al (by rw[hnews];exact fun u hu=>h1c u (List.mem_of_mem_drop hu))
 have s3:Hid (∀t,t<news.length->(w.drew.cell? ⟨b,off+i*1+t,none⟩).isSome=true/\w.drew.frozen? ⟨b,off+i*1+t,none⟩=false):=by intro t ht;rw[hlen]at ht;rw[gR];exact⟨hsp _ (by omega),hfz _ (by omega)⟩
 obtain⟨W1,hW1⟩:=qS (w.drew.setCells b (off+i*1) news)
 have wm: ∀j,j<n*1->(W1.cell? ⟨b,off+j,none⟩).isSome=true:=fun j hj=>by rw[hW1];exact isSome_setCells b _ _ _ (fun t ht=>by rw[hlen]at ht;rw[gR];exact hsp _ (by omega)) _ (hsp j hj)
 have MH: ∀j,j<n*1->W1.frozen? ⟨b,off+j,none⟩=false:=fun j hj=>by rw[hW1,World.frozen?_setCells];exact hfz j hj
 have hone:n-(i+(n-j))=1:=by have:=hj.o;omega
 have aaP: ∀ty cc,(Builtin.clear_ #[183] ty #[.slice (some ⟨b,off+(i+(n-j)),none⟩) (n-(i+(n-j))) cc]).run prog W1=.ok (.tuple #[]) (W1.setCells b (off+(i+(n-j))) [.pointer none]):=fun ty cc=>by rw[hone];exact qm W1 183 181 ty (.pointer none) [.pointer none] underlying183 (fun w=>by kernel_rfl) (by kernel_rfl) (by simp;first|rfl|(constructor<;>rfl)) b (off+(i+(n-j))) cc (fun j hj=>by simp at hj;rw[gR];exact wm _ (by omega)) (fun j hj=>by simp at hj;rw[gR];exact MH _ (by omega))
 have hW:Hid (W1=w.drew.setCells b (off+i*1) news):=al hW1;have HE:=al (show i+(n-j)=n-1/\W1.setCells b (off+(i+(n-j))) [.pointer none]=(w.drew.setCells b (off+i*1) (cs.drop ((i+1)*1))).setCells b (off+(n-1)*1) [.pointer none]from⟨by omega,by rw[hW1,hnews,hj.o,show i+(n-(i+1))=n-1 by have:=hj.o;omega]<;>simp⟩);have hic:i<=c:=by omega
 have hjc:j<=c:=by omega
 clear hW1 hsp hfz hcs h1c hcl hlen hnews wm MH hone;go_enter func221,ntmps221;go_wp2
 go_region_law (refine step_append_room rfl (.tmp 22) (.tmp 25) 183 rfl 181 i0 1 underlying183 hi0 hz1 b off i c (by simp[Act.eval,Act.put]) A (n-j) (c-j) news (by simp[Act.eval,Act.put]) s1.o hsrc.o s2.o (by omega) s3.o ?_;rw[<-hW.o])
 go_wp2;go_ret
 exact⟨by rw[HE.o.1];rfl,HE.o.2⟩
theorem iZ(w:World)(F:Nat->Nat->Prop)(v:Value)(xs:List (List Value))(i:Nat)(a z:Int)(ha:a=(i:Int))(hz:z=(i:Int)+1)(h:az 1 181 w v xs F)(hi:i<xs.length)(hlen:xs.length<=1000)(h1: ∀u∈xs.flatten,u.oneCell'=true):
  Calls prog 221 #[v,.int .i64 a,.int .i64 z] w (UT 1 181 w F (xs.take i++xs.drop (i+1))):=by
 subst ha;obtain rfl:z=((i+1:Nat):Int):=by omega
 obtain⟨b,off,c,cs,rfl,q2,q3,q4,q6,q7,q8,q9⟩:=h.lies (by omega);have hfl:=bL q4;have hmul:xs.length*1<=c*1:=ef _ q2;have:=MJ w b off xs.length c i (i+1) xs.flatten (al rfl) (by omega) hi hi q2 q3 hlen hfl (fun j u hj=>oS q6 (q9 j u hj)) (fun j hj=>by simp[World.cell?,q6,gC (show off+j<cs.size by omega)]) (fun j _=>frozen_of_heap q6 _) h1;refine this.m ?_;rintro e w' ⟨rfl,rfl⟩;exact CV hi q2 q3 q4 (by rfl) q6 q7 q8 q9
theorem je(w:World)(F:Nat->Nat->Prop)(v:Value)(xs:List (List Value))(i:Nat)(a:Int)(ha:a=(i:Int))(x:List Value)(vb:Nat)(h:az 1 181 w v xs F)(hi:i<=xs.length)(hlen:xs.length<=1000)(hx:x.length=1)(CT: ∀u∈x,u.oneCell'=true)(h1: ∀u∈xs.flatten,u.oneCell'=true)
  (hb:w.heap[vb]?=some (.cells x.toArray 181 (0,0))) (hvb: ∀j,¬F vb j):
  Calls prog 121 #[v,.int .i64 a,.slice (some ⟨vb,0,none⟩) 1 1] w (CR 1 181 w F (xs.take i++x::xs.drop i)):=by
 subst ha;exact QO w F v xs i x vb h hi hlen hx CT h1 hb hvb
end Go.Proofs.YtmkofmeojbcakaaGreatDoor
