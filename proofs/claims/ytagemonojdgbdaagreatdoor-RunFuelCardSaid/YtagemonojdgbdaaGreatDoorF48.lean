import Derived.Test.YtagemonojdgbdaaGreatDoorF40
import Derived.Test.YtagemonojdgbdaaGreatDoorF46
import Derived.Test.YtagemonojdgbdaaGreatDoorF47
namespace Go.Proofs.YtagemonojdgbdaaGreatDoor
set_option maxRecDepth 100000
set_option maxHeartbeats 16000000
open Go.RowKit
section
open Go.RowKit Go.Maps
theorem Dm: ∀(N:Nat) (l:List Nat),l.Nodup->(∀x∈l,x<N)->l.length<=N
 |0,l,_,h=>by
  cases l with
  |nil=>exact aq _
  |cons x l=>exact absurd (h x (by simp)) (by omega)
 |N+1,l,hn,h=>by
  have h1:=Dm N (l.erase N) (hn.erase N) (fun x hx=>by
   have h2:=h x (List.mem_of_mem_erase hx);have h3:x≠N:=fun e=>(by subst e;exact(hn.mem_erase_iff.1 hx).1 rfl)
   omega)
  have h4:l.length<=(l.erase N).length+1:=by rw[List.length_erase];split<;>omega
  omega
theorem Dn{wl:pQ}(hu:ez wl)(h: ∀q∈wl,∃v,aI v/\q.1=Lib.itoa v):wl.length<=2305843009213693952:=by
 have h1:=Dm 2199023255553 ((wl.map Prod.fst).map fun k=>(Jn k+1099511627776).toNat) (by
  unfold List.Nodup;rw[List.pairwise_map];refine List.Pairwise.imp_of_mem (fun{a b} ha hb hab e=>hab ?_) (jK hu);obtain⟨p,hp,rfl⟩:=ep.1 ha;obtain⟨q,hq,rfl⟩:=ep.1 hb;obtain⟨v,hv,ev⟩:=h p hp;obtain⟨u,hu,eu⟩:=h q hq;rw[ev,eu]at e⊢;rw[oz hv,oz hu]at e;unfold aI at hv hu
  rw[show v=u by omega]) (fun x hx=>by
  obtain⟨k,hk,rfl⟩:=ep.1 hx;obtain⟨p,hp,rfl⟩:=ep.1 hk;obtain⟨v,hv,ev⟩:=h p hp;rw[ev,oz hv];unfold aI at hv
  omega)
 simp only[fb]at h1;omega
theorem FD{w:World}{nm:String}{gl:Nat}{v:Array Value}(hg:Tryz.prog.globalNamed nm=some gl)(h:w.var? Tryz.prog nm=some v):gl<w.heap.size:=by
 unfold World.var? at h;rw[hg]at h;simp only[Option.bind_some]at h;rcases Nat.lt_or_ge gl w.heap.size with h'|h'
 ·exact h'
 ·rw[Array.getElem?_eq_none h']at h;cases h
theorem Dp{w w':World}{S:Nat->Prop}{nm:String}{gl:Nat}{v:Array Value}(hg:Tryz.prog.globalNamed nm=some gl)(h:w.var? Tryz.prog nm=some v)(ho:Only S w w')(hS: ¬S gl):w'.var? Tryz.prog nm=some v:=by have hlt:=FD hg h;unfold World.var? at h⊢;rw[hg]at h⊢;simp only[Option.bind_some]at h⊢;rw[ho.block _ hlt hS];exact h
def P7(k:Nat):Prop:=k=3\/k=4
theorem pO.only{w w':World}{S:Nat->Prop}(h:pO w)(ho:Only S w w')(hS: ∀k,P7 k-> ¬S k):pO w':=by obtain⟨⟨t1,p1,h1⟩,t2,p2,h2⟩:=h;exact⟨⟨t1,p1,Dp Tryz.PG h1 ho (hS _ (.inl rfl))⟩,t2,p2,Dp Tryz.PH h2 ho (hS _ (.inr rfl))⟩
theorem pO.lt{w:World}(h:pO w): ∀k,P7 k->k<w.heap.size:=by
 obtain⟨⟨t1,p1,h1⟩,t2,p2,h2⟩:=h;rintro k (rfl|rfl)
 ·exact FD Tryz.PG h1
 ·exact FD Tryz.PH h2
def KB(B T o m:Nat)(most:Int)(l:av)(Z:Nat->Prop)(r:av)(w:World):Prop:=
 ∃wl FT n g FR,mM w B T most o l wl FT m n g FR/\bI wl l=r/\dF r/\(r.length:Int)<=most/\(∀q∈wl,∃v,aI v/\q.1=Lib.itoa v)/\fL w/\
  (¬Z B/\ ¬Z m/\ ¬Z 5/\(∀b,FR b-> ¬Z b)/\ ∀b q,FT b q-> ¬Z b)/\(∀b q,FT b q->b<w.heap.size)/\pO w/\(∀k,P7 k-> ¬Z k)/\m≠5/\ ∀k,P7 k->k≠m
section
variable{B T o m:Nat}{most:Int}{l:av}
theorem KB.ok:qE (KB B T o m most l) where
 only:=by rintro Z r w w' G hG ⟨wl,FT,n,g,FR,h1,h2,h3,h4,h5,h6,⟨h7,h8,h9,h10,h11⟩,h12,qM,ni,En⟩ ho;exact⟨wl,FT,n,g,FR,h1.only ho (fun e=>h7 (hG _ e)) (fun e=>h8 (hG _ e)) (fun b hb e=>h10 b hb (hG _ e)) (fun b q hb e=>h11 b q hb (hG _ e)),h2,h3,h4,h5,h6.only ho (fun e=>h9 (hG _ e)),⟨h7,h8,h9,h10,h11⟩,fun b q hb=>cq (h12 b q hb) ho.size,qM.only ho (fun k hk e=>ni k hk (hG _ e)),ni,En⟩
 fB:=by
  rintro Z r w b ⟨wl,FT,n,g,FR,h1,h2,h3,h4,h5,h6,⟨h7,h8,h9,h10,h11⟩,h12,qM,ni,En⟩ hb;refine⟨wl,FT,n,g,FR,h1,h2,h3,h4,h5,h6,⟨fun e=>?_,fun e=>?_,fun e=>?_,fun k hk e=>?_,fun k q hk e=>?_⟩,h12,qM,fun k hk e=>?_,En⟩
  ·rcases e with e|e
   ·exact h7 e
   ·have:=aO h1.blk;omega
  ·rcases e with e|e
   ·exact h8 e
   ·have:=h1.map.lt;omega
  ·rcases e with e|e
   ·exact h9 e
   ·have:=h6.lt;omega
  ·rcases e with e|e
   ·exact h10 k hk e
   ·have:=(h1.bR k hk).2.2.1;omega
  ·rcases e with e|e
   ·exact h11 k q hk e
   ·have:=h12 k q hk;omega
  ·rcases e with e|e
   ·exact ni k hk e
   ·have:=qM.lt k hk;omega
 back:=by rintro Z Z' r w hZ ⟨wl,FT,n,g,FR,h1,h2,h3,h4,h5,h6,⟨h7,h8,h9,h10,h11⟩,h12,qM,ni,En⟩;exact⟨wl,FT,n,g,FR,h1,h2,h3,h4,h5,h6,⟨fun e=>h7 (hZ _ e),fun e=>h8 (hZ _ e),fun e=>h9 (hZ _ e),fun b hb e=>h10 b hb (hZ _ e),fun b q hb e=>h11 b q hb (hZ _ e)⟩,h12,qM,fun k hk e=>ni k hk (hZ _ e),En⟩
theorem KB.tab:Mq (KB B T o m most l):=fun Z r w h=>by obtain⟨_,_,_,_,_,_,_,_,_,_,h6,_⟩:=h;exact h6
theorem KB.errs{Z:Nat->Prop}{r:av}{w:World}(h:KB B T o m most l Z r w):pO w:=by obtain⟨_,_,_,_,_,_,_,_,_,_,_,_,_,qM,_⟩:=h;exact qM
theorem KB.rows{Z:Nat->Prop}{r:av}{w:World}(h:KB B T o m most l Z r w):dF r:=by obtain⟨_,_,_,_,_,_,_,h3,_⟩:=h;exact h3
theorem Ng{k:List UInt8}(h:cQ k=0):1<=k.length/\k.length<=16:=by
 unfold cQ at h;split at h
 ·cases h
 ·omega
theorem KB.get:yD (.pointer (some ⟨B,0,none⟩)) (KB B T o m most l) (fun r k=>au k r):=by rintro Z r w k ⟨wl,FT,n,g,FR,h1,h2,_⟩ hk;have:=iu w B T o most l wl FT _ k (Ng hk) h1.at_;rw[jw h1.up h1.tab.up,h2]at this;exact this
theorem KB.find{Z:Nat->Prop}{r:av}{w:World}(h:KB B T o m most l Z r w)(c n:Nat)(lo hi:Int)(hc:c<4)(hlo:I6 lo)(hhi:I6 hi)(hle:lo<=hi)(hn:n<=1000):
  Calls Tryz.prog 151 #[.pointer (some ⟨B,0,none⟩),.int .i64 (c:Int),.int .i64 lo,.int .i64 hi,.int .i64 (n:Int)] w (yM ((cJ c lo hi r).take n) w):=by
 obtain⟨wl,FT,n',g,FR,h1,h2,h3,h4,h5,h6,h7,h12,_⟩:=h;have:=FA w B T o most l wl FT _ c n lo hi h1.at_ h12 hc hlo hhi hle hn (by rw[h2];have:=h1.tab.Gu;omega);rwa[h2]at this
end
end
section
variable{c:RC}{K:(Nat->Prop)->av->World->Prop}{w:World}{s:PS av}
theorem vJ(f:Nat->Int)(a:Nat)(u v:Int):ko (ko f a u) a v=ko f a v:=by
 funext i
 unfold ko;split<;>rfl
def Xk(c:Nat):Option Rw->Int
 |some r=>aR (r.aK c)
 |none=>0
theorem Nh(ok:Cl->Bool)(x:aH)(s:PS av){s':PS av}{r:Option Rw}{n:Int}{b:Nat}(hb:x.b=(b:Int))(h:rowP ok (fun r k=>au k r) b s=(s',r,n)):
  C4 ok x s=if n=0 then fC x s' (Xk x.c.toNat r)else(s',n):=by
 unfold rowP at h;unfold C4 fk;simp only[hb,gx];obtain⟨cl',n',hp⟩: ∃u v,aP ok s.cl [fK (s.bj b)]=(u,v):=⟨_,_,rfl⟩;rw[hp]at h⊢;injection h with h1 h;injection h with h2 h3;subst h1 h2 h3;simp only;by_cases h0:n'=0
 ·subst h0;simp only[if_true];cases au (Lib.itoa (s.bj b)) s.rows<;>rfl
 ·simp[h0]
theorem P8(hc:c.Fit)(hK:qE K)(hT:Mq K)(hG:yD c.b K (fun r k=>au k r))(h:MI c K w s)(x:aH)(a b cc:Nat)(ha:a<8)(hb:b<8)(hcc:cc<4)(jA:x.a=(a:Int))(oN:x.b=(b:Int))(AH:x.c=(cc:Int)):
  Calls Tryz.prog 106 #[.pointer (some ⟨c.M,0,none⟩),x.val] w (ku c K (C4 c.ok x s) w):=by
 have H:=h.at_ hc hK x;have HQ:=al (fun s' r n=>Nh (s:=s) (s':=s') (r:=r) (n:=n) c.ok x oN);obtain⟨dk,xa,xb,xc,xn⟩:=x;simp only at jA oN AH H;subst jA oN AH;unfold aH.val;simp only;have HC:=al (ab hc (ab hK (ab hT hG)));have i1:(0:Int)<=(a:Int):=by omega
 have i2:(a:Int)<8:=by omega
 have j1:(0:Int)<=(cc:Int):=by omega
 have j2:(cc:Int)<4:=by omega
 go_enter Tryz.func106,Tryz.ntmps106;go_upto_region 1 with fail;generalize w.alloc (.cells #[.int .i64 dk,.int .i64 (a:Int),.int .i64 (b:Int),.int .i64 (cc:Int),.int .i64 xn] 104)=w1 at H⊢;obtain⟨O,hO⟩: ∃x,w.heap.size=x:=⟨_,rfl⟩;rw[hO]at H⊢;have k0:=H.box;have o2:w1.cell? ⟨O,2,none⟩=some (.int .i64 (b:Int)):=by simp[World.cell?,k0]
 have HR:=al (Mr hc hK hT hG H.mi b hb);obtain⟨s',r,n,hp⟩: ∃s' r n,rowP c.ok (fun r k=>au k r) b s=(s',r,n):=⟨_,_,_,rfl⟩;rw[hp]at HR;have HP:=al (HQ.out _ _ _ hp);have H1:=al H;clear h k0 hO hp hc hK hT hG H HQ;go_wp2_with fail;refine HR.out.mono ?_;rintro e w2 ⟨rfl,JV,eo⟩;have k2:=eo.heap H1.out.box (fun h=>H1.out.off (HC.out.1.sub _ h));obtain⟨⟨ra,rb,rc,rd⟩,nA⟩: ∃q,r.getD .zero=q:=⟨_,rfl⟩;simp only[nA,Rw.val];have HI:=al (ab JV (ab eo (ab k2 nA)));clear JV eo k2 HR nA;go_upto_region 2 with fail;have hbz:=af w2 (.cells #[.int .i64 ra,.int .i64 rb,.int .i64 rc,.int .i64 rd] 26);have kz:=an w2 (.cells #[.int .i64 ra,.int .i64 rb,.int .i64 rc,.int .i64 rd] 26);generalize w2.alloc (.cells #[.int .i64 ra,.int .i64 rb,.int .i64 rc,.int .i64 rd] 26)=w3 at hbz kz⊢;have h3:=HI.out.1.below HC.out.1 HC.out.2.1 hbz;have k3:=pw hbz HI.out.2.2.1;have JP:Only c.W w w3:=((oy H1.out.oI c.W).trans HI.out.2.1 (fun _ _ h=>h)).trans (oy hbz c.W) (fun _ _ h=>h);obtain⟨V,hV⟩: ∃x,w2.heap.size=x:=⟨_,rfl⟩;rw[hV]at kz⊢;have T8: ¬V=c.M:=fun e=>by obtain⟨_,hm,_⟩:=HI.out.1;have:=hm.lt;omega
 have CV:=H1.out.ne HC.out.1;have H3:=al (ab h3 (ab JP (ab T8 CV)));by_cases hn:n=0
 ·subst hn;have X7:=al (HP.out.trans (fi rfl));obtain⟨f3,NM,_⟩:=h3;have m3:=NM.bj ha;have mf:=NM.free (18+a);have o1:w3.cell? ⟨O,1,none⟩=some (.int .i64 (a:Int)):=by simp[World.cell?,k3]
  have o3:w3.cell? ⟨O,3,none⟩=some (.int .i64 (cc:Int)):=by simp[World.cell?,k3]
  have hv:w3.cell? ⟨V,cc,none⟩=some (.int .i64 ((Rw.mk ra rb rc rd).aK cc)):=by rcases(show cc=0\/cc=1\/cc=2\/cc=3 by omega)with rfl|rfl|rfl|rfl<;>(unfold World.cell?;rw[kz];rfl)
  have HV:=al (ab o1 (ab o3 hv));clear NM k3 JP hbz kz hV T8 CV o3 hv;go_upto_region 4 with fail
  go_still_tail 6,(by kernel_rfl)
  change wpList _ _ _ _ _ w3.drew;have H5:=al ((H3.out.1.drew HC.out.1 HC.out.2.1).ja HC.out.1 HC.out.2.1 ha (v:=0) ⟨by decide,by decide⟩)
  cases r with
  |none=>
   go_wp2_with fail;go_ret
   rw[X7.out];refine⟨rfl,?_,H3.out.2.1.trans ((kH w3 1 c.M (18+a) _).xf HC.out.1) (fun _ _ h=>h)⟩;unfold fC;exact H5.out
  |some rr=>
   have nA:rr=⟨ra,rb,rc,rd⟩:=HI.out.2.2.2;subst nA;simp only[me];go_upto_region 6 with fail;have gN:Only c.W w (w3.setCell ⟨c.M,18+a,none⟩ (.int .i64 0)).drew:=H3.out.2.1.trans ((kH w3 1 c.M (18+a) _).xf HC.out.1) (fun _ _ h=>h)
   have z0: ∀v,((w3.setCell ⟨c.M,18+a,none⟩ v).drew.cell? ⟨O,1,none⟩=some (.int .i64 (a:Int))/\(w3.setCell ⟨c.M,18+a,none⟩ v).drew.cell? ⟨O,3,none⟩=some (.int .i64 (cc:Int))/\(w3.setCell ⟨c.M,18+a,none⟩ v).drew.cell? ⟨V,cc,none⟩=some (.int .i64 ((Rw.mk ra rb rc rd).aK cc))):=fun v=>
    ⟨(kH w3 1 c.M (18+a) v).cell HV.out.1 H3.out.2.2.2,(kH w3 1 c.M (18+a) v).cell HV.out.2.1 H3.out.2.2.2,(kH w3 1 c.M (18+a) v).cell HV.out.2.2 H3.out.2.2.1⟩
   have z0:=z0 (.int .i64 0);have h5:MI c K (w3.setCell ⟨c.M,18+a,none⟩ (.int .i64 0)).drew {s' with bj:=ko s'.bj a 0}:=H5.out;have m5:(w3.setCell ⟨c.M,18+a,none⟩ (.int .i64 0)).drew.cell? ⟨c.M,18+a,none⟩=some (.int .i64 0):=by obtain⟨_,hm,_⟩:=h5;have:=hm.bj ha;simpa[RC.ms,ko]using this
   have f5:(w3.setCell ⟨c.M,18+a,none⟩ (.int .i64 0)).drew.frozen? ⟨c.M,18+a,none⟩=false:=by obtain⟨_,hm,_⟩:=h5;exact hm.free _
   generalize (w3.setCell ⟨c.M,18+a,none⟩ (.int .i64 0)).drew=w5 at gN z0 h5 m5 f5⊢;have H6:=al (ab h5 gN);obtain⟨S0,vT⟩: ∃z,(Rw.mk ra rb rc rd).aK cc=z:=⟨_,rfl⟩;rw[vT]at z0;have lV:=al vT;have Q8:=al (fun W=>lO W S0);clear h5 gN H5 vT o1 m3 mf HV;refine pb (S:=(fun W=>W.cell? ⟨O,1,none⟩=some (.int .i64 (a:Int))/\W.cell? ⟨O,3,none⟩=some (.int .i64 (cc:Int))/\W.cell? ⟨V,cc,none⟩=some (.int .i64 S0))) (by kernel_rfl) z0 (fun pt=>?_);refine aM [0,1,2,3,4,5,6,8,9] ?_
   iterate 9 (refine bX (v:=?_) (fun wS hSw=>?_) pt ?_;rotate_left;(obtain⟨s0,s1,s2⟩:=hSw;go_simp;try with_reducible rfl);try simp only[ai,aj,ak,ar])
   refine aN ?_;refine aW 7 (fun K hK=>?_);go_simp;refine(Q8.out _).mono ?_;rintro e wn ⟨rfl,rfl⟩
   try go_simp
   refine hK.out _ _ (pt) ?_;clear hK K pt;intro pt
   try simp only[ai,aj,ak,ar]
   refine fJ 10 (v:=?_) (fun wS hSw=>?_) pt ?_;rotate_left
   ·obtain⟨s0,s1,s2⟩:=hSw;go_simp;try with_reducible rfl
   try simp only[ai,aj,ak,ar]
   refine aW 11 (fun K hK=>?_);go_simp;refine hK.out _ _ (⟨(aT _ c.M (18+a) _).cell pt.1 H3.out.2.2.2,(aT _ c.M (18+a) _).cell pt.2.1 H3.out.2.2.2,(aT _ c.M (18+a) _).cell pt.2.2 H3.out.2.2.1⟩) ?_;clear hK K pt;intro pt
   try simp only[ai,aj,ak,ar]
   refine pf (by kernel_rfl) ?_ _;clear pt z0;go_wp2_with fail;go_ret
   rw[X7.out,fU];have hF:=(H6.out.1.drew HC.out.1 HC.out.2.1).ja HC.out.1 HC.out.2.1 ha (lU S0);refine⟨rfl,?_,H6.out.2.trans ((kH w5 1 c.M (18+a) _).xf HC.out.1) (fun _ _ h=>h)⟩;unfold fC Xk;simp only[gx,lV.out];rw[<-vJ s'.bj a 0 (aR S0)];exact hF
 ·have nZ:(n==0)=false:=by simpa using hn
  have X7:=al (HP.out.trans (ff hn));clear hn h3 k3 JP hbz kz hV T8 CV;go_wp2_with fail;go_ret
  rw[X7.out];exact⟨rfl,H3.out.1,H3.out.2.1⟩
end
section
variable{c:RC}{B T o m:Nat}{most:Int}{l:av}{w:World}{s:PS av}
def jh(c:Nat)(lo hi:Int):Cl:=⟨false,c,[],lo,hi⟩
theorem vK{c:Nat}{lo hi:Int}(hc:c<4)(h1:aI lo)(h2:aI hi)(h:lo<=hi):Good [jh c lo hi]:=by intro x hx;rw[fl]at hx;subst hx;unfold aI at h1 h2;refine⟨?_,⟨by unfold jh jN;simp;omega,by unfold jh jN;simp;omega,by unfold jh jN;simp;omega,by unfold jh maxLen;simp⟩⟩;unfold Ok BS jh;simp;omega
theorem aI.i6{v:Int}(h:aI v):I6 v:=by unfold aI at h;unfold I6;omega
theorem Ni{lo n:Int}(h:aI lo)(hn:0<=n):lo<=aR (lo+n):=by unfold aI at h;unfold aR;omega
theorem FE(ok:Cl->Bool)(x:aH)(s:PS av){b cc:Nat}{lo hi n:Int}{cl':List Cl}(hb:x.b=(b:Int))(hc:x.c=(cc:Int))(hlo:s.bj b=lo)(hhi:hi=aR (s.bj b+x.n))(h:aP ok s.cl [jh cc lo hi]=(cl',n)):
  qG ok x s=if n=0 then fC x {s with cl:=cl'} ((min (cJ cc lo hi s.rows).length 16:Nat):Int)else({s with cl:=cl'},n):=by
 subst hlo;subst hhi;unfold qG fk;simp only[hb,hc,gx];unfold jh at h;rw[h]
theorem JF(hc:c.Fit)(hB:c.b=.pointer (some ⟨B,0,none⟩))(h:MI c (KB B T o m most l) w s)(x:aH)(a b cc:Nat)(ha:a<8)(hb:b<8)(hcc:cc<4)(jA:x.a=(a:Int))(oN:x.b=(b:Int))(AH:x.c=(cc:Int))(OA:0<=x.n/\x.n<=1099511627776):
  Calls Tryz.prog 110 #[.pointer (some ⟨c.M,0,none⟩),x.val] w (ku c (KB B T o m most l) (qG c.ok x s) w):=by
 have H:=h.at_ hc KB.ok x;have fT: ∀i,aI (s.bj i):=by obtain⟨_,_,_,_,_,_,_,h7⟩:=h;exact h7.1
 have yB: ∀k,c.S k->k<w.heap.size:=by obtain⟨_,_,_,_,_,_,h6,_⟩:=h;exact h6
 obtain⟨dk,xa,xb,xc,xn⟩:=x;simp only at jA oN AH H OA;subst jA oN AH;unfold aH.val;simp only;have HC:=al (ab hc (ab hB (ab yB (ab fT OA))));have i1:(0:Int)<=(a:Int):=by omega
 have i2:(a:Int)<8:=by omega
 have j1:(0:Int)<=(b:Int):=by omega
 have j2:(b:Int)<8:=by omega
 go_enter Tryz.func110,Tryz.ntmps110;go_upto_region 1 with fail;generalize w.alloc (.cells #[.int .i64 dk,.int .i64 (a:Int),.int .i64 (b:Int),.int .i64 (cc:Int),.int .i64 xn] 104)=w1 at H⊢;obtain⟨O,hO⟩: ∃x,w.heap.size=x:=⟨_,rfl⟩;rw[hO]at H⊢;have k0:=H.box;have o2:w1.cell? ⟨O,2,none⟩=some (.int .i64 (b:Int)):=by simp[World.cell?,k0]
 have r2:=H.bj hb;have H1:=al H;clear h k0 hO hc hB yB fT OA H
 go_region
 go_upto_region 2 with fail;have fR:=al (aw w1.heap.size w1).drew;have hb2:=fR.out;generalize w1.drew=w2 at fR hb2⊢;have k2:=pw hb2 H1.out.box;have o3:w2.cell? ⟨O,3,none⟩=some (.int .i64 (cc:Int)):=by simp[World.cell?,k2]
 have o4:w2.cell? ⟨O,4,none⟩=some (.int .i64 xn):=by simp[World.cell?,k2]
 obtain⟨lo,hlo⟩: ∃z,s.bj b=z:=⟨_,rfl⟩;rw[hlo];have hw:IntKind.i64.wrap (lo+xn)=lo+xn:=by rw[fm];have:=HC.out.2.2.2.1 b;rw[hlo]at this;unfold aI at this;have:=HC.out.2.2.2.2;omega
 obtain⟨S0,vT⟩: ∃z,lo+xn=z:=⟨_,rfl⟩;rw[vT]at hw;have HS:=al (ab hlo vT);have Du:=al (fun W=>lO W S0);clear o2 r2 hb2 k2 hlo;go_wp2_with fail;refine(Du.out _).mono ?_;rintro e w' ⟨rfl,rfl⟩;obtain⟨hi,hhi⟩: ∃z,max (-1099511627776) (min S0 1099511627776)=z:=⟨_,rfl⟩;rw[hhi];have P9:hi=aR (s.bj b+xn):=by rw[<-hhi,<-HS.out.2,<-HS.out.1];rfl
 have hrl:aI lo:=HS.out.1▸HC.out.2.2.2.1 b;have hrh:aI hi:=by rw[P9];exact lU _
 have hle:lo<=hi:=by rw[P9,HS.out.1];exact Ni hrl HC.out.2.2.2.2.1
 have HR:=al (ab hrl (ab hrh (ab hle P9)));clear hhi P9 hrl hrh hle Du o4 hw;have cK:=af w2 (.cells #[.bool false,.int .i64 (cc:Int),.string ⟨#[]⟩,.int .i64 lo,.int .i64 hi] 48);have kx:=an w2 (.cells #[.bool false,.int .i64 (cc:Int),.string ⟨#[]⟩,.int .i64 lo,.int .i64 hi] 48);have HX:=al (ab cK kx);clear cK kx;go_wp2_with fail;have rH:=HX.out;generalize w2.alloc (.cells #[.bool false,.int .i64 (cc:Int),.string ⟨#[]⟩,.int .i64 lo,.int .i64 hi] 48)=w3 at rH⊢;obtain⟨cK,kx⟩:=rH;obtain⟨X,hX⟩: ∃x,w2.heap.size=x:=⟨_,rfl⟩;rw[hX]at kx⊢;have kq:Below w1.heap.size w1 w3:=fR.out.trans (cK.mono fR.out.size);have vq:Below w.heap.size w w3:=H1.out.oI.trans (kq.mono H1.out.oI.size);have h3:=H1.out.mi.below HC.out.1 KB.ok kq;have hcl:=iQ (l:=[jh cc lo hi]) (F:=fun k=> ¬c.S k) kx rfl (fun hs=>by have h1:=HC.out.2.2.1 X hs;have h2:=H1.out.oI.size;have h3:=fR.out.size;omega) (by simp[maxLen]);have k3:=pw kq H1.out.box;have Ay:=al (lN HC.out.1 KB.ok h3 [jh cc lo hi] _ hcl (by simp) (vK hcc HR.out.1 HR.out.2.1 HR.out.2.2.1));obtain⟨cl',n,hp⟩: ∃u v,aP c.ok s.cl [jh cc lo hi]=(u,v):=⟨_,_,rfl⟩;rw[hp]at Ay;have hq:=FE (x:=⟨dk,a,b,cc,xn⟩) c.ok s rfl rfl HS.out.1 HR.out.2.2.2 hp;have H3:=al (ab vq (ab k3 H1.out.off));clear HX cK kx hX kq vq h3 hcl k3 hp;refine Ay.out.mono ?_;rintro e w4 ⟨rfl,xg,nv⟩;have CV:=H1.out.ne HC.out.1;have k4:=nv.heap H3.out.2.1 CV;have CU:Only c.W w w4:=(oy H3.out.1 c.W).trans (nv.xf HC.out.1) (fun _ _ h=>h);by_cases hn:n=0
 ·subst hn;have HP:=al (hq.trans (fi rfl));have H4:=al (ab xg (ab CU (ab k4 CV)));clear hq Ay nv CU CV;go_upto_region 6 with fail;have NL:=xg;obtain⟨f4,hm,_⟩:=NL;have z0:w4.cell? ⟨c.M,26,none⟩=some (.pointer (some ⟨B,0,none⟩))/\w4.cell? ⟨O,3,none⟩=some (.int .i64 (cc:Int)):=⟨by have:=hm.b;simp only[RC.ms]at this;rw[HC.out.2.1]at this;exact this,by simp[World.cell?,k4]⟩;clear hm xg k4 o3
  have HF:=al (show ∀W,Below w4.heap.size w4 W->Calls Tryz.prog 151 #[.pointer (some ⟨B,0,none⟩),.int .i64 (cc:Int),.int .i64 lo,.int .i64 hi,.int .i64 16] W (yM ((cJ cc lo hi s.rows).take 16) W)from fun W hb=>by
   have hI:=H4.out.1.below HC.out.1 KB.ok hb;obtain⟨_,_,_,_,_,hk,_⟩:=hI
   exact KB.find (Z:=c.Z) hk cc 16 lo hi hcc HR.out.1.i6 HR.out.2.1.i6 HR.out.2.2.1 (by omega))
  refine pb (S:=(fun W=>Below w4.heap.size w4 W/\W.cell? ⟨c.M,26,none⟩=some (.pointer (some ⟨B,0,none⟩))/\W.cell? ⟨O,3,none⟩=some (.int .i64 (cc:Int)))) (by kernel_rfl) ⟨(aw _ _).drew,z0⟩ (fun pt=>?_);refine aM [0,1,2,3,4,5,6,7] ?_
  iterate 8 (refine bX (v:=?_) (fun wS hSw=>?_) pt ?_;rotate_left;(obtain⟨s0,s1,s2⟩:=hSw;go_simp;try with_reducible rfl);try simp only[ai,aj,ak,ar])
  refine aN ?_;refine aW 8 (fun K hK=>?_);go_simp;refine(HF.out _ pt.1).mono ?_;rintro e wn ⟨A,cp,rfl,-,cD⟩
  try go_simp
  refine hK.out _ _ (pC pt cD) ?_;clear hK K pt cD;intro pt
  try simp only[ai,aj,ak,ar]
  refine aM [9,10,11,12,13] ?_
  iterate 5 (refine bX (v:=?_) (fun wS hSw=>?_) pt ?_;rotate_left;(obtain⟨s0,s1,s2⟩:=hSw;go_simp;try with_reducible rfl);try simp only[ai,aj,ak,ar])
  refine aN ?_;refine pf (by kernel_rfl) ?_ _;have rV:=al pt.1;clear pt z0
  rename World=>w5
  have h5:=H4.out.1.below HC.out.1 KB.ok rV.out;have k5:=pw rV.out H4.out.2.2.1;obtain⟨f5,mK,-⟩:=id h5;have r5:=mK.bj ha;have f5:=mK.free (18+a);have o5:w5.cell? ⟨O,1,none⟩=some (.int .i64 (a:Int)):=by simp[World.cell?,k5]
  have H5:=al h5;obtain⟨L,hL⟩: ∃z,min 16 (cJ cc lo hi s.rows).length=z:=⟨_,rfl⟩;rw[hL];have HL:=al hL;clear mK h5 k5 hL;go_upto_region 7 with fail
  go_still_tail 8,(by kernel_rfl)
  change wpList _ _ _ _ _ w5.drew;go_wp2_with fail;go_ret
  rw[HP.out];have hv:aI (L:Int):=by have:=HL.out;unfold aI;omega
  have hF:=(H5.out.drew HC.out.1 KB.ok).ja HC.out.1 KB.ok ha hv;refine⟨rfl,?_,(H4.out.2.1.trans (oy rV.out c.W) (fun _ _ h=>h)).trans ((kH w5 1 c.M (18+a) _).xf HC.out.1) (fun _ _ h=>h)⟩;unfold fC;rw[Nat.min_comm,HL.out];exact hF
 ·have nZ:(n==0)=false:=by simpa using hn
  have HP:=al (hq.trans (ff hn));have H4:=al (ab xg CU);clear hn hq Ay nv CU CV xg k4;go_wp2_with fail;go_ret
  rw[HP.out];exact⟨rfl,H4.out.1,H4.out.2⟩
end
section
variable{c:RC}{B T o m:Nat}{most:Int}{l:av}{w:World}{s:PS av}
def Tu:List (List UInt8)->Int
 |k::_=>Jn k
 |[]=> -1
theorem JG(ok:Cl->Bool)(x:aH)(s:PS av){b cc:Nat}{v n:Int}{cl':List Cl}(hb:x.b=(b:Int))(hc:x.c=(cc:Int))(hlo:s.bj b=v)(h:aP ok s.cl [jh cc v v]=(cl',n)):
  vB ok x s=if n=0 then fC x {s with cl:=cl'} (Tu (cJ cc v v s.rows))else({s with cl:=cl'},n):=by
 subst hlo;unfold vB fk;simp only[hb,hc,gx];unfold jh at h;rw[h];simp only;cases cJ cc (s.bj b) (s.bj b) s.rows<;>rfl
theorem Qa{r:av}(h:dF r){cc:Nat}{v:Int}:aI (Tu (cJ cc v v r)):=by
 cases hh:cJ cc v v r with
 |nil=>exact⟨by decide,by decide⟩
 |cons k ks=>exact h.num (by rw[hh];rfl)
theorem Qb{r:av}(h:dF r){cc:Nat}{v:Int}{k:List UInt8}{ks:List (List UInt8)}(hh:cJ cc v v r=k::ks):k.length<=1000:=by obtain⟨q,hq,_⟩:=(jz h.1 h.fit).1 (show k∈cJ cc v v r by rw[hh];simp);obtain⟨⟨n,hn,e⟩,_⟩:=h.2 _ hq;simp only at e;rw[e];have:=(gI hn).2;omega
theorem Nj(hc:c.Fit)(hB:c.b=.pointer (some ⟨B,0,none⟩))(h:MI c (KB B T o m most l) w s)(x:aH)(a b cc:Nat)(ha:a<8)(hb:b<8)(hcc:cc<4)(jA:x.a=(a:Int))(oN:x.b=(b:Int))(AH:x.c=(cc:Int)):
  Calls Tryz.prog 109 #[.pointer (some ⟨c.M,0,none⟩),x.val] w (ku c (KB B T o m most l) (vB c.ok x s) w):=by
 have H:=h.at_ hc KB.ok x;have fT: ∀i,aI (s.bj i):=by obtain⟨_,_,_,_,_,_,_,h7⟩:=h;exact h7.1
 have yB: ∀k,c.S k->k<w.heap.size:=by obtain⟨_,_,_,_,_,_,h6,_⟩:=h;exact h6
 obtain⟨dk,xa,xb,xc,xn⟩:=x;simp only at jA oN AH H;subst jA oN AH;unfold aH.val;simp only;have HC:=al (ab hc (ab hB (ab yB fT)));have i1:(0:Int)<=(a:Int):=by omega
 have i2:(a:Int)<8:=by omega
 have j1:(0:Int)<=(b:Int):=by omega
 have j2:(b:Int)<8:=by omega
 go_enter Tryz.func109,Tryz.ntmps109;go_upto_region 1 with fail;generalize w.alloc (.cells #[.int .i64 dk,.int .i64 (a:Int),.int .i64 (b:Int),.int .i64 (cc:Int),.int .i64 xn] 104)=w1 at H⊢;obtain⟨O,hO⟩: ∃x,w.heap.size=x:=⟨_,rfl⟩;rw[hO]at H⊢;have k0:=H.box;have o2:w1.cell? ⟨O,2,none⟩=some (.int .i64 (b:Int)):=by simp[World.cell?,k0]
 have r2:=H.bj hb;have H1:=al H;clear h k0 hO hc hB yB fT H
 go_region
 go_upto_region 2 with fail;have fR:=al (aw w1.heap.size w1).drew;have hb2:=fR.out;generalize w1.drew=w2 at fR hb2⊢;have k2:=pw hb2 H1.out.box;have o3:w2.cell? ⟨O,3,none⟩=some (.int .i64 (cc:Int)):=by simp[World.cell?,k2]
 obtain⟨v,hv⟩: ∃z,s.bj b=z:=⟨_,rfl⟩;rw[hv];have HR:=al (show aI v/\s.bj b=v from⟨hv▸HC.out.2.2.2 b,hv⟩);clear o2 r2 hb2 k2 hv;have cK:=af w2 (.cells #[.bool false,.int .i64 (cc:Int),.string ⟨#[]⟩,.int .i64 v,.int .i64 v] 48);have kx:=an w2 (.cells #[.bool false,.int .i64 (cc:Int),.string ⟨#[]⟩,.int .i64 v,.int .i64 v] 48);have HX:=al (ab cK kx);clear cK kx;go_wp2_with fail;have rH:=HX.out;generalize w2.alloc (.cells #[.bool false,.int .i64 (cc:Int),.string ⟨#[]⟩,.int .i64 v,.int .i64 v] 48)=w3 at rH⊢;obtain⟨cK,kx⟩:=rH;obtain⟨X,hX⟩: ∃x,w2.heap.size=x:=⟨_,rfl⟩;rw[hX]at kx⊢;have kq:Below w1.heap.size w1 w3:=fR.out.trans (cK.mono fR.out.size);have vq:Below w.heap.size w w3:=H1.out.oI.trans (kq.mono H1.out.oI.size);have h3:=H1.out.mi.below HC.out.1 KB.ok kq;have hcl:=iQ (l:=[jh cc v v]) (F:=fun k=> ¬c.S k) kx rfl (fun hs=>by have h1:=HC.out.2.2.1 X hs;have h2:=H1.out.oI.size;have h3:=fR.out.size;omega) (by simp[maxLen]);have k3:=pw kq H1.out.box;have Ay:=al (lN HC.out.1 KB.ok h3 [jh cc v v] _ hcl (by simp) (vK hcc HR.out.1 HR.out.1 (eE _)));obtain⟨cl',n,hp⟩: ∃u v',aP c.ok s.cl [jh cc v v]=(u,v'):=⟨_,_,rfl⟩;rw[hp]at Ay;have hq:=JG (x:=⟨dk,a,b,cc,xn⟩) c.ok s rfl rfl HR.out.2 hp;have H3:=al (ab vq (ab k3 H1.out.off));clear HX cK kx hX kq vq h3 hcl k3 hp;refine Ay.out.mono ?_;rintro e w4 ⟨rfl,xg,nv⟩;have CV:=H1.out.ne HC.out.1;have k4:=nv.heap H3.out.2.1 CV;have CU:Only c.W w w4:=(oy H3.out.1 c.W).trans (nv.xf HC.out.1) (fun _ _ h=>h);by_cases hn:n=0
 ·subst hn;have HP:=al (hq.trans (fi rfl));have H4:=al (ab xg (ab CU (ab k4 CV)));clear hq Ay nv CU CV o3;go_upto_region 5 with fail;obtain⟨f4,hm,-⟩:=id xg;have o1:w4.cell? ⟨O,1,none⟩=some (.int .i64 (a:Int)):=by simp[World.cell?,k4]
  have r4:=hm.bj ha;have f4:=hm.free (18+a);clear hm xg k4
  go_still_tail 6,(by kernel_rfl)
  change wpList _ _ _ _ _ w4.drew;go_upto_region 6 with fail;have h5:MI c (KB B T o m most l) (w4.setCell ⟨c.M,18+a,none⟩ (.int .i64 (-1))).drew {s with cl:=cl',bj:=ko s.bj a (-1)}:=(H4.out.1.drew HC.out.1 KB.ok).ja HC.out.1 KB.ok ha (v:= -1) ⟨by decide,by decide⟩;have gN:Only c.W w (w4.setCell ⟨c.M,18+a,none⟩ (.int .i64 (-1))).drew:=H4.out.2.1.trans ((kH w4 1 c.M (18+a) _).xf HC.out.1) (fun _ _ h=>h);have k5:(w4.setCell ⟨c.M,18+a,none⟩ (.int .i64 (-1))).drew.heap[O]?=_:=(kH w4 1 c.M (18+a) (.int .i64 (-1))).heap H4.out.2.2.1 H4.out.2.2.2;generalize (w4.setCell ⟨c.M,18+a,none⟩ (.int .i64 (-1))).drew=w5 at h5 gN k5⊢;obtain⟨f5,mK,-⟩:=id h5;have z0:w5.cell? ⟨c.M,26,none⟩=some (.pointer (some ⟨B,0,none⟩))/\w5.cell? ⟨O,3,none⟩=some (.int .i64 (cc:Int)):=⟨by have:=mK.b;simp only[RC.ms]at this;rw[HC.out.2.1]at this;exact this,by simp[World.cell?,k5]⟩;have H5:=al (ab h5 (ab gN k5));clear mK h5 gN k5 r4 f4 o1
  have HF:=al (show ∀W,Below w5.heap.size w5 W->Calls Tryz.prog 151 #[.pointer (some ⟨B,0,none⟩),.int .i64 (cc:Int),.int .i64 v,.int .i64 v,.int .i64 1] W (yM ((cJ cc v v s.rows).take 1) W)from fun W hb=>by
   have hI:=H5.out.1.below HC.out.1 KB.ok hb;obtain⟨_,_,_,_,_,hk,_⟩:=hI
   exact KB.find (Z:=c.Z) hk cc 1 v v hcc HR.out.1.i6 HR.out.1.i6 (eE _) (by omega))
  refine pb (S:=(fun W=>Below w5.heap.size w5 W/\W.cell? ⟨c.M,26,none⟩=some (.pointer (some ⟨B,0,none⟩))/\W.cell? ⟨O,3,none⟩=some (.int .i64 (cc:Int)))) (by kernel_rfl) ⟨(aw _ _).drew,z0⟩ (fun pt=>?_);refine aM [0,1,2,3,4,5,6,7] ?_
  iterate 8 (refine bX (v:=?_) (fun wS hSw=>?_) pt ?_;rotate_left;(obtain⟨s0,s1,s2⟩:=hSw;go_simp;try with_reducible rfl);try simp only[ai,aj,ak,ar])
  refine aN ?_;refine aW 8 (fun K hK=>?_);go_simp;refine(HF.out _ pt.1).mono ?_;rintro e wn ⟨A,cp,rfl,hown,cD⟩;have HO:=al hown;clear hown
  try go_simp
  refine hK.out _ _ (pC pt cD) ?_;clear hK K pt cD;intro pt
  try simp only[ai,aj,ak,ar]
  refine aM [9,10,11,12,13] ?_
  iterate 5 (refine bX (v:=?_) (fun wS hSw=>?_) pt ?_;rotate_left;(obtain⟨s0,s1,s2⟩:=hSw;go_simp;try with_reducible rfl);try simp only[ai,aj,ak,ar])
  refine aN ?_;refine pf (by kernel_rfl) ?_ _;have TJ:=al pt.1;clear pt z0
  rename World=>w6
  have h6:=H5.out.1.below HC.out.1 KB.ok TJ.out;have k6:=pw TJ.out H5.out.2.2;have Gk:=H5.out.2.1.trans (oy TJ.out c.W) (fun _ _ h=>h);have o6:w6.cell? ⟨O,1,none⟩=some (.int .i64 (a:Int)):=by simp[World.cell?,k6]
  obtain⟨_,_,_,_,_,hkb,_⟩:=id h6;have hrows:=KB.rows hkb;have Xl:=KB.tab _ _ _ hkb;have Xm:=KB.errs hkb;clear hkb;have Nk:=Qa hrows (cc:=cc) (v:=v);simp only at Nk;obtain⟨L,hL⟩: ∃z,cJ cc v v s.rows=z:=⟨_,rfl⟩;rw[hL]at HO⊢;have Q4:aI (Tu L):=by rw[<-hL];exact Nk
  have H6:=al (ab h6 (ab Gk (ab k6 (ab hL (ab Q4 (ab Xl Xm))))));have HRW:=al hrows;clear h6 Gk k6 hrows Xl Xm Nk Q4 hL
  cases L with
  |nil=>
   go_wp2_with fail;go_ret
   rw[HP.out,H6.out.2.2.2.1];exact⟨rfl,H6.out.1,H6.out.2.1⟩
  |cons k L2=>
   have iX:min 1 (k::L2).length=1:=by simp
   rw[iX];have hkl:=Qb HRW.out H6.out.2.2.2.1;have hown:=HO.out;obtain⟨g0,rfl,y0⟩:=MZ (j:=0) (k:=k) hown rfl;have hgl:=(hown.lt g0 rfl).1;clear hown;have hg0: ¬g0=c.M:=fun e=>by have Y5:w5.heap.size<=g0:=hgl;obtain⟨_,hm,_⟩:=H5.out.1;have:=hm.lt;omega
   have z0:w6.cell? ⟨O,1,none⟩=some (.int .i64 (a:Int))/\w6.cell? ⟨g0,0,none⟩=some (.string ⟨k.toArray⟩):=⟨o6,y0⟩;have HN:=al (show ∀W,Below w6.heap.size w6 W->Calls Tryz.prog 152 #[.string ⟨k.toArray⟩] W (WR (ib k) W)from fun W hb=>Ak W k hkl (H6.out.2.2.2.2.2.1.below hb) (H6.out.2.2.2.2.2.2.below hb));have HG:=al hg0;clear o6 y0 hgl iX hkl hg0;go_upto_region 8 with fail;refine pb (S:=(fun W=>W.cell? ⟨O,1,none⟩=some (.int .i64 (a:Int))/\W.cell? ⟨g0,0,none⟩=some (.string ⟨k.toArray⟩))) (by kernel_rfl) z0 (fun pt=>?_);refine aM [0,1,2,3,4,5,10,11] ?_
   iterate 8 (refine bX (v:=?_) (fun wS hSw=>?_) pt ?_;rotate_left;(obtain⟨s0,s1⟩:=hSw;go_simp;try with_reducible rfl);try simp only[ai,aj,ak,ar])
   refine aN ?_;refine aW 6 (fun K hK=>?_);go_simp;refine(HN.out _ ((aw _ _).drew)).mono ?_;rintro e wn ⟨rfl,cD⟩;have ze:=((aw w6.heap.size w6).drew).trans (cD.mono (aq _));have h8:=H6.out.1.below HC.out.1 KB.ok ze;obtain⟨_,hm8,-⟩:=id h8;have m8:=hm8.bj ha;have f8:=hm8.free (18+a);have H8:=al (ab h8 ze);clear hm8 h8 ze
   try go_simp
   refine hK.out _ _ (⟨(cD.cell (aE _ _ pt.1)).trans pt.1,(cD.cell (aE _ _ pt.2)).trans pt.2⟩) ?_;clear hK K pt cD;intro pt
   try simp only[ai,aj,ak,ar]
   refine aM [7,8,9,12] ?_
   iterate 4 (refine bX (v:=?_) (fun wS hSw=>?_) pt ?_;rotate_left;(obtain⟨s0,s1⟩:=hSw;go_simp;try with_reducible rfl);try simp only[ai,aj,ak,ar])
   refine aN ?_;refine aW 13 (fun K hK=>?_);go_simp;refine hK.out _ _ (⟨(aT _ c.M (18+a) _).cell pt.1 H4.out.2.2.2,(aT _ c.M (18+a) _).cell pt.2 HG.out⟩) ?_;clear hK K pt;intro pt
   try simp only[ai,aj,ak,ar]
   refine pf (by kernel_rfl) ?_ _;clear pt z0;go_wp2_with fail;go_ret
   rw[HP.out,H6.out.2.2.2.1];refine⟨rfl,?_,(H6.out.2.1.trans (oy H8.out.2 c.W) (fun _ _ h=>h)).trans ((aT wn c.M (18+a) _).xf HC.out.1) (fun _ _ h=>h)⟩;have hF:=H8.out.1.ja HC.out.1 KB.ok ha H6.out.2.2.2.2.1;simp only[vJ]at hF;exact hF
 ·have nZ:(n==0)=false:=by simpa using hn
  have HP:=al (hq.trans (ff hn));have H4:=al (ab xg CU);clear hn hq Ay nv CU CV xg k4;go_wp2_with fail;go_ret
  rw[HP.out];exact⟨rfl,H4.out.1,H4.out.2⟩
end
section
open Go.RowKit Go.Maps
section
variable{B T o m:Nat}{most:Int}{l:av}{Z:Nat->Prop}{r:av}{w:World}
theorem KB.Nl(h:KB B T o m most l Z r w){k:List UInt8}(hk:1<=k.length/\k.length<=16)(op:Int)(now:Rw)(x:Option Rw)(hop:op=9/\x=some now\/op=10/\x=none):
  Calls Tryz.prog 10 #[.int .i64 op,.pointer (some ⟨B,0,none⟩),.string ⟨k.toArray⟩,now.val] w (Jc (fx k (au k r) x) w):=by
 obtain⟨wl,FT,n,g,FR,h1,h2,_⟩:=h;have hv:=jw (k:=k) h1.up h1.tab.up;rw[h2]at hv
 cases hq:au k r with
 |none=>
  rcases hop with⟨rfl,rfl⟩|⟨rfl,rfl⟩
  ·exact zU w B T o most l wl FT _ k hk h1.at_ now (hv.trans hq)
  ·exact zX w B T o most l wl FT _ k hk h1.at_ now (hv.trans hq)
 |some old=>
  rcases hop with⟨rfl,rfl⟩|⟨rfl,rfl⟩
  ·exact zW w B T o most l wl FT _ k hk h1.at_ old now (hv.trans hq)
  ·exact zT w B T o most l wl FT _ k hk h1.at_ old now (hv.trans hq)
theorem KB.to(h:KB B T o m most l Z r w){w':World}{wl Hh:pQ}{FT:Nat->Nat->Prop}{n:Nat}{g:Value->Option Value}{FR:Nat->Prop}(_h1:mM w B T most o l wl FT m n g FR)(qf: ∀b q,FT b q-> ¬Z b/\b<w.heap.size)(NJ: ∀b,FR b-> ¬Z b)
  (hZ: ∀k,Z k->k<w.heap.size) (ht:GJ w w' B T o most l Hh FT m FR) {r':av} (hr:bI Hh l=r') (hok:dF r') (hlen:(r'.length:Int)<=most) (qK: ∀q∈Hh,∃v,aI v/\q.1=Lib.itoa v):KB B T o m most l Z r' w':=by
 obtain⟨_,_,_,_,_,_,_,_,_,_,h6,⟨h7,h8,h9,_,_⟩,_,qM,ni,En,X8⟩:=h;obtain⟨n',g',XS,g1,g2,g3⟩:=ht;refine⟨Hh,FT,n',g',XS,g1,hr,hok,hlen,qK,h6.only g3 (fun e=>En e.symm),⟨h7,h8,h9,fun b hb hz=>?_,fun b q hb=>(qf b q hb).1⟩,fun b q hb=>cq (qf b q hb).2 g3.size,qM.only g3 (fun k hk=>X8 k hk),ni,En,X8⟩;rcases g2 b hb with hb|hb
 ·exact NJ b hb hz
 ·have:=hZ b hz;omega
def G6(B T o m:Nat)(most:Int)(l:av)(Z:Nat->Prop)(r:av)(w:World)(k:List UInt8)(x:Rw)(e:Ending)(w':World):Prop:=
 if au k r=none/\most<=(r.length:Int)then e=.returned (.int .i64 16)/\Below w.heap.size w w' else e=.returned (.int .i64 0)/\KB B T o m most l Z (bE (k,x) r) w'/\Only (fun j=>j=m) w w'
theorem KB.put(h:KB B T o m most l Z r w)(hZ: ∀k,Z k->k<w.heap.size){v:Int}(hv:aI v){x:Rw}(hx: ∀c,aI (x.aK c)):
  Calls Tryz.prog 149 #[.pointer (some ⟨B,0,none⟩),.string ⟨(Lib.itoa v).toArray⟩,x.val] w (G6 B T o m most l Z r w (Lib.itoa v) x):=by
 have h0:=h;obtain⟨wl,FT,n,g,FR,h1,h2,h3,h4,h5,h6,⟨h7,h8,h9,h10,h11⟩,h12,qM,ni,En,X8⟩:=h;have NQ:=Ic h1.up h1.tab.up (Lib.itoa v) x;refine(Je w B T o m n most l wl FT g FR (Lib.itoa v) x (gI hv) (fun c=>by have:=hx c;unfold aI at this;unfold I6;omega) h1 h12 (Dn h1.up h5)).mono ?_;intro e w' he;unfold qB at he;unfold G6;rw[h2]at he NQ;split at he
 ·rename_i hc;rw[fi hc];exact he
 ·rename_i hc;rw[ff hc];have ho:=he.2;refine⟨he.1,h0.to h1 (fun b q hb=>⟨h11 b q hb,h12 b q hb⟩) h10 hZ ho NQ (h3.ins ⟨⟨v,hv,rfl⟩,hx⟩) ?_ (fun q hq=>?_),by obtain⟨_,_,_,_,_,g3⟩:=ho;exact g3⟩
  ·rw[jH h3.1]
   cases hk:au (Lib.itoa v) r with
   |none=>have: ¬most<=(r.length:Int):=fun hm=>hc ⟨hk,hm⟩;simp;omega
   |some z=>simpa using h4
  ·rcases gw hq with rfl|hq
   ·exact⟨v,hv,rfl⟩
   ·exact h5 q hq
def Q5(B T o m:Nat)(most:Int)(l:av)(Z:Nat->Prop)(r:av)(w:World)(k:List UInt8)(e:Ending)(w':World):Prop:=
 (∃n,e=.returned (.int .i64 n))/\KB B T o m most l Z (fp k r) w'/\Only (fun j=>j=m) w w'
theorem KB.del(h:KB B T o m most l Z r w)(hZ: ∀k,Z k->k<w.heap.size){v:Int}(hv:aI v):
  Calls Tryz.prog 150 #[.pointer (some ⟨B,0,none⟩),.string ⟨(Lib.itoa v).toArray⟩] w (Q5 B T o m most l Z r w (Lib.itoa v)):=by
 have h0:=h;obtain⟨wl,FT,n,g,FR,h1,h2,h3,h4,h5,h6,⟨h7,h8,h9,h10,h11⟩,h12,qM,ni,En,X8⟩:=h;have NQ:=Ie h1.up h1.tab.up (Lib.itoa v);refine(Jf w B T o m n most l wl FT g FR (Lib.itoa v) (gI hv) h1 (Dn h1.up h5)).mono ?_;intro e w' he;unfold tz at he;unfold Q5;rw[h2]at he NQ;split at he
 ·rename_i hc;rw[gY hc];exact⟨⟨_,he.1⟩,KB.ok.only Z r w w' (fun _=>False) (fun _ h=>h.elim) h0 (oy he.2 _),oy he.2 _⟩
 ·rename_i hc;have ho:=he.2;refine⟨⟨_,he.1⟩,h0.to h1 (fun b q hb=>⟨h11 b q hb,h12 b q hb⟩) h10 hZ ho NQ h3.del ?_ (fun q hq=>?_),by obtain⟨_,_,_,_,_,g3⟩:=ho;exact g3⟩
  ·cases hk:au (Lib.itoa v) r with
   |none=>exact absurd hk hc
   |some z=>have:=tR hk;omega
  ·rcases gw hq with rfl|hq
   ·exact⟨v,hv,rfl⟩
   ·exact h5 q hq
end
end
theorem Nn{w:World}{base n:Nat}{F:Nat->Prop}{v:Value}{l:List Cl}(h:w.ownsRow base 48 5 v n (Jb l))(hn:l.length=n)(hF: ∀k,base<=k->F k):dJ w F v l:=by
 rcases h.2 with⟨rfl,h0⟩|⟨g,cap,cur,rfl,hg,hgg,h1,h2,h3,h4⟩
 ·have:l=[]:=db (by omega);subst this;subst hn;exact cd.nil 5 _ _
 ·refine⟨_,_,_,rfl,by simpa using hn,h1,h2,fun _=>⟨g,0,rfl,hF g hg,fun i x hx j u hu=>?_⟩⟩;have hi:i<n:=by have:=(b8.1 hx).1;simpa[hn]using this
  have hxl:=di l x (dd hx);have hj:j<5:=by have:=(b8.1 hu).1;omega
  have h5:=jl (di l) i x hx j u hu;have h6:=h.cellAt (i*5+j) (by omega);rw[gn,h6];exact h5
theorem oJ{c:Nat}(hc:c<4){old now:Option Rw}(ho: ∀r,old=some r-> ∀c,aI (r.aK c))(hn: ∀r,now=some r-> ∀c,aI (r.aK c)):Good (rh c old now):=by
 have one: ∀{v:Int},aI v->Good [(⟨true,c,[],v,v⟩:Cl)]:=fun{v} hv x hx=>by rw[fl]at hx;subst hx;unfold aI at hv;refine⟨?_,⟨by unfold jN;simp;omega,by unfold jN;simp;omega,by unfold jN;simp;omega,by unfold maxLen;simp⟩⟩;unfold Ok BS;simp;omega
 intro x hx;unfold rh at hx;split at hx
 ·rename_i a b;split at hx
  ·simp at hx
  ·simp only[List.mem_cons,List.not_mem_nil,or_false]at hx;rcases hx with rfl|rfl
   ·exact one (ho a rfl c) _ (by simp)
   ·exact one (hn b rfl c) _ (by simp)
 ·rename_i a;exact one (ho a rfl c) _ hx
 ·rename_i b;exact one (hn b rfl c) _ hx
 ·simp at hx
theorem vL{n:Int}(h:aI n){old now:Option Rw}(ho: ∀r,old=some r-> ∀c,aI (r.aK c))(hn: ∀r,now=some r-> ∀c,aI (r.aK c)):Good (fx (Lib.itoa n) old now):=by
 have key: ∀{k:List UInt8},cQ k=0->k.length<=16->Good [(⟨true,-1,k,0,0⟩:Cl)]:=fun{k} hk hl x hx=>by rw[fl]at hx;subst hx;refine⟨?_,⟨by unfold jN;simp,by unfold jN;simp,by unfold jN;simp,by unfold maxLen;simp only;omega⟩⟩;unfold Ok BS;simp[hk]
 intro x hx;unfold fx at hx;simp only[List.mem_cons,List.mem_append]at hx;rcases hx with rfl|hx|hx|hx|hx|hx
 ·exact key (uW h) (gI h).2 _ (by simp)
 ·split at hx
  ·simp at hx
  ·exact key (k:=[35]) (by decide) (by decide) _ hx
 ·exact oJ (by decide) ho hn x hx
 ·exact oJ (by decide) ho hn x hx
 ·exact oJ (by decide) ho hn x hx
 ·exact oJ (by decide) ho hn x hx
theorem yP(k:List UInt8)(old now:Option Rw):(fx k old now).length<=10:=by rw[<-jO];exact ig k old now 4
section
variable{c:RC}{B T o m:Nat}{most:Int}{l:av}{w:World}{s:PS av}
theorem MI.rows{K:(Nat->Prop)->av->World->Prop}{w':World}(h:MI c K w s)(hm:c.S m)(hM:m≠c.M)(ho:Only (fun j=>j=m) w w'){r:av}(hk:K c.Z r w'):MI c K w' {s with rows:=r}:=by obtain⟨f,h1,h2,h3,h4,h5,h6,h7⟩:=h;have hS: ∀k,k=m->c.S k:=fun k e=>e▸hm;exact⟨f,h1.only ho (fun e=>hM e.symm),h2.only ho hS,h3.only ho hS,h4.only ho (fun k hk e=>hk (hS k e)),hk,fun k hk=>cq (h6 k hk) ho.size,h7⟩
theorem Np(ok:Cl->Bool)(x:aH)(s:PS av){b:Nat}{v n:Int}{cl':List Cl}(hb:x.b=(b:Int))(hv:s.bj b=v)(h:aP ok s.cl (fx (Lib.itoa v) (au (Lib.itoa v) s.rows) none)=(cl',n)):
  yF ok x s=if n=0 then({s with cl:=cl',rows:=fp (Lib.itoa v) s.rows},0)else({s with cl:=cl'},n):=by
 subst hv;unfold yF fk;simp only[hb,gx];rw[h]
theorem Qc(hc:c.Fit)(hB:c.b=.pointer (some ⟨B,0,none⟩))(Nq:c.S m)(Nr:c.W m)(Ns:m≠c.M)(h:MI c (KB B T o m most l) w s)(x:aH)(b:Nat)(hb:b<8)(oN:x.b=(b:Int)):
  Calls Tryz.prog 108 #[.pointer (some ⟨c.M,0,none⟩),x.val] w (ku c (KB B T o m most l) (yF c.ok x s) w):=by
 have H:=h.at_ hc KB.ok x;have fT: ∀i,aI (s.bj i):=by obtain⟨_,_,_,_,_,_,_,h7⟩:=h;exact h7.1
 have yB: ∀k,c.S k->k<w.heap.size:=by obtain⟨_,_,_,_,_,_,h6,_⟩:=h;exact h6
 have hrow:dF s.rows:=by obtain⟨_,_,_,_,_,hk,_⟩:=h;exact KB.rows hk
 obtain⟨dk,xa,xb,xc,xn⟩:=x;simp only at oN H;subst oN;unfold aH.val;simp only;have HC:=al (ab hc (ab hB (ab yB (ab fT (ab hrow (ab Nq (ab Nr Ns)))))));have j1:(0:Int)<=(b:Int):=by omega
 have j2:(b:Int)<8:=by omega
 go_enter Tryz.func108,Tryz.ntmps108;go_upto_region 1 with fail;generalize w.alloc (.cells #[.int .i64 dk,.int .i64 xa,.int .i64 (b:Int),.int .i64 xc,.int .i64 xn] 104)=w1 at H⊢;obtain⟨O,hO⟩: ∃x,w.heap.size=x:=⟨_,rfl⟩;rw[hO]at H⊢;have k0:=H.box;obtain⟨v,hv⟩: ∃z,s.bj b=z:=⟨_,rfl⟩;have z0:w1.cell? ⟨O,2,none⟩=some (.int .i64 (b:Int))/\w1.cell? ⟨c.M,18+b,none⟩=some (.int .i64 v):=⟨by simp[World.cell?,k0],hv▸H.bj hb⟩;have Tv:aI v:=hv▸fT b;have HK:=al (show ∀W,Below w1.heap.size w1 W->Calls Tryz.prog 147 #[.int .i64 v] W fun e w'=>e=.returned (.string ⟨(Lib.itoa v).toArray⟩)/\Below W.heap.size W w' from fun W hW=>Ag W v Tv.i64 (by have hI:=H.mi.below hc KB.ok hW;obtain⟨_,_,_,_,_,hk,_⟩:=hI;exact KB.tab _ _ _ hk));have H1:=al H;have HR:=al (ab Tv hv);clear h k0 hO hc hB yB fT H hrow Nq Nr Ns Tv hv;refine pb (S:=(fun W=>Below w1.heap.size w1 W/\W.cell? ⟨O,2,none⟩=some (.int .i64 (b:Int))/\W.cell? ⟨c.M,18+b,none⟩=some (.int .i64 v))) (by kernel_rfl) ⟨(aw _ _).drew,z0⟩ (fun pt=>?_);refine aM [0,1,2,3,4,5,6] ?_
 iterate 7 (refine bX (v:=?_) (fun wS hSw=>?_) pt ?_;rotate_left;(obtain⟨s0,s1,s2⟩:=hSw;go_simp;try with_reducible rfl);try simp only[ai,aj,ak,ar])
 refine aN ?_;refine aW 7 (fun K hK=>?_);go_simp;refine(HK.out _ pt.1).mono ?_;rintro e wn ⟨rfl,cD⟩
 try go_simp
 refine hK.out _ _ (pC pt cD) ?_;clear hK K pt cD;intro pt
 try simp only[ai,aj,ak,ar]
 refine fJ 8 (v:=?_) (fun wS hSw=>?_) pt ?_;rotate_left
 ·obtain⟨s0,s1,s2⟩:=hSw;go_simp;try with_reducible rfl
 try simp only[ai,aj,ak,ar]
 refine pf (by kernel_rfl) ?_ _;have fR:=al pt.1;clear pt z0
 rename World=>w2
 have h2:=H1.out.mi.below HC.out.1 KB.ok fR.out;have pP:=H1.out.oI.trans (fR.out.mono H1.out.oI.size);obtain⟨k,hk⟩: ∃z,Lib.itoa v=z:=⟨_,rfl⟩;rw[hk];have hkl:1<=k.length/\k.length<=16:=hk▸gI HR.out.1;obtain⟨f2,hm2,_,_,_,hkb,_⟩:=id h2;have b2:w2.cell? ⟨c.M,26,none⟩=some (.pointer (some ⟨B,0,none⟩)):=by have:=hm2.b;simp only[RC.ms]at this;rw[HC.out.2.1]at this;exact this
 have Du:=al (KB.Nl hkb hkl 10 ⟨0,0,0,0⟩ none (.inr ⟨rfl,rfl⟩));have hgd:=vL HR.out.1 (old:=au k s.rows) (now:=none) (fun r hr c=>by have:=(aB HC.out.2.2.2.2.1.1).1 hr;exact(HC.out.2.2.2.2.1.2 _ this).2 c) (fun r hr=>by cases hr);rw[hk]at hgd;have H2:=al (ab h2 (ab pP (ab hgd hk)));clear h2 pP hgd hkl hm2 hkb hk HK;unfold Rw.val at Du;go_wp2_with fail;refine Du.out.mono ?_;rintro e w3 ⟨cv,rfl,hown,hb3⟩;have h3:=H2.out.1.below HC.out.1 KB.ok hb3;have hcl:=Nn (F:=fun k=> ¬c.S k) hown rfl (fun k hk hs=>by have h1:=HC.out.2.2.1 k hs;have h2:=H2.out.2.1.size;omega);have Ay:=al (lN HC.out.1 KB.ok h3 _ _ hcl (by have:=yP k (au k s.rows) none;omega) H2.out.2.2.1);obtain⟨cl',n,hp⟩: ∃u v',aP c.ok s.cl (fx k (au k s.rows) none)=(u,v'):=⟨_,_,rfl⟩;rw[hp]at Ay;have hq:=Np (x:=⟨dk,xa,b,xc,xn⟩) (cl':=cl') (n:=n) c.ok s rfl HR.out.2 (by rw[H2.out.2.2.2];exact hp);rw[H2.out.2.2.2]at hq;have H3:=al (H2.out.2.1.trans (hb3.mono H2.out.2.1.size));have HQ:=al hq;clear h3 hcl hp hown hb3 Du b2 hq;go_wp2_with fail;refine Ay.out.mono ?_;rintro e w4 ⟨rfl,xg,nv⟩;have CU:Only c.W w w4:=(oy H3.out c.W).trans (nv.xf HC.out.1) (fun _ _ h=>h);by_cases hn:n=0
 ·subst hn;have HP:=al (HQ.out.trans (fi rfl));have H4:=al (ab xg CU);obtain⟨f4,NL,_,_,_,hkb,hsz,_⟩:=id xg;have b4:w4.cell? ⟨c.M,26,none⟩=some (.pointer (some ⟨B,0,none⟩)):=by have:=NL.b;simp only[RC.ms]at this;rw[HC.out.2.1]at this;exact this
  have HD:=al (KB.del hkb (fun k hk=>hsz k (HC.out.1.SQ k hk)) HR.out.1);rw[H2.out.2.2.2]at HD;clear NL hkb hsz xg CU nv HQ Ay;go_wp2_with fail;refine HD.out.mono ?_;rintro e w5 ⟨⟨nn,rfl⟩,WG,jR⟩;have H5:=al (ab (H4.out.1.rows HC.out.2.2.2.2.2.1 HC.out.2.2.2.2.2.2.2 jR WG) (H4.out.2.trans (jR.mono (fun k _ e=>e▸HC.out.2.2.2.2.2.2.1)) (fun _ _ h=>h)));clear WG jR;go_wp2_with fail;go_ret
  rw[HP.out];exact⟨rfl,H5.out.1,H5.out.2⟩
 ·have nZ:(n==0)=false:=by simpa using hn
  have HP:=al (HQ.out.trans (ff hn));have H4:=al (ab xg CU);clear hn HQ Ay nv CU xg;go_wp2_with fail;go_ret
  rw[HP.out];exact⟨rfl,H4.out.1,H4.out.2⟩
end
theorem Nt{W:World}{p1 p2 p3 p4 p5:Addr}{v1 v2 v3 v4 v5:Value}(h:W.cell? p1=some v1/\W.cell? p2=some v2/\W.cell? p3=some v3/\W.cell? p4=some v4/\W.cell? p5=some v5)(o:Obj):(W.alloc o).cell? p1=some v1/\(W.alloc o).cell? p2=some v2/\(W.alloc o).cell? p3=some v3/\(W.alloc o).cell? p4=some v4/\(W.alloc o).cell? p5=some v5:=
 have hb:=af W o
 ⟨(hb.cell (aE _ _ h.1)).trans h.1,(hb.cell (aE _ _ h.2.1)).trans h.2.1,(hb.cell (aE _ _ h.2.2.1)).trans h.2.2.1,(hb.cell (aE _ _ h.2.2.2.1)).trans h.2.2.2.1,(hb.cell (aE _ _ h.2.2.2.2)).trans h.2.2.2.2⟩
theorem Tw{wk W W':World}{p1 p2 p3 p4 p5:Addr}{v1 v2 v3 v4 v5:Value}(h:Below wk.heap.size wk W/\W.cell? p1=some v1/\W.cell? p2=some v2/\W.cell? p3=some v3/\W.cell? p4=some v4/\W.cell? p5=some v5)(hb:Below W.heap.size W W'):Below wk.heap.size wk W'/\W'.cell? p1=some v1/\W'.cell? p2=some v2/\W'.cell? p3=some v3/\W'.cell? p4=some v4/\W'.cell? p5=some v5:=
 ⟨h.1.trans (hb.mono h.1.size),(hb.cell (aE _ _ h.2.1)).trans h.2.1,(hb.cell (aE _ _ h.2.2.1)).trans h.2.2.1,(hb.cell (aE _ _ h.2.2.2.1)).trans h.2.2.2.1,(hb.cell (aE _ _ h.2.2.2.2.1)).trans h.2.2.2.2.1,(hb.cell (aE _ _ h.2.2.2.2.2)).trans h.2.2.2.2.2⟩
theorem Nu(most:Int)(ok:Cl->Bool)(x:aH)(s:PS av){a b:Nat}{v n:Int}{q:Rw}{cl':List Cl}(ha:x.a=(a:Int))(hb:x.b=(b:Int))(hv:s.bj b=v)(hq:vA s.bj a=q)(h:aP ok s.cl (fx (Lib.itoa v) (au (Lib.itoa v) s.rows) (some q))=(cl',n)):
  yE most ok x s=if n=0 then(if au (Lib.itoa v) s.rows=none/\most<=(s.rows.length:Int)then({s with cl:=cl'},16)else({s with cl:=cl',rows:=bE (Lib.itoa v,q) s.rows},0))else({s with cl:=cl'},n):=by
 subst hv;subst hq;unfold yE fk;simp only[ha,hb,gx];rw[h]
theorem Tryz.FH(w:World)(M a:Nat)(ha:a<5):(Instr.sliceAt 167 (.pointer (some ⟨M,18,none⟩)) (some (.int .i64 (a:Int))) (some (.int .i64 ((a:Int)+4))) none).run Tryz.prog w=.ok (.slice (some ⟨M,18+a,none⟩) 4 (8-a)) w:=by
 have h1:Tryz.prog.arrayLen 167=8:=by kernel_rfl
 have h2: ∀W,(sizeOf (Tryz.prog.elem 167)).run Tryz.prog W=.ok 1 W:=fun W=>by kernel_rfl
 have h:=run_sliceAt_array_lh (P:=Tryz.prog) w 167 ⟨M,18,none⟩ (by kernel_rfl) .i64 .i64 (a:Int) ((a:Int)+4) (by omega) (by omega) (by rw[h1];omega);rw[h,h2,h1];have e1:((a:Int)+4).toNat=a+4:=by omega
 have e2:((a:Int)).toNat=a:=by omega
 simp only[Result.andThen,slicedAt,e1,e2,ff (show ¬8=a by omega)];have e3:a+4-a=4:=by omega
 rw[e3];simp[Addr.add]
theorem Tryz.Qd(w:World)(a:Option Addr)(n:Nat):(Instr.arrayAt 26 (.slice a 4 n)).run Tryz.prog w=.ok (.pointer a) w:=run_arrayAt w 26 3 4 a 4 n (by kernel_rfl) (aq _)
section
variable{c:RC}{B T o m:Nat}{most:Int}{l:av}{w:World}{s:PS av}
theorem Qe(hc:c.Fit)(hB:c.b=.pointer (some ⟨B,0,none⟩))(Nq:c.S m)(Nr:c.W m)(Ns:m≠c.M)(h:MI c (KB B T o m most l) w s)(x:aH)(a b:Nat)(ha:a<5)(hb:b<8)(jA:x.a=(a:Int))(oN:x.b=(b:Int)):
  Calls Tryz.prog 107 #[.pointer (some ⟨c.M,0,none⟩),x.val] w (ku c (KB B T o m most l) (yE most c.ok x s) w):=by
 have H:=h.at_ hc KB.ok x;have fT: ∀i,aI (s.bj i):=by obtain⟨_,_,_,_,_,_,_,h7⟩:=h;exact h7.1
 have yB: ∀k,c.S k->k<w.heap.size:=by obtain⟨_,_,_,_,_,_,h6,_⟩:=h;exact h6
 have hrow:dF s.rows:=by obtain⟨_,_,_,_,_,hk,_⟩:=h;exact KB.rows hk
 obtain⟨dk,xa,xb,xc,xn⟩:=x;simp only at jA oN H;subst jA oN;unfold aH.val;simp only;have HC:=al (ab hc (ab hB (ab yB (ab fT (ab hrow (ab Nq (ab Nr Ns)))))));have j1:(0:Int)<=(b:Int):=by omega
 have j2:(b:Int)<8:=by omega
 go_enter Tryz.func107,Tryz.ntmps107;go_upto_region 1 with fail;generalize w.alloc (.cells #[.int .i64 dk,.int .i64 (a:Int),.int .i64 (b:Int),.int .i64 xc,.int .i64 xn] 104)=w1 at H⊢;obtain⟨O,hO⟩: ∃x,w.heap.size=x:=⟨_,rfl⟩;rw[hO]at H⊢;have k0:=H.box;obtain⟨v,hv⟩: ∃z,s.bj b=z:=⟨_,rfl⟩;have z0:w1.cell? ⟨O,2,none⟩=some (.int .i64 (b:Int))/\w1.cell? ⟨c.M,18+b,none⟩=some (.int .i64 v):=⟨by simp[World.cell?,k0],hv▸H.bj hb⟩;have Tv:aI v:=hv▸fT b;have HK:=al (show ∀W,Below w1.heap.size w1 W->Calls Tryz.prog 147 #[.int .i64 v] W fun e w'=>e=.returned (.string ⟨(Lib.itoa v).toArray⟩)/\Below W.heap.size W w' from fun W hW=>Ag W v Tv.i64 (by have hI:=H.mi.below hc KB.ok hW;obtain⟨_,_,_,_,_,hk,_⟩:=hI;exact KB.tab _ _ _ hk));have H1:=al H;have HR:=al (ab Tv hv);clear h k0 hO hc hB yB fT H hrow Nq Nr Ns Tv hv;refine pb (S:=(fun W=>Below w1.heap.size w1 W/\W.cell? ⟨O,2,none⟩=some (.int .i64 (b:Int))/\W.cell? ⟨c.M,18+b,none⟩=some (.int .i64 v))) (by kernel_rfl) ⟨(aw _ _).drew,z0⟩ (fun pt=>?_);refine aM [0,1,2,3,4,5,6] ?_
 iterate 7 (refine bX (v:=?_) (fun wS hSw=>?_) pt ?_;rotate_left;(obtain⟨s0,s1,s2⟩:=hSw;go_simp;try with_reducible rfl);try simp only[ai,aj,ak,ar])
 refine aN ?_;refine aW 7 (fun K hK=>?_);go_simp;refine(HK.out _ pt.1).mono ?_;rintro e wn ⟨rfl,cD⟩
 try go_simp
 refine hK.out _ _ (pC pt cD) ?_;clear hK K pt cD;intro pt
 try simp only[ai,aj,ak,ar]
 refine fJ 8 (v:=?_) (fun wS hSw=>?_) pt ?_;rotate_left
 ·obtain⟨s0,s1,s2⟩:=hSw;go_simp;try with_reducible rfl
 try simp only[ai,aj,ak,ar]
 refine pf (by kernel_rfl) ?_ _;have fR:=al pt.1;clear pt z0
 rename World=>w2
 have h2:=H1.out.mi.below HC.out.1 KB.ok fR.out;have k2:=pw fR.out H1.out.box;have pP:=H1.out.oI.trans (fR.out.mono H1.out.oI.size);obtain⟨k,hk⟩: ∃z,Lib.itoa v=z:=⟨_,rfl⟩;rw[hk];obtain⟨f2,hm2,_⟩:=id h2;obtain⟨ra,Q3⟩: ∃z,s.bj a=z:=⟨_,rfl⟩;obtain⟨rb,zn⟩: ∃z,s.bj (a+1)=z:=⟨_,rfl⟩;obtain⟨rc,hrc⟩: ∃z,s.bj (a+2)=z:=⟨_,rfl⟩;obtain⟨rd,kj⟩: ∃z,s.bj (a+3)=z:=⟨_,rfl⟩;have hrow:vA s.bj a=⟨ra,rb,rc,rd⟩:=by unfold vA;rw[Q3,zn,hrc,kj]
 have z0:w2.cell? ⟨O,1,none⟩=some (.int .i64 (a:Int))/\w2.cell? ⟨c.M,18+a,none⟩=some (.int .i64 ra)/\w2.cell? ⟨c.M,18+a+1,none⟩=some (.int .i64 rb)/\w2.cell? ⟨c.M,18+a+2,none⟩=some (.int .i64 rc)/\w2.cell? ⟨c.M,18+a+3,none⟩=some (.int .i64 rd):=
  ⟨by simp[World.cell?,k2],Q3▸hm2.bj (show a<8 by omega),by have:=hm2.bj (show a+1<8 by omega);simp only[RC.ms]at this;rw[zn]at this;exact this,by have:=hm2.bj (show a+2<8 by omega);simp only[RC.ms]at this;rw[hrc]at this;exact this,by have:=hm2.bj (show a+3<8 by omega);simp only[RC.ms]at this;rw[kj]at this;exact this⟩
 have i1:(0:Int)<=(a:Int):=by omega
 have i2:(a:Int)<=4:=by omega
 have H2:=al (ab h2 (ab pP (ab hk (ab k2 hrow))));clear h2 pP hm2 hk HK k2 hrow Q3 zn hrc kj;have hw:IntKind.i64.wrap ((a:Int)+4)=(a:Int)+4:=by rw[fm];omega
 have hsl:=fun W=>Tryz.FH W c.M a ha;have har:=fun W A n=>Tryz.Qd W A n;go_upto_region 2 with fail;refine pb (S:=(fun W=>W.cell? ⟨O,1,none⟩=some (.int .i64 (a:Int))/\W.cell? ⟨c.M,18+a,none⟩=some (.int .i64 ra)/\W.cell? ⟨c.M,18+a+1,none⟩=some (.int .i64 rb)/\W.cell? ⟨c.M,18+a+2,none⟩=some (.int .i64 rc)/\W.cell? ⟨c.M,18+a+3,none⟩=some (.int .i64 rd))) (by kernel_rfl) z0 (fun pt=>?_);refine aM [0,1,2,3,4,5,6,7,8,9,10] ?_
 iterate 11 (refine bX (v:=?_) (fun wS hSw=>?_) pt ?_;rotate_left;(obtain⟨s0,s1,s2,s3,s4⟩:=hSw;go_simp;try with_reducible rfl);try simp only[ai,aj,ak,ar])
 refine aN ?_;refine aW 11 (fun K hK=>?_);go_simp;refine hK.out _ _ (Nt pt _) ?_;clear hK K pt;intro pt
 try simp only[ai,aj,ak,ar]
 refine aW 12 (fun K hK=>?_);go_simp;refine hK.out _ _ (Nt z0 _) ?_;clear hK K pt;intro pt
 try simp only[ai,aj,ak,ar]
 refine pf (by kernel_rfl) ?_ _;clear pt z0 hsl har hw;have hbz:=(af w2 (.cells #[.int .i64 ra,.int .i64 rb,.int .i64 rc,.int .i64 rd] 26)).drew;have kz:(w2.alloc (.cells #[.int .i64 ra,.int .i64 rb,.int .i64 rc,.int .i64 rd] 26)).drew.heap[w2.heap.size]?=_:=an w2 (.cells #[.int .i64 ra,.int .i64 rb,.int .i64 rc,.int .i64 rd] 26);generalize (w2.alloc (.cells #[.int .i64 ra,.int .i64 rb,.int .i64 rc,.int .i64 rd] 26)).drew=w3 at hbz kz⊢;obtain⟨V,hV⟩: ∃x,w2.heap.size=x:=⟨_,rfl⟩;rw[hV]at kz⊢;go_upto_region 3 with fail;have h3:=H2.out.1.below HC.out.1 KB.ok hbz;have vq:=H2.out.2.1.trans (hbz.mono H2.out.2.1.size);have T8: ¬V=c.M:=fun e=>by obtain⟨_,hm,_⟩:=H2.out.1;have:=hm.lt;omega
 obtain⟨f3,NM,_,_,_,hkb,_⟩:=id h3;obtain⟨⟨y0,y1,y2,y3⟩,-⟩:=ct kz;have z0:w3.cell? ⟨c.M,26,none⟩=some (.pointer (some ⟨B,0,none⟩))/\w3.cell? ⟨V,0,none⟩=some (.int .i64 ra)/\w3.cell? ⟨V,1,none⟩=some (.int .i64 rb)/\w3.cell? ⟨V,2,none⟩=some (.int .i64 rc)/\w3.cell? ⟨V,3,none⟩=some (.int .i64 rd):=⟨by have:=NM.b;simp only[RC.ms]at this;rw[HC.out.2.1]at this;exact this,y0,y1,y2,y3⟩;have hkl:1<=k.length/\k.length<=16:=H2.out.2.2.1▸gI HR.out.1;have nA: ∀c,aI ((Rw.mk ra rb rc rd).aK c):=fun c=>by rw[<-H2.out.2.2.2.2];exact Jo HC.out.2.2.2.1 a c
 have Du:=al (show ∀W,Below w3.heap.size w3 W->Calls Tryz.prog 10 #[.int .i64 9,.pointer (some ⟨B,0,none⟩),.string ⟨k.toArray⟩,.agg #[.int .i64 ra,.int .i64 rb,.int .i64 rc,.int .i64 rd]] W (Jc (fx k (au k s.rows) (some ⟨ra,rb,rc,rd⟩)) W)from fun W hW=>by
  have hI:=h3.below HC.out.1 KB.ok hW;obtain⟨_,_,_,_,_,hk,_⟩:=hI
  exact KB.Nl hk hkl 9 ⟨ra,rb,rc,rd⟩ (some ⟨ra,rb,rc,rd⟩) (.inl ⟨rfl,rfl⟩))
 have hgd:=vL HR.out.1 (old:=au k s.rows) (now:=some ⟨ra,rb,rc,rd⟩) (fun r hr c=>by have:=(aB HC.out.2.2.2.2.1.1).1 hr;exact(HC.out.2.2.2.2.1.2 _ this).2 c) (fun r hr c=>by injection hr with hr;subst hr;exact nA c);rw[H2.out.2.2.1]at hgd;have H3:=al (ab h3 (ab vq (ab hgd (ab kz (ab T8 nA)))));clear hbz kz hV h3 vq T8 NM hkb hkl hgd nA y0 y1 y2 y3;refine pb (S:=(fun W=>Below w3.heap.size w3 W/\W.cell? ⟨c.M,26,none⟩=some (.pointer (some ⟨B,0,none⟩))/\W.cell? ⟨V,0,none⟩=some (.int .i64 ra)/\W.cell? ⟨V,1,none⟩=some (.int .i64 rb)/\W.cell? ⟨V,2,none⟩=some (.int .i64 rc)/\W.cell? ⟨V,3,none⟩=some (.int .i64 rd))) (by kernel_rfl) ⟨(aw _ _).drew,z0⟩ (fun pt=>?_);refine aM [0,1,2,3,4,5] ?_
 iterate 6 (refine bX (v:=?_) (fun wS hSw=>?_) pt ?_;rotate_left;(obtain⟨s0,s1,s2,s3,s4,s5⟩:=hSw;go_simp;try with_reducible rfl);try simp only[ai,aj,ak,ar])
 refine aN ?_;refine aW 6 (fun K hK=>?_);go_simp;refine(Du.out _ pt.1).mono ?_;rintro e wn ⟨cv,rfl,hown,cD⟩;have HO:=al (dW (base':=w.heap.size) hown (fun g hg=>de (de H3.out.2.1.size pt.1.size) (hown.lt g hg).1));clear hown
 try go_simp
 refine hK.out _ _ (Tw pt cD) ?_;clear hK K pt cD;intro pt
 try simp only[ai,aj,ak,ar]
 refine aM [7,8,9,10,11] ?_
 iterate 5 (refine bX (v:=?_) (fun wS hSw=>?_) pt ?_;rotate_left;(obtain⟨s0,s1,s2,s3,s4,s5⟩:=hSw;go_simp;try with_reducible rfl);try simp only[ai,aj,ak,ar])
 refine aN ?_;refine pf (by kernel_rfl) ?_ _;have Ey:=al pt.1;clear pt z0
 rename World=>w4
 have h4:=H3.out.1.below HC.out.1 KB.ok Ey.out;have hcl:=Nn (F:=fun k=> ¬c.S k) HO.out rfl (fun k hk hs=>by have h1:=HC.out.2.2.1 k hs;omega);have Ay:=al (lN HC.out.1 KB.ok h4 _ _ hcl (by have:=yP k (au k s.rows) (some ⟨ra,rb,rc,rd⟩);omega) H3.out.2.2.1);obtain⟨cl',n,hp⟩: ∃u v',aP c.ok s.cl (fx k (au k s.rows) (some ⟨ra,rb,rc,rd⟩))=(u,v'):=⟨_,_,rfl⟩;rw[hp]at Ay;have hq:=Nu (x:=⟨dk,a,b,xc,xn⟩) (cl':=cl') (n:=n) most c.ok s rfl rfl HR.out.2 H2.out.2.2.2.2 (by rw[H2.out.2.2.1];exact hp);rw[H2.out.2.2.1]at hq;have HQ:=al hq;have H4:=al (ab (H3.out.2.1.trans (Ey.out.mono H3.out.2.1.size)) (pw Ey.out H3.out.2.2.2.1));clear h4 hcl hp hq Du;go_wp2_with fail;refine Ay.out.mono ?_;rintro e w5 ⟨rfl,T9,jR⟩;have gN:Only c.W w w5:=(oy H4.out.1 c.W).trans (jR.xf HC.out.1) (fun _ _ h=>h);by_cases hn:n=0
 ·subst hn;have HP:=al (HQ.out.trans (fi rfl));have k5:=jR.heap H4.out.2 H3.out.2.2.2.2.1;have H5:=al (ab T9 gN);obtain⟨f5,mK,_,_,_,hkb,hsz,_⟩:=id T9;obtain⟨⟨y0,y1,y2,y3⟩,-⟩:=ct k5;have z0:w5.cell? ⟨c.M,26,none⟩=some (.pointer (some ⟨B,0,none⟩))/\w5.cell? ⟨V,0,none⟩=some (.int .i64 ra)/\w5.cell? ⟨V,1,none⟩=some (.int .i64 rb)/\w5.cell? ⟨V,2,none⟩=some (.int .i64 rc)/\w5.cell? ⟨V,3,none⟩=some (.int .i64 rd):=⟨by have:=mK.b;simp only[RC.ms]at this;rw[HC.out.2.1]at this;exact this,y0,y1,y2,y3⟩
  have HPt:=al (show Calls Tryz.prog 149 #[.pointer (some ⟨B,0,none⟩),.string ⟨k.toArray⟩,.agg #[.int .i64 ra,.int .i64 rb,.int .i64 rc,.int .i64 rd]] w5.drew (G6 B T o m most l c.Z s.rows w5.drew k ⟨ra,rb,rc,rd⟩)from by
   have hI:=T9.drew HC.out.1 KB.ok;obtain⟨_,_,_,_,_,hk,hsz,_⟩:=hI;have:=KB.put hk (fun k hk=>hsz k (HC.out.1.SQ k hk)) HR.out.1 H3.out.2.2.2.2.2;rw[H2.out.2.2.1]at this
   exact this)
  clear mK hkb hsz T9 gN jR HQ Ay k5 y0 y1 y2 y3;go_upto_region 9 with fail
  go_still_tail 6,(by kernel_rfl)
  change wpList _ _ _ _ _ w5.drew;go_wp2_with fail;refine HPt.out.mono ?_;intro e w6 he;unfold G6 at he;by_cases hf:au k s.rows=none/\most<=(s.rows.length:Int)
  ·rw[fi hf]at he;obtain⟨rfl,iL⟩:=he;have HF:=al (ab hf iL);clear hf iL HPt;go_wp2_with fail;go_ret
   rw[HP.out,fi HF.out.1];exact⟨rfl,(H5.out.1.drew HC.out.1 KB.ok).below HC.out.1 KB.ok HF.out.2,H5.out.2.trans (oy ((aw _ _).drew.trans (HF.out.2.mono (aq _))) c.W) (fun _ _ h=>h)⟩
  ·rw[ff hf]at he;obtain⟨rfl,hk6,eA⟩:=he;have HF:=al (ab hf (ab hk6 eA));clear hf hk6 eA HPt;go_wp2_with fail;go_ret
   rw[HP.out,ff HF.out.1];refine⟨rfl,(H5.out.1.drew HC.out.1 KB.ok).rows HC.out.2.2.2.2.2.1 HC.out.2.2.2.2.2.2.2 HF.out.2.2 HF.out.2.1,?_⟩;exact(H5.out.2.trans (oy ((aw w5.heap.size w5).drew) c.W) (fun _ _ h=>h)).trans (HF.out.2.2.mono (fun k _ e=>e▸HC.out.2.2.2.2.2.2.1)) (fun _ _ h=>h)
 ·have nZ:(n==0)=false:=by simpa using hn
  have HP:=al (HQ.out.trans (ff hn));have H5:=al (ab T9 gN);clear hn HQ Ay jR gN T9;go_wp2_with fail;go_ret
  rw[HP.out];exact⟨rfl,H5.out.1,H5.out.2⟩
end
section
variable{c:RC}{B T o m:Nat}{most:Int}{l:av}
theorem tC{x:aH}(hr:cA x=true){i:Nat}(hi:i<4)(hf:iU x.d i=true)(h0:AA x.d i=0){n:Nat}(hn:xN x.d i=(n:Int)):(x.mP i).toNat<=n/\x.mP i=((x.mP i).toNat:Int):=by have:=iy hr hi hf;rw[h0,hn]at this;omega
theorem Qf(hc:c.Fit)(hB:c.b=.pointer (some ⟨B,0,none⟩))(Nq:c.S m)(Nr:c.W m)(Ns:m≠c.M)(x:aH)(hr:cA x=true)(hd:1<=x.d/\x.d<=15)(ni:x.d≠14){w:World}{s:PS av}(hpc:s.pc<=100)(h:MI c (KB B T o m most l) w s):
  Calls Tryz.prog (Af x.d.toNat) #[.pointer (some ⟨c.M,0,none⟩),x.val] w (ku c (KB B T o m most l) (pK most c.ok x s) w):=by
 have hK:=KB.ok (B:=B) (T:=T) (o:=o) (m:=m) (most:=most) (l:=l);have aaT:0<=s.pc:=by obtain⟨_,_,_,_,_,_,_,h7⟩:=h;exact h7.2.2.1
 have hG:yD c.b (KB B T o m most l) (fun r k=>au k r):=by rw[hB];exact KB.get
 have ra:=fun(hf:iU x.d 0=true) (n:Nat) (hn:xN x.d 0=(n:Int))=>tC hr (i:=0) (by decide) hf (by unfold AA;simp) hn;have rb:=fun(hf:iU x.d 1=true) (n:Nat) (hn:xN x.d 1=(n:Int))=>tC hr (i:=1) (by decide) hf (by unfold AA;simp) hn;have rc:=fun(hf:iU x.d 2=true) (h1:x.d≠1) (n:Nat) (hn:xN x.d 2=(n:Int))=>tC hr (i:=2) (by decide) hf (by unfold AA;simp[h1]) hn;have rn:=fun(hf:iU x.d 3=true) (n:Nat) (hn:xN x.d 3=(n:Int))=>tC hr (i:=3) (by decide) hf (by unfold AA;simp) hn;simp only[aH.mP]at ra rb rc rn;obtain⟨d,hdd⟩: ∃d:Nat,x.d=(d:Int):=⟨x.d.toNat,by omega⟩;have hdc:x.d=1\/x.d=2\/x.d=3\/x.d=4\/x.d=5\/x.d=6\/x.d=7\/x.d=8\/x.d=9\/x.d=10\/x.d=11\/x.d=12\/x.d=13\/x.d=15:=by omega
 unfold pK;rcases hdc with e|e|e|e|e|e|e|e|e|e|e|e|e|e
 ·have h1:=ra (by rw[e];rfl) 7 (by rw[e];rfl);have h3:=iy hr (i:=2) (by decide) (by rw[e];rfl);rw[e]at h3;rw[e];exact GQ hc hK h x x.a.toNat (by simp at h1;omega) (by simp at h1;omega) h3
 ·have h1:=ra (by rw[e];rfl) 7 (by rw[e];rfl);have h2:=rb (by rw[e];rfl) 7 (by rw[e];rfl);rw[e];exact M6 hc hK h x x.a.toNat x.b.toNat (by simp at h1;omega) (by simp at h2;omega) (by simp at h1;omega) (by simp at h2;omega)
 ·have h1:=ra (by rw[e];rfl) 7 (by rw[e];rfl);have h2:=rb (by rw[e];rfl) 7 (by rw[e];rfl);rw[e];exact PZ hc hK h x x.a.toNat x.b.toNat (by simp at h1;omega) (by simp at h2;omega) (by simp at h1;omega) (by simp at h2;omega)
 ·have h1:=ra (by rw[e];rfl) 7 (by rw[e];rfl);have h2:=rb (by rw[e];rfl) 7 (by rw[e];rfl);rw[e];exact P5 hc hK h x x.a.toNat x.b.toNat (by simp at h1;omega) (by simp at h2;omega) (by simp at h1;omega) (by simp at h2;omega)
 ·have h1:=ra (by rw[e];rfl) 7 (by rw[e];rfl);have h2:=rb (by rw[e];rfl) 7 (by rw[e];rfl);rw[e];exact P4 hc hK h x x.a.toNat x.b.toNat (by simp at h1;omega) (by simp at h2;omega) (by simp at h1;omega) (by simp at h2;omega)
 ·have h1:=ra (by rw[e];rfl) 7 (by rw[e];rfl);have h2:=rb (by rw[e];rfl) 7 (by rw[e];rfl);rw[e];exact M9 hc hK h x x.a.toNat x.b.toNat (by simp at h1;omega) (by simp at h2;omega) (by simp at h1;omega) (by simp at h2;omega)
 ·have h1:=ra (by rw[e];rfl) 7 (by rw[e];rfl);have h2:=rb (by rw[e];rfl) 7 (by rw[e];rfl);rw[e];exact GU hc hK KB.tab hG h x x.a.toNat x.b.toNat (by simp at h1;omega) (by simp at h2;omega) (by simp at h1;omega) (by simp at h2;omega)
 ·have h1:=ra (by rw[e];rfl) 7 (by rw[e];rfl);have h2:=rb (by rw[e];rfl) 7 (by rw[e];rfl);have h3:=rc (by rw[e];rfl) (by rw[e];decide) 3 (by rw[e];rfl);rw[e];exact P8 hc hK KB.tab hG h x x.a.toNat x.b.toNat x.c.toNat (by simp at h1;omega) (by simp at h2;omega) (by simp at h3;omega) (by simp at h1;omega) (by simp at h2;omega) (by simp at h3;omega)
 ·have h1:=ra (by rw[e];rfl) 4 (by rw[e];rfl);have h2:=rb (by rw[e];rfl) 7 (by rw[e];rfl);rw[e];exact Qe hc hB Nq Nr Ns h x x.a.toNat x.b.toNat (by simp at h1;omega) (by simp at h2;omega) (by simp at h1;omega) (by simp at h2;omega)
 ·have h2:=rb (by rw[e];rfl) 7 (by rw[e];rfl);rw[e];exact Qc hc hB Nq Nr Ns h x x.b.toNat (by simp at h2;omega) (by simp at h2;omega)
 ·have h1:=ra (by rw[e];rfl) 7 (by rw[e];rfl);have h2:=rb (by rw[e];rfl) 7 (by rw[e];rfl);have h3:=rc (by rw[e];rfl) (by rw[e];decide) 3 (by rw[e];rfl);rw[e];exact Nj hc hB h x x.a.toNat x.b.toNat x.c.toNat (by simp at h1;omega) (by simp at h2;omega) (by simp at h3;omega) (by simp at h1;omega) (by simp at h2;omega) (by simp at h3;omega)
 ·have h1:=ra (by rw[e];rfl) 7 (by rw[e];rfl);have h2:=rb (by rw[e];rfl) 7 (by rw[e];rfl);have h3:=rc (by rw[e];rfl) (by rw[e];decide) 3 (by rw[e];rfl);have h4:=iy hr (i:=3) (by decide) (by rw[e];rfl);rw[e]at h4;rw[e];exact JF hc hB h x x.a.toNat x.b.toNat x.c.toNat (by simp at h1;omega) (by simp at h2;omega) (by simp at h3;omega) (by simp at h1;omega) (by simp at h2;omega) (by simp at h3;omega) h4
 ·have h1:=ra (by rw[e];rfl) 7 (by rw[e];rfl);have h4:=iy hr (i:=3) (by decide) (by rw[e];rfl);rw[e]at h4;have h5:0<=x.n/\x.n<=64:=h4;rw[e];exact Nb hc hK h x x.a.toNat (by simp at h1;omega) (by simp at h1;omega) ⟨h5.1,by omega⟩
 ·have h1:=ra (by rw[e];rfl) 7 (by rw[e];rfl);rw[e];exact JE hc hK h x x.a.toNat (by simp at h1;omega) (by simp at h1;omega)
theorem Qg(most:Int)(ok:Cl->Bool)(x:aH)(s:PS av)(hn:x.d=13->0<=x.n):s.pc<=(pK most ok x s).1.pc:=by
 by_cases h:x.d.toNat=13
 ·have e:(pK most ok x s).1.pc=if s.bj x.a.toNat=0 then s.pc+x.n else s.pc:=by
   unfold pK;rw[h];rfl
  have:=hn (by omega);rw[e];split<;>omega
 ·rw[GZ most ok x s h];exact eE _
theorem G7(hc:c.Fit)(hB:c.b=.pointer (some ⟨B,0,none⟩))(Nq:c.S m)(Nr:c.W m)(Ns:m≠c.M)(he:opsE c.ops=0): ∀(d fr tt:Nat),fN c.ops fr tt->tt<=c.ops.length->tt-fr<=d->rJ c (KB B T o m most l) (kv most c.fuel c.ok c.ops d) fr tt
 |0,fr,tt,_,_,hd,i,x,h1,h2,hx=>by omega
 |d+1,fr,tt,hcl,ht,hd,i,x,h1,h2,hx=>by
  obtain⟨hlen,hfo,Q3,-⟩:=oF he;have hn:=qH he;have Ma:=dd hx;have hr:=Q3 x Ma;have hdd:=Mz (hfo x Ma);refine⟨hdd,fun s hs=>?_⟩;by_cases ni:x.d=14
  ·have hh:=eH ni;have hend:=hcl i x h1 h2 hx hh;have hn0:=(hn i x hx hh).1
   have Ah: ∀s,kv most c.fuel c.ok c.ops (d+1) x s=gK c.fuel c.ops (kv most c.fuel c.ok c.ops d) x s:=fun s=>by rw[kv];simp only;rw[fi ni]
   have hcr:=iy hr (i:=2) (by decide) (by rw[ni];rfl);rw[ni]at hcr;have WO:0<=x.c/\x.c<=16:=hcr;rw[Ah];refine⟨fun w h=>?_,fun h0=>?_⟩
   ·rw[show Af x.d.toNat=Af 14 by rw[ni];rfl];exact Nf hc KB.ok h x (i+1) x.n.toNat x.c.toNat (by rw[hs];push_cast;rfl) (by omega) (by omega) (by omega) (by omega) (G7 hc hB Nq Nr Ns he d (i+1) (i+1+x.n.toNat) (hn.body hx hh) (by omega) (by omega))
   ·unfold gK at h0⊢;simp only at h0⊢;split at h0
    ·rename_i e;rw[fi e];show s.pc<=s.pc+x.n;omega
    ·rename_i e;exact absurd h0 e
  ·have Ah: ∀s,kv most c.fuel c.ok c.ops (d+1) x s=pK most c.ok x s:=fun s=>by
    rw[kv];simp only;rw[ff ni]
   rw[Ah];refine⟨fun w h=>Qf hc hB Nq Nr Ns x hr hdd ni (by rw[hs];omega) h,fun _=>Qg most c.ok x s fun qM=>(hn i x hx (vD qM)).1⟩
theorem JH{w:World}{F:Nat->Prop}(ops:List aH)(opsV iR:Value)(args:List Int)(fuel:Int)(may:Value)(ok:Cl->Bool)(r0:av)
  (mN:gP w (fun k=> ¬k=m) opsV ops) (he:opsE ops=0) (hs:je w) (hargs:Rd w F iR (args.map (Value.int .i64))) (hal:args.length<=8) (har: ∀n∈args,-1099511627776<=n/\n<=1099511627776)
  (qF:0<=fuel/\fuel<=10000) (rI:vt w (fun k=>k=m) may ok) (WD:KB B T o m most l (fun _=>False) r0 w):
  Calls Tryz.prog 36 #[opsV,iR,.pointer (some ⟨B,0,none⟩),.int .i64 fuel,may] w (SX (KB B T o m most l) (fun k=>k=m) (pL most fuel ok ops args r0) w):=by
 have hm:m<w.heap.size:=by obtain⟨_,_,_,_,_,h1,_⟩:=WD;exact h1.map.lt
 refine Mv (act:=kv most fuel ok ops ops.length) w ops opsV iR args B fuel may ok r0 mN he hs hargs hal har qF rI WD KB.ok (fun k hk=>by omega) (fun c hc h1 h2 h3 _ h5 h6 h7 _=>?_);subst h1;subst h3;subst h5;exact G7 hc h2 (hc.sub _ (h7 m rfl)) (h7 m rfl) (fun e=>by have:=hc.low;omega) he c.ops.length 0 c.ops.length (qH he).whole (aq _) (by omega)
end
section
open Go.RowKit Go.Maps
theorem KB.new{w w':World}{B T o:Nat}{most:Int}{l:av}{FT:Nat->Nat->Prop}(h:eV w' B T most o l [] FT (fun b=>w.heap.size<=b))(hb:Below w.heap.size w w')(hF: ∀b q,FT b q->b<w.heap.size)(hok:dF l)(ht:fL w)(he:pO w):
  ∃m,w.heap.size<=m/\KB B T o m most l (fun _=>False) l w':=by
 obtain⟨m,n,g,FR,h1,h2,h3,h4⟩:=h;refine⟨m,h3,[],FT,n,g,FR,h1,rfl,hok,h1.tab.len,fun q hq=>by simp at hq,ht.below hb,⟨fun h=>h,fun h=>h,fun h=>h,fun _ _ h=>h,fun _ _ _ h=>h⟩,fun b q hq=>cq (hF b q hq) hb.size,he.below hb,fun _ _ h=>h,fun e=>?_,fun k hk e=>?_⟩
 ·have:=ht.lt;omega
 ·have:=he.lt k hk;omega
end
section
open Go.RowKit Go.Maps
def aag(_most:Int)(p:PS av×Int)(w:World)(e:Ending)(w':World):Prop:=
 ∃f B,e=.returned (.tuple #[.agg #[.int .i64 (if p.2=0 then p.1.bj 0 else p.1.value),.int .i64 p.1.steps,f,.int .i64 p.2],.pointer (some ⟨B,0,none⟩),.bool true])/\dJ w' (fun _=>True) f (aV p.1.cl)/\(aV p.1.cl).length<=64/\Good p.1.cl/\Below w.heap.size w w'
theorem Nv{w:World}{F:Nat->Prop}{v:Value}{l:List Cl}{R0:Nat}{a b d:Int}{A:Option Addr}{n c:Nat}{t:TypeId}(h:dJ w F v l)(hr:w.heap[R0]?=some (.cells #[.int .i64 a,.int .i64 b,.slice A n c,.int .i64 d] t (0,0))):dJ w (fun k=>F k/\k≠R0) v l:=by
 obtain⟨A',n',c',h1,h2,h3,h4,h5⟩:=h;refine⟨A',n',c',h1,h2,h3,h4,fun h0=>?_⟩;obtain⟨b',o,e1,e2,e3⟩:=h5 h0;refine⟨b',o,e1,⟨e2,fun e=>?_⟩,e3⟩;subst e;obtain⟨x,hx⟩: ∃x,l[0]?=some x:=⟨_,ao (by simp at h2;omega)⟩;have h6:=e3 0 x.cells (by simp[hx]) 0 (.bool x.wr) rfl;rw[World.cell?,hr]at h6
 match o with
 |0=>simp at h6
 |1=>simp at h6
 |2=>simp at h6
 |3=>simp at h6
 |o+4=>simp at h6
theorem Dq{w:World}{F G:Nat->Prop}{T o:Nat}{most:Int}{l:av}{FT:Nat->Nat->Prop}(ops:List aH)(opsV iR:Value)(args:List Int)(fuel:Int)
  (mN:gP w G opsV ops) (hG: ∀k,G k->k<w.heap.size) (he:opsE ops=0) (hs:je w) (hargs:Rd w F iR (args.map (Value.int .i64))) (hal:args.length<=8) (har: ∀n∈args,-1099511627776<=n/\n<=1099511627776)
  (qF:0<=fuel/\fuel<=10000) (ht:cE w T most o l FT) (hF: ∀b q,FT b q->b<w.heap.size) (hok:dF l) (h10:fL w) (hE:pO w):
  Calls Tryz.prog 29 #[opsV,.agg #[iR,.int .i64 fuel],.pointer (some ⟨T,0,none⟩),.pointer none] w (aag most (pL most fuel (fun _=>true) ops args l) w):=by
 have hb1:=af w (.cells #[iR,.int .i64 fuel] 84);have k1:=an w (.cells #[iR,.int .i64 fuel] 84);have hb2:=af (w.alloc (.cells #[iR,.int .i64 fuel] 84)) (.cells #[.int .i64 0,.int .i64 0,.slice none 0 0,.int .i64 0] 89);have k2:=an (w.alloc (.cells #[iR,.int .i64 fuel] 84)) (.cells #[.int .i64 0,.int .i64 0,.slice none 0 0,.int .i64 0] 89);have k12:=pw hb2 k1;rw[show(w.alloc (.cells #[iR,.int .i64 fuel] 84)).heap.size=w.heap.size+1 by simp]at k2;have jQ:=hb1.trans (hb2.mono hb1.size);have HZ:=al (ab jQ (ab k12 k2));have HH:=al (ab mN (ab hG (ab he (ab hs (ab hargs (ab hal (ab har (ab qF (ab ht (ab hF (ab hok (ab h10 hE))))))))))));clear hb1 k1 hb2 k2 k12 jQ mN hG he hs hargs hal har qF ht hF hok h10 hE;go_enter Tryz.func29,Tryz.ntmps29;go_upto_region 1 with fail;have hz:=HZ.out;clear HZ;generalize (w.alloc (.cells #[iR,.int .i64 fuel] 84)).alloc (.cells #[.int .i64 0,.int .i64 0,.slice none 0 0,.int .i64 0] 89)=w1 at hz⊢;have HZ:=al hz;have HN:=al (ET w1 T o most l FT (HH.out.2.2.2.2.2.2.2.2.1.below hz.1) (fun b q hq=>cq (HH.out.2.2.2.2.2.2.2.2.2.1 b q hq) hz.1.size));clear hz;go_wp2_with fail;refine HN.out.mono ?_;rintro e w2 ⟨B,rfl,hB,hb2⟩;obtain⟨mN,hG,he,hs,hargs,hal,har,qF,ht,hF,hok,h10,hE⟩:=HH.out;have pP:=HZ.out.1.trans (hb2.mono HZ.out.1.size);obtain⟨m,hm,hkb⟩:=KB.new hB hb2 (fun b q hq=>cq (hF b q hq) HZ.out.1.size) hok (h10.below HZ.out.1) (hE.below HZ.out.1);have hmw:w.heap.size<=m:=de HZ.out.1.size hm;have kx:=pw hb2 HZ.out.2.1;have kr:=pw hb2 HZ.out.2.2;have x0:w2.cell? ⟨w.heap.size,0,none⟩=some iR:=by simp[World.cell?,kx]
 have x1:w2.cell? ⟨w.heap.size,1,none⟩=some (.int .i64 fuel):=by simp[World.cell?,kx]
 have HR:=al (JH ops opsV iR args fuel (.pointer none) (fun _=>true) l (cd.mono (cd.below mN pP) (fun k hk e=>by have:=hG k hk;omega)) he (hs.below pP) (hargs.below pP) hal har qF (.inl ⟨rfl,fun _=>rfl⟩) hkb);have H2:=al (ab pP (ab kr (ab hm hmw)));clear mN hG he hs hargs hal har qF ht hF hok h10 hE pP hkb hm hmw kx kr hB hb2 HN HH;go_wp2_with fail;refine HR.out.mono ?_;rintro e w3 ⟨f,rfl,hf,hfl,WL,hk3,rX⟩;obtain⟨A,cf,rfl,hn,hc⟩:=hf.slice;obtain⟨p,hp⟩: ∃p,pL most fuel (fun _=>true) ops args l=p:=⟨_,rfl⟩;rw[hp]at hf hfl WL⊢;obtain⟨v1,hv1⟩: ∃z,(if p.2=0 then p.1.bj 0 else p.1.value)=z:=⟨_,rfl⟩;rw[hv1];have WE:w.heap.size+1<w1.heap.size:=aO HZ.out.2.2;have kr3:=rX.heap H2.out.2.1 (fun e=>by have:=H2.out.2.2.1;omega);have hb3:Below w.heap.size w w3:=H2.out.1.trans (rX.aG H2.out.1.size (fun k hk e=>by have:=H2.out.2.2.2;omega));have H3:=al (ab kr3 (ab hb3 (ab hf (ab hfl (ab WL (ab hp hv1))))));clear kr3 hb3 hf hfl WL hk3 rX hp hv1;go_upto_region 5 with fail;obtain⟨n,hn0⟩: ∃z,p.2=z:=⟨_,rfl⟩;obtain⟨st,hst⟩: ∃z,p.1.steps=z:=⟨_,rfl⟩;obtain⟨L,hL⟩: ∃z,(aV p.1.cl).length=z:=⟨_,rfl⟩;rw[hn0,hst,hL];have hb4:=af w3 (.cells #[.int .i64 v1,.int .i64 st,.slice A L cf,.int .i64 n] 89);have k4:=an w3 (.cells #[.int .i64 v1,.int .i64 st,.slice A L cf,.int .i64 n] 89);generalize w3.alloc (.cells #[.int .i64 v1,.int .i64 st,.slice A L cf,.int .i64 n] 89)=w4 at hb4 k4⊢;have X9:=pw hb4 H3.out.1;have H4:=al (ab hb4 (ab X9 (ab hn0 (ab hst hL))));obtain⟨R0,hR⟩: ∃z,w.heap.size+1=z:=⟨_,rfl⟩;rw[hR]at X9⊢;obtain⟨⟨z0,z1,z2,z3⟩,y0,y1,y2,y3⟩:=ct X9;obtain⟨⟨u0,u1,u2,u3⟩,-⟩:=ct k4;clear hb4 k4 X9 hn0 hst hL;go_wp2_with fail;have kr5:=H4.out.2.1;rw[hR]at kr5;have HO:=al (bK (v0:=.int .i64 v1) (v1:=.int .i64 st) (v2:=.slice A L cf) (v3:=.int .i64 n) kr5);generalize ((((w4.setCell ⟨R0,0,none⟩ (.int .i64 v1)).setCell ⟨R0,1,none⟩ (.int .i64 st)).setCell ⟨R0,2,none⟩ (.slice A L cf)).setCell ⟨R0,3,none⟩ (.int .i64 n))=w5 at HO⊢;have hb4:=H3.out.2.1.trans (H4.out.1.mono H3.out.2.1.size);have gq:=hb4.trans (HO.out.2.aG hb4.size (fun k hk e=>by omega));refine dq (b6 rfl _ _ _ _ _ _ _ rfl HO.out.1 Tryz.underlying89 rfl (by kernel_rfl)) rfl ⟨.slice A L cf,B,?_,?_,?_,?_,?_⟩
 ·rw[H3.out.2.2.2.2.2.1,H3.out.2.2.2.2.2.2,H4.out.2.2.1,H4.out.2.2.2.1];rfl
 ·rw[H3.out.2.2.2.2.2.1];have h1:=Nv H3.out.2.2.1 H3.out.1;rw[hR]at h1;have h2:=cd.only (cd.below h1 H4.out.1) HO.out.2 (fun k hk e=>hk.2 e);have h3:=cd.mono (G:=fun _=>True) h2 (fun _ _=>trivial);rw[<-H4.out.2.2.2.2];exact h3
 ·rw[H3.out.2.2.2.2.2.1];exact H3.out.2.2.2.1
 ·rw[H3.out.2.2.2.2.2.1];exact H3.out.2.2.2.2.1
 ·exact gq
end
end Go.Proofs.YtagemonojdgbdaaGreatDoor
