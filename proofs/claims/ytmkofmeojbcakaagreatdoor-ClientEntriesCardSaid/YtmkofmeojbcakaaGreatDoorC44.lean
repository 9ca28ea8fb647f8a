import Derived.Test.YtmkofmeojbcakaaGreatDoorC39
import Derived.Test.YtmkofmeojbcakaaGreatDoorC42
import Derived.Test.YtmkofmeojbcakaaGreatDoorC43
namespace Go.Proofs.YtmkofmeojbcakaaGreatDoor
open Go.Proofs.Tryz
set_option maxRecDepth 100000
set_option maxHeartbeats 16000000
open Go.RowKit
section
open Go.RowKit Go.Maps
theorem E9: ∀(N:Nat) (l:List Nat),l.Nodup->(∀x∈l,x<N)->l.length<=N
 |0,l,_,h=>by
  cases l with
  |nil=>exact aE _
  |cons x l=>exact absurd (h x (by simp)) (by omega)
 |N+1,l,hn,h=>by
  have h1:=E9 N (l.erase N) (hn.erase N) (fun x hx=>by
   have h2:=h x (List.mem_of_mem_erase hx);have h3:x≠N:=fun e=>(by subst e;exact(hn.mem_erase_iff.1 hx).1 rfl)
   omega)
  have h4:l.length<=(l.erase N).length+1:=by rw[List.length_erase];split<;>omega
  omega
theorem Fa{wl:tN}(hu:fc wl)(h: ∀q∈wl,∃v,aK v/\q.1=Lib.itoa v):wl.length<=2305843009213693952:=by
 have h1:=E9 2199023255553 ((wl.map Prod.fst).map fun k=>(LV k+1099511627776).toNat) (by
  unfold List.Nodup;rw[List.pairwise_map];refine List.Pairwise.imp_of_mem (fun{a b} ha hb hab e=>hab ?_) (kF hu);obtain⟨p,hp,rfl⟩:=ew.1 ha;obtain⟨q,hq,rfl⟩:=ew.1 hb;obtain⟨v,hv,ev⟩:=h p hp;obtain⟨u,hu,eu⟩:=h q hq;rw[ev,eu]at e⊢;rw[p7 hv,p7 hu]at e;unfold aK at hv hu
  rw[show v=u by omega]) (fun x hx=>by
  obtain⟨k,hk,rfl⟩:=ew.1 hx;obtain⟨p,hp,rfl⟩:=ew.1 hk;obtain⟨v,hv,ev⟩:=h p hp;rw[ev,p7 hv];unfold aK at hv
  omega)
 simp only[fa]at h1;omega
theorem Ip{w:World}{nm:String}{gl:Nat}{v:Array Value}(hg:prog.globalNamed nm=some gl)(h:w.var? prog nm=some v):gl<w.heap.size:=by
 unfold World.var? at h;rw[hg]at h;simp only[Option.bind_some]at h;rcases Nat.lt_or_ge gl w.heap.size with h'|h'
 ·exact h'
 ·rw[Array.getElem?_eq_none h']at h;cases h
theorem Fb{w w':World}{S:Nat->Prop}{nm:String}{gl:Nat}{v:Array Value}(hg:prog.globalNamed nm=some gl)(h:w.var? prog nm=some v)(ho:Only S w w')(hS: ¬S gl):w'.var? prog nm=some v:=by have hlt:=Ip hg h;unfold World.var? at h⊢;rw[hg]at h⊢;simp only[Option.bind_some]at h⊢;rw[ho.block _ hlt hS];exact h
def Tw(k:Nat):Prop:=k=3\/k=4
theorem oJ.only{w w':World}{S:Nat->Prop}(h:oJ w)(ho:Only S w w')(hS: ∀k,Tw k-> ¬S k):oJ w':=by obtain⟨⟨t1,p1,h1⟩,t2,p2,h2⟩:=h;exact⟨⟨t1,p1,Fb Tryz.Tt h1 ho (hS _ (.inl rfl))⟩,t2,p2,Fb Tryz.Tu h2 ho (hS _ (.inr rfl))⟩
theorem oJ.lt{w:World}(h:oJ w): ∀k,Tw k->k<w.heap.size:=by
 obtain⟨⟨t1,p1,h1⟩,t2,p2,h2⟩:=h;rintro k (rfl|rfl)
 ·exact Ip Tryz.Tt h1
 ·exact Ip Tryz.Tu h2
def KB(B T o m:Nat)(most:Int)(l:ax)(Z:Nat->Prop)(r:ax)(w:World):Prop:=
 ∃wl FT n g FR,oI w B T most o l wl FT m n g FR/\bY wl l=r/\dH r/\(r.length:Int)<=most/\(∀q∈wl,∃v,aK v/\q.1=Lib.itoa v)/\gh w/\
  (¬Z B/\ ¬Z m/\ ¬Z 5/\(∀b,FR b-> ¬Z b)/\ ∀b q,FT b q-> ¬Z b)/\(∀b q,FT b q->b<w.heap.size)/\oJ w/\(∀k,Tw k-> ¬Z k)/\m≠5/\ ∀k,Tw k->k≠m
section
variable{B T o m:Nat}{most:Int}{l:ax}
theorem KB.ok:ui (KB B T o m most l) where
 only:=by rintro Z r w w' G hG ⟨wl,FT,n,g,FR,h1,h2,h3,h4,h5,h6,⟨h7,h8,h9,h10,h11⟩,h12,ve,tG,yU⟩ ho;exact⟨wl,FT,n,g,FR,h1.only ho (fun e=>h7 (hG _ e)) (fun e=>h8 (hG _ e)) (fun b hb e=>h10 b hb (hG _ e)) (fun b q hb e=>h11 b q hb (hG _ e)),h2,h3,h4,h5,h6.only ho (fun e=>h9 (hG _ e)),⟨h7,h8,h9,h10,h11⟩,fun b q hb=>cq (h12 b q hb) ho.size,ve.only ho (fun k hk e=>tG k hk (hG _ e)),tG,yU⟩
 iX:=by
  rintro Z r w b ⟨wl,FT,n,g,FR,h1,h2,h3,h4,h5,h6,⟨h7,h8,h9,h10,h11⟩,h12,ve,tG,yU⟩ hb;refine⟨wl,FT,n,g,FR,h1,h2,h3,h4,h5,h6,⟨fun e=>?_,fun e=>?_,fun e=>?_,fun k hk e=>?_,fun k q hk e=>?_⟩,h12,ve,fun k hk e=>?_,yU⟩
  ·rcases e with e|e
   ·exact h7 e
   ·have:=aQ h1.blk;omega
  ·rcases e with e|e
   ·exact h8 e
   ·have:=h1.map.lt;omega
  ·rcases e with e|e
   ·exact h9 e
   ·have:=h6.lt;omega
  ·rcases e with e|e
   ·exact h10 k hk e
   ·have:=(h1.bR k hk).2.2.1;omega
  ·rcases e with e|e
   ·exact h11 k q hk e
   ·have:=h12 k q hk;omega
  ·rcases e with e|e
   ·exact tG k hk e
   ·have:=ve.lt k hk;omega
 back:=by rintro Z Z' r w hZ ⟨wl,FT,n,g,FR,h1,h2,h3,h4,h5,h6,⟨h7,h8,h9,h10,h11⟩,h12,ve,tG,yU⟩;exact⟨wl,FT,n,g,FR,h1,h2,h3,h4,h5,h6,⟨fun e=>h7 (hZ _ e),fun e=>h8 (hZ _ e),fun e=>h9 (hZ _ e),fun b hb e=>h10 b hb (hZ _ e),fun b q hb e=>h11 b q hb (hZ _ e)⟩,h12,ve,fun k hk e=>tG k hk (hZ _ e),yU⟩
theorem KB.tab:SZ (KB B T o m most l):=fun Z r w h=>by obtain⟨_,_,_,_,_,_,_,_,_,_,h6,_⟩:=h;exact h6
theorem KB.errs{Z:Nat->Prop}{r:ax}{w:World}(h:KB B T o m most l Z r w):oJ w:=by obtain⟨_,_,_,_,_,_,_,_,_,_,_,_,_,ve,_⟩:=h;exact ve
theorem KB.rows{Z:Nat->Prop}{r:ax}{w:World}(h:KB B T o m most l Z r w):dH r:=by obtain⟨_,_,_,_,_,_,_,h3,_⟩:=h;exact h3
theorem PQ{k:List UInt8}(h:dU k=0):1<=k.length/\k.length<=16:=by
 unfold dU at h;split at h
 ·cases h
 ·omega
theorem KB.get:EN (.pointer (some ⟨B,0,none⟩)) (KB B T o m most l) (fun r k=>au k r):=by rintro Z r w k ⟨wl,FT,n,g,FR,h1,h2,_⟩ hk;have:=pX w B T o most l wl FT _ k (PQ hk) h1.at_;rw[jM h1.up h1.tab.up,h2]at this;exact this
theorem KB.find{Z:Nat->Prop}{r:ax}{w:World}(h:KB B T o m most l Z r w)(c n:Nat)(lo hi:Int)(hc:c<4)(hlo:I6 lo)(hhi:I6 hi)(hle:lo<=hi)(hn:n<=1000):
  Calls prog 142 #[.pointer (some ⟨B,0,none⟩),.int .i64 (c:Int),.int .i64 lo,.int .i64 hi,.int .i64 (n:Int)] w (Bg ((cV c lo hi r).take n) w):=by
 obtain⟨wl,FT,n',g,FR,h1,h2,h3,h4,h5,h6,h7,h12,_⟩:=h;have:=Ih w B T o most l wl FT _ c n lo hi h1.at_ h12 hc hlo hhi hle hn (by rw[h2];have:=h1.tab.Jw;omega);rwa[h2]at this
end
end
section
variable{c:RC}{K:(Nat->Prop)->ax->World->Prop}{w:World}{s:PS ax}
theorem yA(f:Nat->Int)(a:Nat)(u v:Int):oZ (oZ f a u) a v=oZ f a v:=by
 funext i
 unfold oZ;split<;>rfl
def aaE(c:Nat):Option Rw->Int
 |some r=>aZ (r.aM c)
 |none=>0
theorem PR(ok:Cl->Bool)(x:aO)(s:PS ax){s':PS ax}{r:Option Rw}{n:Int}{b:Nat}(hb:x.b=(b:Int))(h:rowP ok (fun r k=>au k r) b s=(s',r,n)):
  E3 ok x s=if n=0 then gi x s' (aaE x.c.toNat r)else(s',n):=by
 unfold rowP at h;unfold E3 gL;simp only[hb,jj];obtain⟨cl',n',hp⟩: ∃u v,bC ok s.cl [ou (s.bI b)]=(u,v):=⟨_,_,rfl⟩;rw[hp]at h⊢;injection h with h1 h;injection h with h2 h3;subst h1 h2 h3;simp only;by_cases h0:n'=0
 ·subst h0;simp only[if_true];cases au (Lib.itoa (s.bI b)) s.rows<;>rfl
 ·simp[h0]
theorem Tx(hc:c.Fit)(hK:ui K)(hT:SZ K)(hG:EN c.b K (fun r k=>au k r))(h:MI c K w s)(x:aO)(a b cc:Nat)(ha:a<8)(hb:b<8)(hcc:cc<4)(jT:x.a=(a:Int))(qj:x.b=(b:Int))(zi:x.c=(cc:Int)):
  Calls prog 105 #[.pointer (some ⟨c.M,0,none⟩),x.val] w (ly c K (E3 c.ok x s) w):=by
 have H:=h.at_ hc hK x;have HQ:=al (fun s' r n=>PR (s:=s) (s':=s') (r:=r) (n:=n) c.ok x qj);obtain⟨dk,xa,xb,xc,xn⟩:=x;simp only at jT qj zi H;subst jT qj zi;unfold aO.val;simp only;have HC:=al (ab hc (ab hK (ab hT hG)));have i1:(0:Int)<=(a:Int):=by omega
 have i2:(a:Int)<8:=by omega
 have j1:(0:Int)<=(cc:Int):=by omega
 have j2:(cc:Int)<4:=by omega
 go_enter func105,ntmps105;go_upto_region 1 with fail;generalize w.alloc (.cells #[.int .i64 dk,.int .i64 (a:Int),.int .i64 (b:Int),.int .i64 (cc:Int),.int .i64 xn] 93)=w1 at H⊢;obtain⟨O,hO⟩:=qt (w.heap.size);rw[hO]at H⊢;have k0:=H.box;have o2:w1.cell? ⟨O,2,none⟩=some (.int .i64 (b:Int)):=by simp[World.cell?,k0]
 have HR:=al (Pj hc hK hT hG H.mi b hb);obtain⟨s',r,n,hp⟩: ∃s' r n,rowP c.ok (fun r k=>au k r) b s=(s',r,n):=⟨_,_,_,rfl⟩;rw[hp]at HR;have HP:=al (HQ.o _ _ _ hp);have H1:=al H;clear h k0 hO hp hc hK hT hG H HQ;go_wp2_with fail;refine HR.o.m ?_;rintro e w2 ⟨rfl,Mu,dY⟩;have k2:=dY.heap H1.o.box (fun h=>H1.o.off (HC.o.1.sub _ h));obtain⟨⟨ra,rb,rc,rd⟩,Av⟩: ∃q,r.getD .zero=q:=⟨_,rfl⟩;simp only[Av,Rw.val];have HI:=al (ab Mu (ab dY (ab k2 Av)));clear Mu dY k2 HR Av;go_upto_region 2 with fail;obtain⟨hbz,kz⟩:=qn w2 (.cells #[.int .i64 ra,.int .i64 rb,.int .i64 rc,.int .i64 rd] 113);generalize w2.alloc (.cells #[.int .i64 ra,.int .i64 rb,.int .i64 rc,.int .i64 rd] 113)=w3 at hbz kz⊢;have h3:=HI.o.1.below HC.o.1 HC.o.2.1 hbz;have k3:=pt hbz HI.o.d.1;have Ml:Only c.W w w3:=((oj H1.o.rC c.W).x HI.o.2.1 (fun _ _ h=>h)).x (oj hbz c.W) (fun _ _ h=>h);obtain⟨V,hV⟩:=qt (w2.heap.size);rw[hV]at kz⊢;have XU: ¬V=c.M:=fun e=>by obtain⟨_,hm,_⟩:=HI.o.1;have:=hm.lt;omega
 have ER:=H1.o.ne HC.o.1;have H3:=al (ab h3 (ab Ml (ab XU ER)));by_cases hn:n=0
 ·subst hn;have HP2:=al (HP.o.x (fi rfl));obtain⟨f3,EP,_⟩:=h3;have m3:=EP.bI ha;have mf:=EP.free (18+a);have o1:w3.cell? ⟨O,1,none⟩=some (.int .i64 (a:Int)):=by simp[World.cell?,k3]
  have o3:w3.cell? ⟨O,3,none⟩=some (.int .i64 (cc:Int)):=by simp[World.cell?,k3]
  have hv:w3.cell? ⟨V,cc,none⟩=some (.int .i64 ((Rw.mk ra rb rc rd).aM cc)):=by rcases(show cc=0\/cc=1\/cc=2\/cc=3 by omega)with rfl|rfl|rfl|rfl<;>(unfold World.cell?;rw[kz];rfl)
  have HV:=al (ab o1 (ab o3 hv));clear EP k3 Ml hbz kz hV XU ER o3 hv;go_upto_region 4 with fail
  go_still_tail 6,(by kernel_rfl)
  change wpList _ _ _ _ _ w3.drew;have H5:=al ((H3.o.1.drew HC.o.1 HC.o.2.1).jx HC.o.1 HC.o.2.1 ha (v:=0) ⟨by decide,by decide⟩)
  cases r with
  |none=>
   go_wp2_with fail;go_ret
   rw[HP2.o];refine⟨rfl,?_,H3.o.2.1.x ((lL w3 1 c.M (18+a) _).zt HC.o.1) (fun _ _ h=>h)⟩;unfold gi;exact H5.o
  |some rr=>
   have Av:rr=⟨ra,rb,rc,rd⟩:=HI.o.t;subst Av;simp only[lz];go_upto_region 6 with fail;have iA:Only c.W w (w3.setCell ⟨c.M,18+a,none⟩ (.int .i64 0)).drew:=H3.o.2.1.x ((lL w3 1 c.M (18+a) _).zt HC.o.1) (fun _ _ h=>h)
   have z0: ∀v,((w3.setCell ⟨c.M,18+a,none⟩ v).drew.cell? ⟨O,1,none⟩=some (.int .i64 (a:Int))/\(w3.setCell ⟨c.M,18+a,none⟩ v).drew.cell? ⟨O,3,none⟩=some (.int .i64 (cc:Int))/\(w3.setCell ⟨c.M,18+a,none⟩ v).drew.cell? ⟨V,cc,none⟩=some (.int .i64 ((Rw.mk ra rb rc rd).aM cc))):=fun v=>
    ⟨(lL w3 1 c.M (18+a) v).cell HV.o.1 H3.o.t,(lL w3 1 c.M (18+a) v).cell HV.o.2.1 H3.o.t,(lL w3 1 c.M (18+a) v).cell HV.o.d H3.o.d.1⟩
   have z0:=z0 (.int .i64 0);have h5:MI c K (w3.setCell ⟨c.M,18+a,none⟩ (.int .i64 0)).drew {s' with bI:=oZ s'.bI a 0}:=H5.o;have m5:(w3.setCell ⟨c.M,18+a,none⟩ (.int .i64 0)).drew.cell? ⟨c.M,18+a,none⟩=some (.int .i64 0):=by obtain⟨_,hm,_⟩:=h5;have:=hm.bI ha;simpa[RC.ms,oZ]using this
   have f5:(w3.setCell ⟨c.M,18+a,none⟩ (.int .i64 0)).drew.frozen? ⟨c.M,18+a,none⟩=false:=by obtain⟨_,hm,_⟩:=h5;exact hm.free _
   generalize (w3.setCell ⟨c.M,18+a,none⟩ (.int .i64 0)).drew=w5 at iA z0 h5 m5 f5⊢;have H6:=al (ab h5 iA);obtain⟨S0,vT⟩:=qt ((Rw.mk ra rb rc rd).aM cc);rw[vT]at z0;have lV:=al vT;have UO:=al (fun W=>mS W S0);clear h5 iA H5 vT o1 m3 mf HV;refine o0 (S:=(fun W=>W.cell? ⟨O,1,none⟩=some (.int .i64 (a:Int))/\W.cell? ⟨O,3,none⟩=some (.int .i64 (cc:Int))/\W.cell? ⟨V,cc,none⟩=some (.int .i64 S0))) (by kernel_rfl) z0 (fun ph=>?_);refine aI [0,1,2,3,4,5,6,8,9] ?_
   iterate 9 (refine bO (v:=?_) (fun _ ⟨s0,s1,s2⟩=>?_) ph ?_;rotate_left;(go_simp;try rfl);try simp only[ai,aj,ak,ar])
   refine aJ ?_;refine aW 7 (fun K hK=>?_);go_simp;refine(UO.o _).m ?_;rintro e wn ⟨rfl,rfl⟩
   try go_simp
   refine hK.o _ _ (ph) ?_;clear hK K ph;intro ph
   try simp only[ai,aj,ak,ar]
   refine dR 10 (v:=?_) (fun wS hSw=>?_) ph ?_;rotate_left
   ·obtain⟨s0,s1,s2⟩:=hSw;go_simp;try rfl
   try simp only[ai,aj,ak,ar]
   refine aW 11 (fun K hK=>?_);go_simp;refine hK.o _ _ (⟨(bj _ c.M (18+a) _).cell ph.1 H3.o.t,(bj _ c.M (18+a) _).cell ph.2.1 H3.o.t,(bj _ c.M (18+a) _).cell ph.2.2 H3.o.d.1⟩) ?_;clear hK K ph;intro ph
   try simp only[ai,aj,ak,ar]
   refine pb (by kernel_rfl) ?_ _;clear ph z0;go_wp2_with fail;go_ret
   rw[HP2.o,gD];have hF:=(H6.o.1.drew HC.o.1 HC.o.2.1).jx HC.o.1 HC.o.2.1 ha (mV S0);refine⟨rfl,?_,H6.o.2.x ((lL w5 1 c.M (18+a) _).zt HC.o.1) (fun _ _ h=>h)⟩;unfold gi aaE;simp only[jj,lV.o];rw[<-yA s'.bI a 0 (aZ S0)];exact hF
 ·have oC:(n==0)=false:=by simpa using hn
  have HP2:=al (HP.o.x (ff hn));clear hn h3 k3 Ml hbz kz hV XU ER;go_wp2_with fail;go_ret
  rw[HP2.o];exact⟨rfl,H3.o.1,H3.o.2.1⟩
end
section
variable{c:RC}{B T o m:Nat}{most:Int}{l:ax}{w:World}{s:PS ax}
def jE(c:Nat)(lo hi:Int):Cl:=⟨false,c,[],lo,hi⟩
theorem yB{c:Nat}{lo hi:Int}(hc:c<4)(h1:aK lo)(h2:aK hi)(h:lo<=hi):Good [jE c lo hi]:=by intro x hx;rw[fj]at hx;subst hx;unfold aK at h1 h2;refine⟨?_,⟨by unfold jE km;simp;omega,by unfold jE km;simp;omega,by unfold jE km;simp;omega,by unfold jE maxLen;simp⟩⟩;unfold Ok Dw jE;simp;omega
theorem aK.i6{v:Int}(h:aK v):I6 v:=by unfold aK at h;unfold I6;omega
theorem PT{lo n:Int}(h:aK lo)(hn:0<=n):lo<=aZ (lo+n):=by unfold aK at h;unfold aZ;omega
theorem Iq(ok:Cl->Bool)(x:aO)(s:PS ax){b cc:Nat}{lo hi n:Int}{cl':List Cl}(hb:x.b=(b:Int))(hc:x.c=(cc:Int))(hlo:s.bI b=lo)(hhi:hi=aZ (s.bI b+x.n))(h:bC ok s.cl [jE cc lo hi]=(cl',n)):
  sI ok x s=if n=0 then gi x {s with cl:=cl'} ((min (cV cc lo hi s.rows).length 16:Nat):Int)else({s with cl:=cl'},n):=by
 subst hlo;subst hhi;unfold sI gL;simp only[hb,hc,jj];unfold jE at h;rw[h]
theorem L6(hc:c.Fit)(hB:c.b=.pointer (some ⟨B,0,none⟩))(h:MI c (KB B T o m most l) w s)(x:aO)(a b cc:Nat)(ha:a<8)(hb:b<8)(hcc:cc<4)(jT:x.a=(a:Int))(qj:x.b=(b:Int))(zi:x.c=(cc:Int))(Rz:0<=x.n/\x.n<=1099511627776):
  Calls prog 109 #[.pointer (some ⟨c.M,0,none⟩),x.val] w (ly c (KB B T o m most l) (sI c.ok x s) w):=by
 have H:=h.at_ hc KB.ok x;have gA: ∀i,aK (s.bI i):=by obtain⟨_,_,_,_,_,_,_,h7⟩:=h;exact h7.1
 have Ay: ∀k,c.S k->k<w.heap.size:=by obtain⟨_,_,_,_,_,_,h6,_⟩:=h;exact h6
 obtain⟨dk,xa,xb,xc,xn⟩:=x;simp only at jT qj zi H Rz;subst jT qj zi;unfold aO.val;simp only;have HC:=al (ab hc (ab hB (ab Ay (ab gA Rz))));have i1:(0:Int)<=(a:Int):=by omega
 have i2:(a:Int)<8:=by omega
 have j1:(0:Int)<=(b:Int):=by omega
 have j2:(b:Int)<8:=by omega
 go_enter func109,ntmps109;go_upto_region 1 with fail;generalize w.alloc (.cells #[.int .i64 dk,.int .i64 (a:Int),.int .i64 (b:Int),.int .i64 (cc:Int),.int .i64 xn] 93)=w1 at H⊢;obtain⟨O,hO⟩:=qt (w.heap.size);rw[hO]at H⊢;have k0:=H.box;have o2:w1.cell? ⟨O,2,none⟩=some (.int .i64 (b:Int)):=by simp[World.cell?,k0]
 have r2:=H.bI hb;have H1:=al H;clear h k0 hO hc hB Ay gA Rz H
 go_region
 go_upto_region 2 with fail;have fg:=al (aw w1.heap.size w1).drew;have hb2:=fg.o;generalize w1.drew=w2 at fg hb2⊢;have k2:=pt hb2 H1.o.box;have o3:w2.cell? ⟨O,3,none⟩=some (.int .i64 (cc:Int)):=by simp[World.cell?,k2]
 have o4:w2.cell? ⟨O,4,none⟩=some (.int .i64 xn):=by simp[World.cell?,k2]
 obtain⟨lo,hlo⟩:=qt (s.bI b);rw[hlo];have hw:IntKind.i64.wrap (lo+xn)=lo+xn:=by rw[gr];have:=HC.o.t.1 b;rw[hlo]at this;unfold aK at this;have:=HC.o.q;omega
 obtain⟨S0,vT⟩:=qt (lo+xn);rw[vT]at hw;have HS:=al (ab hlo vT);have Fm:=al (fun W=>mS W S0);clear o2 r2 hb2 k2 hlo;go_wp2_with fail;refine(Fm.o _).m ?_;rintro e w' ⟨rfl,rfl⟩;obtain⟨hi,hhi⟩:=qt (max (-1099511627776) (min S0 1099511627776));rw[hhi];have Ty:hi=aZ (s.bI b+xn):=by rw[<-hhi,<-HS.o.2,<-HS.o.1];rfl
 have hrl:aK lo:=HS.o.1▸HC.o.t.1 b;have hrh:aK hi:=by rw[Ty];exact mV _
 have hle:lo<=hi:=by rw[Ty,HS.o.1];exact PT hrl HC.o.q.1
 have HR:=al (ab hrl (ab hrh (ab hle Ty)));clear hhi Ty hrl hrh hle Fm o4 hw;obtain⟨ek,kx⟩:=qn w2 (.cells #[.bool false,.int .i64 (cc:Int),.string ⟨#[]⟩,.int .i64 lo,.int .i64 hi] 107);have HX:=al (ab ek kx);clear ek kx;go_wp2_with fail;have Mq:=HX.o;generalize w2.alloc (.cells #[.bool false,.int .i64 (cc:Int),.string ⟨#[]⟩,.int .i64 lo,.int .i64 hi] 107)=w3 at Mq⊢;obtain⟨ek,kx⟩:=Mq;obtain⟨X,hX⟩:=qt (w2.heap.size);rw[hX]at kx⊢;have gy:Below w1.heap.size w1 w3:=fg.o.x (ek.m fg.o.size);have xY:Below w.heap.size w w3:=H1.o.rC.x (gy.m H1.o.rC.size);have h3:=H1.o.mi.below HC.o.1 KB.ok gy;have hcl:=lY (l:=[jE cc lo hi]) (F:=fun k=> ¬c.S k) kx rfl (fun hs=>by have h1:=HC.o.d.1 X hs;have h2:=H1.o.rC.size;have h3:=fg.o.size;omega) (by simp[maxLen]);have k3:=pt gy H1.o.box;have CI:=al (mQ HC.o.1 KB.ok h3 [jE cc lo hi] _ hcl (by simp) (yB hcc HR.o.1 HR.o.2.1 HR.o.d.1));obtain⟨cl',n,hp⟩: ∃u v,bC c.ok s.cl [jE cc lo hi]=(u,v):=⟨_,_,rfl⟩;rw[hp]at CI;have hq:=Iq (x:=⟨dk,a,b,cc,xn⟩) c.ok s rfl rfl HS.o.1 HR.o.t hp;have H3:=al (ab xY (ab k3 H1.o.off));clear HX ek kx hX gy xY h3 hcl k3 hp;refine CI.o.m ?_;rintro e w4 ⟨rfl,zu,lX⟩;have ER:=H1.o.ne HC.o.1;have k4:=lX.heap H3.o.2.1 ER;have EO:Only c.W w w4:=(oj H3.o.1 c.W).x (lX.zt HC.o.1) (fun _ _ h=>h);by_cases hn:n=0
 ·subst hn;have HP:=al (hq.x (fi rfl));have H4:=al (ab zu (ab EO (ab k4 ER)));clear hq CI lX EO ER;go_upto_region 6 with fail;have Fq:=zu;obtain⟨f4,hm,_⟩:=Fq;have z0:w4.cell? ⟨c.M,26,none⟩=some (.pointer (some ⟨B,0,none⟩))/\w4.cell? ⟨O,3,none⟩=some (.int .i64 (cc:Int)):=⟨by have:=hm.b;simp only[RC.ms]at this;rw[HC.o.2.1]at this;exact this,by simp[World.cell?,k4]⟩;clear hm zu k4 o3
  have HF:=al (show ∀W,Below w4.heap.size w4 W->Calls prog 142 #[.pointer (some ⟨B,0,none⟩),.int .i64 (cc:Int),.int .i64 lo,.int .i64 hi,.int .i64 16] W (Bg ((cV cc lo hi s.rows).take 16) W)from fun W hb=>by
   have hI:=H4.o.1.below HC.o.1 KB.ok hb;obtain⟨_,_,_,_,_,hk,_⟩:=hI
   exact KB.find (Z:=c.Z) hk cc 16 lo hi hcc HR.o.1.i6 HR.o.2.1.i6 HR.o.d.1 (by omega))
  refine o0 (S:=(fun W=>Below w4.heap.size w4 W/\W.cell? ⟨c.M,26,none⟩=some (.pointer (some ⟨B,0,none⟩))/\W.cell? ⟨O,3,none⟩=some (.int .i64 (cc:Int)))) (by kernel_rfl) ⟨(aw _ _).drew,z0⟩ (fun ph=>?_);refine aI [0,1,2,3,4,5,6,7] ?_
  iterate 8 (refine bO (v:=?_) (fun _ ⟨s0,s1,s2⟩=>?_) ph ?_;rotate_left;(go_simp;try rfl);try simp only[ai,aj,ak,ar])
  refine aJ ?_;refine aW 8 (fun K hK=>?_);go_simp;refine(HF.o _ ph.1).m ?_;rintro e wn ⟨A,cp,rfl,-,aR⟩
  try go_simp
  refine hK.o _ _ (tF ph aR) ?_;clear hK K ph aR;intro ph
  try simp only[ai,aj,ak,ar]
  refine aI [9,10,11,12,13] ?_
  iterate 5 (refine bO (v:=?_) (fun _ ⟨s0,s1,s2⟩=>?_) ph ?_;rotate_left;(go_simp;try rfl);try simp only[ai,aj,ak,ar])
  refine aJ ?_;refine pb (by kernel_rfl) ?_ _;have uC:=al ph.1;clear ph z0
  rename World=>w5
  have h5:=H4.o.1.below HC.o.1 KB.ok uC.o;have k5:=pt uC.o H4.o.d.1;obtain⟨f5,oq,-⟩:=id h5;have r5:=oq.bI ha;have f5:=oq.free (18+a);have o5:w5.cell? ⟨O,1,none⟩=some (.int .i64 (a:Int)):=by simp[World.cell?,k5]
  have H5:=al h5;obtain⟨L,hL⟩:=qt (min 16 (cV cc lo hi s.rows).length);rw[hL];have HL:=al hL;clear oq h5 k5 hL;go_upto_region 7 with fail
  go_still_tail 8,(by kernel_rfl)
  change wpList _ _ _ _ _ w5.drew;go_wp2_with fail;go_ret
  rw[HP.o];have hv:aK (L:Int):=by have:=HL.o;unfold aK;omega
  have hF:=(H5.o.drew HC.o.1 KB.ok).jx HC.o.1 KB.ok ha hv;refine⟨rfl,?_,(H4.o.2.1.x (oj uC.o c.W) (fun _ _ h=>h)).x ((lL w5 1 c.M (18+a) _).zt HC.o.1) (fun _ _ h=>h)⟩;unfold gi;rw[Nat.min_comm,HL.o];exact hF
 ·have oC:(n==0)=false:=by simpa using hn
  have HP:=al (hq.x (ff hn));have H4:=al (ab zu EO);clear hn hq CI lX EO ER zu k4;go_wp2_with fail;go_ret
  rw[HP.o];exact⟨rfl,H4.o.1,H4.o.2⟩
end
section
variable{c:RC}{B T o m:Nat}{most:Int}{l:ax}{w:World}{s:PS ax}
def WY:List (List UInt8)->Int
 |k::_=>LV k
 |[]=> -1
theorem L8(ok:Cl->Bool)(x:aO)(s:PS ax){b cc:Nat}{v n:Int}{cl':List Cl}(hb:x.b=(b:Int))(hc:x.c=(cc:Int))(hlo:s.bI b=v)(h:bC ok s.cl [jE cc v v]=(cl',n)):
  yz ok x s=if n=0 then gi x {s with cl:=cl'} (WY (cV cc v v s.rows))else({s with cl:=cl'},n):=by
 subst hlo;unfold yz gL;simp only[hb,hc,jj];unfold jE at h;rw[h];simp only;cases cV cc (s.bI b) (s.bI b) s.rows<;>rfl
theorem Tz{r:ax}(h:dH r){cc:Nat}{v:Int}:aK (WY (cV cc v v r)):=by
 cases hh:cV cc v v r with
 |nil=>exact⟨by decide,by decide⟩
 |cons k ks=>exact h.num (by rw[hh];rfl)
theorem TA{r:ax}(h:dH r){cc:Nat}{v:Int}{k:List UInt8}{ks:List (List UInt8)}(hh:cV cc v v r=k::ks):k.length<=1000:=by obtain⟨q,hq,_⟩:=(jS h.1 h.fit).1 (show k∈cV cc v v r by rw[hh];simp);obtain⟨⟨n,hn,e⟩,_⟩:=h.2 _ hq;simp only at e;rw[e];have:=(ij hn).2;omega
theorem PU(hc:c.Fit)(hB:c.b=.pointer (some ⟨B,0,none⟩))(h:MI c (KB B T o m most l) w s)(x:aO)(a b cc:Nat)(ha:a<8)(hb:b<8)(hcc:cc<4)(jT:x.a=(a:Int))(qj:x.b=(b:Int))(zi:x.c=(cc:Int)):
  Calls prog 108 #[.pointer (some ⟨c.M,0,none⟩),x.val] w (ly c (KB B T o m most l) (yz c.ok x s) w):=by
 have H:=h.at_ hc KB.ok x;have gA: ∀i,aK (s.bI i):=by obtain⟨_,_,_,_,_,_,_,h7⟩:=h;exact h7.1
 have Ay: ∀k,c.S k->k<w.heap.size:=by obtain⟨_,_,_,_,_,_,h6,_⟩:=h;exact h6
 obtain⟨dk,xa,xb,xc,xn⟩:=x;simp only at jT qj zi H;subst jT qj zi;unfold aO.val;simp only;have HC:=al (ab hc (ab hB (ab Ay gA)));have i1:(0:Int)<=(a:Int):=by omega
 have i2:(a:Int)<8:=by omega
 have j1:(0:Int)<=(b:Int):=by omega
 have j2:(b:Int)<8:=by omega
 go_enter func108,ntmps108;go_upto_region 1 with fail;generalize w.alloc (.cells #[.int .i64 dk,.int .i64 (a:Int),.int .i64 (b:Int),.int .i64 (cc:Int),.int .i64 xn] 93)=w1 at H⊢;obtain⟨O,hO⟩:=qt (w.heap.size);rw[hO]at H⊢;have k0:=H.box;have o2:w1.cell? ⟨O,2,none⟩=some (.int .i64 (b:Int)):=by simp[World.cell?,k0]
 have r2:=H.bI hb;have H1:=al H;clear h k0 hO hc hB Ay gA H
 go_region
 go_upto_region 2 with fail;have fg:=al (aw w1.heap.size w1).drew;have hb2:=fg.o;generalize w1.drew=w2 at fg hb2⊢;have k2:=pt hb2 H1.o.box;have o3:w2.cell? ⟨O,3,none⟩=some (.int .i64 (cc:Int)):=by simp[World.cell?,k2]
 obtain⟨v,hv⟩:=qt (s.bI b);rw[hv];have HR:=al (show aK v/\s.bI b=v from⟨hv▸HC.o.t b,hv⟩);clear o2 r2 hb2 k2 hv;obtain⟨ek,kx⟩:=qn w2 (.cells #[.bool false,.int .i64 (cc:Int),.string ⟨#[]⟩,.int .i64 v,.int .i64 v] 107);have HX:=al (ab ek kx);clear ek kx;go_wp2_with fail;have Mq:=HX.o;generalize w2.alloc (.cells #[.bool false,.int .i64 (cc:Int),.string ⟨#[]⟩,.int .i64 v,.int .i64 v] 107)=w3 at Mq⊢;obtain⟨ek,kx⟩:=Mq;obtain⟨X,hX⟩:=qt (w2.heap.size);rw[hX]at kx⊢;have gy:Below w1.heap.size w1 w3:=fg.o.x (ek.m fg.o.size);have xY:Below w.heap.size w w3:=H1.o.rC.x (gy.m H1.o.rC.size);have h3:=H1.o.mi.below HC.o.1 KB.ok gy;have hcl:=lY (l:=[jE cc v v]) (F:=fun k=> ¬c.S k) kx rfl (fun hs=>by have h1:=HC.o.d.1 X hs;have h2:=H1.o.rC.size;have h3:=fg.o.size;omega) (by simp[maxLen]);have k3:=pt gy H1.o.box;have CI:=al (mQ HC.o.1 KB.ok h3 [jE cc v v] _ hcl (by simp) (yB hcc HR.o.1 HR.o.1 (eL _)));obtain⟨cl',n,hp⟩: ∃u v',bC c.ok s.cl [jE cc v v]=(u,v'):=⟨_,_,rfl⟩;rw[hp]at CI;have hq:=L8 (x:=⟨dk,a,b,cc,xn⟩) c.ok s rfl rfl HR.o.2 hp;have H3:=al (ab xY (ab k3 H1.o.off));clear HX ek kx hX gy xY h3 hcl k3 hp;refine CI.o.m ?_;rintro e w4 ⟨rfl,zu,lX⟩;have ER:=H1.o.ne HC.o.1;have k4:=lX.heap H3.o.2.1 ER;have EO:Only c.W w w4:=(oj H3.o.1 c.W).x (lX.zt HC.o.1) (fun _ _ h=>h);by_cases hn:n=0
 ·subst hn;have HP:=al (hq.x (fi rfl));have H4:=al (ab zu (ab EO (ab k4 ER)));clear hq CI lX EO ER o3;go_upto_region 5 with fail;obtain⟨f4,hm,-⟩:=id zu;have o1:w4.cell? ⟨O,1,none⟩=some (.int .i64 (a:Int)):=by simp[World.cell?,k4]
  have r4:=hm.bI ha;have f4:=hm.free (18+a);clear hm zu k4
  go_still_tail 6,(by kernel_rfl)
  change wpList _ _ _ _ _ w4.drew;go_upto_region 6 with fail;have h5:MI c (KB B T o m most l) (w4.setCell ⟨c.M,18+a,none⟩ (.int .i64 (-1))).drew {s with cl:=cl',bI:=oZ s.bI a (-1)}:=(H4.o.1.drew HC.o.1 KB.ok).jx HC.o.1 KB.ok ha (v:= -1) ⟨by decide,by decide⟩;have iA:Only c.W w (w4.setCell ⟨c.M,18+a,none⟩ (.int .i64 (-1))).drew:=H4.o.2.1.x ((lL w4 1 c.M (18+a) _).zt HC.o.1) (fun _ _ h=>h);have k5:(w4.setCell ⟨c.M,18+a,none⟩ (.int .i64 (-1))).drew.heap[O]?=_:=(lL w4 1 c.M (18+a) (.int .i64 (-1))).heap H4.o.d.1 H4.o.t;generalize (w4.setCell ⟨c.M,18+a,none⟩ (.int .i64 (-1))).drew=w5 at h5 iA k5⊢;obtain⟨f5,oq,-⟩:=id h5;have z0:w5.cell? ⟨c.M,26,none⟩=some (.pointer (some ⟨B,0,none⟩))/\w5.cell? ⟨O,3,none⟩=some (.int .i64 (cc:Int)):=⟨by have:=oq.b;simp only[RC.ms]at this;rw[HC.o.2.1]at this;exact this,by simp[World.cell?,k5]⟩;have H5:=al (ab h5 (ab iA k5));clear oq h5 iA k5 r4 f4 o1
  have HF:=al (show ∀W,Below w5.heap.size w5 W->Calls prog 142 #[.pointer (some ⟨B,0,none⟩),.int .i64 (cc:Int),.int .i64 v,.int .i64 v,.int .i64 1] W (Bg ((cV cc v v s.rows).take 1) W)from fun W hb=>by
   have hI:=H5.o.1.below HC.o.1 KB.ok hb;obtain⟨_,_,_,_,_,hk,_⟩:=hI
   exact KB.find (Z:=c.Z) hk cc 1 v v hcc HR.o.1.i6 HR.o.1.i6 (eL _) (by omega))
  refine o0 (S:=(fun W=>Below w5.heap.size w5 W/\W.cell? ⟨c.M,26,none⟩=some (.pointer (some ⟨B,0,none⟩))/\W.cell? ⟨O,3,none⟩=some (.int .i64 (cc:Int)))) (by kernel_rfl) ⟨(aw _ _).drew,z0⟩ (fun ph=>?_);refine aI [0,1,2,3,4,5,6,7] ?_
  iterate 8 (refine bO (v:=?_) (fun _ ⟨s0,s1,s2⟩=>?_) ph ?_;rotate_left;(go_simp;try rfl);try simp only[ai,aj,ak,ar])
  refine aJ ?_;refine aW 8 (fun K hK=>?_);go_simp;refine(HF.o _ ph.1).m ?_;rintro e wn ⟨A,cp,rfl,hown,aR⟩;have HO:=al hown;clear hown
  try go_simp
  refine hK.o _ _ (tF ph aR) ?_;clear hK K ph aR;intro ph
  try simp only[ai,aj,ak,ar]
  refine aI [9,10,11,12,13] ?_
  iterate 5 (refine bO (v:=?_) (fun _ ⟨s0,s1,s2⟩=>?_) ph ?_;rotate_left;(go_simp;try rfl);try simp only[ai,aj,ak,ar])
  refine aJ ?_;refine pb (by kernel_rfl) ?_ _;have Xv:=al ph.1;clear ph z0
  rename World=>w6
  have h6:=H5.o.1.below HC.o.1 KB.ok Xv.o;have k6:=pt Xv.o H5.o.d;have vg:=H5.o.2.1.x (oj Xv.o c.W) (fun _ _ h=>h);have o6:w6.cell? ⟨O,1,none⟩=some (.int .i64 (a:Int)):=by simp[World.cell?,k6]
  obtain⟨_,_,_,_,_,hkb,_⟩:=id h6;have hrows:=KB.rows hkb;have aaF:=KB.tab _ _ _ hkb;have aaG:=KB.errs hkb;clear hkb;have PV:=Tz hrows (cc:=cc) (v:=v);simp only at PV;obtain⟨L,hL⟩:=qt (cV cc v v s.rows);rw[hL]at HO⊢;have UI:aK (WY L):=by rw[<-hL];exact PV
  have H6:=al (ab h6 (ab vg (ab k6 (ab hL (ab UI (ab aaF aaG))))));have HRW:=al hrows;clear h6 vg k6 hrows aaF aaG PV UI hL
  cases L with
  |nil=>
   go_wp2_with fail;go_ret
   rw[HP.o,H6.o.t.1];exact⟨rfl,H6.o.1,H6.o.2.1⟩
  |cons k L2=>
   have jo:min 1 (k::L2).length=1:=by simp
   rw[jo];have hkl:=TA HRW.o H6.o.t.1;have hown:=HO.o;obtain⟨g0,rfl,y0⟩:=Pv (j:=0) (k:=k) hown rfl;have hgl:=(hown.lt g0 rfl).1;clear hown;have hg0: ¬g0=c.M:=fun e=>by have aaU:w5.heap.size<=g0:=hgl;obtain⟨_,hm,_⟩:=H5.o.1;have:=hm.lt;omega
   have z0:w6.cell? ⟨O,1,none⟩=some (.int .i64 (a:Int))/\w6.cell? ⟨g0,0,none⟩=some (.string ⟨k.toArray⟩):=⟨o6,y0⟩;have HN:=al (show ∀W,Below w6.heap.size w6 W->Calls prog 143 #[.string ⟨k.toArray⟩] W (aaD (iW k) W)from fun W hb=>CG W k hkl (H6.o.q.2.1.below hb) (H6.o.q.d.below hb));have HG:=al hg0;clear o6 y0 hgl jo hkl hg0;go_upto_region 8 with fail;refine o0 (S:=(fun W=>W.cell? ⟨O,1,none⟩=some (.int .i64 (a:Int))/\W.cell? ⟨g0,0,none⟩=some (.string ⟨k.toArray⟩))) (by kernel_rfl) z0 (fun ph=>?_);refine aI [0,1,2,3,4,5,10,11] ?_
   iterate 8 (refine bO (v:=?_) (fun _ ⟨s0,s1⟩=>?_) ph ?_;rotate_left;(go_simp;try rfl);try simp only[ai,aj,ak,ar])
   refine aJ ?_;refine aW 6 (fun K hK=>?_);go_simp;refine(HN.o _ ((aw _ _).drew)).m ?_;rintro e wn ⟨rfl,aR⟩;have sL:=((aw w6.heap.size w6).drew).x (aR.m (aE _));have h8:=H6.o.1.below HC.o.1 KB.ok sL;obtain⟨_,hm8,-⟩:=id h8;have m8:=hm8.bI ha;have f8:=hm8.free (18+a);have H8:=al (ab h8 sL);clear hm8 h8 sL
   try go_simp
   refine hK.o _ _ (⟨(aR.cell (aq _ _ ph.1)).x ph.1,(aR.cell (aq _ _ ph.2)).x ph.2⟩) ?_;clear hK K ph aR;intro ph
   try simp only[ai,aj,ak,ar]
   refine aI [7,8,9,12] ?_
   iterate 4 (refine bO (v:=?_) (fun _ ⟨s0,s1⟩=>?_) ph ?_;rotate_left;(go_simp;try rfl);try simp only[ai,aj,ak,ar])
   refine aJ ?_;refine aW 13 (fun K hK=>?_);go_simp;refine hK.o _ _ (⟨(bj _ c.M (18+a) _).cell ph.1 H4.o.t,(bj _ c.M (18+a) _).cell ph.2 HG.o⟩) ?_;clear hK K ph;intro ph
   try simp only[ai,aj,ak,ar]
   refine pb (by kernel_rfl) ?_ _;clear ph z0;go_wp2_with fail;go_ret
   rw[HP.o,H6.o.t.1];refine⟨rfl,?_,(H6.o.2.1.x (oj H8.o.2 c.W) (fun _ _ h=>h)).x ((bj wn c.M (18+a) _).zt HC.o.1) (fun _ _ h=>h)⟩;have hF:=H8.o.1.jx HC.o.1 KB.ok ha H6.o.q.1;simp only[yA]at hF;exact hF
 ·have oC:(n==0)=false:=by simpa using hn
  have HP:=al (hq.x (ff hn));have H4:=al (ab zu EO);clear hn hq CI lX EO ER zu k4;go_wp2_with fail;go_ret
  rw[HP.o];exact⟨rfl,H4.o.1,H4.o.2⟩
end
section
open Go.RowKit Go.Maps
section
variable{B T o m:Nat}{most:Int}{l:ax}{Z:Nat->Prop}{r:ax}{w:World}
theorem KB.PW(h:KB B T o m most l Z r w){k:List UInt8}(hk:1<=k.length/\k.length<=16)(op:Int)(now:Rw)(x:Option Rw)(hop:op=9/\x=some now\/op=10/\x=none):
  Calls prog 138 #[.int .i64 op,.pointer (some ⟨B,0,none⟩),.string ⟨k.toArray⟩,now.val] w (VW (gY k (au k r) x) w):=by
 obtain⟨wl,FT,n,g,FR,h1,h2,_⟩:=h;have hv:=jM (k:=k) h1.up h1.tab.up;rw[h2]at hv
 cases hq:au k r with
 |none=>
  rcases hop with⟨rfl,rfl⟩|⟨rfl,rfl⟩
  ·exact jL w B T o most l wl FT _ k hk h1.at_ false true Rw.zero now (fun _=>rfl) (hv.x hq) 9 rfl
  ·exact jL w B T o most l wl FT _ k hk h1.at_ false false Rw.zero now (fun _=>rfl) (hv.x hq) 10 rfl
 |some old=>
  rcases hop with⟨rfl,rfl⟩|⟨rfl,rfl⟩
  ·exact jL w B T o most l wl FT _ k hk h1.at_ true true old now (fun h=>by cases h) (hv.x hq) 9 rfl
  ·exact jL w B T o most l wl FT _ k hk h1.at_ true false old now (fun h=>by cases h) (hv.x hq) 10 rfl
theorem KB.to(h:KB B T o m most l Z r w){w':World}{wl J9:tN}{FT:Nat->Nat->Prop}{n:Nat}{g:Value->Option Value}{FR:Nat->Prop}(_h1:oI w B T most o l wl FT m n g FR)(qi: ∀b q,FT b q-> ¬Z b/\b<w.heap.size)(Qx: ∀b,FR b-> ¬Z b)
  (hZ: ∀k,Z k->k<w.heap.size) (ht:JC w w' B T o most l J9 FT m FR) {r':ax} (hr:bY J9 l=r') (hok:dH r') (hlen:(r'.length:Int)<=most) (sH: ∀q∈J9,∃v,aK v/\q.1=Lib.itoa v):KB B T o m most l Z r' w':=by
 obtain⟨_,_,_,_,_,_,_,_,_,_,h6,⟨h7,h8,h9,_,_⟩,_,ve,tG,yU,h16⟩:=h;obtain⟨n',g',FR',g1,g2,g3⟩:=ht;refine⟨J9,FT,n',g',FR',g1,hr,hok,hlen,sH,h6.only g3 (fun e=>yU e.symm),⟨h7,h8,h9,fun b hb hz=>?_,fun b q hb=>(qi b q hb).1⟩,fun b q hb=>cq (qi b q hb).2 g3.size,ve.only g3 (fun k hk=>h16 k hk),tG,yU,h16⟩;rcases g2 b hb with hb|hb
 ·exact Qx b hb hz
 ·have:=hZ b hz;omega
def JU(B T o m:Nat)(most:Int)(l:ax)(Z:Nat->Prop)(r:ax)(w:World)(k:List UInt8)(x:Rw)(e:Ending)(w':World):Prop:=
 if au k r=none/\most<=(r.length:Int)then e=.returned (.int .i64 16)/\Below w.heap.size w w' else e=.returned (.int .i64 0)/\KB B T o m most l Z (bP (k,x) r) w'/\Only (fun j=>j=m) w w'
theorem KB.put(h:KB B T o m most l Z r w)(hZ: ∀k,Z k->k<w.heap.size){v:Int}(hv:aK v){x:Rw}(hx: ∀c,aK (x.aM c)):
  Calls prog 140 #[.pointer (some ⟨B,0,none⟩),.string ⟨(Lib.itoa v).toArray⟩,x.val] w (JU B T o m most l Z r w (Lib.itoa v) x):=by
 have h0:=h;obtain⟨wl,FT,n,g,FR,h1,h2,h3,h4,h5,h6,⟨h7,h8,h9,h10,h11⟩,h12,ve,tG,yU,h16⟩:=h;have QK:=Kv h1.up h1.tab.up (Lib.itoa v) x;refine(Lc w B T o m n most l wl FT g FR (Lib.itoa v) x (ij hv) (fun c=>by have:=hx c;unfold aK at this;unfold I6;omega) h1 h12 (Fa h1.up h5)).m ?_;intro e w' he;unfold r9 at he;unfold JU;rw[h2]at he QK;split at he
 ·rename_i hc;rw[fi hc];exact he
 ·rename_i hc;rw[ff hc];have ho:=he.2;refine⟨he.1,h0.to h1 (fun b q hb=>⟨h11 b q hb,h12 b q hb⟩) h10 hZ ho QK (h3.ins ⟨⟨v,hv,rfl⟩,hx⟩) ?_ (fun q hq=>?_),by obtain⟨_,_,_,_,_,g3⟩:=ho;exact g3⟩
  ·rw[ki h3.1]
   cases hk:au (Lib.itoa v) r with
   |none=>have: ¬most<=(r.length:Int):=fun hm=>hc ⟨hk,hm⟩;simp;omega
   |some z=>simpa using h4
  ·rcases gW hq with rfl|hq
   ·exact⟨v,hv,rfl⟩
   ·exact h5 q hq
def UJ(B T o m:Nat)(most:Int)(l:ax)(Z:Nat->Prop)(r:ax)(w:World)(k:List UInt8)(e:Ending)(w':World):Prop:=
 (∃n,e=.returned (.int .i64 n))/\KB B T o m most l Z (fG k r) w'/\Only (fun j=>j=m) w w'
theorem KB.del(h:KB B T o m most l Z r w)(hZ: ∀k,Z k->k<w.heap.size){v:Int}(hv:aK v):
  Calls prog 141 #[.pointer (some ⟨B,0,none⟩),.string ⟨(Lib.itoa v).toArray⟩] w (UJ B T o m most l Z r w (Lib.itoa v)):=by
 have h0:=h;obtain⟨wl,FT,n,g,FR,h1,h2,h3,h4,h5,h6,⟨h7,h8,h9,h10,h11⟩,h12,ve,tG,yU,h16⟩:=h;have QK:=Kw h1.up h1.tab.up (Lib.itoa v);refine(Ld w B T o m n most l wl FT g FR (Lib.itoa v) (ij hv) h1 (Fa h1.up h5)).m ?_;intro e w' he;unfold vO at he;unfold UJ;rw[h2]at he QK;split at he
 ·rename_i hc;rw[iM hc];exact⟨⟨_,he.1⟩,KB.ok.only Z r w w' (fun _=>False) (fun _ h=>h.elim) h0 (oj he.2 _),oj he.2 _⟩
 ·rename_i hc;have ho:=he.2;refine⟨⟨_,he.1⟩,h0.to h1 (fun b q hb=>⟨h11 b q hb,h12 b q hb⟩) h10 hZ ho QK h3.del ?_ (fun q hq=>?_),by obtain⟨_,_,_,_,_,g3⟩:=ho;exact g3⟩
  ·cases hk:au (Lib.itoa v) r with
   |none=>exact absurd hk hc
   |some z=>have:=wP hk;omega
  ·rcases gW hq with rfl|hq
   ·exact⟨v,hv,rfl⟩
   ·exact h5 q hq
end
end
theorem PX{w:World}{base n:Nat}{F:Nat->Prop}{v:Value}{l:List Cl}(h:w.ownsRow base 107 5 v n (Mo l))(hn:l.length=n)(hF: ∀k,base<=k->F k):eG w F v l:=by
 rcases h.2 with⟨rfl,h0⟩|⟨g,cap,cur,rfl,hg,hgg,h1,h2,h3,h4⟩
 ·have:l=[]:=dj (by omega);subst this;subst hn;exact aS.nil 5 _ _
 ·refine⟨_,_,_,rfl,by simpa using hn,h1,h2,fun _=>⟨g,0,rfl,hF g hg,fun i x hx j u hu=>?_⟩⟩;have hi:i<n:=by have:=(b8.1 hx).1;simpa[hn]using this
  have hxl:=cO l x (de hx);have hj:j<5:=by have:=(b8.1 hu).1;omega
  have h5:=lI (cO l) i x hx j u hu;have h6:=h.cellAt (i*5+j) (by omega);rw[gx,h6];exact h5
theorem p9{c:Nat}(hc:c<4){old now:Option Rw}(ho: ∀r,old=some r-> ∀c,aK (r.aM c))(hn: ∀r,now=some r-> ∀c,aK (r.aM c)):Good (uW c old now):=by
 have one: ∀{v:Int},aK v->Good [(⟨true,c,[],v,v⟩:Cl)]:=fun{v} hv x hx=>by rw[fj]at hx;subst hx;unfold aK at hv;refine⟨?_,⟨by unfold km;simp;omega,by unfold km;simp;omega,by unfold km;simp;omega,by unfold maxLen;simp⟩⟩;unfold Ok Dw;simp;omega
 intro x hx;unfold uW at hx;split at hx
 ·rename_i a b;split at hx
  ·simp at hx
  ·simp only[List.mem_cons,List.not_mem_nil,or_false]at hx;rcases hx with rfl|rfl
   ·exact one (ho a rfl c) _ (by simp)
   ·exact one (hn b rfl c) _ (by simp)
 ·rename_i a;exact one (ho a rfl c) _ hx
 ·rename_i b;exact one (hn b rfl c) _ hx
 ·simp at hx
theorem yC{n:Int}(h:aK n){old now:Option Rw}(ho: ∀r,old=some r-> ∀c,aK (r.aM c))(hn: ∀r,now=some r-> ∀c,aK (r.aM c)):Good (gY (Lib.itoa n) old now):=by
 have key: ∀{k:List UInt8},dU k=0->k.length<=16->Good [(⟨true,-1,k,0,0⟩:Cl)]:=fun{k} hk hl x hx=>by rw[fj]at hx;subst hx;refine⟨?_,⟨by unfold km;simp,by unfold km;simp,by unfold km;simp,by unfold maxLen;simp only;omega⟩⟩;unfold Ok Dw;simp[hk]
 intro x hx;unfold gY at hx;simp only[List.mem_cons,List.mem_append]at hx;rcases hx with rfl|hx|hx|hx|hx|hx
 ·exact key (yj h) (ij h).2 _ (by simp)
 ·split at hx
  ·simp at hx
  ·exact key (k:=[35]) (by decide) (by decide) _ hx
 ·exact p9 (by decide) ho hn x hx
 ·exact p9 (by decide) ho hn x hx
 ·exact p9 (by decide) ho hn x hx
 ·exact p9 (by decide) ho hn x hx
theorem Bo(k:List UInt8)(old now:Option Rw):(gY k old now).length<=10:=by rw[<-xe];exact qO k old now 4
section
variable{c:RC}{B T o m:Nat}{most:Int}{l:ax}{w:World}{s:PS ax}
theorem MI.rows{K:(Nat->Prop)->ax->World->Prop}{w':World}(h:MI c K w s)(hm:c.S m)(hM:m≠c.M)(ho:Only (fun j=>j=m) w w'){r:ax}(hk:K c.Z r w'):MI c K w' {s with rows:=r}:=by obtain⟨f,h1,h2,h3,h4,h5,h6,h7⟩:=h;have hS: ∀k,k=m->c.S k:=fun k e=>e▸hm;exact⟨f,h1.only ho (fun e=>hM e.symm),h2.only ho hS,h3.only ho hS,h4.only ho (fun k hk e=>hk (hS k e)),hk,fun k hk=>cq (h6 k hk) ho.size,h7⟩
theorem PY(ok:Cl->Bool)(x:aO)(s:PS ax){b:Nat}{v n:Int}{cl':List Cl}(hb:x.b=(b:Int))(hv:s.bI b=v)(h:bC ok s.cl (gY (Lib.itoa v) (au (Lib.itoa v) s.rows) none)=(cl',n)):
  E5 ok x s=if n=0 then({s with cl:=cl',rows:=fG (Lib.itoa v) s.rows},0)else({s with cl:=cl'},n):=by
 subst hv;unfold E5 gL;simp only[hb,jj];rw[h]
theorem TB(hc:c.Fit)(hB:c.b=.pointer (some ⟨B,0,none⟩))(PZ:c.S m)(P4:c.W m)(P5:m≠c.M)(h:MI c (KB B T o m most l) w s)(x:aO)(b:Nat)(hb:b<8)(qj:x.b=(b:Int)):
  Calls prog 107 #[.pointer (some ⟨c.M,0,none⟩),x.val] w (ly c (KB B T o m most l) (E5 c.ok x s) w):=by
 have H:=h.at_ hc KB.ok x;have gA: ∀i,aK (s.bI i):=by obtain⟨_,_,_,_,_,_,_,h7⟩:=h;exact h7.1
 have Ay: ∀k,c.S k->k<w.heap.size:=by obtain⟨_,_,_,_,_,_,h6,_⟩:=h;exact h6
 have hrow:dH s.rows:=by obtain⟨_,_,_,_,_,hk,_⟩:=h;exact KB.rows hk
 obtain⟨dk,xa,xb,xc,xn⟩:=x;simp only at qj H;subst qj;unfold aO.val;simp only;have HC:=al (ab hc (ab hB (ab Ay (ab gA (ab hrow (ab PZ (ab P4 P5)))))));have j1:(0:Int)<=(b:Int):=by omega
 have j2:(b:Int)<8:=by omega
 go_enter func107,ntmps107;go_upto_region 1 with fail;generalize w.alloc (.cells #[.int .i64 dk,.int .i64 xa,.int .i64 (b:Int),.int .i64 xc,.int .i64 xn] 93)=w1 at H⊢;obtain⟨O,hO⟩:=qt (w.heap.size);rw[hO]at H⊢;have k0:=H.box;obtain⟨v,hv⟩:=qt (s.bI b);have z0:w1.cell? ⟨O,2,none⟩=some (.int .i64 (b:Int))/\w1.cell? ⟨c.M,18+b,none⟩=some (.int .i64 v):=⟨by simp[World.cell?,k0],hv▸H.bI hb⟩;have WZ:aK v:=hv▸gA b;have HK:=al (show ∀W,Below w1.heap.size w1 W->Calls prog 137 #[.int .i64 v] W fun e w'=>e=.returned (.string ⟨(Lib.itoa v).toArray⟩)/\Below W.heap.size W w' from fun W hW=>Cz W v WZ.i64 (by have hI:=H.mi.below hc KB.ok hW;obtain⟨_,_,_,_,_,hk,_⟩:=hI;exact KB.tab _ _ _ hk));have H1:=al H;have HR:=al (ab WZ hv);clear h k0 hO hc hB Ay gA H hrow PZ P4 P5 WZ hv;refine o0 (S:=(fun W=>Below w1.heap.size w1 W/\W.cell? ⟨O,2,none⟩=some (.int .i64 (b:Int))/\W.cell? ⟨c.M,18+b,none⟩=some (.int .i64 v))) (by kernel_rfl) ⟨(aw _ _).drew,z0⟩ (fun ph=>?_);refine aI [0,1,2,3,4,5,6] ?_
 iterate 7 (refine bO (v:=?_) (fun _ ⟨s0,s1,s2⟩=>?_) ph ?_;rotate_left;(go_simp;try rfl);try simp only[ai,aj,ak,ar])
 refine aJ ?_;refine aW 7 (fun K hK=>?_);go_simp;refine(HK.o _ ph.1).m ?_;rintro e wn ⟨rfl,aR⟩
 try go_simp
 refine hK.o _ _ (tF ph aR) ?_;clear hK K ph aR;intro ph
 try simp only[ai,aj,ak,ar]
 refine dR 8 (v:=?_) (fun wS hSw=>?_) ph ?_;rotate_left
 ·obtain⟨s0,s1,s2⟩:=hSw;go_simp;try rfl
 try simp only[ai,aj,ak,ar]
 refine pb (by kernel_rfl) ?_ _;have fg:=al ph.1;clear ph z0
 rename World=>w2
 have h2:=H1.o.mi.below HC.o.1 KB.ok fg.o;have ru:=H1.o.rC.x (fg.o.m H1.o.rC.size);obtain⟨k,hk⟩:=qt (Lib.itoa v);rw[hk];have hkl:1<=k.length/\k.length<=16:=hk▸ij HR.o.1;obtain⟨f2,hm2,_,_,_,hkb,_⟩:=id h2;have b2:w2.cell? ⟨c.M,26,none⟩=some (.pointer (some ⟨B,0,none⟩)):=by have:=hm2.b;simp only[RC.ms]at this;rw[HC.o.2.1]at this;exact this
 have Fm:=al (KB.PW hkb hkl 10 ⟨0,0,0,0⟩ none (.inr ⟨rfl,rfl⟩));have hgd:=yC HR.o.1 (old:=au k s.rows) (now:=none) (fun r hr c=>by have:=(aD HC.o.q.1.1).1 hr;exact(HC.o.q.1.2 _ this).2 c) (fun r hr=>by cases hr);rw[hk]at hgd;have H2:=al (ab h2 (ab ru (ab hgd hk)));clear h2 ru hgd hkl hm2 hkb hk HK;unfold Rw.val at Fm;go_wp2_with fail;refine Fm.o.m ?_;rintro e w3 ⟨cv,rfl,hown,hb3⟩;have h3:=H2.o.1.below HC.o.1 KB.ok hb3;have hcl:=PX (F:=fun k=> ¬c.S k) hown rfl (fun k hk hs=>by have h1:=HC.o.d.1 k hs;have h2:=H2.o.2.1.size;omega);have CI:=al (mQ HC.o.1 KB.ok h3 _ _ hcl (by have:=Bo k (au k s.rows) none;omega) H2.o.d.1);obtain⟨cl',n,hp⟩: ∃u v',bC c.ok s.cl (gY k (au k s.rows) none)=(u,v'):=⟨_,_,rfl⟩;rw[hp]at CI;have hq:=PY (x:=⟨dk,xa,b,xc,xn⟩) (cl':=cl') (n:=n) c.ok s rfl HR.o.2 (by rw[H2.o.t];exact hp);rw[H2.o.t]at hq;have H3:=al (H2.o.2.1.x (hb3.m H2.o.2.1.size));have HQ:=al hq;clear h3 hcl hp hown hb3 Fm b2 hq;go_wp2_with fail;refine CI.o.m ?_;rintro e w4 ⟨rfl,zu,lX⟩;have EO:Only c.W w w4:=(oj H3.o c.W).x (lX.zt HC.o.1) (fun _ _ h=>h);by_cases hn:n=0
 ·subst hn;have HP:=al (HQ.o.x (fi rfl));have H4:=al (ab zu EO);obtain⟨f4,Fq,_,_,_,hkb,hsz,_⟩:=id zu;have b4:w4.cell? ⟨c.M,26,none⟩=some (.pointer (some ⟨B,0,none⟩)):=by have:=Fq.b;simp only[RC.ms]at this;rw[HC.o.2.1]at this;exact this
  have HD:=al (KB.del hkb (fun k hk=>hsz k (HC.o.1.Wu k hk)) HR.o.1);rw[H2.o.t]at HD;clear Fq hkb hsz zu EO lX HQ CI;go_wp2_with fail;refine HD.o.m ?_;rintro e w5 ⟨⟨nn,rfl⟩,hk5,jr⟩;have H5:=al (ab (H4.o.1.rows HC.o.q.2.1 HC.o.q.t jr hk5) (H4.o.2.x (jr.m (fun k _ e=>e▸HC.o.q.d.1)) (fun _ _ h=>h)));clear hk5 jr;go_wp2_with fail;go_ret
  rw[HP.o];exact⟨rfl,H5.o.1,H5.o.2⟩
 ·have oC:(n==0)=false:=by simpa using hn
  have HP:=al (HQ.o.x (ff hn));have H4:=al (ab zu EO);clear hn HQ CI lX EO zu;go_wp2_with fail;go_ret
  rw[HP.o];exact⟨rfl,H4.o.1,H4.o.2⟩
end
theorem P6{W:World}{p1 p2 p3 p4 p5:Addr}{v1 v2 v3 v4 v5:Value}(h:W.cell? p1=some v1/\W.cell? p2=some v2/\W.cell? p3=some v3/\W.cell? p4=some v4/\W.cell? p5=some v5)(o:Obj):(W.alloc o).cell? p1=some v1/\(W.alloc o).cell? p2=some v2/\(W.alloc o).cell? p3=some v3/\(W.alloc o).cell? p4=some v4/\(W.alloc o).cell? p5=some v5:=
 have hb:=ae W o
 ⟨(hb.cell (aq _ _ h.1)).x h.1,(hb.cell (aq _ _ h.2.1)).x h.2.1,(hb.cell (aq _ _ h.2.2.1)).x h.2.2.1,(hb.cell (aq _ _ h.2.2.2.1)).x h.2.2.2.1,(hb.cell (aq _ _ h.2.2.2.2)).x h.2.2.2.2⟩
theorem W6{wk W W':World}{p1 p2 p3 p4 p5:Addr}{v1 v2 v3 v4 v5:Value}(h:Below wk.heap.size wk W/\W.cell? p1=some v1/\W.cell? p2=some v2/\W.cell? p3=some v3/\W.cell? p4=some v4/\W.cell? p5=some v5)(hb:Below W.heap.size W W'):Below wk.heap.size wk W'/\W'.cell? p1=some v1/\W'.cell? p2=some v2/\W'.cell? p3=some v3/\W'.cell? p4=some v4/\W'.cell? p5=some v5:=
 ⟨h.1.x (hb.m h.1.size),(hb.cell (aq _ _ h.2.1)).x h.2.1,(hb.cell (aq _ _ h.2.2.1)).x h.2.2.1,(hb.cell (aq _ _ h.2.2.2.1)).x h.2.2.2.1,(hb.cell (aq _ _ h.2.2.2.2.1)).x h.2.2.2.2.1,(hb.cell (aq _ _ h.2.2.2.2.2)).x h.2.2.2.2.2⟩
theorem P7(most:Int)(ok:Cl->Bool)(x:aO)(s:PS ax){a b:Nat}{v n:Int}{q:Rw}{cl':List Cl}(ha:x.a=(a:Int))(hb:x.b=(b:Int))(hv:s.bI b=v)(hq:yx s.bI a=q)(h:bC ok s.cl (gY (Lib.itoa v) (au (Lib.itoa v) s.rows) (some q))=(cl',n)):
  E4 most ok x s=if n=0 then(if au (Lib.itoa v) s.rows=none/\most<=(s.rows.length:Int)then({s with cl:=cl'},16)else({s with cl:=cl',rows:=bP (Lib.itoa v,q) s.rows},0))else({s with cl:=cl'},n):=by
 subst hv;subst hq;unfold E4 gL;simp only[ha,hb,jj];rw[h]
theorem Tryz.Ir(w:World)(M a:Nat)(ha:a<5):(Instr.sliceAt 175 (.pointer (some ⟨M,18,none⟩)) (some (.int .i64 (a:Int))) (some (.int .i64 ((a:Int)+4))) none).run prog w=.ok (.slice (some ⟨M,18+a,none⟩) 4 (8-a)) w:=by
 have h1:prog.arrayLen 175=8:=by kernel_rfl
 have h2: ∀W,(sizeOf (prog.elem 175)).run prog W=.ok 1 W:=fun W=>by kernel_rfl
 have h:=run_sliceAt_array_lh (P:=prog) w 175 ⟨M,18,none⟩ (by kernel_rfl) .i64 .i64 (a:Int) ((a:Int)+4) (by omega) (by omega) (by rw[h1];omega);rw[h,h2,h1];have e1:((a:Int)+4).toNat=a+4:=by omega
 have e2:((a:Int)).toNat=a:=by omega
 simp only[Result.andThen,slicedAt,e1,e2,ff (show ¬8=a by omega)];have e3:a+4-a=4:=by omega
 rw[e3];simp[Addr.add]
theorem Tryz.TC(w:World)(a:Option Addr)(n:Nat):(Instr.arrayAt 113 (.slice a 4 n)).run prog w=.ok (.pointer a) w:=run_arrayAt w 113 3 4 a 4 n (by kernel_rfl) (aE _)
section
variable{c:RC}{B T o m:Nat}{most:Int}{l:ax}{w:World}{s:PS ax}
theorem TD(hc:c.Fit)(hB:c.b=.pointer (some ⟨B,0,none⟩))(PZ:c.S m)(P4:c.W m)(P5:m≠c.M)(h:MI c (KB B T o m most l) w s)(x:aO)(a b:Nat)(ha:a<5)(hb:b<8)(jT:x.a=(a:Int))(qj:x.b=(b:Int)):
  Calls prog 106 #[.pointer (some ⟨c.M,0,none⟩),x.val] w (ly c (KB B T o m most l) (E4 most c.ok x s) w):=by
 have H:=h.at_ hc KB.ok x;have gA: ∀i,aK (s.bI i):=by obtain⟨_,_,_,_,_,_,_,h7⟩:=h;exact h7.1
 have Ay: ∀k,c.S k->k<w.heap.size:=by obtain⟨_,_,_,_,_,_,h6,_⟩:=h;exact h6
 have hrow:dH s.rows:=by obtain⟨_,_,_,_,_,hk,_⟩:=h;exact KB.rows hk
 obtain⟨dk,xa,xb,xc,xn⟩:=x;simp only at jT qj H;subst jT qj;unfold aO.val;simp only;have HC:=al (ab hc (ab hB (ab Ay (ab gA (ab hrow (ab PZ (ab P4 P5)))))));have j1:(0:Int)<=(b:Int):=by omega
 have j2:(b:Int)<8:=by omega
 go_enter func106,ntmps106;go_upto_region 1 with fail;generalize w.alloc (.cells #[.int .i64 dk,.int .i64 (a:Int),.int .i64 (b:Int),.int .i64 xc,.int .i64 xn] 93)=w1 at H⊢;obtain⟨O,hO⟩:=qt (w.heap.size);rw[hO]at H⊢;have k0:=H.box;obtain⟨v,hv⟩:=qt (s.bI b);have z0:w1.cell? ⟨O,2,none⟩=some (.int .i64 (b:Int))/\w1.cell? ⟨c.M,18+b,none⟩=some (.int .i64 v):=⟨by simp[World.cell?,k0],hv▸H.bI hb⟩;have WZ:aK v:=hv▸gA b;have HK:=al (show ∀W,Below w1.heap.size w1 W->Calls prog 137 #[.int .i64 v] W fun e w'=>e=.returned (.string ⟨(Lib.itoa v).toArray⟩)/\Below W.heap.size W w' from fun W hW=>Cz W v WZ.i64 (by have hI:=H.mi.below hc KB.ok hW;obtain⟨_,_,_,_,_,hk,_⟩:=hI;exact KB.tab _ _ _ hk));have H1:=al H;have HR:=al (ab WZ hv);clear h k0 hO hc hB Ay gA H hrow PZ P4 P5 WZ hv;refine o0 (S:=(fun W=>Below w1.heap.size w1 W/\W.cell? ⟨O,2,none⟩=some (.int .i64 (b:Int))/\W.cell? ⟨c.M,18+b,none⟩=some (.int .i64 v))) (by kernel_rfl) ⟨(aw _ _).drew,z0⟩ (fun ph=>?_);refine aI [0,1,2,3,4,5,6] ?_
 iterate 7 (refine bO (v:=?_) (fun _ ⟨s0,s1,s2⟩=>?_) ph ?_;rotate_left;(go_simp;try rfl);try simp only[ai,aj,ak,ar])
 refine aJ ?_;refine aW 7 (fun K hK=>?_);go_simp;refine(HK.o _ ph.1).m ?_;rintro e wn ⟨rfl,aR⟩
 try go_simp
 refine hK.o _ _ (tF ph aR) ?_;clear hK K ph aR;intro ph
 try simp only[ai,aj,ak,ar]
 refine dR 8 (v:=?_) (fun wS hSw=>?_) ph ?_;rotate_left
 ·obtain⟨s0,s1,s2⟩:=hSw;go_simp;try rfl
 try simp only[ai,aj,ak,ar]
 refine pb (by kernel_rfl) ?_ _;have fg:=al ph.1;clear ph z0
 rename World=>w2
 have h2:=H1.o.mi.below HC.o.1 KB.ok fg.o;have k2:=pt fg.o H1.o.box;have ru:=H1.o.rC.x (fg.o.m H1.o.rC.size);obtain⟨k,hk⟩:=qt (Lib.itoa v);rw[hk];obtain⟨f2,hm2,_⟩:=id h2;obtain⟨ra,hra⟩:=qt (s.bI a);obtain⟨rb,BR⟩:=qt (s.bI (a+1));obtain⟨rc,hrc⟩:=qt (s.bI (a+2));obtain⟨rd,iB⟩:=qt (s.bI (a+3));have hrow:yx s.bI a=⟨ra,rb,rc,rd⟩:=by unfold yx;rw[hra,BR,hrc,iB]
 have z0:w2.cell? ⟨O,1,none⟩=some (.int .i64 (a:Int))/\w2.cell? ⟨c.M,18+a,none⟩=some (.int .i64 ra)/\w2.cell? ⟨c.M,18+a+1,none⟩=some (.int .i64 rb)/\w2.cell? ⟨c.M,18+a+2,none⟩=some (.int .i64 rc)/\w2.cell? ⟨c.M,18+a+3,none⟩=some (.int .i64 rd):=
  ⟨by simp[World.cell?,k2],hra▸hm2.bI (show a<8 by omega),by have:=hm2.bI (show a+1<8 by omega);simp only[RC.ms]at this;rw[BR]at this;exact this,by have:=hm2.bI (show a+2<8 by omega);simp only[RC.ms]at this;rw[hrc]at this;exact this,by have:=hm2.bI (show a+3<8 by omega);simp only[RC.ms]at this;rw[iB]at this;exact this⟩
 have i1:(0:Int)<=(a:Int):=by omega
 have i2:(a:Int)<=4:=by omega
 have H2:=al (ab h2 (ab ru (ab hk (ab k2 hrow))));clear h2 ru hm2 hk HK k2 hrow hra BR hrc iB;have hw:IntKind.i64.wrap ((a:Int)+4)=(a:Int)+4:=by rw[gr];omega
 have hsl:=fun W=>Tryz.Ir W c.M a ha;have har:=fun W A n=>Tryz.TC W A n;go_upto_region 2 with fail;refine o0 (S:=(fun W=>W.cell? ⟨O,1,none⟩=some (.int .i64 (a:Int))/\W.cell? ⟨c.M,18+a,none⟩=some (.int .i64 ra)/\W.cell? ⟨c.M,18+a+1,none⟩=some (.int .i64 rb)/\W.cell? ⟨c.M,18+a+2,none⟩=some (.int .i64 rc)/\W.cell? ⟨c.M,18+a+3,none⟩=some (.int .i64 rd))) (by kernel_rfl) z0 (fun ph=>?_);refine aI [0,1,2,3,4,5,6,7,8,9,10] ?_
 iterate 11 (refine bO (v:=?_) (fun _ ⟨s0,s1,s2,s3,s4⟩=>?_) ph ?_;rotate_left;(go_simp;try rfl);try simp only[ai,aj,ak,ar])
 refine aJ ?_;refine aW 11 (fun K hK=>?_);go_simp;refine hK.o _ _ (P6 ph _) ?_;clear hK K ph;intro ph
 try simp only[ai,aj,ak,ar]
 refine aW 12 (fun K hK=>?_);go_simp;refine hK.o _ _ (P6 z0 _) ?_;clear hK K ph;intro ph
 try simp only[ai,aj,ak,ar]
 refine pb (by kernel_rfl) ?_ _;clear ph z0 hsl har hw;have hbz:=(ae w2 (.cells #[.int .i64 ra,.int .i64 rb,.int .i64 rc,.int .i64 rd] 113)).drew;have kz:(w2.alloc (.cells #[.int .i64 ra,.int .i64 rb,.int .i64 rc,.int .i64 rd] 113)).drew.heap[w2.heap.size]?=_:=an w2 (.cells #[.int .i64 ra,.int .i64 rb,.int .i64 rc,.int .i64 rd] 113);generalize (w2.alloc (.cells #[.int .i64 ra,.int .i64 rb,.int .i64 rc,.int .i64 rd] 113)).drew=w3 at hbz kz⊢;obtain⟨V,hV⟩:=qt (w2.heap.size);rw[hV]at kz⊢;go_upto_region 3 with fail;have h3:=H2.o.1.below HC.o.1 KB.ok hbz;have xY:=H2.o.2.1.x (hbz.m H2.o.2.1.size);have XU: ¬V=c.M:=fun e=>by obtain⟨_,hm,_⟩:=H2.o.1;have:=hm.lt;omega
 obtain⟨f3,EP,_,_,_,hkb,_⟩:=id h3;obtain⟨⟨y0,y1,y2,y3⟩,-⟩:=cL kz;have z0:w3.cell? ⟨c.M,26,none⟩=some (.pointer (some ⟨B,0,none⟩))/\w3.cell? ⟨V,0,none⟩=some (.int .i64 ra)/\w3.cell? ⟨V,1,none⟩=some (.int .i64 rb)/\w3.cell? ⟨V,2,none⟩=some (.int .i64 rc)/\w3.cell? ⟨V,3,none⟩=some (.int .i64 rd):=⟨by have:=EP.b;simp only[RC.ms]at this;rw[HC.o.2.1]at this;exact this,y0,y1,y2,y3⟩;have hkl:1<=k.length/\k.length<=16:=H2.o.d.1▸ij HR.o.1;have Av: ∀c,aK ((Rw.mk ra rb rc rd).aM c):=fun c=>by rw[<-H2.o.q];exact LW HC.o.t.1 a c
 have Fm:=al (show ∀W,Below w3.heap.size w3 W->Calls prog 138 #[.int .i64 9,.pointer (some ⟨B,0,none⟩),.string ⟨k.toArray⟩,.agg #[.int .i64 ra,.int .i64 rb,.int .i64 rc,.int .i64 rd]] W (VW (gY k (au k s.rows) (some ⟨ra,rb,rc,rd⟩)) W)from fun W hW=>by
  have hI:=h3.below HC.o.1 KB.ok hW;obtain⟨_,_,_,_,_,hk,_⟩:=hI
  exact KB.PW hk hkl 9 ⟨ra,rb,rc,rd⟩ (some ⟨ra,rb,rc,rd⟩) (.inl ⟨rfl,rfl⟩))
 have hgd:=yC HR.o.1 (old:=au k s.rows) (now:=some ⟨ra,rb,rc,rd⟩) (fun r hr c=>by have:=(aD HC.o.q.1.1).1 hr;exact(HC.o.q.1.2 _ this).2 c) (fun r hr c=>by injection hr with hr;subst hr;exact Av c);rw[H2.o.d.1]at hgd;have H3:=al (ab h3 (ab xY (ab hgd (ab kz (ab XU Av)))));clear hbz kz hV h3 xY XU EP hkb hkl hgd Av y0 y1 y2 y3;refine o0 (S:=(fun W=>Below w3.heap.size w3 W/\W.cell? ⟨c.M,26,none⟩=some (.pointer (some ⟨B,0,none⟩))/\W.cell? ⟨V,0,none⟩=some (.int .i64 ra)/\W.cell? ⟨V,1,none⟩=some (.int .i64 rb)/\W.cell? ⟨V,2,none⟩=some (.int .i64 rc)/\W.cell? ⟨V,3,none⟩=some (.int .i64 rd))) (by kernel_rfl) ⟨(aw _ _).drew,z0⟩ (fun ph=>?_);refine aI [0,1,2,3,4,5] ?_
 iterate 6 (refine bO (v:=?_) (fun _ ⟨s0,s1,s2,s3,s4,s5⟩=>?_) ph ?_;rotate_left;(go_simp;try rfl);try simp only[ai,aj,ak,ar])
 refine aJ ?_;refine aW 6 (fun K hK=>?_);go_simp;refine(Fm.o _ ph.1).m ?_;rintro e wn ⟨cv,rfl,hown,aR⟩;have HO:=al (dM (base':=w.heap.size) hown (fun g hg=>da (da H3.o.2.1.size ph.1.size) (hown.lt g hg).1));clear hown
 try go_simp
 refine hK.o _ _ (W6 ph aR) ?_;clear hK K ph aR;intro ph
 try simp only[ai,aj,ak,ar]
 refine aI [7,8,9,10,11] ?_
 iterate 5 (refine bO (v:=?_) (fun _ ⟨s0,s1,s2,s3,s4,s5⟩=>?_) ph ?_;rotate_left;(go_simp;try rfl);try simp only[ai,aj,ak,ar])
 refine aJ ?_;refine pb (by kernel_rfl) ?_ _;have FQ:=al ph.1;clear ph z0
 rename World=>w4
 have h4:=H3.o.1.below HC.o.1 KB.ok FQ.o;have hcl:=PX (F:=fun k=> ¬c.S k) HO.o rfl (fun k hk hs=>by have h1:=HC.o.d.1 k hs;omega);have CI:=al (mQ HC.o.1 KB.ok h4 _ _ hcl (by have:=Bo k (au k s.rows) (some ⟨ra,rb,rc,rd⟩);omega) H3.o.d.1);obtain⟨cl',n,hp⟩: ∃u v',bC c.ok s.cl (gY k (au k s.rows) (some ⟨ra,rb,rc,rd⟩))=(u,v'):=⟨_,_,rfl⟩;rw[hp]at CI;have hq:=P7 (x:=⟨dk,a,b,xc,xn⟩) (cl':=cl') (n:=n) most c.ok s rfl rfl HR.o.2 H2.o.q (by rw[H2.o.d.1];exact hp);rw[H2.o.d.1]at hq;have HQ:=al hq;have H4:=al (ab (H3.o.2.1.x (FQ.o.m H3.o.2.1.size)) (pt FQ.o H3.o.t.1));clear h4 hcl hp hq Fm;go_wp2_with fail;refine CI.o.m ?_;rintro e w5 ⟨rfl,XV,jr⟩;have iA:Only c.W w w5:=(oj H4.o.1 c.W).x (jr.zt HC.o.1) (fun _ _ h=>h);by_cases hn:n=0
 ·subst hn;have HP:=al (HQ.o.x (fi rfl));have k5:=jr.heap H4.o.2 H3.o.q.1;have H5:=al (ab XV iA);obtain⟨f5,oq,_,_,_,hkb,hsz,_⟩:=id XV;obtain⟨⟨y0,y1,y2,y3⟩,-⟩:=cL k5;have z0:w5.cell? ⟨c.M,26,none⟩=some (.pointer (some ⟨B,0,none⟩))/\w5.cell? ⟨V,0,none⟩=some (.int .i64 ra)/\w5.cell? ⟨V,1,none⟩=some (.int .i64 rb)/\w5.cell? ⟨V,2,none⟩=some (.int .i64 rc)/\w5.cell? ⟨V,3,none⟩=some (.int .i64 rd):=⟨by have:=oq.b;simp only[RC.ms]at this;rw[HC.o.2.1]at this;exact this,y0,y1,y2,y3⟩
  have HPt:=al (show Calls prog 140 #[.pointer (some ⟨B,0,none⟩),.string ⟨k.toArray⟩,.agg #[.int .i64 ra,.int .i64 rb,.int .i64 rc,.int .i64 rd]] w5.drew (JU B T o m most l c.Z s.rows w5.drew k ⟨ra,rb,rc,rd⟩)from by
   have hI:=XV.drew HC.o.1 KB.ok;obtain⟨_,_,_,_,_,hk,hsz,_⟩:=hI;have:=KB.put hk (fun k hk=>hsz k (HC.o.1.Wu k hk)) HR.o.1 H3.o.q.2;rw[H2.o.d.1]at this
   exact this)
  clear oq hkb hsz XV iA jr HQ CI k5 y0 y1 y2 y3;go_upto_region 9 with fail
  go_still_tail 6,(by kernel_rfl)
  change wpList _ _ _ _ _ w5.drew;go_wp2_with fail;refine HPt.o.m ?_;intro e w6 he;unfold JU at he;by_cases hf:au k s.rows=none/\most<=(s.rows.length:Int)
  ·rw[fi hf]at he;obtain⟨rfl,fC⟩:=he;have HF:=al (ab hf fC);clear hf fC HPt;go_wp2_with fail;go_ret
   rw[HP.o,fi HF.o.1];exact⟨rfl,(H5.o.1.drew HC.o.1 KB.ok).below HC.o.1 KB.ok HF.o.2,H5.o.2.x (oj ((aw _ _).drew.x (HF.o.2.m (aE _))) c.W) (fun _ _ h=>h)⟩
  ·rw[ff hf]at he;obtain⟨rfl,hk6,fe⟩:=he;have HF:=al (ab hf (ab hk6 fe));clear hf hk6 fe HPt;go_wp2_with fail;go_ret
   rw[HP.o,ff HF.o.1];refine⟨rfl,(H5.o.1.drew HC.o.1 KB.ok).rows HC.o.q.2.1 HC.o.q.t HF.o.d HF.o.2.1,?_⟩;exact(H5.o.2.x (oj ((aw w5.heap.size w5).drew) c.W) (fun _ _ h=>h)).x (HF.o.d.m (fun k _ e=>e▸HC.o.q.d.1)) (fun _ _ h=>h)
 ·have oC:(n==0)=false:=by simpa using hn
  have HP:=al (HQ.o.x (ff hn));have H5:=al (ab XV iA);clear hn HQ CI jr iA XV;go_wp2_with fail;go_ret
  rw[HP.o];exact⟨rfl,H5.o.1,H5.o.2⟩
end
section
variable{c:RC}{B T o m:Nat}{most:Int}{l:ax}
theorem vU{x:aO}(hr:cw x=true){i:Nat}(hi:i<4)(hf:ji x.d i=true)(h0:tv x.d i=0){n:Nat}(hn:rN x.d i=(n:Int)):(x.mh i).toNat<=n/\x.mh i=((x.mh i).toNat:Int):=by have:=jZ hr hi hf;rw[h0,hn]at this;omega
theorem TE(hc:c.Fit)(hB:c.b=.pointer (some ⟨B,0,none⟩))(PZ:c.S m)(P4:c.W m)(P5:m≠c.M)(x:aO)(hr:cw x=true)(hd:1<=x.d/\x.d<=15)(tG:x.d≠14){w:World}{s:PS ax}(hpc:s.pc<=100)(h:MI c (KB B T o m most l) w s):
  Calls prog (Cy x.d.toNat) #[.pointer (some ⟨c.M,0,none⟩),x.val] w (ly c (KB B T o m most l) (zA most c.ok x s) w):=by
 have hK:=KB.ok (B:=B) (T:=T) (o:=o) (m:=m) (most:=most) (l:=l);have acT:0<=s.pc:=by obtain⟨_,_,_,_,_,_,_,h7⟩:=h;exact h7.2.2.1
 have hG:EN c.b (KB B T o m most l) (fun r k=>au k r):=by rw[hB];exact KB.get
 have ra:=fun(hf:ji x.d 0=true) (n:Nat) (hn:rN x.d 0=(n:Int))=>vU hr (i:=0) (by decide) hf (by unfold tv;simp) hn;have rb:=fun(hf:ji x.d 1=true) (n:Nat) (hn:rN x.d 1=(n:Int))=>vU hr (i:=1) (by decide) hf (by unfold tv;simp) hn;have rc:=fun(hf:ji x.d 2=true) (h1:x.d≠1) (n:Nat) (hn:rN x.d 2=(n:Int))=>vU hr (i:=2) (by decide) hf (by unfold tv;simp[h1]) hn;have rn:=fun(hf:ji x.d 3=true) (n:Nat) (hn:rN x.d 3=(n:Int))=>vU hr (i:=3) (by decide) hf (by unfold tv;simp) hn;simp only[aO.mh]at ra rb rc rn;obtain⟨d,hdd⟩: ∃d:Nat,x.d=(d:Int):=⟨x.d.toNat,by omega⟩;have hdc:x.d=1\/x.d=2\/x.d=3\/x.d=4\/x.d=5\/x.d=6\/x.d=7\/x.d=8\/x.d=9\/x.d=10\/x.d=11\/x.d=12\/x.d=13\/x.d=15:=by omega
 unfold zA;rcases hdc with e|e|e|e|e|e|e|e|e|e|e|e|e|e
 ·have h1:=ra (by rw[e];rfl) 7 (by rw[e];rfl);have h3:=jZ hr (i:=2) (by decide) (by rw[e];rfl);rw[e]at h3;rw[e];exact S3 hc hK h x x.a.toNat (by simp at h1;omega) (by simp at h1;omega) h3
 ·have h1:=ra (by rw[e];rfl) 7 (by rw[e];rfl);have h2:=rb (by rw[e];rfl) 7 (by rw[e];rfl);rw[e];exact PH hc hK h x x.a.toNat x.b.toNat (by simp at h1;omega) (by simp at h2;omega) (by simp at h1;omega) (by simp at h2;omega)
 ·have h1:=ra (by rw[e];rfl) 7 (by rw[e];rfl);have h2:=rb (by rw[e];rfl) 7 (by rw[e];rfl);rw[e];exact Tk hc hK h x x.a.toNat x.b.toNat (by simp at h1;omega) (by simp at h2;omega) (by simp at h1;omega) (by simp at h2;omega)
 ·have h1:=ra (by rw[e];rfl) 7 (by rw[e];rfl);have h2:=rb (by rw[e];rfl) 7 (by rw[e];rfl);rw[e];exact Tp hc hK h x x.a.toNat x.b.toNat (by simp at h1;omega) (by simp at h2;omega) (by simp at h1;omega) (by simp at h2;omega)
 ·have h1:=ra (by rw[e];rfl) 7 (by rw[e];rfl);have h2:=rb (by rw[e];rfl) 7 (by rw[e];rfl);rw[e];exact Tm hc hK h x x.a.toNat x.b.toNat (by simp at h1;omega) (by simp at h2;omega) (by simp at h1;omega) (by simp at h2;omega)
 ·have h1:=ra (by rw[e];rfl) 7 (by rw[e];rfl);have h2:=rb (by rw[e];rfl) 7 (by rw[e];rfl);rw[e];exact PK hc hK h x x.a.toNat x.b.toNat (by simp at h1;omega) (by simp at h2;omega) (by simp at h1;omega) (by simp at h2;omega)
 ·have h1:=ra (by rw[e];rfl) 7 (by rw[e];rfl);have h2:=rb (by rw[e];rfl) 7 (by rw[e];rfl);rw[e];exact S4 hc hK KB.tab hG h x x.a.toNat x.b.toNat (by simp at h1;omega) (by simp at h2;omega) (by simp at h1;omega) (by simp at h2;omega)
 ·have h1:=ra (by rw[e];rfl) 7 (by rw[e];rfl);have h2:=rb (by rw[e];rfl) 7 (by rw[e];rfl);have h3:=rc (by rw[e];rfl) (by rw[e];decide) 3 (by rw[e];rfl);rw[e];exact Tx hc hK KB.tab hG h x x.a.toNat x.b.toNat x.c.toNat (by simp at h1;omega) (by simp at h2;omega) (by simp at h3;omega) (by simp at h1;omega) (by simp at h2;omega) (by simp at h3;omega)
 ·have h1:=ra (by rw[e];rfl) 4 (by rw[e];rfl);have h2:=rb (by rw[e];rfl) 7 (by rw[e];rfl);rw[e];exact TD hc hB PZ P4 P5 h x x.a.toNat x.b.toNat (by simp at h1;omega) (by simp at h2;omega) (by simp at h1;omega) (by simp at h2;omega)
 ·have h2:=rb (by rw[e];rfl) 7 (by rw[e];rfl);rw[e];exact TB hc hB PZ P4 P5 h x x.b.toNat (by simp at h2;omega) (by simp at h2;omega)
 ·have h1:=ra (by rw[e];rfl) 7 (by rw[e];rfl);have h2:=rb (by rw[e];rfl) 7 (by rw[e];rfl);have h3:=rc (by rw[e];rfl) (by rw[e];decide) 3 (by rw[e];rfl);rw[e];exact PU hc hB h x x.a.toNat x.b.toNat x.c.toNat (by simp at h1;omega) (by simp at h2;omega) (by simp at h3;omega) (by simp at h1;omega) (by simp at h2;omega) (by simp at h3;omega)
 ·have h1:=ra (by rw[e];rfl) 7 (by rw[e];rfl);have h2:=rb (by rw[e];rfl) 7 (by rw[e];rfl);have h3:=rc (by rw[e];rfl) (by rw[e];decide) 3 (by rw[e];rfl);have h4:=jZ hr (i:=3) (by decide) (by rw[e];rfl);rw[e]at h4;rw[e];exact L6 hc hB h x x.a.toNat x.b.toNat x.c.toNat (by simp at h1;omega) (by simp at h2;omega) (by simp at h3;omega) (by simp at h1;omega) (by simp at h2;omega) (by simp at h3;omega) h4
 ·have h1:=ra (by rw[e];rfl) 7 (by rw[e];rfl);have h4:=jZ hr (i:=3) (by decide) (by rw[e];rfl);rw[e]at h4;have h5:0<=x.n/\x.n<=64:=h4;rw[e];exact PL hc hK h x x.a.toNat (by simp at h1;omega) (by simp at h1;omega) ⟨h5.1,by omega⟩
 ·have h1:=ra (by rw[e];rfl) 7 (by rw[e];rfl);rw[e];exact L5 hc hK h x x.a.toNat (by simp at h1;omega) (by simp at h1;omega)
theorem TF(most:Int)(ok:Cl->Bool)(x:aO)(s:PS ax)(hn:x.d=13->0<=x.n):s.pc<=(zA most ok x s).1.pc:=by
 by_cases h:x.d.toNat=13
 ·have e:(zA most ok x s).1.pc=if s.bI x.a.toNat=0 then s.pc+x.n else s.pc:=by
   unfold zA;rw[h];rfl
  have:=hn (by omega);rw[e];split<;>omega
 ·rw[Tf most ok x s h];exact eL _
theorem JV(hc:c.Fit)(hB:c.b=.pointer (some ⟨B,0,none⟩))(PZ:c.S m)(P4:c.W m)(P5:m≠c.M)(he:opsE c.ops=0): ∀(d fr tt:Nat),Ij c.ops fr tt->tt<=c.ops.length->tt-fr<=d->yo c (KB B T o m most l) (CD most c.fuel c.ok c.ops d) fr tt
 |0,fr,tt,_,_,hd,i,x,h1,h2,hx=>by omega
 |d+1,fr,tt,hcl,ht,hd,i,x,h1,h2,hx=>by
  obtain⟨hlen,hfo,hra,-⟩:=p8 he;have hn:=JS he;have Uk:=de hx;have hr:=hra x Uk;have hdd:=PB (hfo x Uk);refine⟨hdd,fun s hs=>?_⟩;by_cases tG:x.d=14
  ·have hh:=Ik tG;have hend:=hcl i x h1 h2 hx hh;have hn0:=(hn i x hx hh).1
   have CA: ∀s,CD most c.fuel c.ok c.ops (d+1) x s=pC c.fuel c.ops (CD most c.fuel c.ok c.ops d) x s:=fun s=>by rw[CD];simp only;rw[fi tG]
   have hcr:=jZ hr (i:=2) (by decide) (by rw[tG];rfl);rw[tG]at hcr;have acU:0<=x.c/\x.c<=16:=hcr;rw[CA];refine⟨fun w h=>?_,fun h0=>?_⟩
   ·rw[show Cy x.d.toNat=Cy 14 by rw[tG];rfl];exact PN hc KB.ok h x (i+1) x.n.toNat x.c.toNat (by rw[hs];push_cast;rfl) (by omega) (by omega) (by omega) (by omega) (JV hc hB PZ P4 P5 he d (i+1) (i+1+x.n.toNat) (hn.body hx hh) (by omega) (by omega))
   ·unfold pC at h0⊢;simp only at h0⊢;split at h0
    ·rename_i e;rw[fi e];show s.pc<=s.pc+x.n;omega
    ·rename_i e;exact absurd h0 e
  ·have CA: ∀s,CD most c.fuel c.ok c.ops (d+1) x s=zA most c.ok x s:=fun s=>by
    rw[CD];simp only;rw[ff tG]
   rw[CA];refine⟨fun w h=>TE hc hB PZ P4 P5 x hr hdd tG (by rw[hs];omega) h,fun _=>TF most c.ok x s fun ve=>(hn i x hx (Il ve)).1⟩
theorem L9{w:World}{F:Nat->Prop}(ops:List aO)(opsV mU:Value)(args:List Int)(fuel:Int)(may:Value)(ok:Cl->Bool)(r0:ax)
  (lh:gu w (fun k=> ¬k=m) opsV ops) (he:opsE ops=0) (hs:gS w) (hargs:Rd w F mU (args.map (Value.int .i64))) (hal:args.length<=8) (har: ∀n∈args,-1099511627776<=n/\n<=1099511627776)
  (lj:0<=fuel/\fuel<=10000) (tW:ym w (fun k=>k=m) may ok) (hK0:KB B T o m most l (fun _=>False) r0 w):
  Calls prog 47 #[opsV,mU,.pointer (some ⟨B,0,none⟩),.int .i64 fuel,may] w (WN (KB B T o m most l) (fun k=>k=m) (vw most fuel ok ops args r0) w):=by
 have hm:m<w.heap.size:=by obtain⟨_,_,_,_,_,h1,_⟩:=hK0;exact h1.map.lt
 refine WO (act:=CD most fuel ok ops ops.length) w ops opsV mU args B fuel may ok r0 lh he hs hargs hal har lj tW hK0 KB.ok (fun k hk=>by omega) (fun c hc h1 h2 h3 _ h5 h6 h7 _=>?_);subst h1;subst h3;subst h5;exact JV hc h2 (hc.sub _ (h7 m rfl)) (h7 m rfl) (fun e=>by have:=hc.low;omega) he c.ops.length 0 c.ops.length (JS he).whole (aE _) (by omega)
end
section
open Go.RowKit Go.Maps
theorem KB.new{w w':World}{B T o:Nat}{most:Int}{l:ax}{FT:Nat->Nat->Prop}(h:ig w' B T most o l [] FT (fun b=>w.heap.size<=b))(hb:Below w.heap.size w w')(hF: ∀b q,FT b q->b<w.heap.size)(hok:dH l)(ht:gh w)(he:oJ w):
  ∃m,w.heap.size<=m/\KB B T o m most l (fun _=>False) l w':=by
 obtain⟨m,n,g,FR,h1,h2,h3,h4⟩:=h;refine⟨m,h3,[],FT,n,g,FR,h1,rfl,hok,h1.tab.len,fun q hq=>by simp at hq,ht.below hb,⟨fun h=>h,fun h=>h,fun h=>h,fun _ _ h=>h,fun _ _ _ h=>h⟩,fun b q hq=>cq (hF b q hq) hb.size,he.below hb,fun _ _ h=>h,fun e=>?_,fun k hk e=>?_⟩
 ·have:=ht.lt;omega
 ·have:=he.lt k hk;omega
end
section
open Go.RowKit Go.Maps
theorem P8{w:World}{F:Nat->Prop}{v:Value}{l:List Cl}{R0:Nat}{a b d:Int}{A:Option Addr}{n c:Nat}{t:TypeId}(h:eG w F v l)(hr:w.heap[R0]?=some (.cells #[.int .i64 a,.int .i64 b,.slice A n c,.int .i64 d] t (0,0))):eG w (fun k=>F k/\k≠R0) v l:=by
 obtain⟨A',n',c',h1,h2,h3,h4,h5⟩:=h;refine⟨A',n',c',h1,h2,h3,h4,fun h0=>?_⟩;obtain⟨b',o,e1,e2,e3⟩:=h5 h0;refine⟨b',o,e1,⟨e2,fun e=>?_⟩,e3⟩;subst e;obtain⟨x,hx⟩: ∃x,l[0]?=some x:=⟨_,ao (by simp at h2;omega)⟩;have h6:=e3 0 x.cells (by simp[hx]) 0 (.bool x.wr) rfl;rw[World.cell?,hr]at h6
 match o with
 |0=>simp at h6
 |1=>simp at h6
 |2=>simp at h6
 |3=>simp at h6
 |o+4=>simp at h6
end
section
open Go.RowKit Go.Maps
def CJ(p:PS ax×Int):Int:=if p.2=0 then p.1.bI 0 else p.1.value
def ab5(p:PS ax×Int)(w:World)(e:Ending)(w':World):Prop:=
 ∃f,e=.returned (.tuple #[.agg #[.int .i64 (CJ p),.int .i64 p.1.steps,f,.int .i64 p.2],.int .i64 0])/\eG w' (fun _=>True) f (aX p.1.cl)/\(aX p.1.cl).length<=64/\Good p.1.cl/\Below w.heap.size w w'
theorem Fe{w:World}{B T o m:Nat}{most:Int}{l r:ax}{Z:Nat->Prop}(h:KB B T o m most l Z r w):Calls prog 48 #[.pointer (some ⟨B,0,none⟩)] w fun e w'=>e=.returned (.tuple #[])/\Only (fun k=>k=m) w w':=by
 obtain⟨wl,FT,n,g,FR,h1,-⟩:=h;have c1:w.cell? ⟨B,1,none⟩=some (.map (some m)):=by simp[World.cell?,h1.blk]
 obtain⟨w1,hrun,jo,jq⟩:=h1.map.clear underlying166 0;have H1:=al jq;clear h1 jo jq;go_enter func48,ntmps48;go_wp2;exact eC (du rfl _ _ _) rfl ⟨rfl,H1.o⟩
theorem Iu{w:World}{F G:Nat->Prop}{T o:Nat}{most:Int}{l:ax}{FT:Nat->Nat->Prop}(ops:List aO)(opsV mU:Value)(args:List Int)(fuel:Int)
  (lh:gu w G opsV ops) (hG: ∀k,G k->k<w.heap.size) (he:opsE ops=0) (hs:gS w) (hargs:Rd w F mU (args.map (Value.int .i64))) (hal:args.length<=8) (har: ∀n∈args,-1099511627776<=n/\n<=1099511627776)
  (lj:0<=fuel/\fuel<=10000) (ht:cd w T most o l FT) (hF: ∀b q,FT b q->b<w.heap.size) (hok:dH l) (h10:gh w) (hE:oJ w):
  Calls prog 27 #[opsV,mU,.pointer (some ⟨T,0,none⟩),.int .i64 fuel] w (ab5 (vw most fuel (fun _=>true) ops args l) w):=by
 obtain⟨hb,k0⟩:=qn w (.cells #[.int .i64 0,.int .i64 0,.slice none 0 0,.int .i64 0] 50);have HB:=al (ab hb k0);have HH:=al (ab lh (ab hG (ab he (ab hs (ab hargs (ab hal (ab har (ab lj (ab ht (ab hF (ab hok (ab h10 hE))))))))))));clear lh hG he hs hargs hal har lj ht hF hok h10 hE hb k0;go_enter func27,ntmps27;go_upto_region 1 with fail;generalize w.alloc (.cells #[.int .i64 0,.int .i64 0,.slice none 0 0,.int .i64 0] 50)=w1 at HB⊢;obtain⟨C,hC⟩:=qt (w.heap.size);have hCl:C<w1.heap.size:=by have:=(bd.1 HB.o.2).1;omega
 have HC:=al (ab hC hCl);clear hCl;rw[hC];clear hC;have HN:=al (GM w1 T o most l FT (HH.o.q.q.1.below HB.o.1) (fun b q hq=>cq (HH.o.q.q.2.1 b q hq) HB.o.1.size));go_wp2_with fail;refine HN.o.m ?_;rintro e w2 ⟨B,rfl,hB,hb2⟩;obtain⟨lh,hG,he,hs,hargs,hal,har,lj,ht,hF,hok,h10,hE⟩:=HH.o;have ru:=HB.o.1.x (hb2.m HB.o.1.size);obtain⟨m,hm,hkb⟩:=KB.new hB hb2 (fun b q hq=>cq (hF b q hq) HB.o.1.size) hok (h10.below HB.o.1) (hE.below HB.o.1);have hmw:w.heap.size<=m:=da HB.o.1.size hm;have HR:=al (L9 ops opsV mU args fuel (.pointer none) (fun _=>true) l (aS.m (aS.below lh ru) (fun k hk e=>by have:=hG k hk;omega)) he (hs.below ru) (hargs.below ru) hal har lj (.inl ⟨rfl,fun _=>rfl⟩) hkb);have H2:=al (ab ru (ab hb2 (ab hm hmw)));clear lh hG he hs hargs hal har lj ht hF hok h10 hE ru hkb hm hmw hB hb2 HN HH;go_wp2_with fail;refine HR.o.m ?_;rintro e w3 ⟨f,rfl,hf,hfl,sN,hk3,rA⟩;obtain⟨A,c,rfl,hn,hc⟩:=hf.slice;obtain⟨p,hp⟩:=qt (vw most fuel (fun _=>true) ops args l);rw[hp]at hf hfl sN hk3⊢;obtain⟨v1,hv1⟩:=qt (CJ p);rw[show(if p.2=0 then p.1.bI 0 else p.1.value)=v1 from hv1];obtain⟨e1,yg⟩:=qt (p.2);obtain⟨s1,hs1⟩:=qt (p.1.steps);obtain⟨L,hL⟩:=qt ((aX p.1.cl).length);rw[yg,hs1,hL];rw[hL]at hf;have yK:=al (ab hf (ab hfl (ab sN (ab hp (ab hv1 (ab yg (ab hs1 hL)))))));have XW:=al (ab hk3 rA);clear hf hfl sN hk3 rA hp hv1 yg hs1 hL HR hn hc;go_wp2_with fail;obtain⟨ek,kx⟩:=qn w3 (.cells #[.int .i64 v1,.int .i64 s1,.slice A L c,.int .i64 e1] 50);obtain⟨D,hD⟩:=qt (w3.heap.size);rw[hD]at kx⊢;generalize w3.alloc (.cells #[.int .i64 v1,.int .i64 s1,.slice A L c,.int .i64 e1] 50)=w4 at ek kx⊢;have hk4:=KB.ok.only _ _ _ _ _ (fun _ h=>h.elim) XW.o.1 (pw ek);have kC:=pt ek (XW.o.2.heap (pt H2.o.2.1 HB.o.2) (fun e=>by have:=H2.o.d.1;have:=HC.o.2;have:=HC.o.1;omega));rw[HC.o.1]at kC;have aaH:Below w.heap.size w w4:=(H2.o.1.x (XW.o.2.aG H2.o.1.size (fun k hk e=>by have:=H2.o.t;omega))).x (ek.m (da H2.o.1.size XW.o.2.size));have HX:=al (ab kC (ab kx (ab (aS.below yK.o.1 ek) (ab aaH (show m<D by have:=XW.o.2.size;obtain⟨_,_,_,_,_,h1,_⟩:=XW.o.1;have:=h1.map.lt;omega)))));clear ek kx hD kC aaH;refine(Fe hk4).m ?_;rintro e w5 ⟨rfl,jr⟩;have kC:=jr.heap HX.o.1 (fun e=>by have:=H2.o.d.1;have:=HC.o.2;omega);have kD:=jr.heap HX.o.2.1 (fun e=>by have:=HX.o.q;omega);obtain⟨⟨y0,y1,y2,y3⟩,z0,z1,z2,z3⟩:=cL kC;obtain⟨⟨x0,x1,x2,x3⟩,-⟩:=cL kD;have K5:=al (ab kC jr);clear kC kD jr hk4;go_wp2_with fail;have hp:=b6 (v0:=.int .i64 v1) (v1:=.int .i64 s1) (v2:=.slice A L c) (v3:=.int .i64 e1) K5.o.1;have h5:=HX.o.t.1.x (K5.o.2.aG HX.o.t.1.size (fun k hk e=>by have:=H2.o.t;omega));refine dr (aB rfl _ _ _ _ _ _ _ rfl hp.1 underlying50 rfl (by kernel_rfl)) rfl ⟨.slice A L c,?_,?_,?_,?_,?_⟩
 ·rw[yK.o.t.1,yK.o.q.1,yK.o.q.2.1,yK.o.q.d.1];rfl
 ·rw[yK.o.t.1];have q0:=P8 HX.o.d.1 HX.o.1;exact aS.m (aS.only (aS.only q0 K5.o.2 (fun k hk=>hk.1)) hp.2 (fun k hk=>hk.2)) (fun _ _=>trivial)
 ·rw[yK.o.t.1];exact yK.o.2.1
 ·rw[yK.o.t.1];exact yK.o.d.1
 ·exact h5.x (hp.2.aG h5.size (fun k hk e=>by have:=HC.o.1;omega))
end
end Go.Proofs.YtmkofmeojbcakaaGreatDoor
