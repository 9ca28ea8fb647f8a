import Derived.Test.YtagemonojdgbdaaGreatDoorF20
import Derived.Test.YtagemonojdgbdaaGreatDoorF22
import Derived.Test.YtagemonojdgbdaaGreatDoorF27
namespace Go.Proofs.YtagemonojdgbdaaGreatDoor
set_option maxRecDepth 100000
set_option maxHeartbeats 16000000
open Go.RowKit
theorem tq{k:List UInt8}(h:1<=k.length/\k.length<=16):cQ k=0:=by unfold cQ;rw[ff (by omega)]
theorem mz(w:World)(T a:Nat)(h:w.cell? ⟨T,1,none⟩=some (lh a)):Calls Tryz.prog 61 #[.pointer (some ⟨T,0,none⟩)] w fun e w'=>e=.returned (lh a)/\w=w':=by
 unfold lh at h⊢;go_enter Tryz.func61,Tryz.ntmps61;go_wp2_with fail;go_ret
 exact⟨rfl,rfl⟩
theorem si(w:World)(T a c:Nat)(hc:c<4)(h:w.cell? ⟨T,c+1+1,none⟩=some (lh a)):Calls Tryz.prog 97 #[.pointer (some ⟨T,0,none⟩),.int .i64 (c:Int)] w fun e w'=>e=.returned (lh a)/\w=w':=by
 unfold lh at h⊢;rw[show c+1+1=1+(c+1) by omega]at h;have h0:(1:Int)+(c:Int)=((c+1:Nat):Int):=by omega
 have i1:(0:Int)<=((c+1:Nat):Int):=by omega
 have i2:((c+1:Nat):Int)<5:=by omega
 generalize c+1=d at h h0 i1 i2;go_enter Tryz.func97,Tryz.ntmps97;go_wp2_with fail;go_ret
 exact⟨rfl,rfl⟩
theorem sj(w:World)(T:Nat)(k:List UInt8):Calls Tryz.prog 58 #[.pointer (some ⟨T,0,none⟩),.string ⟨k.toArray⟩] w fun e w'=>e=.returned (.int .i64 (cQ k))/\w=w':=by
 have HC:=al (dm w k);go_enter Tryz.func58,Tryz.ntmps58;go_wp2_with fail;refine HC.out.mono ?_;rintro e w1 ⟨rfl,rfl⟩;go_wp2_with fail;go_ret
 exact⟨rfl,rfl⟩
theorem EN(w:World)(T o:Nat)(most:Int)(t:Nat->Nat)(ls:Nat->List Pr)(Fs:Nat->Nat->Nat->Prop)(h:gS w T most o t ls Fs):Calls Tryz.prog 60 #[.pointer (some ⟨T,0,none⟩)] w fun e w'=>e=.returned (.int .i64 (ls 0).length)/\w=w':=by
 have HC:=al (ab (mz w T (t 0) (h.ci (by decide))) (El w (t 0) o (ls 0) (Fs 0) (h.tree 0 (by decide))));clear h;go_enter Tryz.func60,Tryz.ntmps60;go_wp2_with fail;refine HC.out.1.mono ?_;rintro e w1 ⟨rfl,rfl⟩;unfold lh;go_wp2_with fail;refine HC.out.2.mono ?_;rintro e w1 ⟨rfl,rfl⟩;go_wp2_with fail;go_ret
 exact⟨rfl,rfl⟩
theorem rE(w:World)(T o:Nat)(most:Int)(l:av)(F:Nat->Nat->Prop)(h:cE w T most o l F):Calls Tryz.prog 60 #[.pointer (some ⟨T,0,none⟩)] w fun e w'=>e=.returned (.int .i64 l.length)/\w=w':=by obtain⟨t,Fs,h1,h2,h3,_⟩:=h;have:=EN w T o most t _ Fs h1;rw[jT h2 h3]at this;exact this
theorem EO(w:World)(T o:Nat)(most:Int)(l:av)(F:Nat->Nat->Prop)(h:cE w T most o l F):Calls Tryz.prog 179 #[.pointer (some ⟨T,0,none⟩)] w fun e w'=>e=.returned (.int .i64 most)/\w=w':=by
 obtain⟨t,Fs,h1,_⟩:=h;have c0:=h1.c0;clear h1;go_enter Tryz.func179,Tryz.ntmps179;go_wp2_with fail;go_ret
 exact⟨rfl,rfl⟩
def Zx(w w':World)(v:Value)(r:Option Rw):Prop:=sI w' v r/\ ∀b,v=.pointer (some ⟨b,0,none⟩)->w.heap.size<=b
def V8(r:Option Rw)(w:World)(e:Ending)(w':World):Prop:= ∃v,e=.returned v/\Zx w w' v r/\Below w.heap.size w w'
theorem look_ok(w:World)(T o:Nat)(most:Int)(l:av)(F:Nat->Nat->Prop)(k:List UInt8)(h:cE w T most o l F)(hk:1<=k.length/\k.length<=16):
  Calls Tryz.prog 59 #[.pointer (some ⟨T,0,none⟩),.string ⟨k.toArray⟩] w (V8 (au k l) w):=by
 obtain⟨t,Fs,h1,h2,h3,_⟩:=h;have hG:=Ek w (t 0) o (gQ l 0) (Fs 0) k (h1.tree 0 (by decide)) hk.1 (by omega);have hl:look k (gQ l 0)=(au k l).map fH:=Bt fH k l;have HC:=al (ab (mz w T (t 0) (h1.ci (by decide))) hG);have HL:=al hl;have hfit: ∀r,au k l=some r-> ∀c,I6 (r.aK c):=fun r hr=>h3 (k,r) ((aB h2).1 hr);have HF:=al hfit;clear h1 h2 h3 hG hl hfit hk;go_enter Tryz.func59,Tryz.ntmps59;go_wp2_with fail;refine HC.out.1.mono ?_;rintro e w1 ⟨rfl,rfl⟩;unfold lh;go_wp2_with fail;refine HC.out.2.mono ?_;rintro e w1 ⟨rfl,hb⟩;rw[HL.out];have HB:=al hb;clear HC hb
 cases hq:au k l with
 |none=>
  have HQ:=al hq;simp only[Option.map_none,Option.getD_none,mv,nh,if_false];clear hq;go_wp2_with fail;go_ret
  exact⟨_,rfl,⟨by rw[HQ.out];rfl,fun b hb=>by cases hb⟩,HB.out⟩
 |some r=>
  have hr6:=HF.out r hq;have HQ:=al (ab hq hr6);simp only[Option.map_some,ns,me,if_true];have hcv:=fun w=>Ew w (fH r);have hel:=ql r;obtain⟨E,hE⟩: ∃E,fH r=E:=⟨_,rfl⟩;have HE:=al (ab hE hel);rw[hE]at hcv⊢;clear hq hr6 hE hel;go_wp2_with fail;have kj:=LI w1 5 (fH r) (by have:=HE.out.2;unfold maxLen;omega);have hbb:=Ct w1 5 ⟨(fH r).toArray⟩;have HD:=al (ab (IE _ _ r _ HQ.out.2 kj) hbb);rw[HE.out.1]at HD;clear kj hbb hcv;refine HD.out.1.mono ?_;rintro e w2 ⟨rfl,hb2⟩;have fR:=al (show Below w.heap.size w w2 from(HB.out.trans (HD.out.2.mono HB.out.size)).trans (hb2.mono (de HB.out.size HD.out.2.size)));clear hb2 HD;obtain⟨ra,rb,rc,rd⟩:=r;unfold Rw.val;have cK:=af w2 (.cells #[.int .i64 ra,.int .i64 rb,.int .i64 rc,.int .i64 rd] 26);have kx:=an w2 (.cells #[.int .i64 ra,.int .i64 rb,.int .i64 rc,.int .i64 rd] 26);have HX:=al (ab cK kx);clear cK kx;go_wp2_with fail;go_ret
  exact⟨_,rfl,⟨by rw[HQ.out.1];exact⟨_,rfl,HX.out.2⟩,fun b hb=>by injection hb with hb;injection hb with hb;injection hb with hb;have:=fR.out.size;omega⟩,fR.out.trans (HX.out.1.mono fR.out.size)⟩
theorem EP(w:World)(k:List UInt8)(hk:1<=k.length/\k.length<=16)(po pn:Value)(old now:Option Rw)(ho:sI w po old)(hn:sI w pn now)(h: ¬(old=none/\now=none)):
  Calls Tryz.prog 95 #[.string ⟨k.toArray⟩,po,pn] w (Pf (Lr k old now) w):=by
 cases old with
 |none=>
  obtain rfl:=ho
  cases now with
  |none=>exact absurd ⟨rfl,rfl⟩ h
  |some n=>obtain⟨b,rfl,hb⟩:=hn;exact EH w k hk b n hb
 |some o=>
  obtain⟨a,rfl,ha⟩:=ho
  cases now with
  |none=>obtain rfl:=hn;exact EK w k hk a o ha
  |some n=>obtain⟨b,rfl,hb⟩:=hn;exact EL w k hk a o ha b n hb
theorem Pj{w:World}{F:Nat->Prop}{A:Option Addr}{n c:Nat}{l:List Ch}(h:cd 4 w F (.slice A n c) (l.map Ch.cells)){j:Nat}{x:Ch}(hj:l[j]?=some x):
  ∃b o,A=some ⟨b,o,none⟩/\F b/\w.cell? ⟨b,o+j*4,none⟩=some (.int .i64 (x.aK:Int))/\w.cell? ⟨b,o+j*4+1,none⟩=some (.int .i64 x.v)/\w.cell? ⟨b,o+j*4+2,none⟩=some (.string ⟨x.k.toArray⟩)/\
   w.cell? ⟨b,o+j*4+3,none⟩=some (.bool x.add):=by
 obtain⟨A',n',c',hv,hl,_,_,hx⟩:=h;injection hv with h1 h2 h3;subst h1 h2 h3;have hlt:=(b8.1 hj).1;obtain⟨b,o,rfl,hF,hc⟩:=hx (by simp at hl;omega);have hx':(l.map Ch.cells)[j]?=some x.cells:=by simp[hj]
 exact⟨b,o,rfl,hF,hc j _ hx' 0 _ rfl,hc j _ hx' 1 _ rfl,hc j _ hx' 2 _ rfl,hc j _ hx' 3 _ rfl⟩
def ny(T o:Nat)(most:Int)(t:Nat->Nat)(ls:Nat->List Pr)(xs:List Ch)(Fs:Nat->Nat->Nat->Prop)(w w':World):Prop:=
 ∃AG,gS w' T most o t (xs.foldl km ls) AG/\(∀b q,qo AG b q->qo Fs b q\/w.heap.size<=b)/\OnlyC (qo Fs) w w'
theorem Pk{w:World}{T o:Nat}{most:Int}{t:Nat->Nat}{ls:Nat->List Pr}{Fs:Nat->Nat->Nat->Prop}(h:gS w T most o t ls Fs){b q:Nat}(hb:qo Fs b q):b<w.heap.size:=let⟨i,hi,hf⟩:=hb;h.lj i hi b q hf
theorem ny.step{w w1 w':World}{T o:Nat}{most:Int}{t:Nat->Nat}{ls:Nat->List Pr}{xs:List Ch}{Fs AG:Nat->Nat->Nat->Prop}{x:Ch}(hx:x.aK<4)(hs:w.heap.size<=w1.heap.size)
  (h:gS w1 T most o t (xs.foldl km ls) AG) (hF: ∀b q,qo AG b q->qo Fs b q\/w.heap.size<=b) (ho:OnlyC (qo Fs) w w1)
  {l':List Pr} (hl:l'=km (xs.foldl km ls) x (x.aK+1)) (ht:bC w' (t (x.aK+1)) o l' (fun b q=>AG (x.aK+1) b q\/w1.heap.size<=b)) (ho':OnlyC (AG (x.aK+1)) w1 w'):ny T o most t ls (xs++[x]) Fs w w':=by
 refine⟨iY AG (x.aK+1) (fun b q=>(AG (x.aK+1) b q\/w1.heap.size<=b)/\b<w'.heap.size),?_,fun b q hb=>?_,ho.trans ho' (fun b q hb hf=>?_)⟩
 ·have h1:=h.upd (i:=x.aK+1) (by omega) ht ho';rw[List.foldl_append,List.foldl_cons,List.foldl_nil];refine h1.congr (fun i _=>?_);rw[hl];unfold km iY;by_cases e:i=x.aK+1
  ·rw[fi e,fi rfl,fi e]
  ·rw[ff e,ff e]
 ·rcases Gt (by omega) hb with hb|hb
  ·exact hF b q hb
  ·exact .inr (by omega)
 ·rcases hF b q ⟨_,by omega,hf⟩with h|h
  ·exact h
  ·omega
theorem GF(w:World)(T o:Nat)(most:Int)(t:Nat->Nat)(ls:Nat->List Pr)(Fs:Nat->Nat->Nat->Prop)(k:List UInt8)(po pn:Value)(old now:Option Rw)(h:gS w T most o t ls Fs)(hk:1<=k.length/\k.length<=16)
  (ho:sI w po old) (hn:sI w pn now) (hne: ¬(old=none/\now=none)) (eA: ∀r,old=some r-> ∀c,I6 (r.aK c)) (eY: ∀r,now=some r-> ∀c,I6 (r.aK c)) (hlen: ∀i,i<5->(ls i).length<=900000):
  Calls Tryz.prog 64 #[.pointer (some ⟨T,0,none⟩),.string ⟨k.toArray⟩,po,pn] w fun e w'=>e=.returned (.tuple #[])/\ny T o most t ls (Lr k old now) Fs w w':=by
 have HC:=al (EP w k hk po pn old now ho hn hne);obtain⟨xs,hxs⟩: ∃xs,Lr k old now=xs:=⟨_,rfl⟩;have Ma: ∀x∈xs,(x.aK<4/\x.k=k)/\I6 x.v:=fun x hx=>by rw[<-hxs]at hx;exact⟨Gn hx,Gp eA eY hx⟩
 have hxl:xs.length<=8:=by rw[<-hxs];exact qm k old now 4
 rw[hxs]at HC⊢;have H:=al (ab h (ab hk (ab Ma (ab hxl hlen))));clear h hk hne eA eY hlen hxs Ma;have hpo:(∃b,po=.pointer b):=by cases old with|none=>exact⟨_,ho⟩|some r=>obtain⟨b,e,_⟩:=ho;exact⟨_,e⟩
 have hpn:(∃b,pn=.pointer b):=by cases now with|none=>exact⟨_,hn⟩|some r=>obtain⟨b,e,_⟩:=hn;exact⟨_,e⟩
 obtain⟨bo,rfl⟩:=hpo;obtain⟨bn,rfl⟩:=hpn;clear ho hn;go_enter Tryz.func64,Tryz.ntmps64
 go_step3
 go_wp2_with fail;refine HC.out.mono ?_;rintro e w1 ⟨v,rfl,hown,hb1⟩;obtain⟨A,c,rfl⟩:=ah hown;obtain⟨n,hn⟩: ∃n,xs.length=n:=⟨_,rfl⟩;rw[hn]at hxl;have kj:cd 4 w1 (fun b=>w.heap.size<=b/\b<w1.heap.size) (.slice A n c) (xs.map Ch.cells):=by rw[<-hn];exact cd.cP hown (rD xs) (by decide) (fun g hg=>hown.lt g hg)
 have H1:=al (ab kj (ab hb1 hn));rw[hn];clear kj hb1 hown hn HC;go_wp2_with fail
 go_step3
 go_wp2_with fail
 go_loopw [23] (fun i wr=> ∃j:Nat,j<=n/\i=.int .i64 (j:Int)/\ny T o most t ls (xs.take j) Fs w1 wr) (fun i _=>n-(intOf i).toNat)
 case atStart=>exact⟨0,by omega,rfl,Fs,H.out.1.below H1.out.2.1,fun b q h=>.inl h,OnlyC.refl _ _⟩
 case round=>
  obtain⟨j,hj,rfl,AG,hW,hF',Pm⟩:=hrel;by_cases hlt:j<n
  ·obtain⟨x,hx⟩: ∃x,xs[j]?=some x:=⟨_,ao (by rw[H1.out.2.2];exact hlt)⟩;have V9:cd 4 wr (fun b=>w.heap.size<=b/\b<w1.heap.size) (.slice A n c) (xs.map Ch.cells):=H1.out.1.only Pm.only (fun b hb ⟨q,hq⟩=>by have:=Pk H.out.1 hq;omega);obtain⟨b,o',rfl,Mb,d0,d1,d2,d3⟩:=Pj V9 hx;have hcm:c<=maxLen:=by obtain⟨_,_,_,e,_,_,h,_⟩:=H1.out.1;injection e with _ _ e;omega
   have hnc:n<=c:=by obtain⟨_,_,_,e,_,h,_,_⟩:=H1.out.1;injection e with _ e2 e;omega
   unfold maxLen at hcm;obtain⟨⟨AH,hxk⟩,hxv⟩:=H.out.2.2.1 x (dd hx);obtain⟨xc,xv,xk,xa⟩:=x;simp only at AH hxk hxv d0 d1 d2 d3;subst hxk;have i1:(0:Int)<=(j:Int):=by omega
   have i2:(j:Int)<(n:Int):=by omega
   have cK:=af wr (.cells #[.int .i64 (xc:Int),.int .i64 xv,.string ⟨xk.toArray⟩,.bool xa] 218);have kx:=an wr (.cells #[.int .i64 (xc:Int),.int .i64 xv,.string ⟨xk.toArray⟩,.bool xa] 218);have HX:=al (ab (hW.below cK) (ab hF' (ab (Pm.trans (oE cK (qo Fs)) (fun _ _ _ h=>h)) (ab hx (ab AH hxv)))));clear hW hF' Pm V9 hx Mb hxv;go_upto_region 4 with fail;clear d0 d1 d2 d3;have HB:=al cK;clear cK;generalize wr.alloc (.cells #[.int .i64 (xc:Int),.int .i64 xv,.string ⟨xk.toArray⟩,.bool xa] 218)=w2 at HX HB kx⊢;obtain⟨X,hX⟩: ∃y,wr.heap.size=y:=⟨_,rfl⟩;rw[hX]at kx⊢;obtain⟨⟨e0,e1,e2,e3⟩,-⟩:=ct kx;have HK:=al (ab kx hX);have HP:=al (EM w2 xv xk HX.out.2.2.2.2.2 H.out.2.1);clear kx hX;go_wp2_with fail;refine HP.out.mono ?_;rintro e w3 ⟨rfl,hb3⟩;have k3:=pw hb3 HK.out.1;obtain⟨⟨e0,e1,e2,e3⟩,-⟩:=ct k3;have H3:=al (show gS w3 T most o t ((xs.take j).foldl km ls) AG/\OnlyC (qo Fs) w1 w3 from⟨HX.out.1.below hb3,HX.out.2.2.1.trans (oE hb3 (qo Fs)) (fun _ _ _ h=>h)⟩)
   have GG:((xs.take j).foldl km ls (xc+1)).length<=1000000:=by have h1:=uD (xc+1) (xs.take j) ls 900000 (H.out.2.2.2.2 _ (by omega));rw[ke]at h1;omega
   have hent:1<=(dB xv xk).length/\(dB xv xk).length<=64:=by unfold dB;rw[gk,bU];have:=H.out.2.1;omega
   have HI:=al (si w3 T (t (xc+1)) xc AH (H3.out.1.ci (i:=xc+1) (by omega)));have uS:=H3.out.1.tree (xc+1) (by omega);have Pn:=H3.out.1.lj (xc+1) (by omega)
   have htk:xs.take j++[⟨xc,xv,xk,xa⟩]=xs.take (j+1):=by have:=HX.out.2.2.2.1;rw[kt,this];rfl
   clear hb3 k3 HP
   cases xa with
   |true=>
    have HT:=al (pE w3 (t (xc+1)) o _ (AG (xc+1)) (dB xv xk,[]) uS Pn hent.1 hent.2 (by simp) GG);have HN:=al htk;clear uS Pn hent GG htk;go_wp2_with fail;refine HI.out.mono ?_;rintro e w4 ⟨rfl,rfl⟩;unfold lh;go_wp2_with fail;refine HT.out.mono ?_;rintro e w5 ⟨rfl,Wa,jR⟩;have HR:=al (ny.step (x:=⟨xc,xv,xk,true⟩) AH (H3.out.2.size) H3.out.1 HX.out.2.1 H3.out.2 (by unfold km;rw[fi rfl,fg]) Wa jR);rw[HN.out]at HR;clear Wa jR HT;go_wp2_with fail;go_roundw
    case rel=>exact⟨j+1,by omega,by go_num,HR.out⟩
    case measure=>simp[intOf];omega
   |false=>
    have HT:=al (Ej w3 (t (xc+1)) o _ (AG (xc+1)) (dB xv xk) uS Pn hent.1 hent.2 GG);have HN:=al htk;clear uS Pn hent GG htk;go_wp2_with fail;refine HI.out.mono ?_;rintro e w4 ⟨rfl,rfl⟩;unfold lh;go_wp2_with fail;refine HT.out.mono ?_;rintro e w5 ⟨rfl,Wa,jR⟩;have HR:=al (ny.step (x:=⟨xc,xv,xk,false⟩) AH (H3.out.2.size) H3.out.1 HX.out.2.1 H3.out.2 (by unfold km;rw[ff (by simp),fg]) Wa jR);rw[HN.out]at HR;clear Wa jR HT;go_wp2_with fail;go_roundw
    case rel=>exact⟨j+1,by omega,by go_num,HR.out⟩
    case measure=>simp[intOf];omega
  ·obtain rfl:j=n:=by omega
   have HR:=al (show ny T o most t ls xs Fs w wr from by
    rw[gC (by rw[H1.out.2.2];exact Nat.le_refl _)]at hW
    refine⟨AG,hW,fun b q hb=>(hF' b q hb).imp id (fun h=>by have:=H1.out.2.1.size;omega),(oE H1.out.2.1 (qo Fs)).trans Pm (fun _ _ _ h=>h)⟩)
   clear hW hF' Pm;go_wp2_with fail;rw[Exit.noGoto_normal];exact et (du rfl _ _ _) rfl ⟨rfl,HR.out⟩
theorem sI.only{w w':World}{v:Value}{r:Option Rw}{S:Nat->Prop}(h:sI w v r)(ho:Only S w w')(hd: ∀b,v=.pointer (some ⟨b,0,none⟩)-> ¬S b):sI w' v r:=by
 cases r with
 |none=>exact h
 |some r=>obtain⟨b,e,h⟩:=h;exact⟨b,e,ho.heap h (hd b e)⟩
theorem bK{w:World}{A:Nat}{a0 a1 a2 a3 v0 v1 v2 v3:Value}{t:TypeId}(h:w.heap[A]?=some (.cells #[a0,a1,a2,a3] t (0,0))):
  ((((w.setCell ⟨A,0,none⟩ v0).setCell ⟨A,1,none⟩ v1).setCell ⟨A,2,none⟩ v2).setCell ⟨A,3,none⟩ v3).heap[A]?=some (.cells #[v0,v1,v2,v3] t (0,0))/\Only (fun k=>k=A) w ((((w.setCell ⟨A,0,none⟩ v0).setCell ⟨A,1,none⟩ v1).setCell ⟨A,2,none⟩ v2).setCell ⟨A,3,none⟩ v3):=
 ⟨rU h,(((aT w A 0 v0).setCell (p:=⟨A,1,none⟩) (fun _=>rfl) v1).setCell (p:=⟨A,2,none⟩) (fun _=>rfl) v2).setCell (p:=⟨A,3,none⟩) (fun _=>rfl) v3⟩
def ot(r:Option Rw)(w:World)(e:Ending)(w':World):Prop:=e=.returned (.tuple #[(r.getD .zero).val,.int .i64 (if r.isSome then 0 else 14)])/\Below w.heap.size w w'
theorem rF(w:World)(T o:Nat)(most:Int)(l:av)(F:Nat->Nat->Prop)(k:List UInt8)(h:cE w T most o l F)(hk:1<=k.length/\k.length<=16):
  Calls Tryz.prog 73 #[.pointer (some ⟨T,0,none⟩),.string ⟨k.toArray⟩] w (ot (au k l) w):=by
 have hb0:=af w (.cells #[.int .i64 0,.int .i64 0,.int .i64 0,.int .i64 0] 26);have k0:=an w (.cells #[.int .i64 0,.int .i64 0,.int .i64 0,.int .i64 0] 26);have h0:=h.below hb0;clear h;go_enter Tryz.func73,Tryz.ntmps73;go_upto_region 1 with fail;generalize w.alloc (.cells #[.int .i64 0,.int .i64 0,.int .i64 0,.int .i64 0] 26)=w1 at hb0 k0 h0⊢;obtain⟨A,hA⟩: ∃x,w.heap.size=x:=⟨_,rfl⟩;rw[hA]at k0⊢;have HC:=al (ab (sj w1 T k) (look_ok w1 T o most l F k h0 hk));rw[tq hk]at HC;have H:=al (ab hb0 (ab k0 hA));clear h0 hk hb0 k0 hA;go_wp2_with fail;refine HC.out.1.mono ?_;rintro e w2 ⟨rfl,rfl⟩;go_wp2_with fail;refine HC.out.2.mono ?_;rintro e w2 ⟨v,rfl,hv,hb⟩;have k2:=pw hb H.out.2.1;obtain⟨⟨-,-,-,-⟩,y0,y1,y2,y3⟩:=ct k2;obtain⟨⟨z0,z1,z2,z3⟩,-⟩:=ct k2;have hb2:=H.out.1.trans (hb.mono H.out.1.size);have H2:=al (ab hb2 k2)
 cases hq:au k l with
 |none=>rw[hq]at hv;obtain⟨rfl,-⟩:=hv;have HQ:=al hq;clear hb hb2 k2 hq HC;go_wp2_with fail;have HO:=al (bK (v0:=.int .i64 0) (v1:=.int .i64 0) (v2:=.int .i64 0) (v3:=.int .i64 0) H2.out.2);generalize ((((w2.setCell ⟨A,0,none⟩ (.int .i64 0)).setCell ⟨A,1,none⟩ (.int .i64 0)).setCell ⟨A,2,none⟩ (.int .i64 0)).setCell ⟨A,3,none⟩ (.int .i64 0))=w3 at HO⊢;refine dq (aC rfl _ _ _ _ _ _ _ rfl HO.out.1 Tryz.underlying26 rfl (by kernel_rfl)) rfl ⟨by rw[HQ.out];rfl,?_⟩;exact H2.out.1.trans (HO.out.2.aG H2.out.1.size (fun k hk h=>by have:=H.out.2.2;omega))
 |some r=>
  rw[hq]at hv;obtain⟨⟨b,rfl,zn⟩,cD⟩:=hv;have hne: ¬b=A:=by have:=cD b rfl;have:=aO H.out.2.1;omega
  obtain⟨ra,rb,rc,rd⟩:=r;obtain⟨⟨x0,x1,x2,x3⟩,-⟩:=ct zn;have HQ:=al hq;clear hb hb2 k2 hq HC zn cD;go_wp2_with fail;have HO:=al (bK (v0:=.int .i64 ra) (v1:=.int .i64 rb) (v2:=.int .i64 rc) (v3:=.int .i64 rd) H2.out.2);generalize ((((w2.setCell ⟨A,0,none⟩ (.int .i64 ra)).setCell ⟨A,1,none⟩ (.int .i64 rb)).setCell ⟨A,2,none⟩ (.int .i64 rc)).setCell ⟨A,3,none⟩ (.int .i64 rd))=w3 at HO⊢;refine dq (aC rfl _ _ _ _ _ _ _ rfl HO.out.1 Tryz.underlying26 rfl (by kernel_rfl)) rfl ⟨by rw[HQ.out];rfl,?_⟩;exact H2.out.1.trans (HO.out.2.aG H2.out.1.size (fun k hk h=>by have:=H.out.2.2;omega))
def zO(most:Int)(l:av)(k:List UInt8)(r:Rw):av:=if au k l=none/\most<=(l.length:Int)then l else bE (k,r) l
def wW(most:Int)(l:av)(k:List UInt8):Int:=if au k l=none/\most<=(l.length:Int)then 16 else 0
theorem OnlyC.far{F:Nat->Nat->Prop}{S:Nat->Prop}{w w' w'':World}(h:OnlyC F w w')(ho:Only S w' w'')(hS: ∀k,k<w.heap.size-> ¬S k):OnlyC F w w'':=by
 refine⟨ho.os.trans h.os,ho.tape.trans h.tape,ho.output.trans h.output,de h.size ho.size,fun k cs t fr hk=>?_,fun k hk hF=>?_⟩
 ·obtain⟨cs',h1,h2,h3⟩:=h.shape k cs t fr hk;exact⟨cs',(ho.block k (cq (oS hk) h.size) (hS k (oS hk))).trans h1,h2,h3⟩
 ·exact(ho.block k (cq hk h.size) (hS k hk)).trans (h.block k hk hF)
theorem gS.one{w w4 w5:World}{T o:Nat}{most:Int}{t:Nat->Nat}{ls:Nat->List Pr}{Fs:Nat->Nat->Nat->Prop}{i:Nat}{l':List Pr}(h:gS w T most o t ls Fs)(hi:i<5)(hb:Below w.heap.size w w4)
  (ht:bC w5 (t i) o l' (fun b q=>Fs i b q\/w4.heap.size<=b)) (ho:OnlyC (Fs i) w4 w5): ∃Po,gS w5 T most o t (iY ls i l') Po/\(∀b q,qo Po b q->qo Fs b q\/w.heap.size<=b)/\OnlyC (qo Fs) w w5:=by
 refine⟨iY Fs i (fun b q=>(Fs i b q\/w4.heap.size<=b)/\b<w5.heap.size),(h.below hb).upd hi ht ho,fun b q hf=>?_,(oE hb (qo Fs)).trans ho (fun b q _ hf=>⟨i,hi,hf⟩)⟩;rcases Gt hi hf with h|h
 ·exact .inl h
 ·exact .inr (de hb.size h)
theorem ny.from_{w w5 w9:World}{T o:Nat}{most:Int}{t:Nat->Nat}{ls:Nat->List Pr}{xs:List Ch}{Fs Po:Nat->Nat->Nat->Prop}(hP:ny T o most t ls xs Po w5 w9)(h1: ∀b q,qo Po b q->qo Fs b q\/w.heap.size<=b)(ho:OnlyC (qo Fs) w w5):ny T o most t ls xs Fs w w9:=by
 obtain⟨AG,hW,hF,Pm⟩:=hP;refine⟨AG,hW,fun b q hb=>?_,ho.trans Pm (fun b q hb hf=>?_)⟩
 ·rcases hF b q hb with h|h
  ·exact h1 b q h
  ·exact .inr (de ho.size h)
 ·rcases h1 b q hf with h|h
  ·exact h
  ·omega
theorem GH{w w2 w9 wK:World}{T o A:Nat}{most:Int}{t:Nat->Nat}{l':av}{xs:List Ch}{ls:Nat->List Pr}{F:Nat->Nat->Prop}{Fs:Nat->Nat->Nat->Prop}(hb:Below w.heap.size w w2)(hP:ny T o most t ls xs Fs w2 w9)
  (ho:Only (fun k=>k=A) w9 wK) (hA:w.heap.size<=A) (hA2:A<w2.heap.size) (hAF: ∀q,¬qo Fs A q) (Xz:T<w.heap.size) (QS: ∀b q,qo Fs b q->F b q) (hT: ∀q,F T q) (he: ∀i,i<5->xs.foldl km ls i=gQ l' i)
  (h1:ez l') (h2:RowsFit l') (h3: ∀q∈l',1<=q.1.length/\q.1.length<=16) (h4:1<=most/\most<=1024) (h5:(l'.length:Int)<=most):cE wK T most o l' (fun b q=>F b q\/w.heap.size<=b)/\OnlyC F w wK:=by
 obtain⟨AG,hW,hF',Pm⟩:=hP;refine⟨⟨t,AG,((hW.congr he).eO ho (fun e=>by omega) (fun b q hf e=>?_)),h1,h2,h3,h4,h5,fun b q hf=>?_,fun q=>.inl (hT q)⟩,?_⟩
 ·subst e;rcases hF' b q hf with h|h
  ·exact hAF q h
  ·omega
 ·rcases hF' b q hf with h|h
  ·exact .inl (QS b q h)
  ·exact .inr (de hb.size h)
 ·exact(((oE hb F).trans (Pm.mono (fun b q _ h=>QS b q h)) (fun _ _ _ h=>h))).far ho (fun k hk e=>by omega)
def tu(T o:Nat)(most:Int)(l:av)(k:List UInt8)(r:Rw)(F:Nat->Nat->Prop)(w:World)(e:Ending)(w':World):Prop:=
 e=.returned (.tuple #[((if wW most l k=0 then au k l else none).getD .zero).val,.bool (au k l).isSome,.int .i64 (wW most l k)])/\cE w' T most o (zO most l k r) (fun b q=>F b q\/w.heap.size<=b)/\OnlyC F w w'
theorem CG{l:av}{k:List UInt8}{r:Rw}(h: ∀q∈l,1<=q.1.length/\q.1.length<=16)(hk:1<=k.length/\k.length<=16): ∀q∈bE (k,r) l,1<=q.1.length/\q.1.length<=16:=fun q hq=>(gw hq).elim (fun e=>by subst e;exact hk) (h q)
theorem I5(w:World)(T o:Nat)(most:Int)(l:av)(F:Nat->Nat->Prop)(k:List UInt8)(r:Rw)(h:cE w T most o l F)(hF: ∀b q,F b q->b<w.heap.size)(hk:1<=k.length/\k.length<=16)(hr: ∀c,I6 (r.aK c)):
  Calls Tryz.prog 35 #[.pointer (some ⟨T,0,none⟩),.string ⟨k.toArray⟩,r.val] w (tu T o most l k r F w):=by
 have hmm:=h.Gu;have hll:=h.len;have hb0:=af w (.cells #[.int .i64 r.a,.int .i64 r.b,.int .i64 r.c,.int .i64 r.d] 26);have k0:=an w (.cells #[.int .i64 r.a,.int .i64 r.b,.int .i64 r.c,.int .i64 r.d] 26);have hb1:=af (w.alloc (.cells #[.int .i64 r.a,.int .i64 r.b,.int .i64 r.c,.int .i64 r.d] 26)) (.cells #[.int .i64 0,.int .i64 0,.int .i64 0,.int .i64 0] 26);have k1:=an (w.alloc (.cells #[.int .i64 r.a,.int .i64 r.b,.int .i64 r.c,.int .i64 r.d] 26)) (.cells #[.int .i64 0,.int .i64 0,.int .i64 0,.int .i64 0] 26);have hs1:(w.alloc (.cells #[.int .i64 r.a,.int .i64 r.b,.int .i64 r.c,.int .i64 r.d] 26)).heap.size=w.heap.size+1:=by simp
 have H0:=al (show Below w.heap.size w ((w.alloc (.cells #[.int .i64 r.a,.int .i64 r.b,.int .i64 r.c,.int .i64 r.d] 26)).alloc (.cells #[.int .i64 0,.int .i64 0,.int .i64 0,.int .i64 0] 26))/\
  ((w.alloc (.cells #[.int .i64 r.a,.int .i64 r.b,.int .i64 r.c,.int .i64 r.d] 26)).alloc (.cells #[.int .i64 0,.int .i64 0,.int .i64 0,.int .i64 0] 26)).heap[w.heap.size]?=some (.cells #[.int .i64 r.a,.int .i64 r.b,.int .i64 r.c,.int .i64 r.d] 26 (0,0))/\
  ((w.alloc (.cells #[.int .i64 r.a,.int .i64 r.b,.int .i64 r.c,.int .i64 r.d] 26)).alloc (.cells #[.int .i64 0,.int .i64 0,.int .i64 0,.int .i64 0] 26)).heap[w.heap.size+1]?=some (.cells #[.int .i64 0,.int .i64 0,.int .i64 0,.int .i64 0] 26 (0,0))from
  ⟨hb0.trans (hb1.mono hb0.size),pw hb1 k0,by rw[<-hs1];exact k1⟩)
 obtain⟨ra,rb,rc,rd⟩:=r;unfold Rw.val;simp only at H0;clear hb0 k0 hb1 k1 hs1;have HH:=al (ab h (ab hF (ab hk (ab hr (ab hmm hll)))));clear h hF hk hr hmm hll;go_enter Tryz.func35,Tryz.ntmps35;go_upto_region 1 with fail;have H1:=H0.out;clear H0;generalize (w.alloc (.cells #[.int .i64 ra,.int .i64 rb,.int .i64 rc,.int .i64 rd] 26)).alloc (.cells #[.int .i64 0,.int .i64 0,.int .i64 0,.int .i64 0] 26)=w1 at H1⊢;obtain⟨hb1,kr,ka⟩:=H1;obtain⟨R,hR⟩: ∃x,w.heap.size=x:=⟨_,rfl⟩;rw[hR]at kr ka⊢;obtain⟨A,hA⟩: ∃x,R+1=x:=⟨_,rfl⟩;rw[hA]at ka⊢;have h1:=HH.out.1.below hb1;have HC:=al (ab (sj w1 T k) (look_ok w1 T o most l F k h1 HH.out.2.2.1));rw[tq HH.out.2.2.1]at HC;have H:=al (ab hb1 (ab kr (ab ka (ab hR (ab hA h1)))));clear hb1 kr ka hR hA h1;go_wp2_with fail;refine HC.out.1.mono ?_;rintro e w2 ⟨rfl,rfl⟩;go_wp2_with fail;refine HC.out.2.mono ?_;rintro e w2 ⟨v,rfl,hv,hb⟩;have kr:=pw hb H.out.2.1;have ka:=pw hb H.out.2.2.1;have h2:=H.out.2.2.2.2.2.below hb;have hb2:=H.out.1.trans (hb.mono H.out.1.size);have hvR: ∀b,v=.pointer (some ⟨b,0,none⟩)->A<b:=fun b e=>by have:=hv.2 b e;have:=aO H.out.2.2.1;omega
 have H2:=al (ab hb2 (ab kr (ab ka (ab h2 (ab hv.1 hvR)))));clear kr ka h2 hb2 hvR hb HC;obtain⟨t,Fs,hW,g2,g3,g4,g5,g6,g7,g8⟩:=H2.out.2.2.2.1;have NJ: ∀q,¬qo Fs R q:=fun q hq=>by have:=HH.out.2.1 R q (g7 R q hq);have:=H.out.2.2.2.1;omega
 have hFA: ∀q,¬qo Fs A q:=fun q hq=>by have:=HH.out.2.1 A q (g7 A q hq);have:=H.out.2.2.2.1;have:=H.out.2.2.2.2.1;omega
 have TW: ∀b q,qo Fs b q->b<w.heap.size:=fun b q hq=>HH.out.2.1 b q (g7 b q hq);have Xz:T<w.heap.size:=HH.out.2.1 T 0 (g8 0);have c0:=hW.c0;have HT:=al (ab hW (ab g2 (ab g3 (ab g4 (ab g5 (ab g6 (ab g7 (ab g8 (ab NJ (ab hFA (ab TW Xz)))))))))));clear hW g2 g3 g4 g5 g6 g7 g8 NJ hFA TW Xz
 cases hq:au k l with
 |none=>
  rw[hq]at hv;obtain⟨rfl,-⟩:=hv;obtain⟨N,hN⟩: ∃N:Nat,l.length=N:=⟨_,rfl⟩;have HL:=al (fun n=>rE (w2.drewN n) T o most l F (H2.out.2.2.2.1.eO ((oB (fun _=>False) w2).drewN n) (fun _ _ _ h=>h)));rw[hN]at HL;by_cases hge:most<=(N:Int)
  ·have HQ:=al (show au k l=none/\most<=(l.length:Int)from⟨hq,by rw[hN];exact hge⟩);clear hq hN;go_wp2_with fail;go_quiet((go_at_call 60;exact lW (HL.out _)));rename_i nq;clear c0 hge;go_upto_region 6 with fail;obtain⟨w3,hw3⟩: ∃w3,w2.drewN nq=w3:=⟨_,rfl⟩;have hb3:Below w2.heap.size w2 w3:=by rw[<-hw3];exact Only.aG ((oB (fun _=>False) w2).drewN nq) (aq _) (fun _ _ h=>h)
   rw[hw3];have k3:=pw hb3 H2.out.2.2.1;obtain⟨⟨z0,z1,z2,z3⟩,y0,y1,y2,y3⟩:=ct k3;have ou:=al (ab hb3 k3);clear hb3 k3 hw3;go_wp2_with fail;have HO:=al (bK (v0:=.int .i64 0) (v1:=.int .i64 0) (v2:=.int .i64 0) (v3:=.int .i64 0) ou.out.2);generalize (((w3.setCell ⟨A,0,none⟩ (.int .i64 0)).setCell ⟨A,1,none⟩ (.int .i64 0)).setCell ⟨A,2,none⟩ (.int .i64 0)).setCell ⟨A,3,none⟩ (.int .i64 0)=wK at HO⊢;refine dq (b6 rfl _ _ _ _ _ _ _ rfl HO.out.1 Tryz.underlying26 rfl (by kernel_rfl)) rfl ?_;have hE:wW most l k=16:=by unfold wW;rw[fi HQ.out]
   have hR:zO most l k ⟨ra,rb,rc,rd⟩=l:=by unfold zO;rw[fi HQ.out]
   unfold tu;rw[hE,hR,HQ.out.1];have Wb:Below w.heap.size w wK:=(H2.out.1.trans (ou.out.1.mono H2.out.1.size)).trans (Only.aG (HO.out.2) (de H2.out.1.size ou.out.1.size) (fun k hk h=>by have:=H.out.2.2.2.1;have:=H.out.2.2.2.2.1;omega));exact⟨rfl,(HH.out.1.below Wb).mono (fun b q h=>.inl h),oE Wb F⟩
  ·have HQ:=al (show au k l=none/\ ¬most<=(l.length:Int)from⟨hq,by rw[hN];exact hge⟩);clear hq hN;go_wp2_with fail;go_quiet((go_at_call 60;exact lW (HL.out _)));rename_i nq;simp only[show decide (most<=(N:Int))=false from decide_eq_false (by omega)];clear c0 hge;go_upto_region 7 with fail;generalize hW0:w2.drewN nq=W0;have hb0:Below w2.heap.size w2 W0:=by rw[<-hW0];exact Only.aG ((oB (fun _=>False) w2).drewN nq) (aq _) (fun _ _ h=>h)
   clear hW0;have jW:Below w2.heap.size w2 W0.drew:=hb0.drew;have Wc:Only (fun b=> ∃q,Fs 0 b q) w2 W0.drew:=oy jW _;clear hb0;refine pb (S:=(fun W=>Only (fun b=> ∃q,Fs 0 b q) w2 W)) (by kernel_rfl) Wc (fun pt=>?_);generalize hW3:W0.drew=W3 at pt jW⊢;clear hW3 Wc;refine aM [0,2] ?_
   iterate 2 (refine bX (v:=?_) (fun wS hSw=>?_) pt ?_;rotate_left;(go_simp;try with_reducible rfl);try simp only[ai,aj,ak,ar])
   refine aN ?_;refine fJ 3 (v:=?_) (fun wS hSw=>?_) pt ?_;rotate_left
   ·obtain⟨⟨u0,u1,u2,u3⟩,-⟩:=ct (hSw.heap H2.out.2.1 (fun⟨q,hq⟩=>HT.out.2.2.2.2.2.2.2.2.1 q ⟨0,by decide,hq⟩));go_simp;try with_reducible rfl
   try simp only[ai,aj,ak,ar]
   refine aW 1 (fun K hK=>?_);go_simp;refine(mz _ T (t 0) ((jW.cell (p:=⟨T,1,none⟩) (by have:=HT.out.1.lt;exact this)).trans (HT.out.1.ci (i:=0) (by decide)))).mono ?_;rintro e wn ⟨rfl,rfl⟩
   try go_simp
   refine hK.out _ _ (pt) ?_;clear hK K pt;intro pt
   try simp only[ai,aj,ak,ar]
   refine aW 4 (fun K hK=>?_);go_simp;refine(ye _ ⟨ra,rb,rc,rd⟩ HH.out.2.2.2.1).mono ?_;rintro e wn ⟨A2,c2,rfl,hx,cD⟩;have CH:=jW.trans (cD.mono jW.size);have hcv:=zC (P:=Tryz.prog) 118 9 5 Tryz.underlying118 Tryz.underlying5 Tryz.underlying9 (Rd.cP (F:=fun _=>True) hx (fun _ _=>trivial));rw[fb]at hcv;have jW:=CH;clear CH hx
   try go_simp
   refine hK.out _ _ (pt.trans (oy cD _) (fun _ _ h=>h)) ?_;clear hK K pt cD;intro pt
   try simp only[ai,aj,ak,ar]
   refine aW 5 (fun K hK=>?_);go_simp;refine hK.out _ _ (pt) ?_;clear hK K pt hcv;intro pt
   try simp only[ai,aj,ak,ar]
   refine aW 6 (fun K hK=>?_);go_simp;refine(pE _ (t 0) o (gQ l 0) (Fs 0) (k,fH ⟨ra,rb,rc,rd⟩) ((HT.out.1.tree 0 (by decide)).below jW) (fun b q hq=>cq (HT.out.1.lj 0 (by decide) b q hq) jW.size) HH.out.2.2.1.1 (by have:=HH.out.2.2.1;exact de this.2 (by decide)) (de (ql _) (by decide)) (by rw[jT HT.out.2.1 HT.out.2.2.1];have:=HT.out.2.2.2.2.2.1;have:=HT.out.2.2.2.2.1;omega)).mono ?_;rintro e wn ⟨rfl,ht,Su⟩;have Pp:=al (ab jW (ab ht Su));have Mc:=Su.only;clear jW ht Su
   try go_simp
   refine hK.out _ _ (pt.trans Mc (fun _ _ h=>h)) ?_;clear hK K pt Mc;intro pt
   try simp only[ai,aj,ak,ar]
   refine pf (by kernel_rfl) ?_ _;obtain⟨Po,hW1,Wd,vO⟩:=HT.out.1.one (by decide) Pp.out.1 Pp.out.2.1 Pp.out.2.2;clear Pp pt jW;have oM: ∀b,w.heap.size<=b-> ∀q,¬qo Fs b q:=fun b hb q hq=>by have:=HT.out.2.2.2.2.2.2.2.2.2.2.1 b q hq;omega
   have We:=vO.heap H2.out.2.1 HT.out.2.2.2.2.2.2.2.2.1;have Zy:=vO.heap H2.out.2.2.1 HT.out.2.2.2.2.2.2.2.2.2.1
   have CI: ∀i,i<5->(iY (gQ l) 0 (ins (k,fH ⟨ra,rb,rc,rd⟩) (gQ l 0)) i).length<=900000:=fun i hi=>by
    have h1:=jT HT.out.2.1 HT.out.2.2.1 i;have h0:=jT HT.out.2.1 HT.out.2.2.1 0;have h2:=HT.out.2.2.2.2.2.1;have h3:=HT.out.2.2.2.2.1;unfold iY;split
    ·have:=kL (k,fH ⟨ra,rb,rc,rd⟩) (gQ l 0);rw[<-mV]at this;omega
    ·omega
   have HU:=al (GF wn T o most t _ Po k (.pointer none) (.pointer (some ⟨R,0,none⟩)) none (some ⟨ra,rb,rc,rd⟩) hW1 HH.out.2.2.1 (show sI _ _ none from rfl) ⟨_,rfl,We⟩ (fun h=>by cases h.2) (fun r hr=>by cases hr) (fun r hr=>by injection hr with hr;subst hr;exact HH.out.2.2.2.1) CI);have H5:=al (ab Wd (ab vO oM));clear hW1 Wd vO We Zy CI oM;go_wp2_with fail;refine HU.out.mono ?_;rintro e w9 ⟨rfl,hP⟩;have Sv:=hP.from_ H5.out.1 H5.out.2.1;obtain⟨_,_,_,TX⟩:=id Sv;have Sw:=TX.heap H2.out.2.2.1 HT.out.2.2.2.2.2.2.2.2.2.1;obtain⟨⟨z0,z1,z2,z3⟩,y0,y1,y2,y3⟩:=ct Sw;have H9:=al (ab Sv Sw);clear hP Sv TX Sw HU;go_wp2_with fail;have HO:=al (bK (v0:=.int .i64 0) (v1:=.int .i64 0) (v2:=.int .i64 0) (v3:=.int .i64 0) H9.out.2);generalize (((w9.setCell ⟨A,0,none⟩ (.int .i64 0)).setCell ⟨A,1,none⟩ (.int .i64 0)).setCell ⟨A,2,none⟩ (.int .i64 0)).setCell ⟨A,3,none⟩ (.int .i64 0)=wK at HO⊢;refine dq (b6 rfl _ _ _ _ _ _ _ rfl HO.out.1 Tryz.underlying26 rfl (by kernel_rfl)) rfl ?_;have hE:wW most l k=0:=by unfold wW;rw[ff (fun h=>by have h1:=HQ.out.2;have h2:=h.2;omega)]
   have hR:zO most l k ⟨ra,rb,rc,rd⟩=bE (k,⟨ra,rb,rc,rd⟩) l:=by unfold zO;rw[ff (fun h=>by have h1:=HQ.out.2;have h2:=h.2;omega)]
   unfold tu;rw[hE,hR,HQ.out.1]
   have II:((bE (k,(⟨ra,rb,rc,rd⟩:Rw)) l).length:Int)<=most:=by have h1:=jH (p:=(k,(⟨ra,rb,rc,rd⟩:Rw))) HT.out.2.1;simp only[HQ.out.1,mv,nh,if_false]at h1;have h2:=HT.out.2.2.2.2.2.1;have h3:=HQ.out.2;rw[h1];omega
   have he: ∀i,i<5->(Lr k none (some ⟨ra,rb,rc,rd⟩)).foldl km (iY (gQ l) 0 (ins (k,fH ⟨ra,rb,rc,rd⟩) (gQ l 0))) i=gQ (bE (k,⟨ra,rb,rc,rd⟩) l) i:=fun i hi=>by have:=Cj (k:=k) (r:=⟨ra,rb,rc,rd⟩) HT.out.2.1 HT.out.2.2.1 HH.out.2.2.2.1 i hi;rw[HQ.out.1]at this;exact this
   refine⟨rfl,GH H2.out.1 H9.out.1 HO.out.2 (by have:=H.out.2.2.2.1;have:=H.out.2.2.2.2.1;omega) (aO H2.out.2.2.1) HT.out.2.2.2.2.2.2.2.2.2.1 HT.out.2.2.2.2.2.2.2.2.2.2.2 HT.out.2.2.2.2.2.2.1 HT.out.2.2.2.2.2.2.2.1 he (dR HT.out.2.1) (HT.out.2.2.1.ins HH.out.2.2.2.1) (CG HT.out.2.2.2.1 HH.out.2.2.1) HT.out.2.2.2.2.1 II⟩
 |some old=>
  obtain⟨oa,ob,oc,od⟩:=old;have HQ:=al hq;rw[hq]at hv;obtain⟨⟨B,rfl,zn⟩,-⟩:=hv;have hB:w2.heap[B]?=some (.cells #[.int .i64 oa,.int .i64 ob,.int .i64 oc,.int .i64 od] 26 (0,0))/\A<B:=⟨zn,H2.out.2.2.2.2.2 B rfl⟩;clear hq zn;go_wp2_with fail;go_quiet(fail);rename_i nq;clear c0;go_upto_region 7 with fail;generalize hW0:w2.drewN nq=W0;have hb0:Below w2.heap.size w2 W0:=by rw[<-hW0];exact Only.aG ((oB (fun _=>False) w2).drewN nq) (aq _) (fun _ _ h=>h)
  clear hW0;have jW:Below w2.heap.size w2 W0.drew:=hb0.drew;have Wc:Only (fun b=> ∃q,Fs 0 b q) w2 W0.drew:=oy jW _;clear hb0;refine pb (S:=(fun W=>Only (fun b=> ∃q,Fs 0 b q) w2 W)) (by kernel_rfl) Wc (fun pt=>?_);generalize hW3:W0.drew=W3 at pt jW⊢;clear hW3 Wc;refine aM [0,2] ?_
  iterate 2 (refine bX (v:=?_) (fun wS hSw=>?_) pt ?_;rotate_left;(go_simp;try with_reducible rfl);try simp only[ai,aj,ak,ar])
  refine aN ?_;refine fJ 3 (v:=?_) (fun wS hSw=>?_) pt ?_;rotate_left
  ·obtain⟨⟨u0,u1,u2,u3⟩,-⟩:=ct (hSw.heap H2.out.2.1 (fun⟨q,hq⟩=>HT.out.2.2.2.2.2.2.2.2.1 q ⟨0,by decide,hq⟩));go_simp;try with_reducible rfl
  try simp only[ai,aj,ak,ar]
  refine aW 1 (fun K hK=>?_);go_simp;refine(mz _ T (t 0) ((jW.cell (p:=⟨T,1,none⟩) (by have:=HT.out.1.lt;exact this)).trans (HT.out.1.ci (i:=0) (by decide)))).mono ?_;rintro e wn ⟨rfl,rfl⟩
  try go_simp
  refine hK.out _ _ (pt) ?_;clear hK K pt;intro pt
  try simp only[ai,aj,ak,ar]
  refine aW 4 (fun K hK=>?_);go_simp;refine(ye _ ⟨ra,rb,rc,rd⟩ HH.out.2.2.2.1).mono ?_;rintro e wn ⟨A2,c2,rfl,hx,cD⟩;have CH:=jW.trans (cD.mono jW.size);have hcv:=zC (P:=Tryz.prog) 118 9 5 Tryz.underlying118 Tryz.underlying5 Tryz.underlying9 (Rd.cP (F:=fun _=>True) hx (fun _ _=>trivial));rw[fb]at hcv;have jW:=CH;clear CH hx
  try go_simp
  refine hK.out _ _ (pt.trans (oy cD _) (fun _ _ h=>h)) ?_;clear hK K pt cD;intro pt
  try simp only[ai,aj,ak,ar]
  refine aW 5 (fun K hK=>?_);go_simp;refine hK.out _ _ (pt) ?_;clear hK K pt hcv;intro pt
  try simp only[ai,aj,ak,ar]
  refine aW 6 (fun K hK=>?_);go_simp;refine(pE _ (t 0) o (gQ l 0) (Fs 0) (k,fH ⟨ra,rb,rc,rd⟩) ((HT.out.1.tree 0 (by decide)).below jW) (fun b q hq=>cq (HT.out.1.lj 0 (by decide) b q hq) jW.size) HH.out.2.2.1.1 (by have:=HH.out.2.2.1;exact de this.2 (by decide)) (de (ql _) (by decide)) (by rw[jT HT.out.2.1 HT.out.2.2.1];have:=HT.out.2.2.2.2.2.1;have:=HT.out.2.2.2.2.1;omega)).mono ?_;rintro e wn ⟨rfl,ht,Su⟩;have Pp:=al (ab jW (ab ht Su));have Mc:=Su.only;clear jW ht Su
  try go_simp
  refine hK.out _ _ (pt.trans Mc (fun _ _ h=>h)) ?_;clear hK K pt Mc;intro pt
  try simp only[ai,aj,ak,ar]
  refine pf (by kernel_rfl) ?_ _;obtain⟨Po,hW1,Wd,vO⟩:=HT.out.1.one (by decide) Pp.out.1 Pp.out.2.1 Pp.out.2.2;clear Pp pt jW;have oM: ∀b,w.heap.size<=b-> ∀q,¬qo Fs b q:=fun b hb q hq=>by have:=HT.out.2.2.2.2.2.2.2.2.2.2.1 b q hq;omega
  have We:=vO.heap H2.out.2.1 HT.out.2.2.2.2.2.2.2.2.1;have Zy:=vO.heap H2.out.2.2.1 HT.out.2.2.2.2.2.2.2.2.2.1
  have CI: ∀i,i<5->(iY (gQ l) 0 (ins (k,fH ⟨ra,rb,rc,rd⟩) (gQ l 0)) i).length<=900000:=fun i hi=>by
   have h1:=jT HT.out.2.1 HT.out.2.2.1 i;have h0:=jT HT.out.2.1 HT.out.2.2.1 0;have h2:=HT.out.2.2.2.2.2.1;have h3:=HT.out.2.2.2.2.1;unfold iY;split
   ·have:=kL (k,fH ⟨ra,rb,rc,rd⟩) (gQ l 0);rw[<-mV]at this;omega
   ·omega
  have kB5:=vO.heap hB.1 (oM _ (by have:=hB.2;have:=H.out.2.2.2.1;have:=H.out.2.2.2.2.1;omega));have HU:=al (GF wn T o most t _ Po k (.pointer (some ⟨B,0,none⟩)) (.pointer (some ⟨R,0,none⟩)) (some ⟨oa,ob,oc,od⟩) (some ⟨ra,rb,rc,rd⟩) hW1 HH.out.2.2.1 (show sI _ _ (some ⟨oa,ob,oc,od⟩)from⟨_,rfl,kB5⟩) ⟨_,rfl,We⟩ (fun h=>by cases h.2) (fun r hr=>by injection hr with hr;subst hr;exact HT.out.2.2.1 _ ((aB HT.out.2.1).1 HQ.out)) (fun r hr=>by injection hr with hr;subst hr;exact HH.out.2.2.2.1) CI);have H5:=al (ab Wd (ab vO oM));clear hW1 Wd vO We Zy CI oM kB5;go_wp2_with fail;refine HU.out.mono ?_;rintro e w9 ⟨rfl,hP⟩;have Sv:=hP.from_ H5.out.1 H5.out.2.1;obtain⟨_,_,_,TX⟩:=id Sv;have Sw:=TX.heap H2.out.2.2.1 HT.out.2.2.2.2.2.2.2.2.2.1;obtain⟨⟨z0,z1,z2,z3⟩,y0,y1,y2,y3⟩:=ct Sw;have kB9:=TX.heap hB.1 (H5.out.2.2 _ (by have:=hB.2;have:=H.out.2.2.2.1;have:=H.out.2.2.2.2.1;omega));obtain⟨⟨x0,x1,x2,x3⟩,-⟩:=ct kB9;have hBA: ¬B=A:=by have:=hB.2;omega
  have H9:=al (ab Sv Sw);clear hP Sv TX Sw HU kB9;go_wp2_with fail;have HO:=al (bK (v0:=.int .i64 oa) (v1:=.int .i64 ob) (v2:=.int .i64 oc) (v3:=.int .i64 od) H9.out.2);generalize (((w9.setCell ⟨A,0,none⟩ (.int .i64 oa)).setCell ⟨A,1,none⟩ (.int .i64 ob)).setCell ⟨A,2,none⟩ (.int .i64 oc)).setCell ⟨A,3,none⟩ (.int .i64 od)=wK at HO⊢;refine dq (b6 rfl _ _ _ _ _ _ _ rfl HO.out.1 Tryz.underlying26 rfl (by kernel_rfl)) rfl ?_;have hE:wW most l k=0:=by unfold wW;rw[ff (fun h=>by rw[HQ.out]at h;cases h.1)]
  have hR:zO most l k ⟨ra,rb,rc,rd⟩=bE (k,⟨ra,rb,rc,rd⟩) l:=by unfold zO;rw[ff (fun h=>by rw[HQ.out]at h;cases h.1)]
  unfold tu;rw[hE,hR,HQ.out]
  have II:((bE (k,(⟨ra,rb,rc,rd⟩:Rw)) l).length:Int)<=most:=by have h1:=jH (p:=(k,(⟨ra,rb,rc,rd⟩:Rw))) HT.out.2.1;simp only[HQ.out,me,if_true]at h1;have h2:=HT.out.2.2.2.2.2.1;rw[h1];omega
  have he: ∀i,i<5->(Lr k (some ⟨oa,ob,oc,od⟩) (some ⟨ra,rb,rc,rd⟩)).foldl km (iY (gQ l) 0 (ins (k,fH ⟨ra,rb,rc,rd⟩) (gQ l 0))) i=gQ (bE (k,⟨ra,rb,rc,rd⟩) l) i:=fun i hi=>by have:=Cj (k:=k) (r:=⟨ra,rb,rc,rd⟩) HT.out.2.1 HT.out.2.2.1 HH.out.2.2.2.1 i hi;rw[HQ.out]at this;exact this
  refine⟨rfl,GH H2.out.1 H9.out.1 HO.out.2 (by have:=H.out.2.2.2.1;have:=H.out.2.2.2.2.1;omega) (aO H2.out.2.2.1) HT.out.2.2.2.2.2.2.2.2.2.1 HT.out.2.2.2.2.2.2.2.2.2.2.2 HT.out.2.2.2.2.2.2.1 HT.out.2.2.2.2.2.2.2.1 he (dR HT.out.2.1) (HT.out.2.2.1.ins HH.out.2.2.2.1) (CG HT.out.2.2.2.1 HH.out.2.2.1) HT.out.2.2.2.2.1 II⟩
end Go.Proofs.YtagemonojdgbdaaGreatDoor
