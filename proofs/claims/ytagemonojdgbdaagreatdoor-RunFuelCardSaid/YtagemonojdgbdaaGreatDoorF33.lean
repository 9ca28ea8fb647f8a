import Derived.Test.YtagemonojdgbdaaGreatDoorF32
namespace Go.Proofs.YtagemonojdgbdaaGreatDoor
set_option maxRecDepth 100000
set_option maxHeartbeats 16000000
open Go.RowKit
section
open Go.RowKit Go.Maps Go.WideShapes
theorem EU(k:List UInt8)(wl:pQ)(l:av):gh k wl l=(au k wl).getD (au k l):=by unfold gh;cases au k wl<;>rfl
theorem jw{wl:pQ}{l:av}(hw:ez wl)(h:ez l)(k:List UInt8):gh k wl l=au k (bI wl l):=by rw[EU,fw hw h]
section
variable{P:Program}{w w':World}{K:TypeId}{b n:Nat}{g:Value->Option Value}
theorem dM.Mi(h:dM P w K b n g)(L:Keyed P K){t e:TypeId}(ht:P.underlying t=some (.map K e))(hn:n<maxLen){key val:Value}{kl:Lit}(hkey:keyOf P K key=some kl):
  ∃w',(Instr.mapUpdate t (.map (some b)) key val).run P w=.ok () w'/\dM P w' K b (if(g key).isSome then n else n+1) (zR g key (some val))/\Only (fun k=>k=b) w w':=by
 obtain⟨D,h,r⟩:=h;obtain⟨w',hrun,h1,h2⟩:=h.store L ht hn hkey (show sw val=some (.held val,[])from rfl);refine⟨w',hrun,⟨D.put kl (.held val),?_,fun v l hl=>?_⟩,(Only.of_grownBy h2.grown).mono (fun i _ e=>by injection e with e;exact e.symm)⟩
 ·have h3:=size_put (h.tidy L) (k:=kl) (.held val);rw[(r key kl hkey).1]at h3;have h4:=h.size_le;obtain⟨es,clock,h5,h6,h7,h8⟩:=h1;refine⟨es,clock,h5,h6,?_,h8⟩;have h9:Maps.size (D.put kl (.held val))=es.size:=by rw[h8];simp[Maps.size,length_sorted]
  rw[<-h9,h3];split<;>omega
 ·by_cases e:v=key
  ·subst e;have:l=kl:=e7 (hl.symm.trans hkey);subst this;rw[yz];exact⟨has_put_same h.isMap (L.key hkey) _,fun z=>atKey_put_same h.isMap (L.key hkey) _ _⟩
  ·have hne:l≠kl:=fun e1=>e (L.inj (by rw[<-e1];exact hl) hkey);rw[uX _ _ e,has_put_other hne];exact⟨(r v l hl).1,fun z=>by rw[atKey_put_other hne];exact(r v l hl).2 z⟩
end
section
variable{P:Program}(w:World){ops:Array Oper}{rest:List Oper}{o:Oper}{a:Act}{Q:Exit->Act->World->Prop}
theorem jb(hg:o.guard=none)(m x v:Operand)(t:TypeId)(hop:o.op=Op.mapUpdate t m x v){K e:TypeId}(L:Keyed P K)(ht:P.underlying t=some (.map K e)){b n:Nat}{g:Value->Option Value}
  (hm:a.eval m=.map (some b)) (hown:dM P w K b n g) (hn:n<maxLen) {key val:Value} {kl:Lit} (hx:a.eval x=key) (hv:a.eval v=val) (hkey:keyOf P K key=some kl)
  (hK: ∀w',dM P w' K b (if(g key).isSome then n else n+1) (zR g key (some val))->Only (fun k=>k=b) w w'->wpList P ops Q rest (a.put o.dst undef) w'):wpList P ops Q (o::rest) a w:=by
 refine wpList_plain hg fun K' hK'=>?_;obtain⟨w',hrun,r1,r2⟩:=hown.Mi L ht hn (val:=val) hkey;unfold Oper.wp;simp[execOp,hop,hm,hx,hv,hrun,Result.andThen];exact hK' _ _ (hK w' r1 r2)
end
theorem TY.CP{w:World}{FR:Nat->Prop}{a:Option Value}{b:Option (Option Rw)}(h:TY w FR a b):a.isSome=b.isSome:=by
 match a,b,h with
 |none,none,_=>rfl
 |some _,some _,_=>rfl
theorem mM.QU{w:World}{B T o m n:Nat}{most:Int}{l:av}{wl:pQ}{FT:Nat->Nat->Prop}{g:Value->Option Value}{FR:Nat->Prop}(h:mM w B T most o l wl FT m n g FR)(k:List UInt8):(g (.string ⟨k.toArray⟩)).isSome=true↔k∈wl.map Prod.fst:=by rw[(h.wr k).CP];exact tZ h.up k
theorem mM.SF{w:World}{B T o m n:Nat}{most:Int}{l:av}{wl:pQ}{FT:Nat->Nat->Prop}{g:Value->Option Value}{FR:Nat->Prop}(h:mM w B T most o l wl FT m n g FR): ∀k∈wl.map Prod.fst,1<=k.length/\k.length<=16:=by intro k hk;obtain⟨q,hq,rfl⟩:=ep.1 hk;exact h.key q hq
theorem mD(wl:pQ)(l:av): ∀ks:List (List UInt8),-(ks.length:Int)<=jL wl l ks/\jL wl l ks<=ks.length
 |[]=>⟨eE _,eE _⟩
 |k::ks=>by
  have ih:=mD wl l ks
  have h: -1<=jL wl l [k]/\jL wl l [k]<=1:=by
   unfold jL dQ;simp only[jL];split
   ·split<;>split<;>simp
   ·simp
  have e:=uf wl l k ks [];simp only[fs]at e;simp only[iS];omega
def Wk(w:World)(m r nn:Nat)(g:Value->Option Value)(wl:pQ)(l:av)(v:Value)(wr:World):Prop:=
 ∃ks,sK wr m r nn g ks/\(∀k∈ks,k∈wl.map Prod.fst)/\ks.length<=wl.length/\v=.int .i64 (((bI wl l).length:Int)-jL wl l ks)/\Below w.heap.size w wr/\w.heap.size<=r
theorem Jd(w:World)(B T o:Nat)(most:Int)(l:av)(wl:pQ)(FT:Nat->Nat->Prop)(FB:Nat->Prop)(h:eV w B T most o l wl FT FB)(Pz:wl.length<=2305843009213693952):
  Calls Tryz.prog 178 #[.pointer (some ⟨B,0,none⟩)] w fun e w'=>e=.returned (.int .i64 ((bI wl l).length:Int))/\Below w.heap.size w w':=by
 obtain⟨m,n,g,FR,hW,-,-,-⟩:=h;have g1:=hW.blk;have d0:w.cell? ⟨B,0,none⟩=some (.pointer (some ⟨T,0,none⟩)):=by simp[World.cell?,g1]
 have d1:w.cell? ⟨B,1,none⟩=some (.map (some m)):=by simp[World.cell?,g1]
 have hlen:=ug (l:=l) hW.up hW.tab.up;have xz:=hW.tab.len;have iX:=hW.tab.Gu;have H:=al (ab hW (ab hlen (ab Pz (ab xz iX.2))));have HL:=al (rE w T o most l FT hW.tab);clear hW g1 hlen Pz xz iX;go_enter Tryz.func178,Tryz.ntmps178;go_wp2_with fail;refine HL.out.mono ?_;rintro e w1 ⟨rfl,rfl⟩;clear HL;go_wp2_with (at_range;go_loud (refine nz _ rfl _ 107 rfl Tryz.underlying107 rfl H.out.1.map (wl.map Prod.fst) (fun k _=>H.out.1.QU k) (jK H.out.1.up) (fun k hk=>by have:=(H.out.1.SF k hk).2;unfold maxLen;omega) ?_);intro w1 hrg hb1;have H1:=al (ab hrg hb1);clear hrg hb1)
 go_frame
 go_loopw [3] (fun v wr=>Wk w m w.heap.size n g wl l v wr) (fun _ wr=>wr.rangeLeft m w.heap.size)
 case atStart=>exact⟨_,H1.out.1,fun k hk=>hk,by simp,by have:=H.out.2.1;congr 1;omega,H1.out.2,aq _⟩
 case round=>
  obtain⟨ks,hrg,hks,hkl,rfl,hbr,hr⟩:=hrel
  rename World=>wr
  have HR:=al (ab hks (ab hkl (ab hbr hr)));clear hks hkl hbr hr;go_wp2_with (at_next;refine pj _ rfl _ rfl rfl hrg ?_ ?_)
  ·intro dX;subst dX;go_wp2_with fail;go_ret
   exact⟨by simp[jL],HR.out.2.2.1⟩
  ·intro l1 l2 k v w2 zZ JL hrg2 hlt eo Mj hen;have hkx:=H.out.1.SF k (HR.out.1 k (by rw[zZ];simp));have hwr:=H.out.1.wr k;rw[JL]at hwr;have hb2:Below w.heap.size w w2:=HR.out.2.2.1.trans (eo.aG HR.out.2.2.1.size (fun j hj e=>by have:=HR.out.2.2.2;omega))
   obtain⟨x,hx⟩: ∃x,au k wl=some x:=by
    cases hq:au k wl with
    |none=>rw[hq]at hwr;exact hwr.elim
    |some x=>exact⟨x,rfl⟩
   rw[hx]at hwr;have g2:=pw hb2 H.out.1.blk;have e0:w2.cell? ⟨B,0,none⟩=some (.pointer (some ⟨T,0,none⟩)):=by simp[World.cell?,g2]
   clear g2;have PA:=uf wl l k l2 l1;rw[<-zZ]at PA;have hd:jL wl l [k]=dQ l (k,x):=by simp[jL,hx]
   rw[hd]at PA;have TU:=mD wl l (l1++l2);have ZA:=mD wl l ks;have RT:=HR.out.2.1;have HC:=al (ab hrg2 (ab hlt (ab hb2 (ab PA (ab (show -(wl.length:Int)<=jL wl l ks/\jL wl l ks<=wl.length from by omega) (ab Mj (show(∀y∈l1++l2,y∈wl.map Prod.fst)/\(l1++l2).length<=wl.length from⟨fun y hy=>HR.out.1 y (by rw[zZ];rcases dy.1 hy with h|h<;>simp[h]),by have:=HR.out.2.1;rw[zZ]at this;simp at this⊢;omega⟩)))))));have HG:=al (rF w2 T o most l FT k (H.out.1.tab.below hb2) hkx);clear PA hd TU ZA RT hrg2 hlt hb2 Mj eo hrg zZ JL;obtain⟨S,hS⟩: ∃S:Int,((bI wl l).length:Int)-jL wl l ks=S:=⟨_,rfl⟩;have yB: -9000000000000000000<=S/\S<=9000000000000000000:=by have:=H.out.2.1;have:=H.out.2.2.1;have:=H.out.2.2.2.1;have:=H.out.2.2.2.2;have:=HC.out.2.2.2.2.1;have:=ug (l:=l) H.out.1.up H.out.1.tab.up;have h9:=mD wl l (wl.map Prod.fst);rw[fb]at h9;omega
   have hS':((bI wl l).length:Int)-jL wl l (l1++l2)=S+dQ l (k,x):=by have:=HC.out.2.2.2.1;omega
   rw[hS];have AO:=al hS';have HSb:=al yB;clear hS' hS yB;obtain⟨q,hlk⟩: ∃q,au k l=q:=⟨_,rfl⟩;rw[hlk]at HG;have hdq:dQ l (k,x)=if q.isSome then(if x.isSome then 0 else -1)else(if x.isSome then 1 else 0):=by unfold dQ;rw[hlk]
   rw[hdq]at AO
   have HE:=al (show ∀(w3 w4:World) (S':Int),Below w2.heap.size w2 w3->Below w3.heap.size w3 w4->S'=S+(if q.isSome then(if x.isSome then 0 else -1)else(if x.isSome then 1 else 0))->Wk w m w.heap.size n g wl l (.int .i64 S') w4/\w4.rangeLeft m w.heap.size<wr.rangeLeft m w.heap.size from by
    rintro w3 w4 S' hb3 hb4 rfl;have hb:=hb3.trans (hb4.mono hb3.size);have ho:=qe hb
    exact⟨⟨l1++l2,HC.out.1.only ho (fun h=>h) (fun h=>h),HC.out.2.2.2.2.2.2.1,HC.out.2.2.2.2.2.2.2,by rw[AO.out],HC.out.2.2.1.trans (hb.mono HC.out.2.2.1.size),aq _⟩,by rw[HC.out.1.left ho (fun h=>h) (fun h=>h)];exact HC.out.2.1⟩)
   obtain⟨v,rfl,hv⟩: ∃p,v=.pointer p/\(x=none/\p=none\/ ∃b,x.isSome/\p=some b):=by
    cases x with
    |none=>exact⟨none,hwr.1,.inl ⟨rfl,rfl⟩⟩
    |some r=>obtain⟨⟨b,rfl,-⟩,-⟩:=hwr;exact⟨_,rfl,.inr ⟨_,rfl,rfl⟩⟩
   clear hwr hx hlk hdq;obtain⟨⟨ra,rb,rc,rd⟩,hr⟩: ∃r,q.getD .zero=r:=⟨_,rfl⟩;unfold ot at HG;rw[hr]at HG;clear hr;unfold Rw.val at HG;rcases hv with⟨rfl,rfl⟩|⟨b,hxs,rfl⟩
   ·cases q with
    |some rw0=>go_wp2_with fail;refine HG.out.mono ?_;rintro e w3 ⟨rfl,hb3⟩;clear HG;go_wp2_with fail;refine HE.out _ _ _ hb3 (af _ _) ?_;have:=HSb.out;simp;unfold wrap64;omega
    |none=>go_wp2_with fail;refine HG.out.mono ?_;rintro e w3 ⟨rfl,hb3⟩;clear HG;go_wp2_with fail;exact HE.out _ _ _ hb3 (af _ _) (by simp)
   ·cases q with
    |some rw0=>go_wp2_with fail;refine HG.out.mono ?_;rintro e w3 ⟨rfl,hb3⟩;clear HG;go_wp2_with fail;exact HE.out _ _ _ hb3 (af _ _) (by simp[hxs])
    |none=>go_wp2_with fail;refine HG.out.mono ?_;rintro e w3 ⟨rfl,hb3⟩;clear HG;go_wp2_with fail;refine HE.out _ _ _ hb3 (af _ _) ?_;have:=HSb.out;simp[hxs];unfold wrap64;omega
end
section
open Go.RowKit Go.Maps Go.WideShapes
theorem str_inj{a b:List UInt8}(h:Value.string ⟨a.toArray⟩=.string ⟨b.toArray⟩):a=b:=by injection h with h;injection h with h;simpa using h
section
variable{w w':World}{B T o m n:Nat}{most:Int}{l:av}{wl:pQ}{FT:Nat->Nat->Prop}{g:Value->Option Value}{FR:Nat->Prop}{k:List UInt8}{x:Option Rw}{v:Value}
theorem mM.put(h:mM w B T most o l wl FT m n g FR)(hk:1<=k.length/\k.length<=16)(hf: ∀r,x=some r-> ∀c,I6 (r.aK c))
  (hmap:dM Tryz.prog w' 9 m (if(g (.string ⟨k.toArray⟩)).isSome then n else n+1) (zR g (.string ⟨k.toArray⟩) (some v))) (ho:Only (fun j=>j=m) w w') (hv:sI w v x)
  (hF: ∀b,v=.pointer (some ⟨b,0,none⟩)->b≠B/\b≠m/\b<w.heap.size/\ ∀q,¬FT b q):
  mM w' B T most o l (bE (k,x) wl) FT m (if(g (.string ⟨k.toArray⟩)).isSome then n else n+1) (zR g (.string ⟨k.toArray⟩) (some v)) (fun b=>FR b\/v=.pointer (some ⟨b,0,none⟩)):=by
 refine⟨ho.heap h.blk h.Bm,hmap,h.tab.eO ho (fun b q hb e=>h.bm q (e▸hb)),dR h.up,fun q hq=>?_,fun q hq=>?_,fun k'=>?_,h.bB,h.bm,fun b hb=>?_,h.Bm,?_⟩
 ·rcases gw hq with rfl|hq
  ·exact hk
  ·exact h.key q hq
 ·rcases gw hq with rfl|hq
  ·exact hf
  ·exact h.fit q hq
 ·rw[lA h.up];by_cases e:k'=k
  ·subst e;rw[fi rfl,yz];exact⟨hv.only ho (fun b e=>(hF b e).2.1),fun b e=>.inr e⟩
  ·rw[ff e,uX _ _ (fun e1=>e (str_inj e1))];have h1:=(h.wr k').only ho (fun b hb=>(h.bR b hb).2.1);generalize g (.string ⟨k'.toArray⟩)=a at h1⊢;generalize au k' wl=b at h1⊢
   match a,b,h1 with
   |none,none,_=>trivial
   |some _,some _,h1=>exact⟨h1.1,fun b e=>.inl (h1.2 b e)⟩
 ·rcases hb with hb|hb
  ·exact⟨(h.bR b hb).1,(h.bR b hb).2.1,cq (h.bR b hb).2.2.1 ho.size,(h.bR b hb).2.2.2⟩
  ·exact⟨(hF b hb).1,(hF b hb).2.1,cq (hF b hb).2.2.1 ho.size,(hF b hb).2.2.2⟩
 ·have h1:=h.cnt;have h2:=(h.wr k).CP;rw[jH h.up,h2];split<;>omega
end
def GJ(w w':World)(B T o:Nat)(most:Int)(l:av)(wl:pQ)(FT:Nat->Nat->Prop)(m:Nat)(FR:Nat->Prop):Prop:=
 ∃n g XS,mM w' B T most o l wl FT m n g XS/\(∀b,XS b->FR b\/w.heap.size<=b)/\Only (fun k=>k=m) w w'
def qB(w:World)(B T o:Nat)(most:Int)(l:av)(wl:pQ)(FT:Nat->Nat->Prop)(m:Nat)(FR:Nat->Prop)(k:List UInt8)(r:Rw)(e:Ending)(w':World):Prop:=
 if au k (bI wl l)=none/\most<=(bI wl l).length then e=.returned (.int .i64 16)/\Below w.heap.size w w'
 else e=.returned (.int .i64 0)/\GJ w w' B T o most l (bE (k,some r) wl) FT m FR
theorem mM.at_{w:World}{B T o m n:Nat}{most:Int}{l:av}{wl:pQ}{FT:Nat->Nat->Prop}{g:Value->Option Value}{FR:Nat->Prop}(h:mM w B T most o l wl FT m n g FR):eV w B T most o l wl FT (fun _=>True):=⟨m,n,g,FR,h,trivial,trivial,fun _ _=>trivial⟩
theorem eV.up{w:World}{B T o:Nat}{most:Int}{l:av}{wl:pQ}{FT:Nat->Nat->Prop}{FB:Nat->Prop}(h:eV w B T most o l wl FT FB):ez wl:=by obtain⟨m,n,g,FR,h1,_⟩:=h;exact h1.up
theorem Je(w:World)(B T o m n:Nat)(most:Int)(l:av)(wl:pQ)(FT:Nat->Nat->Prop)(g:Value->Option Value)(FR:Nat->Prop)(k:List UInt8)(r:Rw)(hk:1<=k.length/\k.length<=16)(hr: ∀c,I6 (r.aK c))(hW0:mM w B T most o l wl FT m n g FR)
  (qf: ∀b q,FT b q->b<w.heap.size) (Pz:wl.length<=2305843009213693952):Calls Tryz.prog 149 #[.pointer (some ⟨B,0,none⟩),.string ⟨k.toArray⟩,r.val] w (qB w B T o most l wl FT m FR k r):=by
 have h:=hW0.at_;have Wl:=al hW0;obtain⟨FB,Mk⟩: ∃FB:Nat->Prop,FB=fun _=>True:=⟨_,rfl⟩;rw[<-Mk]at h;clear hW0 Mk;obtain⟨ra,rb,rc,rd⟩:=r;have hb0:=af w (.cells #[.int .i64 ra,.int .i64 rb,.int .i64 rc,.int .i64 rd] 26);have k0:=an w (.cells #[.int .i64 ra,.int .i64 rb,.int .i64 rc,.int .i64 rd] 26);unfold Rw.val;go_enter Tryz.func149,Tryz.ntmps149;go_upto_region 1 with fail;generalize w.alloc (.cells #[.int .i64 ra,.int .i64 rb,.int .i64 rc,.int .i64 rd] 26)=w1 at hb0 k0⊢;obtain⟨P,hP⟩: ∃x,w.heap.size=x:=⟨_,rfl⟩;rw[hP]at k0⊢;have h1:=h.below hb0;have hv:=jw (k:=k) (h.up) h.tab.up;have HH:=al (ab h1 (ab hb0 (ab k0 (ab hP (ab trivial (ab qf (ab Pz (ab hk hr))))))));have HG:=al (iu w1 B T o most l wl FT FB k hk h1);rw[hv]at HG;unfold ot at HG;clear hb0 k0 hP qf Pz hk hr h1 h hv;obtain⟨q,hq⟩: ∃q,au k (bI wl l)=q:=⟨_,rfl⟩;rw[hq]at HG;obtain⟨⟨ya,yb,yc,yd⟩,hy⟩: ∃r,q.getD .zero=r:=⟨_,rfl⟩;rw[hy]at HG;clear hy;have HQ:=al hq;clear hq;go_wp2_with fail;refine HG.out.mono ?_;rintro e w2 ⟨rfl,hb2⟩;unfold Rw.val;have dP:=af w2 (.cells #[.int .i64 ya,.int .i64 yb,.int .i64 yc,.int .i64 yd] 26);have HB:=al (ab hb2 dP);clear hb2 dP HG;have hW:=Wl.out.only (qe (HH.out.2.1.trans ((HB.out.1.trans (HB.out.2.mono HB.out.1.size)).mono HH.out.2.1.size))) (fun h=>h) (fun h=>h) (fun _ _ h=>h) (fun _ _ _ h=>h);go_upto_region 2 with fail;generalize w2.alloc (.cells #[.int .i64 ya,.int .i64 yb,.int .i64 yc,.int .i64 yd] 26)=w3 at HB hW⊢;have kq:Below w1.heap.size w1 w3:=HB.out.1.trans (HB.out.2.mono HB.out.1.size);have vq:Below w.heap.size w w3:=HH.out.2.1.trans (kq.mono HH.out.2.1.size);have g1:=hW.blk;have z0:w3.cell? ⟨B,0,none⟩=some (.pointer (some ⟨T,0,none⟩)):=by simp[World.cell?,g1]
 have HX:=al (ab hW (ab trivial (ab kq vq)));clear g1 vq hW;have HL:=al (show ∀W,Below w3.heap.size w3 W->Calls Tryz.prog 178 #[.pointer (some ⟨B,0,none⟩)] W fun e w'=>e=.returned (.int .i64 ((bI wl l).length:Int))/\Below W.heap.size W w' from fun W hb=>Jd W B T o most l wl FT FB (HH.out.1.below (kq.trans (hb.mono kq.size))) HH.out.2.2.2.2.2.2.1);have HM:=al (show ∀W,Below w3.heap.size w3 W->Calls Tryz.prog 179 #[.pointer (some ⟨T,0,none⟩)] W fun e w'=>e=.returned (.int .i64 most)/\W=w' from fun W hb=>EO W T o most l FT (HH.out.1.below (kq.trans (hb.mono kq.size))).tab)
 have HS:=al (show ∀W,Below w3.heap.size w3 W->W.cell? ⟨B,1,none⟩=some (.map (some m))/\dM Tryz.prog W 9 m n g/\n<maxLen/\Below w.heap.size w W/\ ∀w',dM Tryz.prog w' 9 m (if(g (.string ⟨k.toArray⟩)).isSome then n else n+1) (zR g (.string ⟨k.toArray⟩) (some (.pointer (some ⟨P,0,none⟩))))->Only (fun j=>j=m) W w'->
   GJ w w' B T o most l (bE (k,some ⟨ra,rb,rc,rd⟩) wl) FT m FR from by
  intro W hb;obtain⟨h1,h2,h3,h4⟩:=HX.out;obtain⟨-,-,k0,hP,-,qf,Pz,hk,hr⟩:=HH.out;have hW:=h1.only (qe hb) (fun h=>h) (fun h=>h) (fun _ _ h=>h) (fun _ _ _ h=>h);have dP:=h4.trans (hb.mono h4.size);have gB:=hW.blk;have kP:=pw (h3.trans (hb.mono h3.size)) k0;have l1:=aO Wl.out.blk;have l2:=Wl.out.map.lt;refine⟨by simp[World.cell?,gB],hW.map,by have:=hW.cnt;unfold maxLen;omega,dP,fun w' hm ho=>⟨_,_,_,hW.put hk (x:=some ⟨ra,rb,rc,rd⟩) (fun r e c=>by injection e with e;subst e;exact hr c) hm ho ⟨P,rfl,kP⟩ (fun b e=>?_),fun b hb=>?_,(oy dP _).trans ho (fun j _ e=>e)⟩⟩
  ·injection e with e;injection e with e;injection e with e;subst e;exact⟨by omega,by omega,aO kP,fun q hq=>by have:=qf _ q hq;omega⟩
  ·rcases hb with hb|hb
   ·exact .inl hb
   ·injection hb with hb;injection hb with hb;injection hb with hb;exact .inr (by omega))
 clear kq
 cases q with
 |none=>
  simp only[mv,nh,if_false];refine pb (S:=(fun W=>Below w3.heap.size w3 W/\W.cell? ⟨B,0,none⟩=some (.pointer (some ⟨T,0,none⟩)))) (by kernel_rfl) ⟨(aw _ _).drew,z0⟩ (fun pt=>?_);refine aM [0,1,2,3,5,6,7,8] ?_
  iterate 8 (refine bX (v:=?_) (fun wS hSw=>?_) pt ?_;rotate_left;(obtain⟨s0,s1⟩:=hSw;go_simp;try with_reducible rfl);try simp only[ai,aj,ak,ar])
  refine aN ?_;refine aW 4 (fun K hK=>?_);go_simp;refine(HL.out _ pt.1).mono ?_;rintro e wn ⟨rfl,cD⟩
  try go_simp
  refine hK.out _ _ (KT pt cD) ?_;clear hK K pt cD;intro pt
  try simp only[ai,aj,ak,ar]
  refine aW 9 (fun K hK=>?_);go_simp;refine(HM.out _ pt.1).mono ?_;rintro e wn ⟨rfl,rfl⟩
  try go_simp
  refine hK.out _ _ (pt) ?_;clear hK K pt;intro pt
  try simp only[ai,aj,ak,ar]
  refine aM [10,11,12] ?_
  iterate 3 (refine bX (v:=?_) (fun wS hSw=>?_) pt ?_;rotate_left;(obtain⟨s0,s1⟩:=hSw;go_simp;try with_reducible rfl);try simp only[ai,aj,ak,ar])
  refine aN ?_;refine pf (by kernel_rfl) ?_ _;have Ey:=al pt.1;clear pt z0
  rename World=>W
  have NK:=al (HS.out W Ey.out);by_cases hf:most<=((bI wl l).length:Int)
  ·have HF:=al (show au k (bI wl l)=none/\most<=((bI wl l).length:Int)from⟨HQ.out,hf⟩);clear HS HX HB HL HM;go_wp2_with fail;go_ret
   unfold qB;rw[fi HF.out];exact⟨rfl,NK.out.2.2.2.1⟩
  ·have HF:=al (show ¬(au k (bI wl l)=none/\most<=((bI wl l).length:Int))from fun h=>hf h.2);have ZC:=al (CL (k:=k) (by have:=HH.out.2.2.2.2.2.2.2.1;simp[maxLen];omega));have d1:=NK.out.1;clear HS HX HB HL HM;go_wp2_with (at_mapUpdate;go_loud (refine jb _ rfl _ _ _ 107 rfl uY Tryz.underlying107 rfl NK.out.2.1 NK.out.2.2.1 rfl rfl ZC.out ?_);intro w5 mK jR;have HZ:=al (NK.out.2.2.2.2 w5 mK jR);clear mK jR);go_ret
   unfold qB;rw[ff HF.out];exact⟨rfl,HZ.out⟩
 |some rq=> 
  simp only[me,if_true];refine pb (S:=(fun W=>Below w3.heap.size w3 W/\W.cell? ⟨B,0,none⟩=some (.pointer (some ⟨T,0,none⟩)))) (by kernel_rfl) ⟨(aw _ _).drew,z0⟩ (fun pt=>?_);refine aM [0,1,2] ?_
  iterate 3 (refine bX (v:=?_) (fun wS hSw=>?_) pt ?_;rotate_left;(obtain⟨s0,s1⟩:=hSw;go_simp;try with_reducible rfl);try simp only[ai,aj,ak,ar])
  refine aN ?_;refine BZ (i:=3) rfl (by kernel_rfl) (by kernel_rfl) (by kernel_rfl) (fun _ _ _ h=>h) (by rfl) pt ?_
  try simp only[ai,aj,ak,ar]
  refine BZ (i:=4) rfl (by kernel_rfl) (by kernel_rfl) (by kernel_rfl) (fun _ _ _ h=>h) (by rfl) pt ?_
  try simp only[ai,aj,ak,ar]
  refine BZ (i:=5) rfl (by kernel_rfl) (by kernel_rfl) (by kernel_rfl) (fun _ _ _ h=>h) (by rfl) pt ?_
  try simp only[ai,aj,ak,ar]
  refine BZ (i:=6) rfl (by kernel_rfl) (by kernel_rfl) (by kernel_rfl) (fun _ _ _ h=>h) (by rfl) pt ?_
  try simp only[ai,aj,ak,ar]
  refine BZ (i:=7) rfl (by kernel_rfl) (by kernel_rfl) (by kernel_rfl) (fun _ _ _ h=>h) (by rfl) pt ?_
  try simp only[ai,aj,ak,ar]
  refine BZ (i:=8) rfl (by kernel_rfl) (by kernel_rfl) (by kernel_rfl) (fun _ _ _ h=>h) (by rfl) pt ?_
  try simp only[ai,aj,ak,ar]
  refine BZ (i:=9) rfl (by kernel_rfl) (by kernel_rfl) (by kernel_rfl) (fun _ _ _ h=>h) (by rfl) pt ?_
  try simp only[ai,aj,ak,ar]
  refine BZ (i:=10) rfl (by kernel_rfl) (by kernel_rfl) (by kernel_rfl) (fun _ _ _ h=>h) (by rfl) pt ?_
  try simp only[ai,aj,ak,ar]
  refine aM [11,12] ?_
  iterate 2 (refine bX (v:=?_) (fun wS hSw=>?_) pt ?_;rotate_left;(obtain⟨s0,s1⟩:=hSw;go_simp;try with_reducible rfl);try simp only[ai,aj,ak,ar])
  refine aN ?_;refine pf (by kernel_rfl) ?_ _;have Ey:=al pt.1;clear pt z0;generalize w3.drew=W at Ey⊢;have NK:=al (HS.out W Ey.out);have HF:=al (show ¬(au k (bI wl l)=none/\most<=((bI wl l).length:Int))from fun h=>by rw[HQ.out]at h;cases h.1);have ZC:=al (CL (k:=k) (by have:=HH.out.2.2.2.2.2.2.2.1;simp[maxLen];omega));have d1:=NK.out.1;clear HS HX HB HL HM;go_wp2_with (at_mapUpdate;go_loud (refine jb _ rfl _ _ _ 107 rfl uY Tryz.underlying107 rfl NK.out.2.1 NK.out.2.2.1 rfl rfl ZC.out ?_);intro w5 mK jR;have HZ:=al (NK.out.2.2.2.2 w5 mK jR);clear mK jR);go_ret
  unfold qB;rw[ff HF.out];exact⟨rfl,HZ.out⟩
def tz(w:World)(B T o:Nat)(most:Int)(l:av)(wl:pQ)(FT:Nat->Nat->Prop)(m:Nat)(FR:Nat->Prop)(k:List UInt8)(e:Ending)(w':World):Prop:=
 if au k (bI wl l)=none then e=.returned (.int .i64 14)/\Below w.heap.size w w'
 else e=.returned (.int .i64 0)/\GJ w w' B T o most l (bE (k,none) wl) FT m FR
theorem Jf(w:World)(B T o m n:Nat)(most:Int)(l:av)(wl:pQ)(FT:Nat->Nat->Prop)(g:Value->Option Value)(FR:Nat->Prop)(k:List UInt8)(hk:1<=k.length/\k.length<=16)(hW0:mM w B T most o l wl FT m n g FR)
  (Pz:wl.length<=2305843009213693952):Calls Tryz.prog 150 #[.pointer (some ⟨B,0,none⟩),.string ⟨k.toArray⟩] w (tz w B T o most l wl FT m FR k):=by
 have h:=hW0.at_;have Wl:=al hW0;obtain⟨FB,Mk⟩: ∃FB:Nat->Prop,FB=fun _=>True:=⟨_,rfl⟩;rw[<-Mk]at h;clear hW0 Mk;have hv:=jw (k:=k) (h.up) h.tab.up;have HG:=al (iu w B T o most l wl FT FB k hk h);rw[hv]at HG;unfold ot at HG;have HH:=al (ab h (ab Pz hk));clear Pz hk h hv;obtain⟨q,hq⟩: ∃q,au k (bI wl l)=q:=⟨_,rfl⟩;rw[hq]at HG;obtain⟨⟨ya,yb,yc,yd⟩,hy⟩: ∃r,q.getD .zero=r:=⟨_,rfl⟩;rw[hy]at HG;clear hy;have HQ:=al hq;clear hq;go_enter Tryz.func150,Tryz.ntmps150;go_wp2_with fail;refine HG.out.mono ?_;rintro e w2 ⟨rfl,hb2⟩;unfold Rw.val;have dP:=af w2 (.cells #[.int .i64 ya,.int .i64 yb,.int .i64 yc,.int .i64 yd] 26);have HB:=al (hb2.trans (dP.mono hb2.size));clear hb2 dP HG;have hW:=Wl.out.only (qe HB.out) (fun h=>h) (fun h=>h) (fun _ _ h=>h) (fun _ _ _ h=>h);have g1:=hW.blk;have HX:=al (ab hW trivial)
 cases q with
 |none=>
  simp only[mv,nh,if_false];clear hW g1 HX HH;go_wp2_with fail;go_ret
  unfold tz;rw[fi HQ.out];exact⟨rfl,HB.out⟩
 |some rq=>
  simp only[me,if_true];have HK:=al (ab hW.map (CL (k:=k) (by have:=HH.out.2.2;simp[maxLen];omega)));have hn:n<maxLen:=by have:=hW.cnt;have:=HH.out.2.1;unfold maxLen;omega
  clear hW;go_upto_region 4 with fail;generalize w2.alloc (.cells #[.int .i64 ya,.int .i64 yb,.int .i64 yc,.int .i64 yd] 26)=w3 at HB HX HK g1⊢;have d1:w3.cell? ⟨B,1,none⟩=some (.map (some m)):=by simp[World.cell?,g1]
  clear g1;go_wp2_with (at_mapUpdate;go_loud (refine jb _ rfl _ _ _ 107 rfl uY Tryz.underlying107 rfl HK.out.1 hn rfl rfl HK.out.2 ?_);intro w5 mK jR;have HZ:=al (ab mK jR);clear mK jR);go_ret
  unfold tz;rw[ff (by rw[HQ.out];exact fun h=>by cases h)];exact⟨rfl,_,_,_,HX.out.1.put HH.out.2.2 (x:=none) (fun r e=>by cases e) HZ.out.1 HZ.out.2 rfl (fun b e=>by injection e with e;cases e),fun b hb=>hb.elim .inl (fun e=>by injection e with e;cases e),(oy HB.out _).trans HZ.out.2 (fun j _ e=>e)⟩
end
end Go.Proofs.YtagemonojdgbdaaGreatDoor
