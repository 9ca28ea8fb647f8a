import Derived.Test.YtagemonojdgbdaaGreatDoorF10
import Derived.Test.YtagemonojdgbdaaGreatDoorF21
namespace Go.Proofs.YtagemonojdgbdaaGreatDoor
set_option maxRecDepth 100000
set_option maxHeartbeats 16000000
open Go.RowKit
section
open Go.Shelf Go.RowKit Go.Lib Go.Sort
abbrev r9 (x y:Int×Int):Int:=Lib.compareInt x.1 y.1
theorem O4(x y:Int×Int):ltOf r9 x y=decide (x.1<y.1):=by
 unfold ltOf r9 Lib.compareInt;by_cases h1:x.1<y.1
 ·simp[h1]
 ·by_cases h2:y.1<x.1<;>simp[h1,h2]
theorem Vy:SWO (ltOf r9) where
 irrefl x:=by rw[O4];simp
 trans x y z h1 h2:=by rw[O4]at *;simp at *;omega
 ntrans x y z h1 h2:=by rw[O4]at *;simp at *;omega
theorem IL(x y:Int×Int)(W:World):Calls Tryz.prog 117 #[.agg #[.int .i64 x.1,.int .i64 x.2],.agg #[.int .i64 y.1,.int .i64 y.2]] W fun e w'=>e=.returned (.int .i64 (r9 x y))/\ ∃q os',w'=grow (W.drewN q) os':=by
 have hcon:=fun W'=>AnyG.cmp_Compare_int Tryz.Ky x.1 y.1 W';change ∀W',Calls Tryz.prog 118 _ _ _ at hcon;unfold r9;generalize Lib.compareInt x.1 y.1=r at hcon⊢;go_enter Tryz.func117,Tryz.ntmps117;go_wp2_with (go_at_call 118;refine(hcon _).mono ?_;rintro e w' ⟨rfl,rfl⟩);go_ret
 exact⟨rfl,0,_,by rw[alloc_eq_grow,alloc_eq_grow,grow_grow];rfl⟩
theorem O5(blk off size:Nat)(w:World):CmpLays Tryz.prog 117 #[] kX 2 r9 blk off size w:=
 fun _ _ _ _ x y=>IL x y _
def jU(l:List (Int×Int)):Prop:=l.Pairwise fun a b=>a.1<=b.1
theorem mJ{α:Type}[Inhabited α](enc:α->List Value)(k:Nat)(w:World)(blk off n:Nat)(d:Array α)(os:Array Obj):Only (fun b=>b=blk) w (sortWorldK enc k w blk off n d os):=by
 refine⟨rfl,rfl,rfl,?_,fun b hb hne=>?_⟩
 ·exact size_sortWorldK_c enc k w blk off n d os
 ·unfold sortWorldK grow putRowK putRow mapBlock;simp only;rw[Array.getElem?_append_left (by simpa[Sort.ahead]using hb),Array.getElem?_modify,ff (fun h=>hne h.symm)];rfl
theorem wR{w:World}{base g cap:Nat}{l:List (Int×Int)}(h:w.ownsRow base 178 2 (.slice (some ⟨g,0,none⟩) l.length cap) l.length (l.map kX).flatten):HoldsK kX 2 w g 0 l.toArray:=by
 intro t ht;rw[size_flatK]at ht;rw[get_flatK _ _ _ _ ht];simp at ht;have hd:t/2<l.length:=(Nat.div_lt_iff_lt_mul (by decide)).2 ht;have h1:l[t/2]?=some l[t/2]:=ao hd;have h2:=jl (kG l) (t/2) (kX l[t/2]) (by simp[h1]) (t%2);have hm:t/2*2+t%2=t:=by omega
 rw[hm]at h2;have h3:=h.cellAt t (by omega);have h4:=h.frozenAt t;have he:l.toArray[t/2]! =l[t/2]:=by simp[hd]
 rw[he]
 have hs:(kX l[t/2])[t%2]?=some (kX l[t/2])[t%2]!:=by rcases Nat.mod_two_eq_zero_or_one t with h0|h0<;>rw[h0]<;>rfl
 rw[h2 _ hs]at h3;rw[gn];exact⟨h3,h4⟩
theorem wT{w:World}{F:Nat->Prop}{g cap:Nat}{d:Array (Int×Int)}(h:HoldsK kX 2 w g 0 d)(hF:F g)(h1:d.size<=cap)(h2:cap<=maxLen):lD w F (.slice (some ⟨g,0,none⟩) d.size cap) d.toList:=by
 refine⟨_,_,_,rfl,by simp,h1,h2,fun _=>⟨g,0,rfl,hF,fun i x hx j u hu=>?_⟩⟩;have hi:i<d.size:=by have:=(b8.1 hx).1;simpa using this
 have hj:j<2:=by have:=(b8.1 hu).1;have hl:=kG d.toList x (dd hx);omega
 have:=(h.cell hi hj).1
 have e:(kX d[i]!)[j]! =u:=by
  simp[hi]at hx;subst hx;have:d[i]! =d[i]:=by simp[hi]
  rw[this];simp[hu]
 rw[e]at this;rw[<-this];congr 2;omega
def O6(l:List (Int×Int))(v:Value)(w:World)(e:Ending)(w':World):Prop:=
 ∃s,s.Perm l/\jU s/\ ∃A c,e=.returned (.slice A (cw s).length c)/\w'.ownsRow w.heap.size 178 2 (.slice A (cw s).length c) (cw s).length ((cw s).map kX).flatten/\Only (fun k=>v.ownBlock=some k) w w'
theorem Cw{d:Array (Int×Int)}(h:SortedIn (ltOf r9) 0 d.size d):jU d.toList:=by unfold jU;rw[List.pairwise_iff_getElem];intro i j hi hj hij;have:=h i j (dj _) hij (by simpa using hj);rw[O4]at this;simp at hi hj;simp[hi,hj]at this;simpa using this
theorem ym(w:World)(v:Value)(l:List (Int×Int))(h:w.ownsRow 0 178 2 v l.length (l.map kX).flatten)(hl:l.length<=1000)(hfit:gF l):
  Calls Tryz.prog 69 #[v] w (O6 l v w):=by
 rcases h.2 with⟨rfl,h0⟩|⟨g,cap,cur,rfl,_,hg,hn,hc,hs,ht⟩
 ·have:l=[]:=db h0;subst this;have hcon:=fun W=>AnyF.slices_SortFunc_none Tryz.Kz none 0 (.func (.func 117) #[] #[]) W;change ∀W,Calls Tryz.prog 116 _ _ _ at hcon;go_enter Tryz.func69,Tryz.ntmps69;go_wp2_with fail;refine(hcon _).mono ?_;rintro e w1 ⟨rfl,rfl⟩;go_wp2_with fail;refine(yj _ (fun _=>False) _ [] (cd.nil 2 _ _) (by simp) (by intro x hx;simp at hx)).mono ?_;rintro e w2 ⟨A,c,rfl,hown,hbl⟩;go_wp2_with fail;go_ret
  exact⟨[],List.Perm.refl _,eh,A,c,rfl,hown,oy hbl _⟩
 ·have eg: ∀args w,(callFunc 117 args).run Tryz.prog w=.ok (.enter 117 args) w:=enters_of Tryz.func117 (by kernel_rfl) rfl;have hH:=wR h;have hblk:g<w.heap.size:=(da.1 hg).1;have hcon:=AnyQ.slices_SortFunc Tryz.Kz 2 (by intro w;kernel_rfl) (by intro w;kernel_rfl) kX (fun _=>rfl) (fun x v hv=>by simp[kX]at hv;rcases hv with rfl|rfl<;>rfl) r9 Vy 117 #[] g 0 cap l.toArray w eg (O5 g 0 l.toArray.size w) hH hblk (by simp;omega);change Calls Tryz.prog 116 _ _ _ at hcon;simp only[nF]at hcon;have HH:=al hH;clear h hg ht hs hH;go_enter Tryz.func69,Tryz.ntmps69;go_wp2_with fail;refine hcon.mono ?_;rintro e w1 ⟨rfl,d',n,os,hp,hs,hw1⟩;have hsz:d'.size=l.length:=by simpa using hp.1
  have IM:Only (fun b=>b=g) w w1:=by rw[hw1];exact mJ kX 2 w g 0 n d' os
  have XJ:HoldsK kX 2 w1 g 0 d':=by rw[hw1];exact holdsK_sortWorldK_c kX 2 w g 0 l.toArray d' n os HH.out hblk (by simpa using hp.1)
  have kj:lD w1 (fun _=>True) (.slice (some ⟨g,0,none⟩) l.length cap) d'.toList:=by have:=wT (F:=fun _=>True) XJ trivial (by omega) hc;rw[hsz]at this;exact this
  have hperm:d'.toList.Perm l:=by
   have h2:=hp.2.2;have e1:d'.extract 0 l.length=d':=by simp[<-hsz]
   have e2:l.toArray.extract 0 l.length=l.toArray:=by simp
   rw[e1,e2]at h2;exact h2
  have hlo:jU d'.toList:=Cw (by rw[hsz];simpa using hs);have XK:gF d'.toList:=fun x hx=>hfit x (hperm.mem_iff.1 hx);have HR:=al (ab kj (ab hperm (ab hlo (ab XK (ab hsz IM)))));clear hw1 kj hperm hlo XK hs hp XJ IM hsz;go_wp2_with fail;refine(yj w1 (fun _=>True) _ d'.toList HR.out.1 (by have:=HR.out.2.2.2.2.1;simp;omega) HR.out.2.2.2.1).mono ?_;rintro e w2 ⟨A,c,rfl,hown,hbl⟩;go_wp2_with fail;go_ret
  have IM:=HR.out.2.2.2.2.2;refine⟨d'.toList,HR.out.2.1,HR.out.2.2.1,A,c,rfl,?_,?_⟩
  ·exact dW hown (fun k hk=>by have:=(hown.lt k hk).1;have:=IM.size;omega)
  ·exact IM.trans (T:=fun _=>False) (oy hbl _) (fun _ _ h=>h.elim)|>.mono (fun i _ hi=>by subst hi;rfl)
end
end Go.Proofs.YtagemonojdgbdaaGreatDoor
