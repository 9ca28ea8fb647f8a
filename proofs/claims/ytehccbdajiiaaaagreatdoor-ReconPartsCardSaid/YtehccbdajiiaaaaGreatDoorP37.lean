import Derived.Test.YtehccbdajiiaaaaGreatDoorP36
namespace Go.Proofs.YtehccbdajiiaaaaGreatDoor
open Go.Proofs.Tryz
set_option maxRecDepth 100000
set_option maxHeartbeats 16000000
open Go.RowKit
def gH(a:List UInt8):Option FE:=
 match dJ iK 1 a with
 |some ([id],r)=>match rU mo 64 r with
  |some (ops,r2)=>match rU mL 8 r2 with
   |some (args,r3)=>match rU jI 64 r3 with
    |some (cls,r4)=>if r4=[]then some ⟨id,ops,args,cls⟩else none
    |none=>none
   |none=>none
  |none=>none
 |_=>none
def XS(b:Nat)(w:World)(c e d a:Nat)(w':World):Prop:=Below w.heap.size w w'/\XG b c e d a w'/\w.heap.size<=c/\w.heap.size<=e/\w.heap.size<=d/\w.heap.size<=a
def F4(w w':World)(L:List (Nat×Value)):Prop:=
 Below w.heap.size w w'/\(L.map Prod.fst).Nodup/\ ∀x∈L,w.heap.size<=x.1/\ ∃t,w'.heap[x.1]?=some (.cells #[x.2] t (0,0))
section
variable{w w':World}{L:List (Nat×Value)}
theorem F4.start(w:World):F4 w w []:=⟨aw _ _,by simp,by simp⟩
theorem F4.drew(h:F4 w w' L):F4 w w'.drew L:=⟨h.1.drew,h.2.1,h.2.2⟩
theorem F4.alloc(h:F4 w w' L)(v:Value)(t:TypeId):F4 w (w'.alloc (.cells #[v] t)) ((w'.heap.size,v)::L):=by
 have c:=h.1.size;have d: ∀x∈L,x.1<w'.heap.size:=fun x a=>by obtain⟨_,t,b⟩:=h.2.2 x a;exact(cq.1 b).1
 refine⟨h.1.alloc c _,?_,fun x a=>?_⟩
 ·simp only[lx,List.nodup_cons];refine⟨fun f=>?_,h.2.1⟩;obtain⟨y,e,g⟩:=eh.1 f;have:=d y e;omega
 ·rcases eR.1 a with rfl|a
  ·exact⟨c,t,an _ _⟩
  ·obtain⟨f,e,b⟩:=h.2.2 x a;exact⟨f,e,(ri (fG w' _)).heap b id⟩
theorem F4.at_(h:F4 w w' L)(i:Nat){B:Nat}{v:Value}(hi:L[i]?=some (B,v)):w'.cell? ⟨B,0,none⟩=some v/\w'.frozen? ⟨B,0,none⟩=false:=by obtain⟨_,t,a⟩:=h.2.2 _ (db hi);exact⟨by simp[World.cell?,a],by simp[World.frozen?,a]⟩
theorem F4.set(h:F4 w w' L)(i:Nat){B:Nat}{v0:Value}(hi:L[i]?=some (B,v0))(v:Value):F4 w (w'.setCell ⟨B,0,none⟩ v) (L.set i (B,v)):=by
 have s:=db hi;obtain⟨e,q,l⟩:=h.2.2 _ s
 have g:(L.set i (B,v)).map Prod.fst=L.map Prod.fst:=by
  rw[List.map_set];refine List.ext_getElem? fun t=>?_;rw[List.getElem?_set];split
  ·rename_i f;subst f;split
   ·simp[hi]
   ·rename_i c;simp at c;simp[List.getElem?_eq_none c]
  ·rfl
 refine⟨h.1.setCell e _,g▸h.2.1,fun x p=>?_⟩;obtain⟨t,a⟩:=List.mem_iff_getElem?.1 p;by_cases b:t=i
 ·subst b;rw[List.getElem?_set_self (List.getElem?_eq_some_iff.1 hi).1]at a;injection a with a;subst a;exact⟨e,q,by simp[World.setCell,Array.getElem?_modify,l]⟩
 ·rw[List.getElem?_set_ne (fun f=>b f.symm)]at a;obtain⟨o,m,k⟩:=h.2.2 _ (db a);refine⟨o,m,?_⟩
  have j:x.1≠B:=by
   intro f;have d:(L.map Prod.fst)[t]?=some B:=by simp[a,f]
   have r:(L.map Prod.fst)[i]?=some B:=by simp[hi]
   have n:=(bd.1 d).1;exact b ((List.getElem?_inj n h.2.1).1 (d.x r.symm))
  exact(Only.aR w' B 0 v).heap k j
theorem F4.uO{b e d c a:Nat}(h:F4 w w' L)(q:(e,(Value.func (.func 148) #[] #[r7 c]))∈L)(l:(d,(Value.func (.func 148) #[] #[r7 a]))∈L)
  (n:(c,(Value.func (.func 86) #[r7 b] #[]))∈L) (k:(a,(Value.func (.func 87) #[r7 b] #[]))∈L):XS b w e d c a w':=by
 obtain⟨r,_,i⟩:=h.2.2 _ q;obtain⟨g,_,p⟩:=h.2.2 _ l;obtain⟨j,_,m⟩:=h.2.2 _ n;obtain⟨f,_,o⟩:=h.2.2 _ k;exact⟨h.1,⟨by simp[World.cell?,i],by simp[World.cell?,p],by simp[World.cell?,m],by simp[World.cell?,o]⟩,r,g,j,f⟩
end
theorem jL.start{F:Nat->Prop}{b:Nat}{e:List UInt8}{p T f k j l:Nat}{t:TypeId}{cs:Array Value}{w a m:World}(u:bp w F b e p)(g: ∀s,F s->s<w.heap.size)(i:Below w.heap.size w a)(h:a.heap[T]?=some (.cells cs t (0,0)))(A:w.heap.size<=T)(r:XS b a f k j l m):jL F b e f k j l T t p cs m:=by
 obtain⟨d,n,y,z,C,B⟩:=r;have o:=i.size;have x:T<a.heap.size:=(cq.1 h).1;have v:b<w.heap.size:=by obtain⟨D,q,_⟩:=u;exact(cq.1 q).1
 refine⟨u.below (i.x (d.m o)),n,(ri d).heap h id,fun c=>?_,⟨by omega,by omega,by omega,by omega⟩,⟨by omega,by omega,by omega,by omega⟩,fun s c=>?_⟩
 ·have:=g _ c;omega
 ·have:=g _ c;have:=d.size;omega
theorem jL.again{F:Nat->Prop}{b:Nat}{a:List UInt8}{p h T c e f d:Nat}{t:TypeId}{cs:Array Value}{w w':World}(i:jL F b a c e f d T t p cs w)(j:Only (fun k=>k=b) w w')(g:Mj F b a c e f d h w'):jL F b a c e f d T t h cs w':=
 ⟨g.1,g.2.1,j.heap i.2.2.1 i.nb,i.2.2.2.1,i.2.2.2.2.1,i.2.2.2.2.2.1,g.2.2.2⟩
theorem qO{w:World}{B:Nat}{c b d a:Value}{t:TypeId}(h:w.heap[B]?=some (.cells #[c,b,d,a] t (0,0))):
  (w.cell? ⟨B,0,none⟩=some c/\w.cell? ⟨B,1,none⟩=some b/\w.cell? ⟨B,2,none⟩=some d/\w.cell? ⟨B,3,none⟩=some a)/\w.frozen? ⟨B,0,none⟩=false/\w.frozen? ⟨B,1,none⟩=false/\w.frozen? ⟨B,2,none⟩=false/\w.frozen? ⟨B,3,none⟩=false:=by
 refine⟨⟨?_,?_,?_,?_⟩,?_,?_,?_,?_⟩<;>simp[World.cell?,World.frozen?,h]
theorem zo{w:World}{B:Nat}{e d h g:Value}{t:TypeId}(i:w.heap[B]?=some (.cells #[e,d,h,g] t (0,0)))(v0 v1 v2 v3:Value):
  ((((w.setCell ⟨B,0,none⟩ v0).setCell ⟨B,1,none⟩ v1).setCell ⟨B,2,none⟩ v2).setCell ⟨B,3,none⟩ v3).heap[B]?=some (.cells #[v0,v1,v2,v3] t (0,0)):=by
 have a:=dd w B 0 _ t v0 i;have f:=dd _ B 1 _ t v1 a;have b:=dd _ B 2 _ t v2 f;have c:=dd _ B 3 _ t v3 b;simpa using c
theorem Bj{w w0:World}{B b:Nat}(h:Only (fun k=>k=b) w0 w)(a:w0.heap.size<=B)(v0 v1 v2 v3:Value):
  Only (fun k=>k=b) w0 ((((w.setCell ⟨B,0,none⟩ v0).setCell ⟨B,1,none⟩ v1).setCell ⟨B,2,none⟩ v2).setCell ⟨B,3,none⟩ v3):=
 (((h.setCell (p:=⟨B,0,none⟩) (fun e=>absurd e (Nat.not_lt.2 a)) v0).setCell (p:=⟨B,1,none⟩) (fun e=>absurd e (Nat.not_lt.2 a)) v1).setCell (p:=⟨B,2,none⟩) (fun e=>absurd e (Nat.not_lt.2 a)) v2).setCell (p:=⟨B,3,none⟩) (fun e=>absurd e (Nat.not_lt.2 a)) v3
def aa9(b:Nat)(f:List UInt8)(p:Nat)(w:World)(e:Ending)(w':World):Prop:=
 Only (fun k=>k=b) w w'/\match gH (f.drop p)with
  |some x=> ∃c d a,e=.returned (.tuple #[zj x c d a,.bool true])/\nV w' (fun k=>w.heap.size<=k) c x.ops/\Rd w' (fun k=>w.heap.size<=k) d (Rm x.args)/\cz w' (fun k=>w.heap.size<=k) a x.cls
  |none=>e=.returned (.tuple #[.agg #[rv 0,.slice none 0 0,.slice none 0 0,.slice none 0 0],.bool false])
@[go_sem] theorem P9 {P:Program} {w:World} {a:Addr} {m:Mode} (f:Fn) (x y:Array Value):(store a (.func f x y) m).run P w=stored P w a (.func f x y) m:=run_store P w a _ m rfl
theorem TK(w:World)(F:Nat->Prop)(b:Nat)(a:List UInt8)(p:Nat)(h:bp w F b a p):Calls prog 95 #[r7 b] w fun e w'=>e=.returned (rv ((a.length:Int)-p))/\Only (fun _=>False) w w':=by
 obtain⟨A,k,j,i,_,_,e,c,d,_⟩:=h.at_;unfold maxLen at d;have g:=AI e c;clear h;have h:IntKind.i64.wrap ((a.length:Int)-p)=(a.length:Int)-p:=by rw[lP];omega
 have f:wrap64 ((a.length:Int)-p)=(a.length:Int)-p:=by unfold wrap64;omega
 go_enter func95,ntmps95;go_wp2_with fail
 go_region_held3 (fun w'=>w'.cell? ⟨b,0,none⟩=some (.slice A a.length k)/\w'.cell? ⟨b,1,none⟩=some (rv p)) (first|exact⟨by assumption,by assumption⟩|go_keep) (fail)
 go_wp2_with fail;go_ret
 exact⟨by go_num,(oT _ _).drew⟩
theorem Qa(w:World)(B:Nat)(v0 v1 v2 v3:Value):Only (fun k=>k=B) w ((((w.setCell ⟨B,0,none⟩ v0).setCell ⟨B,1,none⟩ v1).setCell ⟨B,2,none⟩ v2).setCell ⟨B,3,none⟩ v3):=
 (((Only.aR w B 0 v0).setCell (p:=⟨B,1,none⟩) (fun _=>rfl) v1).setCell (p:=⟨B,2,none⟩) (fun _=>rfl) v2).setCell (p:=⟨B,3,none⟩) (fun _=>rfl) v3
theorem TL{w:World}{F:Nat->Prop}{v:Value}{l:List Int}(k:bJ 1 w F v (l.map Fk)):Rd w F v (Rm l):=by
 obtain⟨A,n,h,rfl,b,g,e,c⟩:=k;refine⟨A,n,h,rfl,by simpa[Rm]using b,g,e,fun a=>?_⟩;obtain⟨i,o,rfl,d,f⟩:=c a;refine⟨i,o,rfl,d,fun j u a=>?_⟩;simp only[Rm,oy]at a
 cases hlj:l[j]? with
 |none=>rw[hlj]at a;simp at a
 |some m=>rw[hlj]at a;simp at a;subst a;have:=f j (Fk m) (by simp[hlj]) 0 (rv m) (by simp[Fk]);simpa using this
theorem IG(F:Nat->Prop)(b:Nat)(t:List UInt8)(p:Nat)(w:World)(T:bp w F b t p)(d: ∀D,F D->D<w.heap.size):
  Calls prog 57 #[r7 b] w (aa9 b t p w):=by
 obtain⟨S,a⟩:=rl (((w.alloc (ud b)).alloc (sq 0)).alloc (sq 0));have c:=sJ w (ud b) (sq 0) (sq 0)
 have i:S.cell? ⟨w.heap.size,0,none⟩=some (r7 b):=by rw[<-a];exact aJ (aJ (by have:=an w (ud b);simp only[World.cell?,this];rfl) _) _
 have H:S.heap[w.heap.size+1]?=some (sq 0):=by rw[<-a];refine(ri (fG _ _)).heap ?_ id;have:=an (w.alloc (ud b)) (sq 0);simpa using this
 have e:S.heap[w.heap.size+1+1]?=some (sq 0):=by rw[<-a];exact Gy _ _ _ _
 rw[a]at c;go_enter func57,ntmps57;go_upto_region 2 with fail;have j:w.heap.size<S.heap.size:=aq _ _ i;have V:=AM c H e;have HR:=AI T d;clear c H e T d a;obtain⟨h,a⟩:=rl (w.heap.size);rw[a]at j i⊢;have JJ:=al a;clear a;obtain⟨C,c⟩:=rl (h+1);rw[c];obtain⟨l,a⟩:=rl (C+1);rw[a];have HB:=AI c a;clear c a;have a:=al (F4.start S)
 go_cut [5,6]from 8 to 13 (fun e c d=> ∃A x s q,e=r7 A/\c=r7 x/\XS b S A x s q d)
 case first=>
   refine pw (S:=(fun w'=>w'.cell? ⟨h,0,none⟩=some (r7 b))) (by kernel_rfl) (((a.o.drew.1.cell (p:=⟨h,0,none⟩) j).x i)) (fun e=>?_);have a:=al a.o.drew;generalize S.drew=y at a e⊢;refine ag (i:=0) (v:=?_) rfl (by kernel_rfl) (by kernel_rfl) (by kernel_rfl) (fun _ _ _ T=>T) (by rfl) (fun d c=>?_) e ?_;rotate_left
   ·go_simp;try rfl
   try simp only[xT]
   refine ag (i:=1) (v:=?_) rfl (by kernel_rfl) (by kernel_rfl) (by kernel_rfl) (fun _ _ _ T=>T) (by rfl) (fun d c=>?_) e ?_;rotate_left
   ·go_simp;try rfl
   try simp only[xT]
   refine ag (i:=3) (v:=?_) rfl (by kernel_rfl) (by kernel_rfl) (by kernel_rfl) (fun _ _ _ T=>T) (by rfl) (fun d c=>?_) e ?_;rotate_left
   ·go_simp;try rfl
   try simp only[xT]
   refine ag (i:=4) (v:=?_) rfl (by kernel_rfl) (by kernel_rfl) (by kernel_rfl) (fun _ _ _ T=>T) (by rfl) (fun d c=>?_) e ?_;rotate_left
   ·go_simp;try rfl
   try simp only[xT]
   refine qn (rs:=[2,6,7]) (by kernel_rfl) (by simp) (au (i:=2) rfl (fun K d=>?_) (au (i:=6) rfl (fun K d=>?_) (au (i:=7) rfl (fun K d=>?_) pt)))
   focus
    go_simp;refine(cA _ _ _ _).m ?_;rintro r B ⟨rfl,rfl⟩
    try go_simp
    have c:=al (a.o.alloc (.func (.func 86) #[r7 b] #[]) 185);refine d.o _ _ ((c.o.1.cell (p:=⟨h,0,none⟩) j).x i) (fun f=>?_);clear d K e a;have a:=c;have e:=f;clear c f
    try simp only[xT]
    generalize g:y.alloc _=z at a e⊢;clear g;generalize y.heap.size=s at a⊢;refine qn (rs:=[5,6,7]) (by kernel_rfl) (by simp) (au (i:=5) rfl (fun K d=>?_) (au (i:=6) rfl (fun K d=>?_) (au (i:=7) rfl (fun K d=>?_) pt)))
    focus
     go_simp;refine(cA _ _ _ _).m ?_;rintro r B ⟨rfl,rfl⟩
     try go_simp
     have c:=al (a.o.alloc (.func (.func 87) #[r7 b] #[]) 185);refine d.o _ _ ((c.o.1.cell (p:=⟨h,0,none⟩) j).x i) (fun f=>?_);clear d K e a;have a:=c;have e:=f;clear c f
     try simp only[xT]
     generalize g:z.alloc _=n at a e⊢;clear g;generalize z.heap.size=q at a⊢;refine qn (rs:=[6,7]) (by kernel_rfl) (by simp) (au (i:=6) rfl (fun K d=>?_) (au (i:=7) rfl (fun K d=>?_) pt))
     focus
      go_simp;have c:=al (a.o.alloc .nilFunc 183);refine d.o _ _ ((c.o.1.cell (p:=⟨h,0,none⟩) j).x i) (fun f=>?_);clear d K e a;have a:=c;have e:=f;clear c f
      try simp only[xT]
      generalize g:n.alloc _=k at a e⊢;clear g;generalize n.heap.size=A at a⊢;refine qn (rs:=[7]) (by kernel_rfl) (by simp) (au (i:=7) rfl (fun K d=>?_) pt);go_simp;have c:=al (a.o.alloc .nilFunc 183);refine d.o _ _ ((c.o.1.cell (p:=⟨h,0,none⟩) j).x i) (fun f=>?_);clear d K e a;have a:=c;have e:=f;clear c f
      try simp only[xT]
      generalize g:k.alloc _=u at a e⊢;clear g;generalize k.heap.size=x at a⊢;refine qn (rs:=[8]) (by kernel_rfl) (by simp) (au (i:=8) rfl (fun K d=>?_) pt);obtain⟨o,m⟩:=a.o.at_ 1 rfl;go_simp;have c:=al (a.o.set 1 rfl (.func (.func 148) #[] #[r7 s]));simp only[List.set_cons_zero,List.set_cons_succ]at c;clear o m;refine d.o _ _ ((c.o.1.cell (p:=⟨h,0,none⟩) j).x i) (fun f=>?_);clear d K e a;have a:=c;have e:=f;clear c f
      try simp only[xT]
      generalize g:u.setCell _ _=v at a e⊢;clear g;refine qn (rs:=[9]) (by kernel_rfl) (by simp) (au (i:=9) rfl (fun K d=>?_) pt);obtain⟨o,m⟩:=a.o.at_ 0 rfl;go_simp;have c:=al (a.o.set 0 rfl (.func (.func 148) #[] #[r7 q]));simp only[List.set_cons_zero]at c
     rotate_left
     focus
      go_simp;have c:=al (a.o.alloc .nilFunc 183);refine d.o _ _ ((c.o.1.cell (p:=⟨h,0,none⟩) j).x i) (fun f=>?_);clear d K e a;have a:=c;have e:=f;clear c f
      try simp only[xT]
      generalize g:n.alloc _=k at a e⊢;clear g;generalize n.heap.size=x at a⊢;refine qn (rs:=[6]) (by kernel_rfl) (by simp) (au (i:=6) rfl (fun K d=>?_) pt);go_simp;have c:=al (a.o.alloc .nilFunc 183);refine d.o _ _ ((c.o.1.cell (p:=⟨h,0,none⟩) j).x i) (fun f=>?_);clear d K e a;have a:=c;have e:=f;clear c f
      try simp only[xT]
      generalize g:k.alloc _=u at a e⊢;clear g;generalize k.heap.size=A at a⊢;refine qn (rs:=[8]) (by kernel_rfl) (by simp) (au (i:=8) rfl (fun K d=>?_) pt);obtain⟨o,m⟩:=a.o.at_ 0 rfl;go_simp;have c:=al (a.o.set 0 rfl (.func (.func 148) #[] #[r7 s]));simp only[List.set_cons_zero]at c;clear o m;refine d.o _ _ ((c.o.1.cell (p:=⟨h,0,none⟩) j).x i) (fun f=>?_);clear d K e a;have a:=c;have e:=f;clear c f
      try simp only[xT]
      generalize g:u.setCell _ _=v at a e⊢;clear g;refine qn (rs:=[9]) (by kernel_rfl) (by simp) (au (i:=9) rfl (fun K d=>?_) pt);obtain⟨o,m⟩:=a.o.at_ 1 rfl;go_simp;have c:=al (a.o.set 1 rfl (.func (.func 148) #[] #[r7 q]));simp only[List.set_cons_zero,List.set_cons_succ]at c
    rotate_left 2
    focus
     go_simp;have c:=al (a.o.alloc .nilFunc 183);refine d.o _ _ ((c.o.1.cell (p:=⟨h,0,none⟩) j).x i) (fun f=>?_);clear d K e a;have a:=c;have e:=f;clear c f
     try simp only[xT]
     generalize g:z.alloc _=n at a e⊢;clear g;generalize z.heap.size=A at a⊢;refine qn (rs:=[5,7]) (by kernel_rfl) (by simp) (au (i:=5) rfl (fun K d=>?_) (au (i:=7) rfl (fun K d=>?_) pt))
     focus
      go_simp;refine(cA _ _ _ _).m ?_;rintro r B ⟨rfl,rfl⟩
      try go_simp
      have c:=al (a.o.alloc (.func (.func 87) #[r7 b] #[]) 185);refine d.o _ _ ((c.o.1.cell (p:=⟨h,0,none⟩) j).x i) (fun f=>?_);clear d K e a;have a:=c;have e:=f;clear c f
      try simp only[xT]
      generalize g:n.alloc _=k at a e⊢;clear g;generalize n.heap.size=q at a⊢;refine qn (rs:=[7]) (by kernel_rfl) (by simp) (au (i:=7) rfl (fun K d=>?_) pt);go_simp;have c:=al (a.o.alloc .nilFunc 183);refine d.o _ _ ((c.o.1.cell (p:=⟨h,0,none⟩) j).x i) (fun f=>?_);clear d K e a;have a:=c;have e:=f;clear c f
      try simp only[xT]
      generalize g:k.alloc _=u at a e⊢;clear g;generalize k.heap.size=x at a⊢;refine qn (rs:=[8]) (by kernel_rfl) (by simp) (au (i:=8) rfl (fun K d=>?_) pt);obtain⟨o,m⟩:=a.o.at_ 2 rfl;go_simp;have c:=al (a.o.set 2 rfl (.func (.func 148) #[] #[r7 s]));simp only[List.set_cons_zero,List.set_cons_succ]at c;clear o m;refine d.o _ _ ((c.o.1.cell (p:=⟨h,0,none⟩) j).x i) (fun f=>?_);clear d K e a;have a:=c;have e:=f;clear c f
      try simp only[xT]
      generalize g:u.setCell _ _=v at a e⊢;clear g;refine qn (rs:=[9]) (by kernel_rfl) (by simp) (au (i:=9) rfl (fun K d=>?_) pt);obtain⟨o,m⟩:=a.o.at_ 0 rfl;go_simp;have c:=al (a.o.set 0 rfl (.func (.func 148) #[] #[r7 q]));simp only[List.set_cons_zero]at c
     rotate_left
     focus
      go_simp;have c:=al (a.o.alloc .nilFunc 183);refine d.o _ _ ((c.o.1.cell (p:=⟨h,0,none⟩) j).x i) (fun f=>?_);clear d K e a;have a:=c;have e:=f;clear c f
      try simp only[xT]
      generalize g:n.alloc _=k at a e⊢;clear g;generalize n.heap.size=x at a⊢;refine qn (rs:=[5]) (by kernel_rfl) (by simp) (au (i:=5) rfl (fun K d=>?_) pt);go_simp;refine(cA _ _ _ _).m ?_;rintro r B ⟨rfl,rfl⟩
      try go_simp
      have c:=al (a.o.alloc (.func (.func 87) #[r7 b] #[]) 185);refine d.o _ _ ((c.o.1.cell (p:=⟨h,0,none⟩) j).x i) (fun f=>?_);clear d K e a;have a:=c;have e:=f;clear c f
      try simp only[xT]
      generalize g:k.alloc _=u at a e⊢;clear g;generalize k.heap.size=q at a⊢;refine qn (rs:=[8]) (by kernel_rfl) (by simp) (au (i:=8) rfl (fun K d=>?_) pt);obtain⟨o,m⟩:=a.o.at_ 2 rfl;go_simp;have c:=al (a.o.set 2 rfl (.func (.func 148) #[] #[r7 s]));simp only[List.set_cons_zero,List.set_cons_succ]at c;clear o m;refine d.o _ _ ((c.o.1.cell (p:=⟨h,0,none⟩) j).x i) (fun f=>?_);clear d K e a;have a:=c;have e:=f;clear c f
      try simp only[xT]
      generalize g:u.setCell _ _=v at a e⊢;clear g;refine qn (rs:=[9]) (by kernel_rfl) (by simp) (au (i:=9) rfl (fun K d=>?_) pt);obtain⟨o,m⟩:=a.o.at_ 1 rfl;go_simp;have c:=al (a.o.set 1 rfl (.func (.func 148) #[] #[r7 q]));simp only[List.set_cons_zero,List.set_cons_succ]at c
    rotate_left 2
    focus
     go_simp;have c:=al (a.o.alloc .nilFunc 183);refine d.o _ _ ((c.o.1.cell (p:=⟨h,0,none⟩) j).x i) (fun f=>?_);clear d K e a;have a:=c;have e:=f;clear c f
     try simp only[xT]
     generalize g:z.alloc _=n at a e⊢;clear g;generalize z.heap.size=x at a⊢;refine qn (rs:=[5,6]) (by kernel_rfl) (by simp) (au (i:=5) rfl (fun K d=>?_) (au (i:=6) rfl (fun K d=>?_) pt))
     focus
      go_simp;refine(cA _ _ _ _).m ?_;rintro r B ⟨rfl,rfl⟩
      try go_simp
      have c:=al (a.o.alloc (.func (.func 87) #[r7 b] #[]) 185);refine d.o _ _ ((c.o.1.cell (p:=⟨h,0,none⟩) j).x i) (fun f=>?_);clear d K e a;have a:=c;have e:=f;clear c f
      try simp only[xT]
      generalize g:n.alloc _=k at a e⊢;clear g;generalize n.heap.size=q at a⊢;refine qn (rs:=[6]) (by kernel_rfl) (by simp) (au (i:=6) rfl (fun K d=>?_) pt);go_simp;have c:=al (a.o.alloc .nilFunc 183);refine d.o _ _ ((c.o.1.cell (p:=⟨h,0,none⟩) j).x i) (fun f=>?_);clear d K e a;have a:=c;have e:=f;clear c f
      try simp only[xT]
      generalize g:k.alloc _=u at a e⊢;clear g;generalize k.heap.size=A at a⊢;refine qn (rs:=[8]) (by kernel_rfl) (by simp) (au (i:=8) rfl (fun K d=>?_) pt);obtain⟨o,m⟩:=a.o.at_ 0 rfl;go_simp;have c:=al (a.o.set 0 rfl (.func (.func 148) #[] #[r7 s]));simp only[List.set_cons_zero]at c
     rotate_left
     focus
      go_simp;have c:=al (a.o.alloc .nilFunc 183);refine d.o _ _ ((c.o.1.cell (p:=⟨h,0,none⟩) j).x i) (fun f=>?_);clear d K e a;have a:=c;have e:=f;clear c f
      try simp only[xT]
      generalize g:n.alloc _=k at a e⊢;clear g;generalize n.heap.size=A at a⊢;refine qn (rs:=[5]) (by kernel_rfl) (by simp) (au (i:=5) rfl (fun K d=>?_) pt);go_simp;refine(cA _ _ _ _).m ?_;rintro r B ⟨rfl,rfl⟩
      try go_simp
      have c:=al (a.o.alloc (.func (.func 87) #[r7 b] #[]) 185);refine d.o _ _ ((c.o.1.cell (p:=⟨h,0,none⟩) j).x i) (fun f=>?_);clear d K e a;have a:=c;have e:=f;clear c f
      try simp only[xT]
      generalize g:k.alloc _=u at a e⊢;clear g;generalize k.heap.size=q at a⊢;refine qn (rs:=[8]) (by kernel_rfl) (by simp) (au (i:=8) rfl (fun K d=>?_) pt);obtain⟨o,m⟩:=a.o.at_ 1 rfl;go_simp;have c:=al (a.o.set 1 rfl (.func (.func 148) #[] #[r7 s]));simp only[List.set_cons_zero,List.set_cons_succ]at c
     all_goals
      clear o m;refine d.o _ _ ((c.o.1.cell (p:=⟨h,0,none⟩) j).x i) (fun f=>?_);clear d K e a;have a:=c;have e:=f;clear c f
      try simp only[xT]
      generalize g:u.setCell _ _=v at a e⊢;clear g;refine qn (rs:=[9]) (by kernel_rfl) (by simp) (au (i:=9) rfl (fun K d=>?_) pt);obtain⟨o,m⟩:=a.o.at_ 2 rfl;go_simp;have c:=al (a.o.set 2 rfl (.func (.func 148) #[] #[r7 q]));simp only[List.set_cons_zero,List.set_cons_succ]at c
   rotate_left 6
   focus
    go_simp;have c:=al (a.o.alloc .nilFunc 183);refine d.o _ _ ((c.o.1.cell (p:=⟨h,0,none⟩) j).x i) (fun f=>?_);clear d K e a;have a:=c;have e:=f;clear c f
    try simp only[xT]
    generalize g:y.alloc _=z at a e⊢;clear g;generalize y.heap.size=A at a⊢;refine qn (rs:=[2,7]) (by kernel_rfl) (by simp) (au (i:=2) rfl (fun K d=>?_) (au (i:=7) rfl (fun K d=>?_) pt))
    focus
     go_simp;refine(cA _ _ _ _).m ?_;rintro r B ⟨rfl,rfl⟩
     try go_simp
     have c:=al (a.o.alloc (.func (.func 86) #[r7 b] #[]) 185);refine d.o _ _ ((c.o.1.cell (p:=⟨h,0,none⟩) j).x i) (fun f=>?_);clear d K e a;have a:=c;have e:=f;clear c f
     try simp only[xT]
     generalize g:z.alloc _=n at a e⊢;clear g;generalize z.heap.size=s at a⊢;refine qn (rs:=[5,7]) (by kernel_rfl) (by simp) (au (i:=5) rfl (fun K d=>?_) (au (i:=7) rfl (fun K d=>?_) pt))
     focus
      go_simp;refine(cA _ _ _ _).m ?_;rintro r B ⟨rfl,rfl⟩
      try go_simp
      have c:=al (a.o.alloc (.func (.func 87) #[r7 b] #[]) 185);refine d.o _ _ ((c.o.1.cell (p:=⟨h,0,none⟩) j).x i) (fun f=>?_);clear d K e a;have a:=c;have e:=f;clear c f
      try simp only[xT]
      generalize g:n.alloc _=k at a e⊢;clear g;generalize n.heap.size=q at a⊢;refine qn (rs:=[7]) (by kernel_rfl) (by simp) (au (i:=7) rfl (fun K d=>?_) pt);go_simp;have c:=al (a.o.alloc .nilFunc 183);refine d.o _ _ ((c.o.1.cell (p:=⟨h,0,none⟩) j).x i) (fun f=>?_);clear d K e a;have a:=c;have e:=f;clear c f
      try simp only[xT]
      generalize g:k.alloc _=u at a e⊢;clear g;generalize k.heap.size=x at a⊢;refine qn (rs:=[8]) (by kernel_rfl) (by simp) (au (i:=8) rfl (fun K d=>?_) pt);obtain⟨o,m⟩:=a.o.at_ 3 rfl;go_simp;have c:=al (a.o.set 3 rfl (.func (.func 148) #[] #[r7 s]));simp only[List.set_cons_zero,List.set_cons_succ]at c;clear o m;refine d.o _ _ ((c.o.1.cell (p:=⟨h,0,none⟩) j).x i) (fun f=>?_);clear d K e a;have a:=c;have e:=f;clear c f
      try simp only[xT]
      generalize g:u.setCell _ _=v at a e⊢;clear g;refine qn (rs:=[9]) (by kernel_rfl) (by simp) (au (i:=9) rfl (fun K d=>?_) pt);obtain⟨o,m⟩:=a.o.at_ 0 rfl;go_simp;have c:=al (a.o.set 0 rfl (.func (.func 148) #[] #[r7 q]));simp only[List.set_cons_zero]at c
     rotate_left
     focus
      go_simp;have c:=al (a.o.alloc .nilFunc 183);refine d.o _ _ ((c.o.1.cell (p:=⟨h,0,none⟩) j).x i) (fun f=>?_);clear d K e a;have a:=c;have e:=f;clear c f
      try simp only[xT]
      generalize g:n.alloc _=k at a e⊢;clear g;generalize n.heap.size=x at a⊢;refine qn (rs:=[5]) (by kernel_rfl) (by simp) (au (i:=5) rfl (fun K d=>?_) pt);go_simp;refine(cA _ _ _ _).m ?_;rintro r B ⟨rfl,rfl⟩
      try go_simp
      have c:=al (a.o.alloc (.func (.func 87) #[r7 b] #[]) 185);refine d.o _ _ ((c.o.1.cell (p:=⟨h,0,none⟩) j).x i) (fun f=>?_);clear d K e a;have a:=c;have e:=f;clear c f
      try simp only[xT]
      generalize g:k.alloc _=u at a e⊢;clear g;generalize k.heap.size=q at a⊢;refine qn (rs:=[8]) (by kernel_rfl) (by simp) (au (i:=8) rfl (fun K d=>?_) pt);obtain⟨o,m⟩:=a.o.at_ 3 rfl;go_simp;have c:=al (a.o.set 3 rfl (.func (.func 148) #[] #[r7 s]));simp only[List.set_cons_zero,List.set_cons_succ]at c;clear o m;refine d.o _ _ ((c.o.1.cell (p:=⟨h,0,none⟩) j).x i) (fun f=>?_);clear d K e a;have a:=c;have e:=f;clear c f
      try simp only[xT]
      generalize g:u.setCell _ _=v at a e⊢;clear g;refine qn (rs:=[9]) (by kernel_rfl) (by simp) (au (i:=9) rfl (fun K d=>?_) pt);obtain⟨o,m⟩:=a.o.at_ 1 rfl;go_simp;have c:=al (a.o.set 1 rfl (.func (.func 148) #[] #[r7 q]));simp only[List.set_cons_zero,List.set_cons_succ]at c
    rotate_left 2
    focus
     go_simp;have c:=al (a.o.alloc .nilFunc 183);refine d.o _ _ ((c.o.1.cell (p:=⟨h,0,none⟩) j).x i) (fun f=>?_);clear d K e a;have a:=c;have e:=f;clear c f
     try simp only[xT]
     generalize g:z.alloc _=n at a e⊢;clear g;generalize z.heap.size=x at a⊢;refine qn (rs:=[2]) (by kernel_rfl) (by simp) (au (i:=2) rfl (fun K d=>?_) pt);go_simp;refine(cA _ _ _ _).m ?_;rintro r B ⟨rfl,rfl⟩
     try go_simp
     have c:=al (a.o.alloc (.func (.func 86) #[r7 b] #[]) 185);refine d.o _ _ ((c.o.1.cell (p:=⟨h,0,none⟩) j).x i) (fun f=>?_);clear d K e a;have a:=c;have e:=f;clear c f
     try simp only[xT]
     generalize g:n.alloc _=k at a e⊢;clear g;generalize n.heap.size=s at a⊢;refine qn (rs:=[5]) (by kernel_rfl) (by simp) (au (i:=5) rfl (fun K d=>?_) pt);go_simp;refine(cA _ _ _ _).m ?_;rintro r B ⟨rfl,rfl⟩
     try go_simp
     have c:=al (a.o.alloc (.func (.func 87) #[r7 b] #[]) 185);refine d.o _ _ ((c.o.1.cell (p:=⟨h,0,none⟩) j).x i) (fun f=>?_);clear d K e a;have a:=c;have e:=f;clear c f
     try simp only[xT]
     generalize g:k.alloc _=u at a e⊢;clear g;generalize k.heap.size=q at a⊢;refine qn (rs:=[8]) (by kernel_rfl) (by simp) (au (i:=8) rfl (fun K d=>?_) pt);obtain⟨o,m⟩:=a.o.at_ 3 rfl;go_simp;have c:=al (a.o.set 3 rfl (.func (.func 148) #[] #[r7 s]));simp only[List.set_cons_zero,List.set_cons_succ]at c;clear o m;refine d.o _ _ ((c.o.1.cell (p:=⟨h,0,none⟩) j).x i) (fun f=>?_);clear d K e a;have a:=c;have e:=f;clear c f
     try simp only[xT]
     generalize g:u.setCell _ _=v at a e⊢;clear g;refine qn (rs:=[9]) (by kernel_rfl) (by simp) (au (i:=9) rfl (fun K d=>?_) pt);obtain⟨o,m⟩:=a.o.at_ 2 rfl;go_simp;have c:=al (a.o.set 2 rfl (.func (.func 148) #[] #[r7 q]));simp only[List.set_cons_zero,List.set_cons_succ]at c
   rotate_left 3
   focus
    go_simp;have c:=al (a.o.alloc .nilFunc 183);refine d.o _ _ ((c.o.1.cell (p:=⟨h,0,none⟩) j).x i) (fun f=>?_);clear d K e a;have a:=c;have e:=f;clear c f
    try simp only[xT]
    generalize g:y.alloc _=z at a e⊢;clear g;generalize y.heap.size=x at a⊢;refine qn (rs:=[2,6]) (by kernel_rfl) (by simp) (au (i:=2) rfl (fun K d=>?_) (au (i:=6) rfl (fun K d=>?_) pt))
    focus
     go_simp;refine(cA _ _ _ _).m ?_;rintro r B ⟨rfl,rfl⟩
     try go_simp
     have c:=al (a.o.alloc (.func (.func 86) #[r7 b] #[]) 185);refine d.o _ _ ((c.o.1.cell (p:=⟨h,0,none⟩) j).x i) (fun f=>?_);clear d K e a;have a:=c;have e:=f;clear c f
     try simp only[xT]
     generalize g:z.alloc _=n at a e⊢;clear g;generalize z.heap.size=s at a⊢;refine qn (rs:=[5,6]) (by kernel_rfl) (by simp) (au (i:=5) rfl (fun K d=>?_) (au (i:=6) rfl (fun K d=>?_) pt))
     focus
      go_simp;refine(cA _ _ _ _).m ?_;rintro r B ⟨rfl,rfl⟩
      try go_simp
      have c:=al (a.o.alloc (.func (.func 87) #[r7 b] #[]) 185);refine d.o _ _ ((c.o.1.cell (p:=⟨h,0,none⟩) j).x i) (fun f=>?_);clear d K e a;have a:=c;have e:=f;clear c f
      try simp only[xT]
      generalize g:n.alloc _=k at a e⊢;clear g;generalize n.heap.size=q at a⊢;refine qn (rs:=[6]) (by kernel_rfl) (by simp) (au (i:=6) rfl (fun K d=>?_) pt);go_simp;have c:=al (a.o.alloc .nilFunc 183);refine d.o _ _ ((c.o.1.cell (p:=⟨h,0,none⟩) j).x i) (fun f=>?_);clear d K e a;have a:=c;have e:=f;clear c f
      try simp only[xT]
      generalize g:k.alloc _=u at a e⊢;clear g;generalize k.heap.size=A at a⊢;refine qn (rs:=[8]) (by kernel_rfl) (by simp) (au (i:=8) rfl (fun K d=>?_) pt);obtain⟨o,m⟩:=a.o.at_ 0 rfl;go_simp;have c:=al (a.o.set 0 rfl (.func (.func 148) #[] #[r7 s]));simp only[List.set_cons_zero]at c
     rotate_left
     focus
      go_simp;have c:=al (a.o.alloc .nilFunc 183);refine d.o _ _ ((c.o.1.cell (p:=⟨h,0,none⟩) j).x i) (fun f=>?_);clear d K e a;have a:=c;have e:=f;clear c f
      try simp only[xT]
      generalize g:n.alloc _=k at a e⊢;clear g;generalize n.heap.size=A at a⊢;refine qn (rs:=[5]) (by kernel_rfl) (by simp) (au (i:=5) rfl (fun K d=>?_) pt);go_simp;refine(cA _ _ _ _).m ?_;rintro r B ⟨rfl,rfl⟩
      try go_simp
      have c:=al (a.o.alloc (.func (.func 87) #[r7 b] #[]) 185);refine d.o _ _ ((c.o.1.cell (p:=⟨h,0,none⟩) j).x i) (fun f=>?_);clear d K e a;have a:=c;have e:=f;clear c f
      try simp only[xT]
      generalize g:k.alloc _=u at a e⊢;clear g;generalize k.heap.size=q at a⊢;refine qn (rs:=[8]) (by kernel_rfl) (by simp) (au (i:=8) rfl (fun K d=>?_) pt);obtain⟨o,m⟩:=a.o.at_ 1 rfl;go_simp;have c:=al (a.o.set 1 rfl (.func (.func 148) #[] #[r7 s]));simp only[List.set_cons_zero,List.set_cons_succ]at c
    rotate_left 2
    focus
     go_simp;have c:=al (a.o.alloc .nilFunc 183);refine d.o _ _ ((c.o.1.cell (p:=⟨h,0,none⟩) j).x i) (fun f=>?_);clear d K e a;have a:=c;have e:=f;clear c f
     try simp only[xT]
     generalize g:z.alloc _=n at a e⊢;clear g;generalize z.heap.size=A at a⊢;refine qn (rs:=[2]) (by kernel_rfl) (by simp) (au (i:=2) rfl (fun K d=>?_) pt);go_simp;refine(cA _ _ _ _).m ?_;rintro r B ⟨rfl,rfl⟩
     try go_simp
     have c:=al (a.o.alloc (.func (.func 86) #[r7 b] #[]) 185);refine d.o _ _ ((c.o.1.cell (p:=⟨h,0,none⟩) j).x i) (fun f=>?_);clear d K e a;have a:=c;have e:=f;clear c f
     try simp only[xT]
     generalize g:n.alloc _=k at a e⊢;clear g;generalize n.heap.size=s at a⊢;refine qn (rs:=[5]) (by kernel_rfl) (by simp) (au (i:=5) rfl (fun K d=>?_) pt);go_simp;refine(cA _ _ _ _).m ?_;rintro r B ⟨rfl,rfl⟩
     try go_simp
     have c:=al (a.o.alloc (.func (.func 87) #[r7 b] #[]) 185);refine d.o _ _ ((c.o.1.cell (p:=⟨h,0,none⟩) j).x i) (fun f=>?_);clear d K e a;have a:=c;have e:=f;clear c f
     try simp only[xT]
     generalize g:k.alloc _=u at a e⊢;clear g;generalize k.heap.size=q at a⊢;refine qn (rs:=[8]) (by kernel_rfl) (by simp) (au (i:=8) rfl (fun K d=>?_) pt);obtain⟨o,m⟩:=a.o.at_ 2 rfl;go_simp;have c:=al (a.o.set 2 rfl (.func (.func 148) #[] #[r7 s]));simp only[List.set_cons_zero,List.set_cons_succ]at c
    all_goals
     clear o m;refine d.o _ _ ((c.o.1.cell (p:=⟨h,0,none⟩) j).x i) (fun f=>?_);clear d K e a;have a:=c;have e:=f;clear c f
     try simp only[xT]
     generalize g:u.setCell _ _=v at a e⊢;clear g;refine qn (rs:=[9]) (by kernel_rfl) (by simp) (au (i:=9) rfl (fun K d=>?_) pt);obtain⟨o,m⟩:=a.o.at_ 3 rfl;go_simp;have c:=al (a.o.set 3 rfl (.func (.func 148) #[] #[r7 q]));simp only[List.set_cons_zero,List.set_cons_succ]at c
   all_goals
    clear o m;refine d.o _ _ ((c.o.1.cell (p:=⟨h,0,none⟩) j).x i) (fun f=>?_);clear d K e a;have a:=c;have e:=f;clear c f
    try simp only[xT]
    generalize g:v.setCell _ _=c at a e⊢;clear g;refine qe (by kernel_rfl) ?_ _;go_wp2_with fail
    go_meet
    exact⟨A,x,s,q,rfl,rfl,a.o.uO (by simp) (by simp) (by simp) (by simp)⟩
 case rest=>
  obtain⟨A,x,s,q,rfl,rfl,c⟩:=hcut;have d:=jL.start HR.o.1 HR.o.2 V.o.1 V.o.d (by omega) c;have H:wc.heap[w.heap.size+1]?=_:=(ri c.1).heap V.o.2.1 id;have g:=(c.1.cell (p:=⟨h,0,none⟩) j).x i;have d5:=c.2.1.1;have f:=oS (V.o.1.x (c.1.m V.o.1.size)) (fun D=>D=b);have m:w.heap.size+1=C:=by have:=JJ.o;have:=HB.o.1;omega
  have k:w.heap.size+1+1=l:=by have:=JJ.o;have:=HB.o;omega
  rw[m]at H;rw[k]at d;have o:w.heap.size<=h/\w.heap.size<=C/\w.heap.size<=l/\h≠l/\C≠l/\C≠h:=by have:=JJ.o;have:=HB.o;omega
  have e:=al o;have ba:=al d;have bh:=al f;have HU:=al (qN d [0] _ rfl 1 rfl (by simp) (by intro u n;simp at n;subst n;decide));have HS:=AM H g d5;clear d f m k o c H j;go_wp2_with fail;refine HU.o.m ?_;rintro r z ⟨d,km⟩;have Vo:=al (bh.o.x d (fun D c f=>f.elim id (fun r=>absurd r (by have:=e.o;omega))));have bn:=ba.o.nb;have j:h≠b/\C≠b:=by have:=HR.o.1;obtain⟨v,k1,_⟩:=this;have:=(cq.1 k1).1;have:=e.o;omega
  have L:=al j;have H:=d.heap HS.o.1 (fun r=>r.elim L.o.2 e.o.q.1);have f:=d.cell (p:=⟨h,0,none⟩) g (fun r=>r.elim L.o.1 e.o.t.1);clear d j g i
  cases hg0:dJ iK 1 (t.drop p)with
  |none=>rw[show([0]:List Nat).length=1 from rfl,hg0]at km;obtain⟨rfl,pE,bo,g,d⟩:=km;have M:=al (show gH (t.drop p)=none by simp only[gH,hg0]);clear d hg0 g;obtain⟨⟨u,o,G,i⟩,m,j,E,k⟩:=qO H;go_wp2_with fail;refine dj (ax rfl _ _ _ _ _ _ _ rfl (zo H _ _ _ _) underlying96 rfl (by kernel_rfl)) rfl ⟨Bj Vo.o e.o.2.1 _ _ _ _,?_⟩;rw[M.o];exact rfl
  |some y=>
   obtain⟨ns,rest⟩:=y;rw[show([0]:List Nat).length=1 from rfl,hg0]at km;obtain⟨rfl,p1,rfl,d⟩:=km;obtain⟨W,rfl⟩:=TE (jx hg0);have R:=al (show jL F b t A x s q l 96 p1 #[rv W,.slice none 0 0,.slice none 0 0,.slice none 0 0] z from d);have Y:=al hg0;clear d hg0;have I:=R.o.2.1.1;have g:=al (TI F b t A x s q p1 64 z R.o.XQ (by decide));go_wp2_with fail;refine g.o.m ?_;rintro r am ⟨d,n⟩;clear g I;have a1:=al (Vo.o.x d (fun _ _ T=>T));have K:=d.heap H L.o.2;have X:=d.cell (p:=⟨h,0,none⟩) f L.o.1;have Z:=d.heap R.o.d.1 R.o.nb;obtain⟨⟨u,o,G,i⟩,m,j,E,k⟩:=qO Z
   cases hg:rU mo 64 (t.drop p1)with
   |none=>rw[hg]at n;obtain rfl:=n;have M:=al (show gH (t.drop p)=none by simp only[gH,Y.o,hg]);clear hg d H f X;go_upto_region 7 with fail;have I:=(Only.aR am l 1 (.slice none 0 0)).heap K e.o.q.1;have P:=al (a1.o.setCell (p:=⟨l,1,none⟩) (fun r=>absurd r (Nat.not_lt.2 e.o.d.1)) (.slice none 0 0));generalize am.setCell ⟨l,1,none⟩ (.slice none 0 0)=B at I P⊢;clear u o G i m j E k;obtain⟨⟨u,o,G,i⟩,m,j,E,k⟩:=qO I;go_wp2_with fail;refine dj (ax rfl _ _ _ _ _ _ _ rfl (zo I _ _ _ _) underlying96 rfl (by kernel_rfl)) rfl ⟨Bj P.o e.o.2.1 _ _ _ _,?_⟩;rw[M.o];exact rfl
   |some y=>
    obtain⟨g,rest⟩:=y;rw[hg]at n;obtain⟨J,p2,rfl,U,Q,rfl,N⟩:=n;have PX:=al hg;have bb:=al (R.o.again d N);have O:w.heap.size<=J/\J≠b/\J≠l/\J≠C:=by have h1:=Vo.o.size;have h2:=R.o.lt;have h3:=R.o.blt;have h4:C<z.heap.size:=(cq.1 H).1;omega
    have bf:=al (bJ.mono (G:=fun D=>w.heap.size<=D/\D≠b/\D≠l/\D≠C) Q (fun D c=>by subst c;exact O));clear hg d H f U Q N O;go_upto_region 7 with fail;have f:=Only.aR am l 1 (.slice (some ⟨J,0,none⟩) g.length g.length);have Q:=al (show jL F b t A x s q l 96 p2 #[rv W,.slice (some ⟨J,0,none⟩) g.length g.length,.slice none 0 0,.slice none 0 0] _ from bb.o.IB 1 (.slice (some ⟨J,0,none⟩) g.length g.length));have N:=f.heap K e.o.q.1;have U:=f.cell (p:=⟨h,0,none⟩) X e.o.t.1;have Ll:=al (a1.o.setCell (p:=⟨l,1,none⟩) (fun r=>absurd r (Nat.not_lt.2 e.o.d.1)) (.slice (some ⟨J,0,none⟩) g.length g.length));have a5:=al (bf.o.only f (fun D c r=>c.2.2.1 r));clear f K X Z u o G i m j E k;generalize am.setCell ⟨l,1,none⟩ (.slice (some ⟨J,0,none⟩) g.length g.length)=X at Q N U Ll a5⊢;have K:=Q.o.2.1.1;have H:=al (P8 F b t A x s q p2 8 X Q.o.XQ (by decide));go_wp2_with fail;refine H.o.m ?_;rintro r ac ⟨d,n⟩;clear H K;have a4:=al (Ll.o.x d (fun _ _ T=>T));have XW:=d.heap N L.o.2;have XX:=d.cell (p:=⟨h,0,none⟩) U L.o.1;have ad:=d.heap Q.o.d.1 Q.o.nb;have XY:=al (a5.o.only d (fun D c r=>c.2.1 r));obtain⟨⟨u,o,G,i⟩,m,j,E,k⟩:=qO ad
    cases hg:rU mL 8 (t.drop p2)with
    |none=>rw[hg]at n;obtain rfl:=n;have M:=al (show gH (t.drop p)=none by simp only[gH,Y.o,PX.o,hg]);clear hg d N U XX;go_upto_region 10 with fail;have I:=(Only.aR ac l 2 (.slice none 0 0)).heap XW e.o.q.1;have P:=al (a4.o.setCell (p:=⟨l,2,none⟩) (fun r=>absurd r (Nat.not_lt.2 e.o.d.1)) (.slice none 0 0));generalize ac.setCell ⟨l,2,none⟩ (.slice none 0 0)=B at I P⊢;clear u o G i m j E k;obtain⟨⟨u,o,G,i⟩,m,j,E,k⟩:=qO I;go_wp2_with fail;refine dj (ax rfl _ _ _ _ _ _ _ rfl (zo I _ _ _ _) underlying96 rfl (by kernel_rfl)) rfl ⟨Bj P.o e.o.2.1 _ _ _ _,?_⟩;rw[M.o];exact rfl
    |some y=>
     obtain⟨H,rest⟩:=y;rw[hg]at n;obtain⟨K,p3,rfl,a0,Z,rfl,ap⟩:=n;have a':=al hg;have bl:=al (Q.o.again d ap);have O:w.heap.size<=K/\K≠b/\K≠l/\K≠C:=by have h1:=Ll.o.size;have h2:=Q.o.lt;have h3:=Q.o.blt;have h4:C<X.heap.size:=(cq.1 N).1;omega
     have Vw:=al (bJ.mono (G:=fun D=>w.heap.size<=D/\D≠b/\D≠l/\D≠C) Z (fun D c=>by subst c;exact O));clear hg d N U a0 Z ap O;go_upto_region 10 with fail;have f:=Only.aR ac l 2 (.slice (some ⟨K,0,none⟩) H.length H.length);have N:=al (show jL F b t A x s q l 96 p3 #[rv W,.slice (some ⟨J,0,none⟩) g.length g.length,.slice (some ⟨K,0,none⟩) H.length H.length,.slice none 0 0] _ from bl.o.IB 2 (.slice (some ⟨K,0,none⟩) H.length H.length));have X:=f.heap XW e.o.q.1;have Z:=f.cell (p:=⟨h,0,none⟩) XX e.o.t.1;have ap:=al (a4.o.setCell (p:=⟨l,2,none⟩) (fun r=>absurd r (Nat.not_lt.2 e.o.d.1)) (.slice (some ⟨K,0,none⟩) H.length H.length));have Qf:=al (XY.o.only f (fun D c r=>c.2.2.1 r));have a7:=al (Vw.o.only f (fun D c r=>c.2.2.1 r));clear f XW XX ad u o G i m j E k;generalize ac.setCell ⟨l,2,none⟩ (.slice (some ⟨K,0,none⟩) H.length H.length)=a3 at N X Z ap Qf a7⊢;have a0:=N.o.2.1.1;have U:=al (TJ F b t A x s q h p3 64 a3 N.o.XQ (by decide) Z L.o.1);go_wp2_with fail;refine U.o.m ?_;rintro r ad ⟨d,n⟩;clear U a0;have a8:=al (ap.o.x d (fun _ _ T=>T));have XZ:=d.heap X L.o.2;have X0:=d.cell (p:=⟨h,0,none⟩) Z L.o.1;have a2:=d.heap N.o.d.1 N.o.nb;have Qg:=al (Qf.o.only d (fun D c r=>c.2.1 r));have X3:=al (a7.o.only d (fun D c r=>c.2.1 r));obtain⟨⟨u,o,G,i⟩,m,j,E,k⟩:=qO a2
     cases hg:rU jI 64 (t.drop p3)with
     |none=>rw[hg]at n;obtain rfl:=n;have M:=al (show gH (t.drop p)=none by simp only[gH,Y.o,PX.o,a'.o,hg]);clear hg d X Z X0;go_upto_region 13 with fail;have I:=(Only.aR ad l 3 (.slice none 0 0)).heap XZ e.o.q.1;have P:=al (a8.o.setCell (p:=⟨l,3,none⟩) (fun r=>absurd r (Nat.not_lt.2 e.o.d.1)) (.slice none 0 0));generalize ad.setCell ⟨l,3,none⟩ (.slice none 0 0)=B at I P⊢;clear u o G i m j E k;obtain⟨⟨u,o,G,i⟩,m,j,E,k⟩:=qO I;go_wp2_with fail;refine dj (ax rfl _ _ _ _ _ _ _ rfl (zo I _ _ _ _) underlying96 rfl (by kernel_rfl)) rfl ⟨Bj P.o e.o.2.1 _ _ _ _,?_⟩;rw[M.o];exact rfl
     |some y=>
      obtain⟨B,rest⟩:=y;rw[hg]at n;obtain⟨y,U,rfl,bc,a0,rfl,a9⟩:=n;have a6:=al hg;have bk:=al (N.o.again d a9);have O:w.heap.size<=y/\y≠b/\y≠l/\y≠C:=by have h1:=ap.o.size;have h2:=N.o.lt;have h3:=N.o.blt;have h4:C<a3.heap.size:=(cq.1 X).1;omega
      have bi:=al (bJ.mono (G:=fun D=>w.heap.size<=D/\D≠b/\D≠l/\D≠C) a0 (fun D c=>by subst c;exact O));clear hg d X Z bc a0 a9 O;go_upto_region 13 with fail;have f:=Only.aR ad l 3 (.slice (some ⟨y,0,none⟩) B.length B.length);have X:=al (show jL F b t A x s q l 96 U #[rv W,.slice (some ⟨J,0,none⟩) g.length g.length,.slice (some ⟨K,0,none⟩) H.length H.length,.slice (some ⟨y,0,none⟩) B.length B.length] _ from bk.o.IB 3 (.slice (some ⟨y,0,none⟩) B.length B.length));have Z:=f.heap XZ e.o.q.1;have X4:=f.cell (p:=⟨h,0,none⟩) X0 e.o.t.1;have Bk:=al (a8.o.setCell (p:=⟨l,3,none⟩) (fun r=>absurd r (Nat.not_lt.2 e.o.d.1)) (.slice (some ⟨y,0,none⟩) B.length B.length));have Fu:=al (Qg.o.only f (fun D c r=>c.2.2.1 r));have Qh:=al (X3.o.only f (fun D c r=>c.2.2.1 r));have a3:=al (bi.o.only f (fun D c r=>c.2.2.1 r));clear f XZ X0 a2 u o G i m j E k;generalize ad.setCell ⟨l,3,none⟩ (.slice (some ⟨y,0,none⟩) B.length B.length)=d at X Z X4 Bk Fu Qh a3⊢;have f:=al (TK d F b t U X.o.1);go_wp2_with fail;refine f.o.m ?_;rintro r wl ⟨rfl,d⟩;clear f;have O:=d.heap Z id;have a2:=al (Bk.o.x d (fun _ _ T=>False.elim T));have bc:=d.heap X.o.d.1 id;have bm:U<=t.length:=by obtain⟨⟨_,_,_,hp,_⟩,_⟩:=X.o;exact hp
      have Mk:=al (Fu.o.only d (fun D c r=>r));have TQ:=al (Qh.o.only d (fun D c r=>r));have a9:=al (a3.o.only d (fun D c r=>r));by_cases f:U=t.length
      ·have hz:((t.length:Int)-(U:Int))=0:=by omega
       rw[hz];have M6:=al (show gH (t.drop p)=some ⟨W,g,H,B⟩ by simp only[gH,Y.o,PX.o,a'.o,a6.o];rw[fi (by rw[f];simp)]);clear hz f d Z X4;obtain⟨⟨u,o,G,i⟩,m,j,E,k⟩:=qO O;obtain⟨⟨x0,x1,x2,x3⟩,_,_,_,_⟩:=qO bc;go_wp2_with fail;refine dj (ax rfl _ _ _ _ _ _ _ rfl (zo O _ _ _ _) underlying96 rfl (by kernel_rfl)) rfl ⟨Bj a2.o e.o.2.1 _ _ _ _,?_⟩;rw[M6.o];have a0:=Qa wl C;refine⟨_,_,_,rfl,bJ.m (Mk.o.only (a0 _ _ _ _) (fun D c r=>c.2.2.2 r)) (fun D c=>c.1),TL (bJ.m (TQ.o.only (a0 _ _ _ _) (fun D c r=>c.2.2.2 r)) (fun D c=>c.1)),bJ.m (a9.o.only (a0 _ _ _ _) (fun D c r=>c.2.2.2 r)) (fun D c=>c.1)⟩
      ·have hz:(((t.length:Int)-(U:Int)) !=0)=true:=by simp;omega
       have M:=al (show gH (t.drop p)=none by simp only[gH,Y.o,PX.o,a'.o,a6.o];rw[ff (fun r=>f (by have:=congrArg List.length r;simp at this;omega))]);clear f d Z X4;obtain⟨⟨u,o,G,i⟩,m,j,E,k⟩:=qO O;go_wp2_with fail;refine dj (ax rfl _ _ _ _ _ _ _ rfl (zo O _ _ _ _) underlying96 rfl (by kernel_rfl)) rfl ⟨Bj a2.o e.o.2.1 _ _ _ _,?_⟩;rw[M.o];exact rfl
theorem pQ{a r:List UInt8}{n:Int}(h:iK a=some (n,r)):0<=n/\n<=9223372036854775807:=by
 unfold iK at h
 cases hu:BW a with
 |none=>rw[hu]at h;simp at h
 |some x=>obtain⟨m,q⟩:=x;rw[hu]at h;simp at h;have:=(uW hu).2;omega
theorem Qi(u:Nat)(h:u<18446744073709551616): -9223372036854775808<=Oi u/\Oi u<=9223372036854775807:=by unfold Oi;split<;>omega
theorem rV{a r:List UInt8}{n:Int}(h:mL a=some (n,r)): -9223372036854775808<=n/\n<=9223372036854775807:=by
 unfold mL at h
 cases hu:tO 0 0 a with
 |none=>rw[hu]at h;simp at h
 |some x=>obtain⟨m,q⟩:=x;rw[hu]at h;simp at h;obtain⟨k,c,_,b,_⟩:=BV a 0 0 m q (by omega) hu;rw[<-h.1];exact Qi m (by simp at c b;omega)
theorem jz{c:List UInt8->Option (Int×List UInt8)}{P:Int->Prop}(d: ∀a n r,c a=some (n,r)->P n): ∀{k:Nat} {a:List UInt8} {b:List Int} {r:List UInt8},dJ c k a=some (b,r)-> ∀n∈b,P n
 |0,a,b,r,h=>by simp[dJ]at h;simp[h.1]
 |k+1,a,b,r,h=>by
  rw[dJ]at h
  cases hk:dJ c k a with
  |none=>rw[hk]at h;simp at h
  |some x=>
   obtain⟨b,q⟩:=x;rw[hk]at h;simp only at h
   cases hq:c q with
   |none=>rw[hq]at h;simp at h
   |some y=>
    obtain⟨m,e⟩:=y;rw[hq]at h;simp at h;rw[<-h.1];intro n a;rcases dr.1 a with a|a
    ·exact jz d hk n a
    ·simp at a;rw[a];exact d _ _ _ hq
theorem yg{α:Type}{c:List UInt8->Option (α×List UInt8)}{P:α->Prop}(d: ∀a n r,c a=some (n,r)->P n): ∀{k:Nat} {a:List UInt8} {b:List α} {r:List UInt8},eQ c k a=some (b,r)->(∀n∈b,P n)/\b.length=k
 |0,a,b,r,h=>by simp[eQ]at h;simp[h.1]
 |k+1,a,b,r,h=>by
  rw[eQ]at h
  cases hk:eQ c k a with
  |none=>rw[hk]at h;simp at h
  |some x=>
   obtain⟨f,q⟩:=x;rw[hk]at h;simp only at h
   cases hq:c q with
   |none=>rw[hq]at h;simp at h
   |some y=>
    obtain⟨m,g⟩:=y;rw[hq]at h;simp at h;obtain⟨e,b⟩:=yg d hk;rw[<-h.1];refine⟨fun n a=>?_,by simp[b]⟩;rcases dr.1 a with a|a
    ·exact e n a
    ·simp at a;rw[a];exact d _ _ _ hq
theorem CT{α:Type}{c:List UInt8->Option (α×List UInt8)}{P:α->Prop}(d: ∀b n r,c b=some (n,r)->P n){M:Int}{b:List UInt8}{a:List α}{r:List UInt8}(h:rU c M b=some (a,r)):(∀n∈a,P n)/\(a.length:Int)<=M:=by
 unfold rU at h;split at h
 ·rename_i mk q e;split at h
  ·rename_i i;obtain⟨f,g⟩:=yg d h;have:=(jz (P:=fun n=>0<=n/\n<=9223372036854775807) (fun _ _ _ h=>pQ h) e) mk (by simp);exact⟨f,by omega⟩
  ·simp at h
 ·simp at h
theorem Ml(j:List UInt8)(o:aX)(r:List UInt8)(h:mo j=some (o,r)):o.fits:=by
 unfold mo at h;split at h
 ·rename_i w t v y m;split at h
  ·rename_i u q g;split at h
   ·rename_i n s i;simp at h;rw[<-h.1];have b:=jz (P:=fun n=>0<=n/\n<=9223372036854775807) (fun _ _ _ h=>pQ h) m;have k:=jz (P:=fun n=> -9223372036854775808<=n/\n<=9223372036854775807) (fun _ _ _ h=>rV h) g;have p:=jz (P:=fun n=>0<=n/\n<=9223372036854775807) (fun _ _ _ h=>pQ h) i;have f:=b w (by simp);have e:=b t (by simp);have c:=b v (by simp);have l:=k u (by simp);have d:=p n (by simp);have a: ∀{x:Int},0<=x-> -9223372036854775808<=x:=fun h=>by omega
    exact⟨⟨a f.1,f.2⟩,⟨a e.1,e.2⟩,⟨a c.1,c.2⟩,l,⟨a d.1,d.2⟩⟩
   ·simp at h
  ·simp at h
 ·simp at h
theorem Mm(f:List UInt8)(c:Cl)(r:List UInt8)(h:jI f=some (c,r)):c.fits:=by
 unfold jI at h;split at h
 ·rename_i mk s q;split at h
  ·split at h
   ·rename_i k m d;split at h
    ·rename_i l p e;split at h
     ·rename_i j i o b;simp at h;rw[<-h.1];have g:=jz (P:=fun n=> -9223372036854775808<=n/\n<=9223372036854775807) (fun _ _ _ h=>rV h) d;have a:=jz (P:=fun n=> -9223372036854775808<=n/\n<=9223372036854775807) (fun _ _ _ h=>rV h) b;exact⟨g k (by simp),a j (by simp),a i (by simp),dp (R7 e).2 (by simp[maxLen])⟩
     ·simp at h
    ·simp at h
   ·simp at h
  ·simp at h
 ·simp at h
theorem yh{f:List UInt8}{e:FE}(h:gH f=some e):e.fits/\e.ops.length<=64/\e.args.length<=8/\e.cls.length<=64:=by
 unfold gH at h;split at h
 ·rename_i j w k;split at h
  ·rename_i o q c;split at h
   ·rename_i m u d;split at h
    ·rename_i p t b;split at h
     ·simp at h;subst h;obtain⟨g,v⟩:=CT Ml c;obtain⟨i,s⟩:=CT (P:=fun n=> -9223372036854775808<=n/\n<=9223372036854775807) (fun _ _ _ h=>rV h) d;obtain⟨l,r⟩:=CT Mm b;have a:=(jz (P:=fun n=>0<=n/\n<=9223372036854775807) (fun _ _ _ h=>pQ h) k) j (by simp);exact⟨⟨⟨by have:=a.1;simp only;omega,a.2⟩,g,i,l⟩,by simp only;omega,by simp only;omega,by simp only;omega⟩
     ·simp at h
    ·simp at h
   ·simp at h
  ·simp at h
 ·simp at h
end Go.Proofs.YtehccbdajiiaaaaGreatDoor
