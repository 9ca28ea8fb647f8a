import Derived.Test.YtehccbdajiiaaaaGreatDoorS41
namespace Go.Proofs.YtehccbdajiiaaaaGreatDoor
open Go.Proofs.Tryz
set_option maxRecDepth 100000
set_option maxHeartbeats 16000000
open Go.RowKit
def gJ(a:List UInt8):Option FE:=
 match dP iO 1 a with
 |some ([id],r)=>match sK mF 64 r with
  |some (ops,r2)=>match sK mR 8 r2 with
   |some (args,r3)=>match sK jO 64 r3 with
    |some (cls,r4)=>if r4=[]then some ⟨id,ops,args,cls⟩else none
    |none=>none
   |none=>none
  |none=>none
 |_=>none
def Ze(b:Nat)(w:World)(e c d a:Nat)(w':World):Prop:=Below w.heap.size w w'/\Y2 b e c d a w'/\w.heap.size<=e/\w.heap.size<=c/\w.heap.size<=d/\w.heap.size<=a
def G1(w w':World)(L:List (Nat×Value)):Prop:=
 Below w.heap.size w w'/\(L.map Prod.fst).Nodup/\ ∀x∈L,w.heap.size<=x.1/\ ∃t,w'.heap[x.1]?=some (.cells #[x.2] t (0,0))
section
variable{w w':World}{L:List (Nat×Value)}
theorem G1.start(w:World):G1 w w []:=⟨bd _ _,by simp,by simp⟩
theorem G1.drew(h:G1 w w' L):G1 w w'.drew L:=⟨h.1.drew,h.2.1,h.2.2⟩
theorem G1.alloc(h:G1 w w' L)(v:Value)(t:TypeId):G1 w (w'.alloc (.cells #[v] t)) ((w'.heap.size,v)::L):=by
 have c:=h.1.size;have d: ∀x∈L,x.1<w'.heap.size:=fun x a=>by obtain⟨_,t,b⟩:=h.2.2 x a;exact(cq.1 b).1
 refine⟨h.1.alloc c _,?_,fun x a=>?_⟩
 ·simp only[kt,List.nodup_cons];refine⟨fun f=>?_,h.2.1⟩;obtain⟨y,e,g⟩:=ep.1 f;have:=d y e;omega
 ·rcases eS.1 a with rfl|a
  ·exact⟨c,t,an _ _⟩
  ·obtain⟨e,f,b⟩:=h.2.2 x a;exact⟨e,f,(qS (fM w' _)).heap b id⟩
theorem G1.at_(h:G1 w w' L)(i:Nat){B:Nat}{v:Value}(hi:L[i]?=some (B,v)):w'.cell? ⟨B,0,none⟩=some v/\w'.frozen? ⟨B,0,none⟩=false:=by obtain⟨_,t,a⟩:=h.2.2 _ (db hi);exact⟨by simp[World.cell?,a],by simp[World.frozen?,a]⟩
theorem G1.set(h:G1 w w' L)(i:Nat){B:Nat}{v0:Value}(hi:L[i]?=some (B,v0))(v:Value):G1 w (w'.setCell ⟨B,0,none⟩ v) (L.set i (B,v)):=by
 have p:=db hi;obtain⟨d,n,j⟩:=h.2.2 _ p
 have g:(L.set i (B,v)).map Prod.fst=L.map Prod.fst:=by
  rw[List.map_set];refine List.ext_getElem? fun t=>?_;rw[List.getElem?_set];split
  ·rename_i f;subst f;split
   ·simp[hi]
   ·rename_i c;simp at c;simp[List.getElem?_eq_none c]
  ·rfl
 refine⟨h.1.setCell d _,g▸h.2.1,fun x r=>?_⟩;obtain⟨t,a⟩:=List.mem_iff_getElem?.1 r;by_cases b:t=i
 ·subst b;rw[List.getElem?_set_self (List.getElem?_eq_some_iff.1 hi).1]at a;injection a with a;subst a;exact⟨d,n,by simp[World.setCell,Array.getElem?_modify,j]⟩
 ·rw[List.getElem?_set_ne (fun f=>b f.symm)]at a;obtain⟨q,s,k⟩:=h.2.2 _ (db a);refine⟨q,s,?_⟩
  have l:x.1≠B:=by
   intro f;have e:(L.map Prod.fst)[t]?=some B:=by simp[a,f]
   have m:(L.map Prod.fst)[i]?=some B:=by simp[hi]
   have o:=(aw.1 e).1;exact b ((List.getElem?_inj o h.2.1).1 (e.x m.symm))
  exact(Only.aR w' B 0 v).heap k l
theorem G1.vC{b d e c a:Nat}(h:G1 w w' L)(f:(d,(Value.func (.func 148) #[] #[rv c]))∈L)(p:(e,(Value.func (.func 148) #[] #[rv a]))∈L)
  (m:(c,(Value.func (.func 86) #[rv b] #[]))∈L) (o:(a,(Value.func (.func 87) #[rv b] #[]))∈L):Ze b w d e c a w':=by
 obtain⟨i,_,n⟩:=h.2.2 _ f;obtain⟨k,_,l⟩:=h.2.2 _ p;obtain⟨j,_,q⟩:=h.2.2 _ m;obtain⟨r,_,g⟩:=h.2.2 _ o;exact⟨h.1,⟨by simp[World.cell?,n],by simp[World.cell?,l],by simp[World.cell?,q],by simp[World.cell?,g]⟩,i,k,j,r⟩
end
theorem jS.start{F:Nat->Prop}{b:Nat}{e:List UInt8}{p T k l j f:Nat}{t:TypeId}{cs:Array Value}{w a m:World}(u:bt w F b e p)(g: ∀s,F s->s<w.heap.size)(i:Below w.heap.size w a)(h:a.heap[T]?=some (.cells cs t (0,0)))(A:w.heap.size<=T)(q:Ze b a k l j f m):jS F b e k l j f T t p cs m:=by
 obtain⟨c,n,z,B,C,y⟩:=q;have o:=i.size;have v:T<a.heap.size:=(cq.1 h).1;have x:b<w.heap.size:=by obtain⟨D,r,_⟩:=u;exact(cq.1 r).1
 refine⟨u.below (i.x (c.m o)),n,(qS c).heap h id,fun d=>?_,⟨by omega,by omega,by omega,by omega⟩,⟨by omega,by omega,by omega,by omega⟩,fun s d=>?_⟩
 ·have:=g _ d;omega
 ·have:=g _ d;have:=c.size;omega
theorem jS.again{F:Nat->Prop}{b:Nat}{a:List UInt8}{p h T f g e c:Nat}{t:TypeId}{cs:Array Value}{w w':World}(i:jS F b a f g e c T t p cs w)(j:Only (fun k=>k=b) w w')(d:Nt F b a f g e c h w'):jS F b a f g e c T t h cs w':=
 ⟨d.1,d.2.1,j.heap i.2.2.1 i.nb,i.2.2.2.1,i.2.2.2.2.1,i.2.2.2.2.2.1,d.2.2.2⟩
theorem rC{w:World}{B:Nat}{d a b c:Value}{t:TypeId}(h:w.heap[B]?=some (.cells #[d,a,b,c] t (0,0))):
  (w.cell? ⟨B,0,none⟩=some d/\w.cell? ⟨B,1,none⟩=some a/\w.cell? ⟨B,2,none⟩=some b/\w.cell? ⟨B,3,none⟩=some c)/\w.frozen? ⟨B,0,none⟩=false/\w.frozen? ⟨B,1,none⟩=false/\w.frozen? ⟨B,2,none⟩=false/\w.frozen? ⟨B,3,none⟩=false:=by
 refine⟨⟨?_,?_,?_,?_⟩,?_,?_,?_,?_⟩<;>simp[World.cell?,World.frozen?,h]
theorem AB{w:World}{B:Nat}{d e f g:Value}{t:TypeId}(i:w.heap[B]?=some (.cells #[d,e,f,g] t (0,0)))(v0 v1 v2 v3:Value):
  ((((w.setCell ⟨B,0,none⟩ v0).setCell ⟨B,1,none⟩ v1).setCell ⟨B,2,none⟩ v2).setCell ⟨B,3,none⟩ v3).heap[B]?=some (.cells #[v0,v1,v2,v3] t (0,0)):=by
 have c:=dp w B 0 _ t v0 i;have h:=dp _ B 1 _ t v1 c;have a:=dp _ B 2 _ t v2 h;have b:=dp _ B 3 _ t v3 a;simpa using b
theorem B0{w w0:World}{B b:Nat}(h:Only (fun k=>k=b) w0 w)(a:w0.heap.size<=B)(v0 v1 v2 v3:Value):
  Only (fun k=>k=b) w0 ((((w.setCell ⟨B,0,none⟩ v0).setCell ⟨B,1,none⟩ v1).setCell ⟨B,2,none⟩ v2).setCell ⟨B,3,none⟩ v3):=
 (((h.setCell (p:=⟨B,0,none⟩) (fun e=>absurd e (Nat.not_lt.2 a)) v0).setCell (p:=⟨B,1,none⟩) (fun e=>absurd e (Nat.not_lt.2 a)) v1).setCell (p:=⟨B,2,none⟩) (fun e=>absurd e (Nat.not_lt.2 a)) v2).setCell (p:=⟨B,3,none⟩) (fun e=>absurd e (Nat.not_lt.2 a)) v3
def abO(b:Nat)(f:List UInt8)(p:Nat)(w:World)(e:Ending)(w':World):Prop:=
 Only (fun k=>k=b) w w'/\match gJ (f.drop p)with
  |some x=> ∃d a c,e=.returned (.tuple #[Dx x d a c,.bool true])/\qi w' (fun k=>w.heap.size<=k) d x.ops/\Rd w' (fun k=>w.heap.size<=k) a (SC x.args)/\eI w' (fun k=>w.heap.size<=k) c x.cls
  |none=>e=.returned (.tuple #[.agg #[rm 0,.slice none 0 0,.slice none 0 0,.slice none 0 0],.bool false])
@[go_sem] theorem Rq {P:Program} {w:World} {a:Addr} {m:Mode} (f:Fn) (x y:Array Value):(store a (.func f x y) m).run P w=stored P w a (.func f x y) m:=run_store P w a _ m rfl
theorem U2(w:World)(F:Nat->Prop)(b:Nat)(a:List UInt8)(p:Nat)(h:bt w F b a p):Calls prog 95 #[rv b] w fun e w'=>e=.returned (rm ((a.length:Int)-p))/\Only (fun _=>False) w w':=by
 obtain⟨A,l,i,k,_,_,e,d,c,_⟩:=h.at_;unfold maxLen at c;have j:=AD e d;clear h;have g:IntKind.i64.wrap ((a.length:Int)-p)=(a.length:Int)-p:=by rw[me];omega
 have f:wrap64 ((a.length:Int)-p)=(a.length:Int)-p:=by unfold wrap64;omega
 go_enter func95,ntmps95;go_wp2_with fail
 go_region_held3 (fun w'=>w'.cell? ⟨b,0,none⟩=some (.slice A a.length l)/\w'.cell? ⟨b,1,none⟩=some (rm p)) (first|exact⟨by assumption,by assumption⟩|go_keep) (fail)
 go_wp2_with fail;go_ret
 exact⟨by go_num,(oE _ _).drew⟩
theorem Rs(w:World)(B:Nat)(v0 v1 v2 v3:Value):Only (fun k=>k=B) w ((((w.setCell ⟨B,0,none⟩ v0).setCell ⟨B,1,none⟩ v1).setCell ⟨B,2,none⟩ v2).setCell ⟨B,3,none⟩ v3):=
 (((Only.aR w B 0 v0).setCell (p:=⟨B,1,none⟩) (fun _=>rfl) v1).setCell (p:=⟨B,2,none⟩) (fun _=>rfl) v2).setCell (p:=⟨B,3,none⟩) (fun _=>rfl) v3
theorem U4{w:World}{F:Nat->Prop}{v:Value}{l:List Int}(i:bI 1 w F v (l.map Gl)):Rd w F v (SC l):=by
 obtain⟨A,n,k,rfl,c,b,d,e⟩:=i;refine⟨A,n,k,rfl,by simpa[SC]using c,b,d,fun a=>?_⟩;obtain⟨h,o,rfl,g,f⟩:=e a;refine⟨h,o,rfl,g,fun j u a=>?_⟩;simp only[SC,nh]at a
 cases hlj:l[j]? with
 |none=>rw[hlj]at a;simp at a
 |some m=>rw[hlj]at a;simp at a;subst a;have:=f j (Gl m) (by simp[hlj]) 0 (rm m) (by simp[Gl]);simpa using this
theorem JG(F:Nat->Prop)(b:Nat)(t:List UInt8)(p:Nat)(w:World)(T:bt w F b t p)(d: ∀C,F C->C<w.heap.size):
  Calls prog 57 #[rv b] w (abO b t p w):=by
 obtain⟨S,a⟩:=rk (((w.alloc (uc b)).alloc (sq 0)).alloc (sq 0));have c:=tH w (uc b) (sq 0) (sq 0)
 have i:S.cell? ⟨w.heap.size,0,none⟩=some (rv b):=by rw[<-a];exact aI (aI (by have:=an w (uc b);simp only[World.cell?,this];rfl) _) _
 have H:S.heap[w.heap.size+1]?=some (sq 0):=by rw[<-a];refine(qS (fM _ _)).heap ?_ id;have:=an (w.alloc (uc b)) (sq 0);simpa using this
 have e:S.heap[w.heap.size+1+1]?=some (sq 0):=by rw[<-a];exact Hw _ _ _ _
 rw[a]at c;go_enter func57,ntmps57;go_upto_region 2 with fail;have j:w.heap.size<S.heap.size:=aq _ _ i;have Y:=AF c H e;have HR:=AD T d;clear c H e T d a;obtain⟨h,a⟩:=rk (w.heap.size);rw[a]at j i⊢;have Kl:=al a;clear a;obtain⟨B,c⟩:=rk (h+1);rw[c];obtain⟨l,a⟩:=rk (B+1);rw[a];have HB:=AD c a;clear c a;have a:=al (G1.start S)
 go_cut [5,6]from 8 to 13 (fun c d e=> ∃u x s n,c=rv u/\d=rv x/\Ze b S u x s n e)
 case first=>
   refine pt (S:=(fun w'=>w'.cell? ⟨h,0,none⟩=some (rv b))) (by kernel_rfl) (((a.o.drew.1.cell (p:=⟨h,0,none⟩) j).x i)) (fun e=>?_);have a:=al a.o.drew;generalize S.drew=D at a e⊢;refine ah (i:=0) (v:=?_) rfl (by kernel_rfl) (by kernel_rfl) (by kernel_rfl) (fun _ _ _ T=>T) (by rfl) (fun d c=>?_) e ?_;rotate_left
   ·go_simp;try rfl
   try simp only[xr]
   refine ah (i:=1) (v:=?_) rfl (by kernel_rfl) (by kernel_rfl) (by kernel_rfl) (fun _ _ _ T=>T) (by rfl) (fun d c=>?_) e ?_;rotate_left
   ·go_simp;try rfl
   try simp only[xr]
   refine ah (i:=3) (v:=?_) rfl (by kernel_rfl) (by kernel_rfl) (by kernel_rfl) (fun _ _ _ T=>T) (by rfl) (fun d c=>?_) e ?_;rotate_left
   ·go_simp;try rfl
   try simp only[xr]
   refine ah (i:=4) (v:=?_) rfl (by kernel_rfl) (by kernel_rfl) (by kernel_rfl) (fun _ _ _ T=>T) (by rfl) (fun d c=>?_) e ?_;rotate_left
   ·go_simp;try rfl
   try simp only[xr]
   refine qe (rs:=[2,6,7]) (by kernel_rfl) (by simp) (av (i:=2) rfl (fun K d=>?_) (av (i:=6) rfl (fun K d=>?_) (av (i:=7) rfl (fun K d=>?_) ph)))
   focus
    go_simp;refine(cG _ _ _ _).m ?_;rintro r A ⟨rfl,rfl⟩
    try go_simp
    have c:=al (a.o.alloc (.func (.func 86) #[rv b] #[]) 185);refine d.o _ _ ((c.o.1.cell (p:=⟨h,0,none⟩) j).x i) (fun f=>?_);clear d K e a;have a:=c;have e:=f;clear c f
    try simp only[xr]
    generalize g:D.alloc _=z at a e⊢;clear g;generalize D.heap.size=s at a⊢;refine qe (rs:=[5,6,7]) (by kernel_rfl) (by simp) (av (i:=5) rfl (fun K d=>?_) (av (i:=6) rfl (fun K d=>?_) (av (i:=7) rfl (fun K d=>?_) ph)))
    focus
     go_simp;refine(cG _ _ _ _).m ?_;rintro r A ⟨rfl,rfl⟩
     try go_simp
     have c:=al (a.o.alloc (.func (.func 87) #[rv b] #[]) 185);refine d.o _ _ ((c.o.1.cell (p:=⟨h,0,none⟩) j).x i) (fun f=>?_);clear d K e a;have a:=c;have e:=f;clear c f
     try simp only[xr]
     generalize g:z.alloc _=o at a e⊢;clear g;generalize z.heap.size=n at a⊢;refine qe (rs:=[6,7]) (by kernel_rfl) (by simp) (av (i:=6) rfl (fun K d=>?_) (av (i:=7) rfl (fun K d=>?_) ph))
     focus
      go_simp;have c:=al (a.o.alloc .nilFunc 183);refine d.o _ _ ((c.o.1.cell (p:=⟨h,0,none⟩) j).x i) (fun f=>?_);clear d K e a;have a:=c;have e:=f;clear c f
      try simp only[xr]
      generalize g:o.alloc _=k at a e⊢;clear g;generalize o.heap.size=u at a⊢;refine qe (rs:=[7]) (by kernel_rfl) (by simp) (av (i:=7) rfl (fun K d=>?_) ph);go_simp;have c:=al (a.o.alloc .nilFunc 183);refine d.o _ _ ((c.o.1.cell (p:=⟨h,0,none⟩) j).x i) (fun f=>?_);clear d K e a;have a:=c;have e:=f;clear c f
      try simp only[xr]
      generalize g:k.alloc _=v at a e⊢;clear g;generalize k.heap.size=x at a⊢;refine qe (rs:=[8]) (by kernel_rfl) (by simp) (av (i:=8) rfl (fun K d=>?_) ph);obtain⟨q,m⟩:=a.o.at_ 1 rfl;go_simp;have c:=al (a.o.set 1 rfl (.func (.func 148) #[] #[rv s]));simp only[List.set_cons_zero,List.set_cons_succ]at c;clear q m;refine d.o _ _ ((c.o.1.cell (p:=⟨h,0,none⟩) j).x i) (fun f=>?_);clear d K e a;have a:=c;have e:=f;clear c f
      try simp only[xr]
      generalize g:v.setCell _ _=y at a e⊢;clear g;refine qe (rs:=[9]) (by kernel_rfl) (by simp) (av (i:=9) rfl (fun K d=>?_) ph);obtain⟨q,m⟩:=a.o.at_ 0 rfl;go_simp;have c:=al (a.o.set 0 rfl (.func (.func 148) #[] #[rv n]));simp only[List.set_cons_zero]at c
     rotate_left
     focus
      go_simp;have c:=al (a.o.alloc .nilFunc 183);refine d.o _ _ ((c.o.1.cell (p:=⟨h,0,none⟩) j).x i) (fun f=>?_);clear d K e a;have a:=c;have e:=f;clear c f
      try simp only[xr]
      generalize g:o.alloc _=k at a e⊢;clear g;generalize o.heap.size=x at a⊢;refine qe (rs:=[6]) (by kernel_rfl) (by simp) (av (i:=6) rfl (fun K d=>?_) ph);go_simp;have c:=al (a.o.alloc .nilFunc 183);refine d.o _ _ ((c.o.1.cell (p:=⟨h,0,none⟩) j).x i) (fun f=>?_);clear d K e a;have a:=c;have e:=f;clear c f
      try simp only[xr]
      generalize g:k.alloc _=v at a e⊢;clear g;generalize k.heap.size=u at a⊢;refine qe (rs:=[8]) (by kernel_rfl) (by simp) (av (i:=8) rfl (fun K d=>?_) ph);obtain⟨q,m⟩:=a.o.at_ 0 rfl;go_simp;have c:=al (a.o.set 0 rfl (.func (.func 148) #[] #[rv s]));simp only[List.set_cons_zero]at c;clear q m;refine d.o _ _ ((c.o.1.cell (p:=⟨h,0,none⟩) j).x i) (fun f=>?_);clear d K e a;have a:=c;have e:=f;clear c f
      try simp only[xr]
      generalize g:v.setCell _ _=y at a e⊢;clear g;refine qe (rs:=[9]) (by kernel_rfl) (by simp) (av (i:=9) rfl (fun K d=>?_) ph);obtain⟨q,m⟩:=a.o.at_ 1 rfl;go_simp;have c:=al (a.o.set 1 rfl (.func (.func 148) #[] #[rv n]));simp only[List.set_cons_zero,List.set_cons_succ]at c
    rotate_left 2
    focus
     go_simp;have c:=al (a.o.alloc .nilFunc 183);refine d.o _ _ ((c.o.1.cell (p:=⟨h,0,none⟩) j).x i) (fun f=>?_);clear d K e a;have a:=c;have e:=f;clear c f
     try simp only[xr]
     generalize g:z.alloc _=o at a e⊢;clear g;generalize z.heap.size=u at a⊢;refine qe (rs:=[5,7]) (by kernel_rfl) (by simp) (av (i:=5) rfl (fun K d=>?_) (av (i:=7) rfl (fun K d=>?_) ph))
     focus
      go_simp;refine(cG _ _ _ _).m ?_;rintro r A ⟨rfl,rfl⟩
      try go_simp
      have c:=al (a.o.alloc (.func (.func 87) #[rv b] #[]) 185);refine d.o _ _ ((c.o.1.cell (p:=⟨h,0,none⟩) j).x i) (fun f=>?_);clear d K e a;have a:=c;have e:=f;clear c f
      try simp only[xr]
      generalize g:o.alloc _=k at a e⊢;clear g;generalize o.heap.size=n at a⊢;refine qe (rs:=[7]) (by kernel_rfl) (by simp) (av (i:=7) rfl (fun K d=>?_) ph);go_simp;have c:=al (a.o.alloc .nilFunc 183);refine d.o _ _ ((c.o.1.cell (p:=⟨h,0,none⟩) j).x i) (fun f=>?_);clear d K e a;have a:=c;have e:=f;clear c f
      try simp only[xr]
      generalize g:k.alloc _=v at a e⊢;clear g;generalize k.heap.size=x at a⊢;refine qe (rs:=[8]) (by kernel_rfl) (by simp) (av (i:=8) rfl (fun K d=>?_) ph);obtain⟨q,m⟩:=a.o.at_ 2 rfl;go_simp;have c:=al (a.o.set 2 rfl (.func (.func 148) #[] #[rv s]));simp only[List.set_cons_zero,List.set_cons_succ]at c;clear q m;refine d.o _ _ ((c.o.1.cell (p:=⟨h,0,none⟩) j).x i) (fun f=>?_);clear d K e a;have a:=c;have e:=f;clear c f
      try simp only[xr]
      generalize g:v.setCell _ _=y at a e⊢;clear g;refine qe (rs:=[9]) (by kernel_rfl) (by simp) (av (i:=9) rfl (fun K d=>?_) ph);obtain⟨q,m⟩:=a.o.at_ 0 rfl;go_simp;have c:=al (a.o.set 0 rfl (.func (.func 148) #[] #[rv n]));simp only[List.set_cons_zero]at c
     rotate_left
     focus
      go_simp;have c:=al (a.o.alloc .nilFunc 183);refine d.o _ _ ((c.o.1.cell (p:=⟨h,0,none⟩) j).x i) (fun f=>?_);clear d K e a;have a:=c;have e:=f;clear c f
      try simp only[xr]
      generalize g:o.alloc _=k at a e⊢;clear g;generalize o.heap.size=x at a⊢;refine qe (rs:=[5]) (by kernel_rfl) (by simp) (av (i:=5) rfl (fun K d=>?_) ph);go_simp;refine(cG _ _ _ _).m ?_;rintro r A ⟨rfl,rfl⟩
      try go_simp
      have c:=al (a.o.alloc (.func (.func 87) #[rv b] #[]) 185);refine d.o _ _ ((c.o.1.cell (p:=⟨h,0,none⟩) j).x i) (fun f=>?_);clear d K e a;have a:=c;have e:=f;clear c f
      try simp only[xr]
      generalize g:k.alloc _=v at a e⊢;clear g;generalize k.heap.size=n at a⊢;refine qe (rs:=[8]) (by kernel_rfl) (by simp) (av (i:=8) rfl (fun K d=>?_) ph);obtain⟨q,m⟩:=a.o.at_ 2 rfl;go_simp;have c:=al (a.o.set 2 rfl (.func (.func 148) #[] #[rv s]));simp only[List.set_cons_zero,List.set_cons_succ]at c;clear q m;refine d.o _ _ ((c.o.1.cell (p:=⟨h,0,none⟩) j).x i) (fun f=>?_);clear d K e a;have a:=c;have e:=f;clear c f
      try simp only[xr]
      generalize g:v.setCell _ _=y at a e⊢;clear g;refine qe (rs:=[9]) (by kernel_rfl) (by simp) (av (i:=9) rfl (fun K d=>?_) ph);obtain⟨q,m⟩:=a.o.at_ 1 rfl;go_simp;have c:=al (a.o.set 1 rfl (.func (.func 148) #[] #[rv n]));simp only[List.set_cons_zero,List.set_cons_succ]at c
    rotate_left 2
    focus
     go_simp;have c:=al (a.o.alloc .nilFunc 183);refine d.o _ _ ((c.o.1.cell (p:=⟨h,0,none⟩) j).x i) (fun f=>?_);clear d K e a;have a:=c;have e:=f;clear c f
     try simp only[xr]
     generalize g:z.alloc _=o at a e⊢;clear g;generalize z.heap.size=x at a⊢;refine qe (rs:=[5,6]) (by kernel_rfl) (by simp) (av (i:=5) rfl (fun K d=>?_) (av (i:=6) rfl (fun K d=>?_) ph))
     focus
      go_simp;refine(cG _ _ _ _).m ?_;rintro r A ⟨rfl,rfl⟩
      try go_simp
      have c:=al (a.o.alloc (.func (.func 87) #[rv b] #[]) 185);refine d.o _ _ ((c.o.1.cell (p:=⟨h,0,none⟩) j).x i) (fun f=>?_);clear d K e a;have a:=c;have e:=f;clear c f
      try simp only[xr]
      generalize g:o.alloc _=k at a e⊢;clear g;generalize o.heap.size=n at a⊢;refine qe (rs:=[6]) (by kernel_rfl) (by simp) (av (i:=6) rfl (fun K d=>?_) ph);go_simp;have c:=al (a.o.alloc .nilFunc 183);refine d.o _ _ ((c.o.1.cell (p:=⟨h,0,none⟩) j).x i) (fun f=>?_);clear d K e a;have a:=c;have e:=f;clear c f
      try simp only[xr]
      generalize g:k.alloc _=v at a e⊢;clear g;generalize k.heap.size=u at a⊢;refine qe (rs:=[8]) (by kernel_rfl) (by simp) (av (i:=8) rfl (fun K d=>?_) ph);obtain⟨q,m⟩:=a.o.at_ 0 rfl;go_simp;have c:=al (a.o.set 0 rfl (.func (.func 148) #[] #[rv s]));simp only[List.set_cons_zero]at c
     rotate_left
     focus
      go_simp;have c:=al (a.o.alloc .nilFunc 183);refine d.o _ _ ((c.o.1.cell (p:=⟨h,0,none⟩) j).x i) (fun f=>?_);clear d K e a;have a:=c;have e:=f;clear c f
      try simp only[xr]
      generalize g:o.alloc _=k at a e⊢;clear g;generalize o.heap.size=u at a⊢;refine qe (rs:=[5]) (by kernel_rfl) (by simp) (av (i:=5) rfl (fun K d=>?_) ph);go_simp;refine(cG _ _ _ _).m ?_;rintro r A ⟨rfl,rfl⟩
      try go_simp
      have c:=al (a.o.alloc (.func (.func 87) #[rv b] #[]) 185);refine d.o _ _ ((c.o.1.cell (p:=⟨h,0,none⟩) j).x i) (fun f=>?_);clear d K e a;have a:=c;have e:=f;clear c f
      try simp only[xr]
      generalize g:k.alloc _=v at a e⊢;clear g;generalize k.heap.size=n at a⊢;refine qe (rs:=[8]) (by kernel_rfl) (by simp) (av (i:=8) rfl (fun K d=>?_) ph);obtain⟨q,m⟩:=a.o.at_ 1 rfl;go_simp;have c:=al (a.o.set 1 rfl (.func (.func 148) #[] #[rv s]));simp only[List.set_cons_zero,List.set_cons_succ]at c
     all_goals
      clear q m;refine d.o _ _ ((c.o.1.cell (p:=⟨h,0,none⟩) j).x i) (fun f=>?_);clear d K e a;have a:=c;have e:=f;clear c f
      try simp only[xr]
      generalize g:v.setCell _ _=y at a e⊢;clear g;refine qe (rs:=[9]) (by kernel_rfl) (by simp) (av (i:=9) rfl (fun K d=>?_) ph);obtain⟨q,m⟩:=a.o.at_ 2 rfl;go_simp;have c:=al (a.o.set 2 rfl (.func (.func 148) #[] #[rv n]));simp only[List.set_cons_zero,List.set_cons_succ]at c
   rotate_left 6
   focus
    go_simp;have c:=al (a.o.alloc .nilFunc 183);refine d.o _ _ ((c.o.1.cell (p:=⟨h,0,none⟩) j).x i) (fun f=>?_);clear d K e a;have a:=c;have e:=f;clear c f
    try simp only[xr]
    generalize g:D.alloc _=z at a e⊢;clear g;generalize D.heap.size=u at a⊢;refine qe (rs:=[2,7]) (by kernel_rfl) (by simp) (av (i:=2) rfl (fun K d=>?_) (av (i:=7) rfl (fun K d=>?_) ph))
    focus
     go_simp;refine(cG _ _ _ _).m ?_;rintro r A ⟨rfl,rfl⟩
     try go_simp
     have c:=al (a.o.alloc (.func (.func 86) #[rv b] #[]) 185);refine d.o _ _ ((c.o.1.cell (p:=⟨h,0,none⟩) j).x i) (fun f=>?_);clear d K e a;have a:=c;have e:=f;clear c f
     try simp only[xr]
     generalize g:z.alloc _=o at a e⊢;clear g;generalize z.heap.size=s at a⊢;refine qe (rs:=[5,7]) (by kernel_rfl) (by simp) (av (i:=5) rfl (fun K d=>?_) (av (i:=7) rfl (fun K d=>?_) ph))
     focus
      go_simp;refine(cG _ _ _ _).m ?_;rintro r A ⟨rfl,rfl⟩
      try go_simp
      have c:=al (a.o.alloc (.func (.func 87) #[rv b] #[]) 185);refine d.o _ _ ((c.o.1.cell (p:=⟨h,0,none⟩) j).x i) (fun f=>?_);clear d K e a;have a:=c;have e:=f;clear c f
      try simp only[xr]
      generalize g:o.alloc _=k at a e⊢;clear g;generalize o.heap.size=n at a⊢;refine qe (rs:=[7]) (by kernel_rfl) (by simp) (av (i:=7) rfl (fun K d=>?_) ph);go_simp;have c:=al (a.o.alloc .nilFunc 183);refine d.o _ _ ((c.o.1.cell (p:=⟨h,0,none⟩) j).x i) (fun f=>?_);clear d K e a;have a:=c;have e:=f;clear c f
      try simp only[xr]
      generalize g:k.alloc _=v at a e⊢;clear g;generalize k.heap.size=x at a⊢;refine qe (rs:=[8]) (by kernel_rfl) (by simp) (av (i:=8) rfl (fun K d=>?_) ph);obtain⟨q,m⟩:=a.o.at_ 3 rfl;go_simp;have c:=al (a.o.set 3 rfl (.func (.func 148) #[] #[rv s]));simp only[List.set_cons_zero,List.set_cons_succ]at c;clear q m;refine d.o _ _ ((c.o.1.cell (p:=⟨h,0,none⟩) j).x i) (fun f=>?_);clear d K e a;have a:=c;have e:=f;clear c f
      try simp only[xr]
      generalize g:v.setCell _ _=y at a e⊢;clear g;refine qe (rs:=[9]) (by kernel_rfl) (by simp) (av (i:=9) rfl (fun K d=>?_) ph);obtain⟨q,m⟩:=a.o.at_ 0 rfl;go_simp;have c:=al (a.o.set 0 rfl (.func (.func 148) #[] #[rv n]));simp only[List.set_cons_zero]at c
     rotate_left
     focus
      go_simp;have c:=al (a.o.alloc .nilFunc 183);refine d.o _ _ ((c.o.1.cell (p:=⟨h,0,none⟩) j).x i) (fun f=>?_);clear d K e a;have a:=c;have e:=f;clear c f
      try simp only[xr]
      generalize g:o.alloc _=k at a e⊢;clear g;generalize o.heap.size=x at a⊢;refine qe (rs:=[5]) (by kernel_rfl) (by simp) (av (i:=5) rfl (fun K d=>?_) ph);go_simp;refine(cG _ _ _ _).m ?_;rintro r A ⟨rfl,rfl⟩
      try go_simp
      have c:=al (a.o.alloc (.func (.func 87) #[rv b] #[]) 185);refine d.o _ _ ((c.o.1.cell (p:=⟨h,0,none⟩) j).x i) (fun f=>?_);clear d K e a;have a:=c;have e:=f;clear c f
      try simp only[xr]
      generalize g:k.alloc _=v at a e⊢;clear g;generalize k.heap.size=n at a⊢;refine qe (rs:=[8]) (by kernel_rfl) (by simp) (av (i:=8) rfl (fun K d=>?_) ph);obtain⟨q,m⟩:=a.o.at_ 3 rfl;go_simp;have c:=al (a.o.set 3 rfl (.func (.func 148) #[] #[rv s]));simp only[List.set_cons_zero,List.set_cons_succ]at c;clear q m;refine d.o _ _ ((c.o.1.cell (p:=⟨h,0,none⟩) j).x i) (fun f=>?_);clear d K e a;have a:=c;have e:=f;clear c f
      try simp only[xr]
      generalize g:v.setCell _ _=y at a e⊢;clear g;refine qe (rs:=[9]) (by kernel_rfl) (by simp) (av (i:=9) rfl (fun K d=>?_) ph);obtain⟨q,m⟩:=a.o.at_ 1 rfl;go_simp;have c:=al (a.o.set 1 rfl (.func (.func 148) #[] #[rv n]));simp only[List.set_cons_zero,List.set_cons_succ]at c
    rotate_left 2
    focus
     go_simp;have c:=al (a.o.alloc .nilFunc 183);refine d.o _ _ ((c.o.1.cell (p:=⟨h,0,none⟩) j).x i) (fun f=>?_);clear d K e a;have a:=c;have e:=f;clear c f
     try simp only[xr]
     generalize g:z.alloc _=o at a e⊢;clear g;generalize z.heap.size=x at a⊢;refine qe (rs:=[2]) (by kernel_rfl) (by simp) (av (i:=2) rfl (fun K d=>?_) ph);go_simp;refine(cG _ _ _ _).m ?_;rintro r A ⟨rfl,rfl⟩
     try go_simp
     have c:=al (a.o.alloc (.func (.func 86) #[rv b] #[]) 185);refine d.o _ _ ((c.o.1.cell (p:=⟨h,0,none⟩) j).x i) (fun f=>?_);clear d K e a;have a:=c;have e:=f;clear c f
     try simp only[xr]
     generalize g:o.alloc _=k at a e⊢;clear g;generalize o.heap.size=s at a⊢;refine qe (rs:=[5]) (by kernel_rfl) (by simp) (av (i:=5) rfl (fun K d=>?_) ph);go_simp;refine(cG _ _ _ _).m ?_;rintro r A ⟨rfl,rfl⟩
     try go_simp
     have c:=al (a.o.alloc (.func (.func 87) #[rv b] #[]) 185);refine d.o _ _ ((c.o.1.cell (p:=⟨h,0,none⟩) j).x i) (fun f=>?_);clear d K e a;have a:=c;have e:=f;clear c f
     try simp only[xr]
     generalize g:k.alloc _=v at a e⊢;clear g;generalize k.heap.size=n at a⊢;refine qe (rs:=[8]) (by kernel_rfl) (by simp) (av (i:=8) rfl (fun K d=>?_) ph);obtain⟨q,m⟩:=a.o.at_ 3 rfl;go_simp;have c:=al (a.o.set 3 rfl (.func (.func 148) #[] #[rv s]));simp only[List.set_cons_zero,List.set_cons_succ]at c;clear q m;refine d.o _ _ ((c.o.1.cell (p:=⟨h,0,none⟩) j).x i) (fun f=>?_);clear d K e a;have a:=c;have e:=f;clear c f
     try simp only[xr]
     generalize g:v.setCell _ _=y at a e⊢;clear g;refine qe (rs:=[9]) (by kernel_rfl) (by simp) (av (i:=9) rfl (fun K d=>?_) ph);obtain⟨q,m⟩:=a.o.at_ 2 rfl;go_simp;have c:=al (a.o.set 2 rfl (.func (.func 148) #[] #[rv n]));simp only[List.set_cons_zero,List.set_cons_succ]at c
   rotate_left 3
   focus
    go_simp;have c:=al (a.o.alloc .nilFunc 183);refine d.o _ _ ((c.o.1.cell (p:=⟨h,0,none⟩) j).x i) (fun f=>?_);clear d K e a;have a:=c;have e:=f;clear c f
    try simp only[xr]
    generalize g:D.alloc _=z at a e⊢;clear g;generalize D.heap.size=x at a⊢;refine qe (rs:=[2,6]) (by kernel_rfl) (by simp) (av (i:=2) rfl (fun K d=>?_) (av (i:=6) rfl (fun K d=>?_) ph))
    focus
     go_simp;refine(cG _ _ _ _).m ?_;rintro r A ⟨rfl,rfl⟩
     try go_simp
     have c:=al (a.o.alloc (.func (.func 86) #[rv b] #[]) 185);refine d.o _ _ ((c.o.1.cell (p:=⟨h,0,none⟩) j).x i) (fun f=>?_);clear d K e a;have a:=c;have e:=f;clear c f
     try simp only[xr]
     generalize g:z.alloc _=o at a e⊢;clear g;generalize z.heap.size=s at a⊢;refine qe (rs:=[5,6]) (by kernel_rfl) (by simp) (av (i:=5) rfl (fun K d=>?_) (av (i:=6) rfl (fun K d=>?_) ph))
     focus
      go_simp;refine(cG _ _ _ _).m ?_;rintro r A ⟨rfl,rfl⟩
      try go_simp
      have c:=al (a.o.alloc (.func (.func 87) #[rv b] #[]) 185);refine d.o _ _ ((c.o.1.cell (p:=⟨h,0,none⟩) j).x i) (fun f=>?_);clear d K e a;have a:=c;have e:=f;clear c f
      try simp only[xr]
      generalize g:o.alloc _=k at a e⊢;clear g;generalize o.heap.size=n at a⊢;refine qe (rs:=[6]) (by kernel_rfl) (by simp) (av (i:=6) rfl (fun K d=>?_) ph);go_simp;have c:=al (a.o.alloc .nilFunc 183);refine d.o _ _ ((c.o.1.cell (p:=⟨h,0,none⟩) j).x i) (fun f=>?_);clear d K e a;have a:=c;have e:=f;clear c f
      try simp only[xr]
      generalize g:k.alloc _=v at a e⊢;clear g;generalize k.heap.size=u at a⊢;refine qe (rs:=[8]) (by kernel_rfl) (by simp) (av (i:=8) rfl (fun K d=>?_) ph);obtain⟨q,m⟩:=a.o.at_ 0 rfl;go_simp;have c:=al (a.o.set 0 rfl (.func (.func 148) #[] #[rv s]));simp only[List.set_cons_zero]at c
     rotate_left
     focus
      go_simp;have c:=al (a.o.alloc .nilFunc 183);refine d.o _ _ ((c.o.1.cell (p:=⟨h,0,none⟩) j).x i) (fun f=>?_);clear d K e a;have a:=c;have e:=f;clear c f
      try simp only[xr]
      generalize g:o.alloc _=k at a e⊢;clear g;generalize o.heap.size=u at a⊢;refine qe (rs:=[5]) (by kernel_rfl) (by simp) (av (i:=5) rfl (fun K d=>?_) ph);go_simp;refine(cG _ _ _ _).m ?_;rintro r A ⟨rfl,rfl⟩
      try go_simp
      have c:=al (a.o.alloc (.func (.func 87) #[rv b] #[]) 185);refine d.o _ _ ((c.o.1.cell (p:=⟨h,0,none⟩) j).x i) (fun f=>?_);clear d K e a;have a:=c;have e:=f;clear c f
      try simp only[xr]
      generalize g:k.alloc _=v at a e⊢;clear g;generalize k.heap.size=n at a⊢;refine qe (rs:=[8]) (by kernel_rfl) (by simp) (av (i:=8) rfl (fun K d=>?_) ph);obtain⟨q,m⟩:=a.o.at_ 1 rfl;go_simp;have c:=al (a.o.set 1 rfl (.func (.func 148) #[] #[rv s]));simp only[List.set_cons_zero,List.set_cons_succ]at c
    rotate_left 2
    focus
     go_simp;have c:=al (a.o.alloc .nilFunc 183);refine d.o _ _ ((c.o.1.cell (p:=⟨h,0,none⟩) j).x i) (fun f=>?_);clear d K e a;have a:=c;have e:=f;clear c f
     try simp only[xr]
     generalize g:z.alloc _=o at a e⊢;clear g;generalize z.heap.size=u at a⊢;refine qe (rs:=[2]) (by kernel_rfl) (by simp) (av (i:=2) rfl (fun K d=>?_) ph);go_simp;refine(cG _ _ _ _).m ?_;rintro r A ⟨rfl,rfl⟩
     try go_simp
     have c:=al (a.o.alloc (.func (.func 86) #[rv b] #[]) 185);refine d.o _ _ ((c.o.1.cell (p:=⟨h,0,none⟩) j).x i) (fun f=>?_);clear d K e a;have a:=c;have e:=f;clear c f
     try simp only[xr]
     generalize g:o.alloc _=k at a e⊢;clear g;generalize o.heap.size=s at a⊢;refine qe (rs:=[5]) (by kernel_rfl) (by simp) (av (i:=5) rfl (fun K d=>?_) ph);go_simp;refine(cG _ _ _ _).m ?_;rintro r A ⟨rfl,rfl⟩
     try go_simp
     have c:=al (a.o.alloc (.func (.func 87) #[rv b] #[]) 185);refine d.o _ _ ((c.o.1.cell (p:=⟨h,0,none⟩) j).x i) (fun f=>?_);clear d K e a;have a:=c;have e:=f;clear c f
     try simp only[xr]
     generalize g:k.alloc _=v at a e⊢;clear g;generalize k.heap.size=n at a⊢;refine qe (rs:=[8]) (by kernel_rfl) (by simp) (av (i:=8) rfl (fun K d=>?_) ph);obtain⟨q,m⟩:=a.o.at_ 2 rfl;go_simp;have c:=al (a.o.set 2 rfl (.func (.func 148) #[] #[rv s]));simp only[List.set_cons_zero,List.set_cons_succ]at c
    all_goals
     clear q m;refine d.o _ _ ((c.o.1.cell (p:=⟨h,0,none⟩) j).x i) (fun f=>?_);clear d K e a;have a:=c;have e:=f;clear c f
     try simp only[xr]
     generalize g:v.setCell _ _=y at a e⊢;clear g;refine qe (rs:=[9]) (by kernel_rfl) (by simp) (av (i:=9) rfl (fun K d=>?_) ph);obtain⟨q,m⟩:=a.o.at_ 3 rfl;go_simp;have c:=al (a.o.set 3 rfl (.func (.func 148) #[] #[rv n]));simp only[List.set_cons_zero,List.set_cons_succ]at c
   all_goals
    clear q m;refine d.o _ _ ((c.o.1.cell (p:=⟨h,0,none⟩) j).x i) (fun f=>?_);clear d K e a;have a:=c;have e:=f;clear c f
    try simp only[xr]
    generalize g:y.setCell _ _=c at a e⊢;clear g;refine pw (by kernel_rfl) ?_ _;go_wp2_with fail
    go_meet
    exact⟨u,x,s,n,rfl,rfl,a.o.vC (by simp) (by simp) (by simp) (by simp)⟩
 case rest=>
  obtain⟨u,x,s,n,rfl,rfl,c⟩:=hcut;have d:=jS.start HR.o.1 HR.o.2 Y.o.1 Y.o.d (by omega) c;have H:wc.heap[w.heap.size+1]?=_:=(qS c.1).heap Y.o.2.1 id;have g:=(c.1.cell (p:=⟨h,0,none⟩) j).x i;have d5:=c.2.1.1;have f:=oB (Y.o.1.x (c.1.m Y.o.1.size)) (fun C=>C=b);have o:w.heap.size+1=B:=by have:=Kl.o;have:=HB.o.1;omega
  have k:w.heap.size+1+1=l:=by have:=Kl.o;have:=HB.o;omega
  rw[o]at H;rw[k]at d;have m:w.heap.size<=h/\w.heap.size<=B/\w.heap.size<=l/\h≠l/\B≠l/\B≠h:=by have:=Kl.o;have:=HB.o;omega
  have e:=al m;have bl:=al d;have bk:=al f;have HU:=al (rB d [0] _ rfl 1 rfl (by simp) (by intro v q;simp at q;subst q;decide));have HS:=AF H g d5;clear d f o k m c H j;go_wp2_with fail;refine HU.o.m ?_;rintro r z ⟨d,kK⟩;have Ww:=al (bk.o.x d (fun C c f=>f.elim id (fun r=>absurd r (by have:=e.o;omega))));have bm:=bl.o.nb;have j:h≠b/\B≠b:=by have:=HR.o.1;obtain⟨v,k1,_⟩:=this;have:=(cq.1 k1).1;have:=e.o;omega
  have L:=al j;have H:=d.heap HS.o.1 (fun r=>r.elim L.o.2 e.o.q.1);have f:=d.cell (p:=⟨h,0,none⟩) g (fun r=>r.elim L.o.1 e.o.t.1);clear d j g i
  cases hg0:dP iO 1 (t.drop p)with
  |none=>rw[show([0]:List Nat).length=1 from rfl,hg0]at kK;obtain⟨rfl,pE,bo,g,d⟩:=kK;have M:=al (show gJ (t.drop p)=none by simp only[gJ,hg0]);clear d hg0 g;obtain⟨⟨o,m,q,G⟩,E,k,j,D⟩:=rC H;go_wp2_with fail;refine dj (ax rfl _ _ _ _ _ _ _ rfl (AB H _ _ _ _) underlying96 rfl (by kernel_rfl)) rfl ⟨B0 Ww.o e.o.2.1 _ _ _ _,?_⟩;rw[M.o];exact rfl
  |some y=>
   obtain⟨ns,rest⟩:=y;rw[show([0]:List Nat).length=1 from rfl,hg0]at kK;obtain⟨rfl,p1,rfl,d⟩:=kK;obtain⟨V,rfl⟩:=UU (jD hg0);have R:=al (show jS F b t u x s n l 96 p1 #[rm V,.slice none 0 0,.slice none 0 0,.slice none 0 0] z from d);have X:=al hg0;clear d hg0;have I:=R.o.2.1.1;have g:=al (UZ F b t u x s n p1 64 z R.o.Zc (by decide));go_wp2_with fail;refine g.o.m ?_;rintro r ac ⟨d,i⟩;clear g I;have a3:=al (Ww.o.x d (fun _ _ T=>T));have K:=d.heap H L.o.2;have W:=d.cell (p:=⟨h,0,none⟩) f L.o.1;have Z:=d.heap R.o.d.1 R.o.nb;obtain⟨⟨o,m,q,G⟩,E,k,j,D⟩:=rC Z
   cases hg:sK mF 64 (t.drop p1)with
   |none=>rw[hg]at i;obtain rfl:=i;have M:=al (show gJ (t.drop p)=none by simp only[gJ,X.o,hg]);clear hg d H f W;go_upto_region 7 with fail;have J:=(Only.aR ac l 1 (.slice none 0 0)).heap K e.o.q.1;have P:=al (a3.o.setCell (p:=⟨l,1,none⟩) (fun r=>absurd r (Nat.not_lt.2 e.o.d.1)) (.slice none 0 0));generalize ac.setCell ⟨l,1,none⟩ (.slice none 0 0)=A at J P⊢;clear o m q G E k j D;obtain⟨⟨o,m,q,G⟩,E,k,j,D⟩:=rC J;go_wp2_with fail;refine dj (ax rfl _ _ _ _ _ _ _ rfl (AB J _ _ _ _) underlying96 rfl (by kernel_rfl)) rfl ⟨B0 P.o e.o.2.1 _ _ _ _,?_⟩;rw[M.o];exact rfl
   |some y=>
    obtain⟨g,rest⟩:=y;rw[hg]at i;obtain⟨I,p2,rfl,U,O,rfl,Q⟩:=i;have Ri:=al hg;have bf:=al (R.o.again d Q);have N:w.heap.size<=I/\I≠b/\I≠l/\I≠B:=by have h1:=Ww.o.size;have h2:=R.o.lt;have h3:=R.o.blt;have h4:B<z.heap.size:=(cq.1 H).1;omega
    have bb:=al (bI.mono (G:=fun C=>w.heap.size<=C/\C≠b/\C≠l/\C≠B) O (fun C c=>by subst c;exact N));clear hg d H f U O Q N;go_upto_region 7 with fail;have f:=Only.aR ac l 1 (.slice (some ⟨I,0,none⟩) g.length g.length);have Q:=al (show jS F b t u x s n l 96 p2 #[rm V,.slice (some ⟨I,0,none⟩) g.length g.length,.slice none 0 0,.slice none 0 0] _ from bf.o.JA 1 (.slice (some ⟨I,0,none⟩) g.length g.length));have O:=f.heap K e.o.q.1;have U:=f.cell (p:=⟨h,0,none⟩) W e.o.t.1;have Mc:=al (a3.o.setCell (p:=⟨l,1,none⟩) (fun r=>absurd r (Nat.not_lt.2 e.o.d.1)) (.slice (some ⟨I,0,none⟩) g.length g.length));have a6:=al (bb.o.only f (fun C c r=>c.2.2.1 r));clear f K W Z o m q G E k j D;generalize ac.setCell ⟨l,1,none⟩ (.slice (some ⟨I,0,none⟩) g.length g.length)=W at Q O U Mc a6⊢;have K:=Q.o.2.1.1;have H:=al (Rp F b t u x s n p2 8 W Q.o.Zc (by decide));go_wp2_with fail;refine H.o.m ?_;rintro r am ⟨d,i⟩;clear H K;have a5:=al (Mc.o.x d (fun _ _ T=>T));have Zi:=d.heap O L.o.2;have Zj:=d.cell (p:=⟨h,0,none⟩) U L.o.1;have a0:=d.heap Q.o.d.1 Q.o.nb;have Zk:=al (a6.o.only d (fun C c r=>c.2.1 r));obtain⟨⟨o,m,q,G⟩,E,k,j,D⟩:=rC a0
    cases hg:sK mR 8 (t.drop p2)with
    |none=>rw[hg]at i;obtain rfl:=i;have M:=al (show gJ (t.drop p)=none by simp only[gJ,X.o,Ri.o,hg]);clear hg d O U Zj;go_upto_region 10 with fail;have J:=(Only.aR am l 2 (.slice none 0 0)).heap Zi e.o.q.1;have P:=al (a5.o.setCell (p:=⟨l,2,none⟩) (fun r=>absurd r (Nat.not_lt.2 e.o.d.1)) (.slice none 0 0));generalize am.setCell ⟨l,2,none⟩ (.slice none 0 0)=A at J P⊢;clear o m q G E k j D;obtain⟨⟨o,m,q,G⟩,E,k,j,D⟩:=rC J;go_wp2_with fail;refine dj (ax rfl _ _ _ _ _ _ _ rfl (AB J _ _ _ _) underlying96 rfl (by kernel_rfl)) rfl ⟨B0 P.o e.o.2.1 _ _ _ _,?_⟩;rw[M.o];exact rfl
    |some y=>
     obtain⟨H,rest⟩:=y;rw[hg]at i;obtain⟨K,p3,rfl,a',ad,rfl,Z⟩:=i;have ap:=al hg;have ba:=al (Q.o.again d Z);have N:w.heap.size<=K/\K≠b/\K≠l/\K≠B:=by have h1:=Mc.o.size;have h2:=Q.o.lt;have h3:=Q.o.blt;have h4:B<W.heap.size:=(cq.1 O).1;omega
     have WE:=al (bI.mono (G:=fun C=>w.heap.size<=C/\C≠b/\C≠l/\C≠B) ad (fun C c=>by subst c;exact N));clear hg d O U a' ad Z N;go_upto_region 10 with fail;have f:=Only.aR am l 2 (.slice (some ⟨K,0,none⟩) H.length H.length);have O:=al (show jS F b t u x s n l 96 p3 #[rm V,.slice (some ⟨I,0,none⟩) g.length g.length,.slice (some ⟨K,0,none⟩) H.length H.length,.slice none 0 0] _ from ba.o.JA 2 (.slice (some ⟨K,0,none⟩) H.length H.length));have W:=f.heap Zi e.o.q.1;have Z:=f.cell (p:=⟨h,0,none⟩) Zj e.o.t.1;have a':=al (a5.o.setCell (p:=⟨l,2,none⟩) (fun r=>absurd r (Nat.not_lt.2 e.o.d.1)) (.slice (some ⟨K,0,none⟩) H.length H.length));have Ry:=al (Zk.o.only f (fun C c r=>c.2.2.1 r));have a1:=al (WE.o.only f (fun C c r=>c.2.2.1 r));clear f Zi Zj a0 o m q G E k j D;generalize am.setCell ⟨l,2,none⟩ (.slice (some ⟨K,0,none⟩) H.length H.length)=a0 at O W Z a' Ry a1⊢;have a2:=O.o.2.1.1;have U:=al (U1 F b t u x s n h p3 64 a0 O.o.Zc (by decide) Z L.o.1);go_wp2_with fail;refine U.o.m ?_;rintro r ad ⟨d,i⟩;clear U a2;have a2:=al (a'.o.x d (fun _ _ T=>T));have Zl:=d.heap W L.o.2;have Zm:=d.cell (p:=⟨h,0,none⟩) Z L.o.1;have a7:=d.heap O.o.d.1 O.o.nb;have Rz:=al (Ry.o.only d (fun C c r=>c.2.1 r));have Zn:=al (a1.o.only d (fun C c r=>c.2.1 r));obtain⟨⟨o,m,q,G⟩,E,k,j,D⟩:=rC a7
     cases hg:sK jO 64 (t.drop p3)with
     |none=>rw[hg]at i;obtain rfl:=i;have M:=al (show gJ (t.drop p)=none by simp only[gJ,X.o,Ri.o,ap.o,hg]);clear hg d W Z Zm;go_upto_region 13 with fail;have J:=(Only.aR ad l 3 (.slice none 0 0)).heap Zl e.o.q.1;have P:=al (a2.o.setCell (p:=⟨l,3,none⟩) (fun r=>absurd r (Nat.not_lt.2 e.o.d.1)) (.slice none 0 0));generalize ad.setCell ⟨l,3,none⟩ (.slice none 0 0)=A at J P⊢;clear o m q G E k j D;obtain⟨⟨o,m,q,G⟩,E,k,j,D⟩:=rC J;go_wp2_with fail;refine dj (ax rfl _ _ _ _ _ _ _ rfl (AB J _ _ _ _) underlying96 rfl (by kernel_rfl)) rfl ⟨B0 P.o e.o.2.1 _ _ _ _,?_⟩;rw[M.o];exact rfl
     |some y=>
      obtain⟨A,rest⟩:=y;rw[hg]at i;obtain⟨y,U,rfl,bi,a9,rfl,a8⟩:=i;have a4:=al hg;have bh:=al (O.o.again d a8);have N:w.heap.size<=y/\y≠b/\y≠l/\y≠B:=by have h1:=a'.o.size;have h2:=O.o.lt;have h3:=O.o.blt;have h4:B<a0.heap.size:=(cq.1 W).1;omega
      have bc:=al (bI.mono (G:=fun C=>w.heap.size<=C/\C≠b/\C≠l/\C≠B) a9 (fun C c=>by subst c;exact N));clear hg d W Z bi a9 a8 N;go_upto_region 13 with fail;have f:=Only.aR ad l 3 (.slice (some ⟨y,0,none⟩) A.length A.length);have N:=al (show jS F b t u x s n l 96 U #[rm V,.slice (some ⟨I,0,none⟩) g.length g.length,.slice (some ⟨K,0,none⟩) H.length H.length,.slice (some ⟨y,0,none⟩) A.length A.length] _ from bh.o.JA 3 (.slice (some ⟨y,0,none⟩) A.length A.length));have Z:=f.heap Zl e.o.q.1;have Zo:=f.cell (p:=⟨h,0,none⟩) Zm e.o.t.1;have BX:=al (a2.o.setCell (p:=⟨l,3,none⟩) (fun r=>absurd r (Nat.not_lt.2 e.o.d.1)) (.slice (some ⟨y,0,none⟩) A.length A.length));have Gq:=al (Rz.o.only f (fun C c r=>c.2.2.1 r));have RA:=al (Zn.o.only f (fun C c r=>c.2.2.1 r));have a8:=al (bc.o.only f (fun C c r=>c.2.2.1 r));clear f Zl Zm a7 o m q G E k j D;generalize ad.setCell ⟨l,3,none⟩ (.slice (some ⟨y,0,none⟩) A.length A.length)=d at N Z Zo BX Gq RA a8⊢;have f:=al (U2 d F b t U N.o.1);go_wp2_with fail;refine f.o.m ?_;rintro r wl ⟨rfl,d⟩;clear f;have W:=d.heap Z id;have a7:=al (BX.o.x d (fun _ _ T=>False.elim T));have bi:=d.heap N.o.d.1 id;have bn:U<=t.length:=by obtain⟨⟨_,_,_,hp,_⟩,_⟩:=N.o;exact hp
      have Nu:=al (Gq.o.only d (fun C c r=>r));have U8:=al (RA.o.only d (fun C c r=>r));have a9:=al (a8.o.only d (fun C c r=>r));by_cases f:U=t.length
      ·have hz:((t.length:Int)-(U:Int))=0:=by omega
       rw[hz];have Ob:=al (show gJ (t.drop p)=some ⟨V,g,H,A⟩ by simp only[gJ,X.o,Ri.o,ap.o,a4.o];rw[ff (by rw[f];simp)]);clear hz f d Z Zo;obtain⟨⟨o,m,q,G⟩,E,k,j,D⟩:=rC W;obtain⟨⟨x0,x1,x2,x3⟩,_,_,_,_⟩:=rC bi;go_wp2_with fail;refine dj (ax rfl _ _ _ _ _ _ _ rfl (AB W _ _ _ _) underlying96 rfl (by kernel_rfl)) rfl ⟨B0 a7.o e.o.2.1 _ _ _ _,?_⟩;rw[Ob.o];have a0:=Rs wl B;refine⟨_,_,_,rfl,bI.m (Nu.o.only (a0 _ _ _ _) (fun C c r=>c.2.2.2 r)) (fun C c=>c.1),U4 (bI.m (U8.o.only (a0 _ _ _ _) (fun C c r=>c.2.2.2 r)) (fun C c=>c.1)),bI.m (a9.o.only (a0 _ _ _ _) (fun C c r=>c.2.2.2 r)) (fun C c=>c.1)⟩
      ·have hz:(((t.length:Int)-(U:Int)) !=0)=true:=by simp;omega
       have M:=al (show gJ (t.drop p)=none by simp only[gJ,X.o,Ri.o,ap.o,a4.o];rw[fb (fun r=>f (by have:=congrArg List.length r;simp at this;omega))]);clear f d Z Zo;obtain⟨⟨o,m,q,G⟩,E,k,j,D⟩:=rC W;go_wp2_with fail;refine dj (ax rfl _ _ _ _ _ _ _ rfl (AB W _ _ _ _) underlying96 rfl (by kernel_rfl)) rfl ⟨B0 a7.o e.o.2.1 _ _ _ _,?_⟩;rw[M.o];exact rfl
theorem p9{a r:List UInt8}{n:Int}(h:iO a=some (n,r)):0<=n/\n<=9223372036854775807:=by
 unfold iO at h
 cases hu:CE a with
 |none=>rw[hu]at h;simp at h
 |some x=>obtain⟨m,q⟩:=x;rw[hu]at h;simp at h;have:=(vL hu).2;omega
theorem RB(u:Nat)(h:u<18446744073709551616): -9223372036854775808<=O4 u/\O4 u<=9223372036854775807:=by unfold O4;split<;>omega
theorem sL{a r:List UInt8}{n:Int}(h:mR a=some (n,r)): -9223372036854775808<=n/\n<=9223372036854775807:=by
 unfold mR at h
 cases hu:uy 0 0 a with
 |none=>rw[hu]at h;simp at h
 |some x=>obtain⟨m,q⟩:=x;rw[hu]at h;simp at h;obtain⟨k,c,_,b,_⟩:=CD a 0 0 m q (by omega) hu;rw[<-h.1];exact RB m (by simp at c b;omega)
theorem jG{c:List UInt8->Option (Int×List UInt8)}{P:Int->Prop}(d: ∀a n r,c a=some (n,r)->P n): ∀{k:Nat} {a:List UInt8} {b:List Int} {r:List UInt8},dP c k a=some (b,r)-> ∀n∈b,P n
 |0,a,b,r,h=>by simp[dP]at h;simp[h.1]
 |k+1,a,b,r,h=>by
  rw[dP]at h
  cases hk:dP c k a with
  |none=>rw[hk]at h;simp at h
  |some x=>
   obtain⟨b,q⟩:=x;rw[hk]at h;simp only at h
   cases hq:c q with
   |none=>rw[hq]at h;simp at h
   |some y=>
    obtain⟨m,e⟩:=y;rw[hq]at h;simp at h;rw[<-h.1];intro n a;rcases dr.1 a with a|a
    ·exact jG d hk n a
    ·simp at a;rw[a];exact d _ _ _ hq
theorem yV{α:Type}{c:List UInt8->Option (α×List UInt8)}{P:α->Prop}(d: ∀a n r,c a=some (n,r)->P n): ∀{k:Nat} {a:List UInt8} {b:List α} {r:List UInt8},eY c k a=some (b,r)->(∀n∈b,P n)/\b.length=k
 |0,a,b,r,h=>by simp[eY]at h;simp[h.1]
 |k+1,a,b,r,h=>by
  rw[eY]at h
  cases hk:eY c k a with
  |none=>rw[hk]at h;simp at h
  |some x=>
   obtain⟨f,q⟩:=x;rw[hk]at h;simp only at h
   cases hq:c q with
   |none=>rw[hq]at h;simp at h
   |some y=>
    obtain⟨m,g⟩:=y;rw[hq]at h;simp at h;obtain⟨e,b⟩:=yV d hk;rw[<-h.1];refine⟨fun n a=>?_,by simp[b]⟩;rcases dr.1 a with a|a
    ·exact e n a
    ·simp at a;rw[a];exact d _ _ _ hq
theorem DF{α:Type}{c:List UInt8->Option (α×List UInt8)}{P:α->Prop}(d: ∀b n r,c b=some (n,r)->P n){M:Int}{b:List UInt8}{a:List α}{r:List UInt8}(h:sK c M b=some (a,r)):(∀n∈a,P n)/\(a.length:Int)<=M:=by
 unfold sK at h;split at h
 ·rename_i mk q e;split at h
  ·rename_i i;obtain⟨f,g⟩:=yV d h;have:=(jG (P:=fun n=>0<=n/\n<=9223372036854775807) (fun _ _ _ h=>p9 h) e) mk (by simp);exact⟨f,by omega⟩
  ·simp at h
 ·simp at h
theorem Nv(p:List UInt8)(o:aX)(r:List UInt8)(h:mF p=some (o,r)):o.fits:=by
 unfold mF at h;split at h
 ·rename_i w v t y m;split at h
  ·rename_i u s g;split at h
   ·rename_i n q i;simp at h;rw[<-h.1];have b:=jG (P:=fun n=>0<=n/\n<=9223372036854775807) (fun _ _ _ h=>p9 h) m;have l:=jG (P:=fun n=> -9223372036854775808<=n/\n<=9223372036854775807) (fun _ _ _ h=>sL h) g;have j:=jG (P:=fun n=>0<=n/\n<=9223372036854775807) (fun _ _ _ h=>p9 h) i;have f:=b w (by simp);have c:=b v (by simp);have e:=b t (by simp);have k:=l u (by simp);have d:=j n (by simp);have a: ∀{x:Int},0<=x-> -9223372036854775808<=x:=fun h=>by omega
    exact⟨⟨a f.1,f.2⟩,⟨a c.1,c.2⟩,⟨a e.1,e.2⟩,k,⟨a d.1,d.2⟩⟩
   ·simp at h
  ·simp at h
 ·simp at h
theorem Nw(k:List UInt8)(c:Cl)(r:List UInt8)(h:jO k=some (c,r)):c.fits:=by
 unfold jO at h;split at h
 ·rename_i mk s p;split at h
  ·split at h
   ·rename_i g q b;split at h
    ·rename_i l o e;split at h
     ·rename_i j i m d;simp at h;rw[<-h.1];have f:=jG (P:=fun n=> -9223372036854775808<=n/\n<=9223372036854775807) (fun _ _ _ h=>sL h) b;have a:=jG (P:=fun n=> -9223372036854775808<=n/\n<=9223372036854775807) (fun _ _ _ h=>sL h) d;exact⟨f g (by simp),a j (by simp),a i (by simp),dd (Tm e).2 (by simp[maxLen])⟩
     ·simp at h
    ·simp at h
   ·simp at h
  ·simp at h
 ·simp at h
theorem yX{l:List UInt8}{e:FE}(h:gJ l=some e):e.fits/\e.ops.length<=64/\e.args.length<=8/\e.cls.length<=64:=by
 unfold gJ at h;split at h
 ·rename_i f w g;split at h
  ·rename_i o v b;split at h
   ·rename_i m r d;split at h
    ·rename_i p q c;split at h
     ·simp at h;subst h;obtain⟨j,u⟩:=DF Nv b;obtain⟨k,t⟩:=DF (P:=fun n=> -9223372036854775808<=n/\n<=9223372036854775807) (fun _ _ _ h=>sL h) d;obtain⟨i,s⟩:=DF Nw c;have a:=(jG (P:=fun n=>0<=n/\n<=9223372036854775807) (fun _ _ _ h=>p9 h) g) f (by simp);exact⟨⟨⟨by have:=a.1;simp only;omega,a.2⟩,j,k,i⟩,by simp only;omega,by simp only;omega,by simp only;omega⟩
     ·simp at h
    ·simp at h
   ·simp at h
  ·simp at h
 ·simp at h
end Go.Proofs.YtehccbdajiiaaaaGreatDoor
