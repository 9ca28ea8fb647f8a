import Derived.Test.YtehccbdajiiaaaaGreatDoorP03
import Derived.RangeFuncNested
import Derived.RangeFuncBound
import Derived.RangeFuncCalls
import Derived.RangeFuncLeaves
import Derived.Shelf.Abstract
import Derived.Shelf.RegionOpen
import Derived.OwnWalkIn
import Derived.TacticsInMore
import Derived.LoopNIn
import Derived.LoopIn
namespace Go.Proofs.YtehccbdajiiaaaaGreatDoor
set_option maxRecDepth 100000
open Go.RowKit
def Grow(w:World)(U a:Nat->Prop):Prop:= ∀k,a k->U k\/w.heap.size<=k
theorem Grow.refl(w:World)(U:Nat->Prop):Grow w U U:=fun _ h=>.inl h
theorem Grow.trans{w w':World}{U V X:Nat->Prop}(h:Grow w U V)(k:Grow w' V X)(b:w.heap.size<=w'.heap.size):Grow w U X:=fun i a=>by
 rcases k i a with a|a
 ·exact h i a
 ·exact .inr (by omega)
abbrev Grow.x:=@Grow.trans
theorem Only.putObj(w:World)(r:Nat)(o:Obj):Only (fun k=>k=r) w (w.putObj r o):=
 ⟨rfl,rfl,rfl,by simp,fun _ _ a=>World.putObj_heap_other a⟩
theorem ru{n m:Nat}{P:Program}{l:Nat}{f:FuncId}{tmps:Array Value}{a b:Code}{w:World}{R:Ending->World->Prop}(h:RoundIn Fence.wide n P l f tmps a b w R):RoundIn Fence.wide m P l f tmps a b w R:=
 ⟨h.1,fun d c _=>h.2 d c (room_wide _)⟩
theorem oz{P:Program}{f:FuncId}{a:Func}{c:Code}{args:Array Value}{w:World}{R:Ending->World->Prop}(b:P.funcs[f]?=some a)(d:a.body=some c)
  (h:c.wp P (bodyPostM Fence.wide 10 P a R) {tmps:=args++Array.replicate (a.ntmps-args.size) undef,defers:=[]} w):Calls P f args w R:=
 callsIn_wide.1 (callsIn_of_wp_marks (F:=Fence.wide) (n:=10) b d trivial (wpIn_wide.2 h) rfl)
theorem kG{P:Program}{a:Func}{R:Ending->World->Prop}{tmps:Array Value}{D:Nat}{w:World}{v:Value}(c:w.heap[D]?=some (.deferred (some [])))
  (b:(results a tmps).run P (w.putObj D (.deferred none))=.ok v (w.putObj D (.deferred none))) (d:R (.returned v) (w.putObj D (.deferred none))):
  bodyPostM Fence.wide 10 P a R .ret {tmps:=tmps,defers:=[{target:=.collected D,args:= #[]}]} w:=
 ⟨by simp,.inl ⟨_,_,rfl,run_takeDeferred c,⟨_,b,d⟩⟩⟩
def BS{α:Type}(J:List α->(Nat->Prop)->World->Prop)(b:Code->List α->(Nat->Prop)->World->Prop)(xs:List α)(U:Nat->Prop)(W:World):Exit->Act->World->Prop
 | .normal,_,W'=> ∃a,J xs a W'/\Only U W W'/\Grow W U a
 | .ret,_,W'=> ∃a,b .ret xs a W'/\Only U W W'/\Grow W U a
 | .exit id,_,W'=> ∃a,b (.exit id) xs a W'/\Only U W W'/\Grow W U a
 | .goto t,_,W'=> ∃a,b (.goto t) xs a W'/\Only U W W'/\Grow W U a
 | .panic _,_,_=>False
 | .outgrown,_,_=>False
def ib{α:Type}(Bs:Nat->Prop)(J:List α->(Nat->Prop)->World->Prop):Prop:=
 (∀a U A,J a U A-> ∀k,U k->k<A.heap.size)/\
 (∀a U A B S,J a U A->Only S A B->(∀k,S k->Bs k/\ ¬U k)->J a U B)
def R4{α:Type}(P:Program)(g:Nat)(j:Array Value)(h:List α->α->Array Value->(Nat->Prop)->World->Prop)(i Tn:Nat->Prop)(S l:List α->Prop)(w:World):Prop:=
 ∀(n:Nat) (J f:List α->(Nat->Prop)->World->Prop) (W:World) (d:Nat->Prop),ib (fun k=>W.heap.size<=k\/Tn k) J->ib (fun k=>W.heap.size<=k\/Tn k) f->Only (fun _=>False) w W->(∀k,(i k\/Tn k)-> ¬d k)->J [] d W->
  (∀b x a U c,J b U c->h b x a U c->YieldAt Fence.wide 9 P n a c fun m a=>
   (m=.returned (.bool true)/\ ∃e,J (b++[x]) e a/\Only U c a/\Grow c U e)\/(m=.returned (.bool false)/\ ∃e,f (b++[x]) e a/\Only U c a/\Grow c U e))->
  CallsIn Fence.wide 9 P g (#[.func (.yield n) #[] #[]]++j) W fun m a=>(∃v,m=.returned v)/\
   ((∃c U,S c/\J c U a/\Only (fun k=>d k\/Tn k) W a/\Grow W d U)\/(∃b U,l b/\f b U a/\Only (fun k=>d k\/Tn k) W a/\Grow W d U))
theorem wm{α:Type}{P:Program}{g:Operand}{ps:Array Tmp}{assign body:Code}{Q:Exit->Act->World->Prop}{a:Act}{w:World}
  {gf:Nat} {lb:Array Value} (hg:a.eval g=.func (.func gf) #[] lb) (eg: ∀args w,(callFunc gf args).run P w=.ok (.enter gf args) w)
  {Pre:List α->α->Array Value->(Nat->Prop)->World->Prop} {Fp Tn:Nat->Prop} {S Sp:List α->Prop} (hseq:R4 P gf lb Pre Fp Tn S Sp w) (MU: ∀k,(Fp k\/Tn k)->k<w.heap.size)
  (hps: ∀pre x args U W,Pre pre x args U W->args.size=ps.size)
  (J:List α->(Nat->Prop)->World->Prop) (Jx:Code->List α->(Nat->Prop)->World->Prop) (hJ:ib (fun k=>w.heap.size<=k\/Tn k) J) (BU: ∀c,ib (fun k=>w.heap.size<=k\/Tn k) (Jx c)) (U0:Nat->Prop) (h0:J [] U0 w) (Jt: ∀k,(Fp k\/Tn k)-> ¬U0 k)
  (Ax:List α->α->Array Value->Act->(Nat->Prop)->World->Prop) (hAx: ∀pre x args a₁ U V A B,Ax pre x args a₁ V A->Only V A B->(∀k,U k->V k)->Ax pre x args a₁ U B)
  (fW: ∀(l:Nat) pre x args (U V:Nat->Prop) (W:World) (K:Act->World->Prop),J pre U W->(∀k,U k->V k)->(∀k,V k->k<W.heap.size)->Pre pre x args V W->(∀a₁ W₁,Ax pre x args a₁ V W₁->Only (fun _=>False) W W₁->K a₁ W₁)->
   assign.wpIn (Fence.wide.inRound l) 9 P (Exit.then K (fun _ _ _=>False)) {tmps:=(ps.zip args).foldl (fun t (p,v)=>t.setIfInBounds p v) a.tmps,defers:=[]} W)
  (hbody: ∀(l:Nat) pre x args a₁ U (W:World),J pre U W->Ax pre x args a₁ U W->body.wpIn (Fence.wide.inRound l) 9 P (BS J Jx (pre++[x]) U W) a₁ W)
  (hdone: ∀(D:Nat) xs U (W:World),w.heap.size<=D-> ¬U D->S xs->J xs U W->Only (fun k=>U0 k\/Tn k) w W->Grow w U0 U->W.heap[D]?=some (.deferred (some []))->Q .normal {a with defers:={target:=.collected D,args:= #[]}::a.defers} W)
  (oC: ∀(D:Nat) (c:Code) pre U (W:World),w.heap.size<=D-> ¬U D->Sp pre->Jx c pre U W->Only (fun k=>U0 k\/Tn k) w W->Grow w U0 U->W.heap[D]?=some (.deferred (some []))->c.wpIn Fence.wide 10 P Q {a with defers:={target:=.collected D,args:= #[]}::a.defers} W):
  (Code.rangeFunc g ps assign body).wpIn Fence.wide 10 P Q a w:=by
 refine wpIn_rangeFunc ?_;intro fn hfn;obtain⟨rc,hrc⟩: ∃rc:LoopState->Option Code->Loop,rc=fun st pe=>{state:=st,pending:=pe,fn,tmps:=a.tmps,params:=ps,assign,body,defers:=w.heap.size}:=⟨_,rfl⟩;obtain⟨W1,hW1⟩:=rl ((w.alloc (.deferred (some []))).alloc (.loop (rc .ready none)))
 have hL1:W1.heap[w.heap.size+1]?=some (.loop (rc .ready none)):=by rw[<-hW1];have:=World.alloc_heap_new (w.alloc (.deferred (some []))) (.loop (rc .ready none));rwa[World.size_alloc]at this
 have hK1:W1.heap[w.heap.size]?=some (.deferred (some [])):=by rw[<-hW1];exact(Below.heap_alloc _ _ _ (by simp)).x (World.alloc_heap_new w _)
 have p8:Only (fun _=>False) w W1:=by rw[<-hW1];exact((oT _ _).alloc _).alloc _
 have hsz1:W1.heap.size=w.heap.size+2:=by rw[<-hW1];simp
 have hI1:J [] U0 W1:=hJ.2 _ _ _ _ _ h0 p8 (fun _ h=>h.elim);have ZK:=hJ.1 _ _ _ h0
 refine⟨w.heap.size+1,[{target:=.collected w.heap.size,args:= #[]}],W1,{target:=.fn (.func gf) lb,args:= #[.func (.yield (w.heap.size+1)) #[] #[]]},W1,gf,
  #[.func (.yield (w.heap.size + 1)) #[] #[]] ++ lb, W1, ?_, ?_, ?_, ?_, ?_, ?_⟩
 ·rw[<-hW1,hrc];exact run_enterLoop_outer _ _ _ _ _
 ·simp only[resolve,hg];simp[go_sem]
 ·intro f' _;trivial
 ·simp[invoke,go_sem,eg]
 ·intro h;simp[Fence.wide]at h
 · --the iterator's contract at the caller's invariant,with the loop's two blocks beside it
  let bk:(Nat->Prop)->Nat->Prop:=fun U k=>U k\/k=w.heap.size\/k=w.heap.size+1
  refine(hseq (w.heap.size+1)
   (fun pre V W=> ∃U,V=bk U/\J pre U W/\ ¬U w.heap.size/\ ¬U (w.heap.size+1)/\W.heap[w.heap.size+1]?=some (.loop (rc .ready none))/\W.heap[w.heap.size]?=some (.deferred (some [])))
   (fun pre V W=> ∃U c,V=bk U/\Jx c pre U W/\ ¬U w.heap.size/\ ¬U (w.heap.size+1)/\W.heap[w.heap.size+1]?=some (.loop (rc .done (some c)))/\W.heap[w.heap.size]?=some (.deferred (some [])))
   W1 (bk U0) ⟨?_,?_⟩ ⟨?_,?_⟩ ?_ ?_ ?_ ?_).m ?_
  ·rintro pre V A ⟨U,rfl,hj,_,_,hl,hk⟩ k (hk'|rfl|rfl)
   ·exact hJ.1 _ _ _ hj k hk'
   ·exact(cq.1 hk).1
   ·exact(cq.1 hl).1
  ·rintro pre V A B S' ⟨U,rfl,hj,n1,n2,hl,hk⟩ ho hd;exact⟨U,rfl,hJ.2 _ _ _ _ _ hj ho (fun k hk'=>⟨(hd k hk').1.imp (fun h=>by omega) id,fun hu=>(hd k hk').2 (.inl hu)⟩),n1,n2,ho.heap hl (fun hh=>(hd _ hh).2 (.inr (.inr rfl))),ho.heap hk (fun hh=>(hd _ hh).2 (.inr (.inl rfl)))⟩
  ·rintro pre V A ⟨U,c,rfl,hj,_,_,hl,hk⟩ k (hk'|rfl|rfl)
   ·exact(BU c).1 _ _ _ hj k hk'
   ·exact(cq.1 hk).1
   ·exact(cq.1 hl).1
  ·rintro pre V A B S' ⟨U,c,rfl,hj,n1,n2,hl,hk⟩ ho hd;exact⟨U,c,rfl,(BU c).2 _ _ _ _ _ hj ho (fun k hk'=>⟨(hd k hk').1.imp (fun h=>by omega) id,fun hu=>(hd k hk').2 (.inl hu)⟩),n1,n2,ho.heap hl (fun hh=>(hd _ hh).2 (.inr (.inr rfl))),ho.heap hk (fun hh=>(hd _ hh).2 (.inr (.inl rfl)))⟩
  ·exact p8
  ·rintro k hk (h|rfl|rfl)
   ·exact Jt k hk h
   ·have:=MU _ hk;omega
   ·have:=MU _ hk;omega
  ·exact⟨U0,rfl,hI1,fun h=>by have:=ZK _ h;omega,fun h=>by have:=ZK _ h;omega,hL1,hK1⟩
  · --one round
   rintro pre x args V W ⟨U,rfl,hj,n1,n2,hl,hk⟩ hpre;have hlt:w.heap.size+1<W.heap.size:=(cq.1 hl).1;have hy:=run_yield (P:=P) (args:=args) hl (by rw[hrc];exact hps _ _ _ _ _ hpre);rw[hrc]at hy;refine⟨fn,_,assign,body,hy,roundIn_of_wpIn hfn ?_⟩;refine fW _ pre x args U (bk U) W _ hj (fun k hk'=>.inl hk') ?_ hpre ?_
   ·rintro k (hk'|rfl|rfl)
    ·exact hJ.1 _ _ _ hj k hk'
    ·exact(cq.1 hk).1
    ·exact hlt
   intro a₁ W₁ hax ho₁;have hl₁:W₁.heap[w.heap.size+1]?=some (.loop (rc .ready none)):=ho₁.heap hl (fun h=>h);have hk₁:W₁.heap[w.heap.size]?=some (.deferred (some [])):=ho₁.heap hk (fun h=>h);refine⟨_,run_beginRound hl₁ (by rw[hrc]),?_⟩;obtain⟨W₂,hW₂⟩:=rl (W₁.putObj (w.heap.size+1) (.loop {rc .ready none with state:=.busy}));rw[hW₂];have ho₂:Only (fun k=>k=w.heap.size+1) W₁ W₂:=by rw[<-hW₂];exact Only.putObj _ _ _
   have hlt₁:w.heap.size+1<W₁.heap.size:=(cq.1 hl₁).1;have hl₂:W₂.heap[w.heap.size+1]?=some (.loop {rc .ready none with state:=.busy}):=by rw[<-hW₂];exact World.putObj_heap_same hlt₁
   have hk₂:W₂.heap[w.heap.size]?=some (.deferred (some [])):=ho₂.heap hk₁ (by omega);have hsz₂:W.heap.size<=W₂.heap.size:=dp ho₁.size ho₂.size;have hj₂:J pre U W₂:=hJ.2 _ _ _ _ _ (hJ.2 _ _ _ _ _ hj ho₁ (fun _ h=>h.elim)) ho₂ (fun k e=>by subst e;exact⟨.inl (by omega),n2⟩);have hax₂:Ax pre x args a₁ U W₂:=hAx _ _ _ _ _ _ _ _ hax (ho₂.mono (fun k _ e=>.inr (.inr e))) (fun k hk'=>.inl hk');refine wpIn_mono (hbody _ pre x args a₁ U W₂ hj₂ hax₂) ?_
   have fin: ∀(jump:Option Code) (W₃:World) (U':Nat->Prop),Only U W₂ W₃->Grow W₂ U U'->
     (Instr.endRound (w.heap.size+1) jump).run P W₃=.ok (.bool jump.isNone) (W₃.putObj (w.heap.size+1) (.loop (rc (if jump.isNone then .ready else .done) jump)))/\
     (W₃.putObj (w.heap.size+1) (.loop (rc (if jump.isNone then .ready else .done) jump))).heap[w.heap.size+1]?=some (.loop (rc (if jump.isNone then .ready else .done) jump))/\
     (W₃.putObj (w.heap.size+1) (.loop (rc (if jump.isNone then .ready else .done) jump))).heap[w.heap.size]?=some (.deferred (some []))/\
     ¬U' w.heap.size/\ ¬U' (w.heap.size+1)/\Only (bk U) W (W₃.putObj (w.heap.size+1) (.loop (rc (if jump.isNone then .ready else .done) jump)))/\Grow W (bk U) (bk U'):=fun jump W₃ U' ho₃ hg₃=>by
    have hl₃:=ho₃.heap hl₂ n2;have hk₃:=ho₃.heap hk₂ n1;have hr:=run_endRound (P:=P) jump hl₃;rw[hrc]at hr⊢;refine⟨hr,World.putObj_heap_same (cq.1 hl₃).1,(World.putObj_heap_other (by omega)).x hk₃,?_,?_,?_,?_⟩
    ·intro h;rcases hg₃ _ h with h|h
     ·exact n1 h
     ·omega
    ·intro h;rcases hg₃ _ h with h|h
     ·exact n2 h
     ·omega
    ·refine Only.trans (T:=bk U) ?_ ((Only.putObj _ _ _).m (fun k _ e=>.inr (.inr e))) (fun _ _ h=>h);refine Only.trans (T:=bk U) ?_ (ho₃.mono (fun k _ e=>.inl e)) (fun _ _ h=>h);refine Only.trans (T:=bk U) ?_ (ho₂.mono (fun k _ e=>.inr (.inr e))) (fun _ _ h=>h);exact ho₁.mono (fun _ _ h=>h.elim)
    ·rintro k (h|h)
     ·rcases hg₃ k h with h|h
      ·exact .inl (.inl h)
      ·exact .inr (by omega)
     ·exact .inl (.inr h)
   rintro e a3 W₃ hp
   cases e with
   |normal=>obtain⟨U',hj₃,ho₃,hg₃⟩:=hp;obtain⟨hr,hl₄,hk₄,m1,m2,Gk,hgg⟩:=fin none W₃ U' ho₃ hg₃;exact⟨_,_,hr,.inl ⟨rfl,bk U',⟨U',rfl,hJ.2 _ _ _ _ _ hj₃ (Only.putObj _ _ _) (fun k e=>by subst e;exact⟨.inl (by omega),m2⟩),m1,m2,hl₄,hk₄⟩,Gk,hgg⟩⟩
   |ret=>obtain⟨U',hj₃,ho₃,hg₃⟩:=hp;obtain⟨hr,hl₄,hk₄,m1,m2,Gk,hgg⟩:=fin (some .ret) W₃ U' ho₃ hg₃;exact⟨_,_,hr,.inr ⟨rfl,bk U',⟨U',_,rfl,(BU _).2 _ _ _ _ _ hj₃ (Only.putObj _ _ _) (fun k e=>by subst e;exact⟨.inl (by omega),m2⟩),m1,m2,hl₄,hk₄⟩,Gk,hgg⟩⟩
   |exit id=>obtain⟨U',hj₃,ho₃,hg₃⟩:=hp;obtain⟨hr,hl₄,hk₄,m1,m2,Gk,hgg⟩:=fin (some (.exit id)) W₃ U' ho₃ hg₃;exact⟨_,_,hr,.inr ⟨rfl,bk U',⟨U',_,rfl,(BU _).2 _ _ _ _ _ hj₃ (Only.putObj _ _ _) (fun k e=>by subst e;exact⟨.inl (by omega),m2⟩),m1,m2,hl₄,hk₄⟩,Gk,hgg⟩⟩
   |goto t=>obtain⟨U',hj₃,ho₃,hg₃⟩:=hp;obtain⟨hr,hl₄,hk₄,m1,m2,Gk,hgg⟩:=fin (some (.goto t)) W₃ U' ho₃ hg₃;exact⟨_,_,hr,.inr ⟨rfl,bk U',⟨U',_,rfl,(BU _).2 _ _ _ _ _ hj₃ (Only.putObj _ _ _) (fun k e=>by subst e;exact⟨.inl (by omega),m2⟩),m1,m2,hl₄,hk₄⟩,Gk,hgg⟩⟩
   |panic ch=>exact hp.elim
   |outgrown=>exact hp.elim
  · --behind the iterator
   have ZL: ∀(W2 W3:World) (U:Nat->Prop) (st:LoopState) (pe:Option Code),Only (fun k=>bk U0 k\/Tn k) W1 W2->Grow W1 (bk U0) (bk U)-> ¬U w.heap.size-> ¬U (w.heap.size+1)->W3=W2.putObj (w.heap.size+1) (.loop (rc st pe))->
     Only (fun k=>U0 k\/Tn k) w W3/\Grow w U0 U:=fun W2 W3 U st pe ho hgr n1 n2 e=>by
    subst e;constructor
    ·refine Only.trans (T:=fun k=>k=w.heap.size+1) ?_ (Only.putObj _ _ _) (fun i hi e=>by omega);refine Only.trans (T:=fun k=>bk U0 k\/Tn k) (p8.m (fun _ _ h=>h.elim)) ho ?_;rintro i hi ((h|h|h)|h)
     ·exact .inl h
     ·omega
     ·omega
     ·exact .inr h
    ·intro k hk;rcases hgr k (.inl hk)with(h|h|h)|h
     ·exact .inl h
     ·exact .inr (by omega)
     ·exact .inr (by omega)
     ·exact .inr (by omega)
   rintro e W2 ⟨⟨v,rfl⟩,(⟨xs,V,hS,⟨U,rfl,hj,n1,n2,hl,hk⟩,ho,hgr⟩|⟨pre,V,hSp,⟨U,c,rfl,hj,n1,n2,hl,hk⟩,ho,hgr⟩)⟩
   ·obtain⟨f1,f2⟩:=ZL W2 _ U .exhausted none ho hgr n1 n2 rfl;refine⟨none,_,by have:=run_endLoop (P:=P) hl (by rw[hrc];simp);rw[hrc]at this;exact this,?_⟩;rw[hrc]at f1;exact hdone w.heap.size xs U _ (b8 _) n1 hS (hJ.2 _ _ _ _ _ hj (Only.putObj _ _ _) (fun k e=>by subst e;exact⟨.inl (by omega),n2⟩)) f1 f2 ((World.putObj_heap_other (by omega)).x hk)
   ·obtain⟨f1,f2⟩:=ZL W2 _ U .exhausted (some c) ho hgr n1 n2 rfl;refine⟨some c,_,by have:=run_endLoop (P:=P) hl (by rw[hrc];simp);rw[hrc]at this;exact this,?_⟩;rw[hrc]at f1;exact oC w.heap.size c pre U _ (b8 _) n1 hSp ((BU c).2 _ _ _ _ _ hj (Only.putObj _ _ _) (fun k e=>by subst e;exact⟨.inl (by omega),n2⟩)) f1 f2 ((World.putObj_heap_other (by omega)).x hk)
theorem DZ{α:Type}{P:Program}{g:Operand}{e:Tmp}(p:Array Value->Nat->Array Value)(y:Value->Obj){o A:Code}{Q:Exit->Act->World->Prop}{T:Array Value}{w:World}
  {l:Nat} {G:Array Value} (hg:(Act.mk T []).eval g=.func (.func l) #[] G) (Z: ∀a w,(callFunc l a).run P w=.ok (.enter l a) w)
  {h:α->Array Value->Prop} {q Tn:Nat->Prop} {S E:List α->Prop} (N:R4 P l G (fun _ x a _ _=>h x a) q Tn S E w) (X: ∀k,(q k\/Tn k)->k<w.heap.size) (F: ∀x a,h x a-> ∃v,a= #[v])
  (J:List α->(Nat->Prop)->World->Prop) (j:Code->List α->(Nat->Prop)->World->Prop) (hJ:ib (fun k=>w.heap.size<=k\/Tn k) J) (BU: ∀H,ib (fun k=>w.heap.size<=k\/Tn k) (j H)) (i:Nat->Prop) (R:J [] i w) (Jt: ∀k,(q k\/Tn k)-> ¬i k)
  (fW: ∀(z:Nat) (x:α) (v:Value) (W:World) (K:Act->World->Prop),h x #[v]->(∀(Y:Nat) (m:World),W.heap.size<=Y->m.heap[Y]?=some (y v)->Below W.heap.size W m->K {tmps:=p (T.setIfInBounds e v) Y,defers:=[]} m)->
   o.wpIn (Fence.wide.inRound z) 9 P (Exit.then K (fun _ _ _=>False)) {tmps:=T.setIfInBounds e v,defers:=[]} W)
  (M: ∀(z:Nat) b x v Y U (W:World),J b U W->h x #[v]->W.heap[Y]?=some (y v)-> ¬U Y->A.wpIn (Fence.wide.inRound z) 9 P (BS J j (b++[x]) U W) {tmps:=p (T.setIfInBounds e v) Y,defers:=[]} W)
  (L: ∀(D:Nat) n U (W:World),w.heap.size<=D-> ¬U D->S n->J n U W->Only (fun k=>i k\/Tn k) w W->W.heap[D]?=some (.deferred (some []))->Q .normal {tmps:=T,defers:=[{target:=.collected D,args:= #[]}]} W)
  (oC: ∀(D:Nat) (H:Code) b U (W:World),w.heap.size<=D-> ¬U D->E b->j H b U W->Only (fun k=>i k\/Tn k) w W->W.heap[D]?=some (.deferred (some []))->H.wp P Q {tmps:=T,defers:=[{target:=.collected D,args:= #[]}]} W):
  (Code.rangeFunc g #[e] o A).wp P Q {tmps:=T,defers:=[]} w:=by
 refine(wpIn_wide (n:=10)).1 (wm hg Z N X ?_ J j hJ BU i R Jt
  (fun b x a u U W=> ∃v Y,a= #[v]/\u={tmps:=p (T.setIfInBounds e v) Y,defers:=[]}/\h x #[v]/\W.heap[Y]?=some (y v)/\ ¬U Y) ?_ ?_ ?_ (fun D n U W f d c r k _ s=>L D n U W f d c r k s) ?_)
 ·intro b x a U W I;obtain⟨v,rfl⟩:=F x a I;rfl
 ·rintro b x a u U V t B ⟨v,Y,rfl,rfl,f,d,c⟩ n C;exact⟨v,Y,rfl,rfl,f,n.heap d c,fun I=>c (C Y I)⟩
 ·rintro z b x a U V W K B C O n hK;obtain⟨v,rfl⟩:=F x a n;show o.wpIn _ _ _ _ {tmps:=(#[e].zip #[v]).foldl (fun t (x:Tmp×Value)=>t.setIfInBounds x.1 x.2) T,defers:=[]} _;rw[show(#[e].zip #[v]).foldl (fun t (x:Tmp×Value)=>t.setIfInBounds x.1 x.2) T=T.setIfInBounds e v by simp];refine fW z x v W K n (fun Y m f d c=>?_);exact hK _ _ ⟨v,Y,rfl,rfl,n,d,fun I=>by have:=O Y I;omega⟩ (oS c _)
 ·rintro z b x a u U W B ⟨v,Y,rfl,rfl,f,d,c⟩;exact M z b x v Y U W B f d c
 ·intro D H b U W f d c r k _ s;exact wpIn_wide.2 (oC D H b U W f d c r k s)
def gQ{α:Type}(base:Nat)(J:List α->(Nat->Prop)->World->Prop):Prop:=
 (∀a U A,J a U A-> ∀k,U k->k<A.heap.size)/\
 (∀a U A B S,J a U A->Only S A B->(∀k,S k->base<=k/\ ¬U k)->J a U B)
theorem gQ.none{α:Type}(base:Nat):gQ (α:=α) base (fun _ _ _=>False):=⟨fun _ _ _ h=>h.elim,fun _ _ _ _ _ h=>h.elim⟩
def KP{α:Type}(P:Program)(g:Nat)(j:Array Value)(i:List α->α->Array Value->(Nat->Prop)->World->Prop)(h:Nat->Prop)(S l:List α->Prop)(w:World):Prop:=
 ∀(m:Nat) (J f:List α->(Nat->Prop)->World->Prop) (W:World) (d:Nat->Prop),gQ W.heap.size J->gQ W.heap.size f->(∀k o,h k->w.heap[k]?=some o->W.heap[k]?=some o)->(∀k,h k-> ¬d k)->J [] d W->
  (∀b x a U c,J b U c->i b x a U c->YieldAt Fence.wide 9 P m a c fun k a=>
   (k=.returned (.bool true)/\ ∃e,J (b++[x]) e a/\Only U c a/\Grow c U e)\/(k=.returned (.bool false)/\ ∃e,f (b++[x]) e a/\Only U c a/\Grow c U e))->
  CallsIn Fence.wide 9 P g (#[.func (.yield m) #[] #[]]++j) W fun k a=>(∃v,k=.returned v)/\
   ((∃c U,S c/\J c U a/\Only d W a/\Grow W d U)\/(∃b U,l b/\f b U a/\Only d W a/\Grow W d U))
theorem gQ.toT{α:Type}{base:Nat}{J:List α->(Nat->Prop)->World->Prop}(h:gQ base J):ib (fun k=>base<=k\/False) J:=
 ⟨h.1,fun _ _ _ _ _ b c a=>h.2 _ _ _ _ _ b c (fun k b=>⟨(a k b).1.elim id False.elim,(a k b).2⟩)⟩
theorem ib.uV{α:Type}{base:Nat}{J:List α->(Nat->Prop)->World->Prop}(h:ib (fun k=>base<=k\/False) J):gQ base J:=
 ⟨h.1,fun _ _ _ _ _ b c a=>h.2 _ _ _ _ _ b c (fun k b=>⟨.inl (a k b).1,(a k b).2⟩)⟩
theorem KP.toT{α:Type}{P:Program}{g:Nat}{j:Array Value}{h:List α->α->Array Value->(Nat->Prop)->World->Prop}{i:Nat->Prop}{S l:List α->Prop}{w:World}(v:KP P g j h i S l w):R4 P g j h i (fun _=>False) S l w:=by
 intro y J p W n r s q o m t;refine(v y J p W n r.uV s.uV (fun u b _ a=>q.heap a (fun v=>v)) (fun u a=>o u (.inl a)) m t).m ?_;rintro z x ⟨k,(⟨d,U,c,b,e,f⟩|⟨d,U,c,b,e,f⟩)⟩
 ·exact⟨k,.inl ⟨d,U,c,b,e.m (fun u _ a=>.inl a),f⟩⟩
 ·exact⟨k,.inr ⟨d,U,c,b,e.m (fun u _ a=>.inl a),f⟩⟩
theorem KQ{α:Type}{P:Program}{g:Operand}{ps:Array Tmp}{u v:Code}{R:Exit->Act->World->Prop}{a:Act}{w:World}
  {i:Nat} {z:Array Value} (N:a.eval g=.func (.func i) #[] z) (I: ∀c w,(callFunc i c).run P w=.ok (.enter i c) w)
  {j:List α->α->Array Value->(Nat->Prop)->World->Prop} {l:Nat->Prop} {S y:List α->Prop} (C:KP P i z j l S y w) (H: ∀k,l k->k<w.heap.size)
  (E: ∀b x c U W,j b x c U W->c.size=ps.size)
  (J:List α->(Nat->Prop)->World->Prop) (h:Code->List α->(Nat->Prop)->World->Prop) (M:gQ w.heap.size J) (O: ∀t,gQ w.heap.size (h t)) (e:Nat->Prop) (G:J [] e w) (Q: ∀k,l k-> ¬e k)
  (f:List α->α->Array Value->Act->(Nat->Prop)->World->Prop) (F: ∀b x c d U V A B,f b x c d V A->Only V A B->(∀k,U k->V k)->f b x c d U B)
  (L: ∀(n:Nat) b x c (U V:Nat->Prop) (W:World) (r:Act->World->Prop),J b U W->(∀k,U k->V k)->j b x c V W->(∀d m,f b x c d V m->Only (fun _=>False) W m->r d m)->
   u.wpIn (Fence.wide.inRound n) 9 P (Exit.then r (fun _ _ _=>False)) {tmps:=(ps.zip c).foldl (fun m (p,o)=>m.setIfInBounds p o) a.tmps,defers:=[]} W)
  (B: ∀(n:Nat) b x c d U (W:World),J b U W->f b x c d U W->v.wpIn (Fence.wide.inRound n) 9 P (BS J h (b++[x]) U W) d W)
  (A: ∀(D:Nat) d U (W:World),w.heap.size<=D-> ¬U D->S d->J d U W->Only e w W->Grow w e U->W.heap[D]?=some (.deferred (some []))->R .normal {a with defers:={target:=.collected D,args:= #[]}::a.defers} W)
  (K: ∀(D:Nat) (t:Code) b U (W:World),w.heap.size<=D-> ¬U D->y b->h t b U W->Only e w W->Grow w e U->W.heap[D]?=some (.deferred (some []))->t.wpIn Fence.wide 10 P R {a with defers:={target:=.collected D,args:= #[]}::a.defers} W):
  (Code.rangeFunc g ps u v).wpIn Fence.wide 10 P R a w:=by
 refine wm (Tn:=fun _=>False) N I C.toT (fun k m=>m.elim (H k) False.elim) E J h M.toT (fun t=>(O t).toT) e G (fun k m=>m.elim (Q k) False.elim) f F
  (fun n b x c U V W r m o _ q p=>L n b x c U V W r m o q p) B
  (fun D d U W r p s n m q o=>A D d U W r p s n (m.m (fun k _ c=>c.elim id False.elim)) q o)
  (fun D t b U W r p s n m q o=>K D t b U W r p s n (m.m (fun k _ c=>c.elim id False.elim)) q o)
theorem wu{α:Type}{P:Program}{g:Operand}{f e:Tmp}(o:Array Value->Value->Value->Array Value){n s:Code}{Z:Exit->Act->World->Prop}{T:Array Value}{m:List Deferred}{w:World}
  {l:Nat} {y:Array Value} (O:(Act.mk T m).eval g=.func (.func l) #[] y) (G: ∀d w,(callFunc l d).run P w=.ok (.enter l d) w)
  {i:List α->α->Value->Value->(Nat->Prop)->World->Prop} {p:Nat->Prop} {S v:List α->Prop}
  (C:KP P l y (fun c x d U W=> ∃b a,d= #[b,a]/\i c x b a U W) p S v w) (F: ∀j,p j->j<w.heap.size)
  (I: ∀c x b a U V M K,i c x b a V M->Only V M K->(∀j,U j->V j)->i c x b a U K)
  (J:List α->(Nat->Prop)->World->Prop) (k:Code->List α->(Nat->Prop)->World->Prop) (N:gQ w.heap.size J) (Q: ∀z,gQ w.heap.size (k z)) (h:Nat->Prop) (E:J [] h w) (R: ∀j,p j-> ¬h j)
  (L: ∀(r:Nat) (b a:Value) (W:World) (X:Act->World->Prop),X {tmps:=o ((T.setIfInBounds f b).setIfInBounds e a) b a,defers:=[]} W->
   n.wpIn (Fence.wide.inRound r) 9 P (Exit.then X (fun _ _ _=>False)) {tmps:=(T.setIfInBounds f b).setIfInBounds e a,defers:=[]} W)
  (B: ∀(r:Nat) c x b a U (W:World),J c U W->i c x b a U W->s.wpIn (Fence.wide.inRound r) 9 P (BS J k (c++[x]) U W) {tmps:=o ((T.setIfInBounds f b).setIfInBounds e a) b a,defers:=[]} W)
  (A: ∀(D:Nat) j U (W:World),w.heap.size<=D-> ¬U D->S j->J j U W->Only h w W->Grow w h U->W.heap[D]?=some (.deferred (some []))->Z .normal {tmps:=T,defers:={target:=.collected D,args:= #[]}::m} W)
  (H: ∀(D:Nat) (z:Code) c U (W:World),w.heap.size<=D-> ¬U D->v c->k z c U W->Only h w W->Grow w h U->W.heap[D]?=some (.deferred (some []))->z.wp P Z {tmps:=T,defers:={target:=.collected D,args:= #[]}::m} W):
  (Code.rangeFunc g #[f,e] n s).wp P Z {tmps:=T,defers:=m} w:=by
 refine(wpIn_wide (n:=10)).1 (KQ O G C F ?_ J k N Q h E R
  (fun c x d q U W=> ∃b a,d= #[b,a]/\q={tmps:=o ((T.setIfInBounds f b).setIfInBounds e a) b a,defers:=[]}/\i c x b a U W) ?_ ?_ ?_ A ?_)
 ·rintro c x d U W ⟨b,a,rfl,_⟩;rfl
 ·rintro c x d q U V M K ⟨b,a,rfl,rfl,j⟩ t u;exact⟨b,a,rfl,rfl,I _ _ _ _ _ _ _ _ j t u⟩
 ·rintro r c x d U V W X t u ⟨b,a,rfl,j⟩ K;have M:(#[f,e].zip #[b,a]).foldl (fun Y (x:Tmp×Value)=>Y.setIfInBounds x.1 x.2) T=(T.setIfInBounds f b).setIfInBounds e a:=by simp
  show n.wpIn _ _ _ _ {tmps:=(#[f,e].zip #[b,a]).foldl (fun Y (x:Tmp×Value)=>Y.setIfInBounds x.1 x.2) T,defers:=[]} _;rw[M];exact L r b a W X (K _ _ ⟨b,a,rfl,rfl,j⟩ (oT _ _))
 ·rintro r c x d q U W t ⟨b,a,rfl,rfl,j⟩;exact B r c x b a U W t j
 ·intro D z c U W r j t b a q d;exact wpIn_wide.2 (H D z c U W r j t b a q d)
end Go.Proofs.YtehccbdajiiaaaaGreatDoor
