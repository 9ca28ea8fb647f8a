import Derived.Test.YtehccbdajiiaaaaGreatDoorS03
import Derived.RangeFuncNested
import Derived.RangeFuncBound
import Derived.RangeFuncCalls
import Derived.RangeFuncLeaves
import Derived.Shelf.Abstract
import Derived.Shelf.RegionOpen
import Derived.OwnWalkIn
import Derived.TacticsInMore
import Derived.LoopNIn
import Derived.LoopIn
namespace Go.Proofs.YtehccbdajiiaaaaGreatDoor
set_option maxRecDepth 100000
open Go.RowKit
def Grow(w:World)(U U':Nat->Prop):Prop:= ∀k,U' k->U k\/w.heap.size<=k
theorem Grow.refl(w:World)(U:Nat->Prop):Grow w U U:=fun _ h=>.inl h
theorem Grow.trans{w w':World}{U V X:Nat->Prop}(h:Grow w U V)(k:Grow w' V X)(a:w.heap.size<=w'.heap.size):Grow w U X:=fun i a=>by
 rcases k i a with a|a
 ·exact h i a
 ·exact .inr (by omega)
abbrev Grow.x:=@Grow.trans
theorem Only.putObj(w:World)(r:Nat)(o:Obj):Only (fun k=>k=r) w (w.putObj r o):=
 ⟨rfl,rfl,rfl,by simp,fun _ _ a=>World.putObj_heap_other a⟩
theorem nX{n m:Nat}{P:Program}{l:Nat}{f:FuncId}{tmps:Array Value}{a b:Code}{w:World}{R:Ending->World->Prop}(h:RoundIn Fence.wide n P l f tmps a b w R):RoundIn Fence.wide m P l f tmps a b w R:=
 ⟨h.1,fun c a _=>h.2 c a (room_wide _)⟩
theorem fX{P:Program}{f:FuncId}{a:Func}{c:Code}{args:Array Value}{w:World}{R:Ending->World->Prop}(b:P.funcs[f]?=some a)(d:a.body=some c)
  (h:c.wp P (bodyPostM Fence.wide 10 P a R) {tmps:=args++Array.replicate (a.ntmps-args.size) undef,defers:=[]} w):Calls P f args w R:=
 callsIn_wide.1 (callsIn_of_wp_marks (F:=Fence.wide) (n:=10) b d trivial (wpIn_wide.2 h) rfl)
theorem jk{P:Program}{a:Func}{R:Ending->World->Prop}{tmps:Array Value}{D:Nat}{w:World}{v:Value}(c:w.heap[D]?=some (.deferred (some [])))
  (b:(results a tmps).run P (w.putObj D (.deferred none))=.ok v (w.putObj D (.deferred none))) (d:R (.returned v) (w.putObj D (.deferred none))):
  bodyPostM Fence.wide 10 P a R .ret {tmps:=tmps,defers:=[{target:=.collected D,args:= #[]}]} w:=
 ⟨by simp,.inl ⟨_,_,rfl,run_takeDeferred c,⟨_,b,d⟩⟩⟩
def nY{α:Type}(J:List α->(Nat->Prop)->World->Prop)(a:Code->List α->(Nat->Prop)->World->Prop)(xs:List α)(U:Nat->Prop)(W:World):Exit->Act->World->Prop
 | .normal,_,W'=> ∃U',J xs U' W'/\Only U W W'/\Grow W U U'
 | .ret,_,W'=> ∃U',a .ret xs U' W'/\Only U W W'/\Grow W U U'
 | .exit id,_,W'=> ∃U',a (.exit id) xs U' W'/\Only U W W'/\Grow W U U'
 | .goto t,_,W'=> ∃U',a (.goto t) xs U' W'/\Only U W W'/\Grow W U U'
 | .panic _,_,_=>False
 | .outgrown,_,_=>False
def iJ{α:Type}(Bs:Nat->Prop)(J:List α->(Nat->Prop)->World->Prop):Prop:=
 (∀a U A,J a U A-> ∀k,U k->k<A.heap.size)/\
 (∀a U A B S,J a U A->Only S A B->(∀k,S k->Bs k/\ ¬U k)->J a U B)
def Uz{α:Type}(P:Program)(g:Nat)(f:Array Value)(Pre:List α->α->Array Value->(Nat->Prop)->World->Prop)(a Tn:Nat->Prop)(S h:List α->Prop)(w:World):Prop:=
 ∀(l:Nat) (J d:List α->(Nat->Prop)->World->Prop) (W:World) (c:Nat->Prop),iJ (fun k=>W.heap.size<=k\/Tn k) J->iJ (fun k=>W.heap.size<=k\/Tn k) d->Only (fun _=>False) w W->(∀k,(a k\/Tn k)-> ¬c k)->J [] c W->
  (∀a x e U b,J a U b->Pre a x e U b->YieldAt Fence.wide 9 P l e b fun e W'=>
   (e=.returned (.bool true)/\ ∃U',J (a++[x]) U' W'/\Only U b W'/\Grow b U U')\/(e=.returned (.bool false)/\ ∃U',d (a++[x]) U' W'/\Only U b W'/\Grow b U U'))->
  CallsIn Fence.wide 9 P g (#[.func (.yield l) #[] #[]]++f) W fun e W'=>(∃v,e=.returned v)/\
   ((∃b U,S b/\J b U W'/\Only (fun k=>c k\/Tn k) W W'/\Grow W c U)\/(∃a U,h a/\d a U W'/\Only (fun k=>c k\/Tn k) W W'/\Grow W c U))
theorem ry{α:Type}{P:Program}{g:Operand}{ps:Array Tmp}{assign body:Code}{Q:Exit->Act->World->Prop}{a:Act}{w:World}
  {gf:Nat} {lb:Array Value} (hg:a.eval g=.func (.func gf) #[] lb) (eg: ∀args w,(callFunc gf args).run P w=.ok (.enter gf args) w)
  {Pre:List α->α->Array Value->(Nat->Prop)->World->Prop} {Fp Tn:Nat->Prop} {S Sp:List α->Prop} (hseq:Uz P gf lb Pre Fp Tn S Sp w) (Ai: ∀k,(Fp k\/Tn k)->k<w.heap.size)
  (hps: ∀pre x args U W,Pre pre x args U W->args.size=ps.size)
  (J:List α->(Nat->Prop)->World->Prop) (Jx:Code->List α->(Nat->Prop)->World->Prop) (hJ:iJ (fun k=>w.heap.size<=k\/Tn k) J) (qH: ∀c,iJ (fun k=>w.heap.size<=k\/Tn k) (Jx c)) (U0:Nat->Prop) (h0:J [] U0 w) (wC: ∀k,(Fp k\/Tn k)-> ¬U0 k)
  (Ax:List α->α->Array Value->Act->(Nat->Prop)->World->Prop) (hAx: ∀pre x args a₁ U V A B,Ax pre x args a₁ V A->Only V A B->(∀k,U k->V k)->Ax pre x args a₁ U B)
  (cF: ∀(l:Nat) pre x args (U V:Nat->Prop) (W:World) (K:Act->World->Prop),J pre U W->(∀k,U k->V k)->(∀k,V k->k<W.heap.size)->Pre pre x args V W->(∀a₁ W₁,Ax pre x args a₁ V W₁->Only (fun _=>False) W W₁->K a₁ W₁)->
   assign.wpIn (Fence.wide.inRound l) 9 P (Exit.then K (fun _ _ _=>False)) {tmps:=(ps.zip args).foldl (fun t (p,v)=>t.setIfInBounds p v) a.tmps,defers:=[]} W)
  (hbody: ∀(l:Nat) pre x args a₁ U (W:World),J pre U W->Ax pre x args a₁ U W->body.wpIn (Fence.wide.inRound l) 9 P (nY J Jx (pre++[x]) U W) a₁ W)
  (hdone: ∀(D:Nat) xs U (W:World),w.heap.size<=D-> ¬U D->S xs->J xs U W->Only (fun k=>U0 k\/Tn k) w W->Grow w U0 U->W.heap[D]?=some (.deferred (some []))->Q .normal {a with defers:={target:=.collected D,args:= #[]}::a.defers} W)
  (lN: ∀(D:Nat) (c:Code) pre U (W:World),w.heap.size<=D-> ¬U D->Sp pre->Jx c pre U W->Only (fun k=>U0 k\/Tn k) w W->Grow w U0 U->W.heap[D]?=some (.deferred (some []))->c.wpIn Fence.wide 10 P Q {a with defers:={target:=.collected D,args:= #[]}::a.defers} W):
  (Code.rangeFunc g ps assign body).wpIn Fence.wide 10 P Q a w:=by
 refine wpIn_rangeFunc ?_;intro fn hfn;obtain⟨rc,hrc⟩: ∃rc:LoopState->Option Code->Loop,rc=fun st pe=>{state:=st,pending:=pe,fn,tmps:=a.tmps,params:=ps,assign,body,defers:=w.heap.size}:=⟨_,rfl⟩;obtain⟨W1,hW1⟩:=rk ((w.alloc (.deferred (some []))).alloc (.loop (rc .ready none)))
 have Yp:W1.heap[w.heap.size+1]?=some (.loop (rc .ready none)):=by rw[<-hW1];have:=World.alloc_heap_new (w.alloc (.deferred (some []))) (.loop (rc .ready none));rwa[World.size_alloc]at this
 have hK1:W1.heap[w.heap.size]?=some (.deferred (some [])):=by rw[<-hW1];exact(Below.heap_alloc _ _ _ (by simp)).x (World.alloc_heap_new w _)
 have qw:Only (fun _=>False) w W1:=by rw[<-hW1];exact((oE _ _).alloc _).alloc _
 have hsz1:W1.heap.size=w.heap.size+2:=by rw[<-hW1];simp
 have hI1:J [] U0 W1:=hJ.2 _ _ _ _ _ h0 qw (fun _ h=>h.elim);have abt:=hJ.1 _ _ _ h0
 refine⟨w.heap.size+1,[{target:=.collected w.heap.size,args:= #[]}],W1,{target:=.fn (.func gf) lb,args:= #[.func (.yield (w.heap.size+1)) #[] #[]]},W1,gf,
  #[.func (.yield (w.heap.size + 1)) #[] #[]] ++ lb, W1, ?_, ?_, ?_, ?_, ?_, ?_⟩
 ·rw[<-hW1,hrc];exact run_enterLoop_outer _ _ _ _ _
 ·simp only[resolve,hg];simp[go_sem]
 ·intro f' _;trivial
 ·simp[invoke,go_sem,eg]
 ·intro h;simp[Fence.wide]at h
 · --the iterator's contract at the caller's invariant,with the loop's two blocks beside it
  let bk:(Nat->Prop)->Nat->Prop:=fun U k=>U k\/k=w.heap.size\/k=w.heap.size+1
  refine(hseq (w.heap.size+1)
   (fun pre V W=> ∃U,V=bk U/\J pre U W/\ ¬U w.heap.size/\ ¬U (w.heap.size+1)/\W.heap[w.heap.size+1]?=some (.loop (rc .ready none))/\W.heap[w.heap.size]?=some (.deferred (some [])))
   (fun pre V W=> ∃U c,V=bk U/\Jx c pre U W/\ ¬U w.heap.size/\ ¬U (w.heap.size+1)/\W.heap[w.heap.size+1]?=some (.loop (rc .done (some c)))/\W.heap[w.heap.size]?=some (.deferred (some [])))
   W1 (bk U0) ⟨?_,?_⟩ ⟨?_,?_⟩ ?_ ?_ ?_ ?_).m ?_
  ·rintro pre V A ⟨U,rfl,hj,_,_,hl,hk⟩ k (hk'|rfl|rfl)
   ·exact hJ.1 _ _ _ hj k hk'
   ·exact(cq.1 hk).1
   ·exact(cq.1 hl).1
  ·rintro pre V A B S' ⟨U,rfl,hj,n1,n2,hl,hk⟩ ho hd;exact⟨U,rfl,hJ.2 _ _ _ _ _ hj ho (fun k hk'=>⟨(hd k hk').1.imp (fun h=>by omega) id,fun hu=>(hd k hk').2 (.inl hu)⟩),n1,n2,ho.heap hl (fun hh=>(hd _ hh).2 (.inr (.inr rfl))),ho.heap hk (fun hh=>(hd _ hh).2 (.inr (.inl rfl)))⟩
  ·rintro pre V A ⟨U,c,rfl,hj,_,_,hl,hk⟩ k (hk'|rfl|rfl)
   ·exact(qH c).1 _ _ _ hj k hk'
   ·exact(cq.1 hk).1
   ·exact(cq.1 hl).1
  ·rintro pre V A B S' ⟨U,c,rfl,hj,n1,n2,hl,hk⟩ ho hd;exact⟨U,c,rfl,(qH c).2 _ _ _ _ _ hj ho (fun k hk'=>⟨(hd k hk').1.imp (fun h=>by omega) id,fun hu=>(hd k hk').2 (.inl hu)⟩),n1,n2,ho.heap hl (fun hh=>(hd _ hh).2 (.inr (.inr rfl))),ho.heap hk (fun hh=>(hd _ hh).2 (.inr (.inl rfl)))⟩
  ·exact qw
  ·rintro k hk (h|rfl|rfl)
   ·exact wC k hk h
   ·have:=Ai _ hk;omega
   ·have:=Ai _ hk;omega
  ·exact⟨U0,rfl,hI1,fun h=>by have:=abt _ h;omega,fun h=>by have:=abt _ h;omega,Yp,hK1⟩
  · --one round
   rintro pre x args V W ⟨U,rfl,hj,n1,n2,hl,hk⟩ hpre;have hlt:w.heap.size+1<W.heap.size:=(cq.1 hl).1;have hy:=run_yield (P:=P) (args:=args) hl (by rw[hrc];exact hps _ _ _ _ _ hpre);rw[hrc]at hy;refine⟨fn,_,assign,body,hy,roundIn_of_wpIn hfn ?_⟩;refine cF _ pre x args U (bk U) W _ hj (fun k hk'=>.inl hk') ?_ hpre ?_
   ·rintro k (hk'|rfl|rfl)
    ·exact hJ.1 _ _ _ hj k hk'
    ·exact(cq.1 hk).1
    ·exact hlt
   intro a₁ W₁ hax ho₁;have hl₁:W₁.heap[w.heap.size+1]?=some (.loop (rc .ready none)):=ho₁.heap hl (fun h=>h);have hk₁:W₁.heap[w.heap.size]?=some (.deferred (some [])):=ho₁.heap hk (fun h=>h);refine⟨_,run_beginRound hl₁ (by rw[hrc]),?_⟩;obtain⟨W₂,hW₂⟩:=rk (W₁.putObj (w.heap.size+1) (.loop {rc .ready none with state:=.busy}));rw[hW₂];have ho₂:Only (fun k=>k=w.heap.size+1) W₁ W₂:=by rw[<-hW₂];exact Only.putObj _ _ _
   have hlt₁:w.heap.size+1<W₁.heap.size:=(cq.1 hl₁).1;have hl₂:W₂.heap[w.heap.size+1]?=some (.loop {rc .ready none with state:=.busy}):=by rw[<-hW₂];exact World.putObj_heap_same hlt₁
   have hk₂:W₂.heap[w.heap.size]?=some (.deferred (some [])):=ho₂.heap hk₁ (by omega);have hsz₂:W.heap.size<=W₂.heap.size:=dd ho₁.size ho₂.size;have hj₂:J pre U W₂:=hJ.2 _ _ _ _ _ (hJ.2 _ _ _ _ _ hj ho₁ (fun _ h=>h.elim)) ho₂ (fun k e=>by subst e;exact⟨.inl (by omega),n2⟩);have hax₂:Ax pre x args a₁ U W₂:=hAx _ _ _ _ _ _ _ _ hax (ho₂.mono (fun k _ e=>.inr (.inr e))) (fun k hk'=>.inl hk');refine wpIn_mono (hbody _ pre x args a₁ U W₂ hj₂ hax₂) ?_
   have fin: ∀(jump:Option Code) (W₃:World) (U':Nat->Prop),Only U W₂ W₃->Grow W₂ U U'->
     (Instr.endRound (w.heap.size+1) jump).run P W₃=.ok (.bool jump.isNone) (W₃.putObj (w.heap.size+1) (.loop (rc (if jump.isNone then .ready else .done) jump)))/\
     (W₃.putObj (w.heap.size+1) (.loop (rc (if jump.isNone then .ready else .done) jump))).heap[w.heap.size+1]?=some (.loop (rc (if jump.isNone then .ready else .done) jump))/\
     (W₃.putObj (w.heap.size+1) (.loop (rc (if jump.isNone then .ready else .done) jump))).heap[w.heap.size]?=some (.deferred (some []))/\
     ¬U' w.heap.size/\ ¬U' (w.heap.size+1)/\Only (bk U) W (W₃.putObj (w.heap.size+1) (.loop (rc (if jump.isNone then .ready else .done) jump)))/\Grow W (bk U) (bk U'):=fun jump W₃ U' ho₃ hg₃=>by
    have hl₃:=ho₃.heap hl₂ n2;have hk₃:=ho₃.heap hk₂ n1;have hr:=run_endRound (P:=P) jump hl₃;rw[hrc]at hr⊢;refine⟨hr,World.putObj_heap_same (cq.1 hl₃).1,(World.putObj_heap_other (by omega)).x hk₃,?_,?_,?_,?_⟩
    ·intro h;rcases hg₃ _ h with h|h
     ·exact n1 h
     ·omega
    ·intro h;rcases hg₃ _ h with h|h
     ·exact n2 h
     ·omega
    ·refine Only.trans (T:=bk U) ?_ ((Only.putObj _ _ _).m (fun k _ e=>.inr (.inr e))) (fun _ _ h=>h);refine Only.trans (T:=bk U) ?_ (ho₃.mono (fun k _ e=>.inl e)) (fun _ _ h=>h);refine Only.trans (T:=bk U) ?_ (ho₂.mono (fun k _ e=>.inr (.inr e))) (fun _ _ h=>h);exact ho₁.mono (fun _ _ h=>h.elim)
    ·rintro k (h|h)
     ·rcases hg₃ k h with h|h
      ·exact .inl (.inl h)
      ·exact .inr (by omega)
     ·exact .inl (.inr h)
   rintro e a3 W₃ hp
   cases e with
   |normal=>obtain⟨U',hj₃,ho₃,hg₃⟩:=hp;obtain⟨hr,hl₄,hk₄,m1,m2,Hz,hgg⟩:=fin none W₃ U' ho₃ hg₃;exact⟨_,_,hr,.inl ⟨rfl,bk U',⟨U',rfl,hJ.2 _ _ _ _ _ hj₃ (Only.putObj _ _ _) (fun k e=>by subst e;exact⟨.inl (by omega),m2⟩),m1,m2,hl₄,hk₄⟩,Hz,hgg⟩⟩
   |ret=>obtain⟨U',hj₃,ho₃,hg₃⟩:=hp;obtain⟨hr,hl₄,hk₄,m1,m2,Hz,hgg⟩:=fin (some .ret) W₃ U' ho₃ hg₃;exact⟨_,_,hr,.inr ⟨rfl,bk U',⟨U',_,rfl,(qH _).2 _ _ _ _ _ hj₃ (Only.putObj _ _ _) (fun k e=>by subst e;exact⟨.inl (by omega),m2⟩),m1,m2,hl₄,hk₄⟩,Hz,hgg⟩⟩
   |exit id=>obtain⟨U',hj₃,ho₃,hg₃⟩:=hp;obtain⟨hr,hl₄,hk₄,m1,m2,Hz,hgg⟩:=fin (some (.exit id)) W₃ U' ho₃ hg₃;exact⟨_,_,hr,.inr ⟨rfl,bk U',⟨U',_,rfl,(qH _).2 _ _ _ _ _ hj₃ (Only.putObj _ _ _) (fun k e=>by subst e;exact⟨.inl (by omega),m2⟩),m1,m2,hl₄,hk₄⟩,Hz,hgg⟩⟩
   |goto t=>obtain⟨U',hj₃,ho₃,hg₃⟩:=hp;obtain⟨hr,hl₄,hk₄,m1,m2,Hz,hgg⟩:=fin (some (.goto t)) W₃ U' ho₃ hg₃;exact⟨_,_,hr,.inr ⟨rfl,bk U',⟨U',_,rfl,(qH _).2 _ _ _ _ _ hj₃ (Only.putObj _ _ _) (fun k e=>by subst e;exact⟨.inl (by omega),m2⟩),m1,m2,hl₄,hk₄⟩,Hz,hgg⟩⟩
   |panic ch=>exact hp.elim
   |outgrown=>exact hp.elim
  · --behind the iterator
   have abu: ∀(W2 W3:World) (U:Nat->Prop) (st:LoopState) (pe:Option Code),Only (fun k=>bk U0 k\/Tn k) W1 W2->Grow W1 (bk U0) (bk U)-> ¬U w.heap.size-> ¬U (w.heap.size+1)->W3=W2.putObj (w.heap.size+1) (.loop (rc st pe))->
     Only (fun k=>U0 k\/Tn k) w W3/\Grow w U0 U:=fun W2 W3 U st pe ho hgr n1 n2 e=>by
    subst e;constructor
    ·refine Only.trans (T:=fun k=>k=w.heap.size+1) ?_ (Only.putObj _ _ _) (fun i hi e=>by omega);refine Only.trans (T:=fun k=>bk U0 k\/Tn k) (qw.m (fun _ _ h=>h.elim)) ho ?_;rintro i hi ((h|h|h)|h)
     ·exact .inl h
     ·omega
     ·omega
     ·exact .inr h
    ·intro k hk;rcases hgr k (.inl hk)with(h|h|h)|h
     ·exact .inl h
     ·exact .inr (by omega)
     ·exact .inr (by omega)
     ·exact .inr (by omega)
   rintro e W2 ⟨⟨v,rfl⟩,(⟨xs,V,hS,⟨U,rfl,hj,n1,n2,hl,hk⟩,ho,hgr⟩|⟨pre,V,hSp,⟨U,c,rfl,hj,n1,n2,hl,hk⟩,ho,hgr⟩)⟩
   ·obtain⟨f1,f2⟩:=abu W2 _ U .exhausted none ho hgr n1 n2 rfl;refine⟨none,_,by have:=run_endLoop (P:=P) hl (by rw[hrc];simp);rw[hrc]at this;exact this,?_⟩;rw[hrc]at f1;exact hdone w.heap.size xs U _ (b8 _) n1 hS (hJ.2 _ _ _ _ _ hj (Only.putObj _ _ _) (fun k e=>by subst e;exact⟨.inl (by omega),n2⟩)) f1 f2 ((World.putObj_heap_other (by omega)).x hk)
   ·obtain⟨f1,f2⟩:=abu W2 _ U .exhausted (some c) ho hgr n1 n2 rfl;refine⟨some c,_,by have:=run_endLoop (P:=P) hl (by rw[hrc];simp);rw[hrc]at this;exact this,?_⟩;rw[hrc]at f1;exact lN w.heap.size c pre U _ (b8 _) n1 hSp ((qH c).2 _ _ _ _ _ hj (Only.putObj _ _ _) (fun k e=>by subst e;exact⟨.inl (by omega),n2⟩)) f1 f2 ((World.putObj_heap_other (by omega)).x hk)
theorem FU{α:Type}{P:Program}{g:Operand}{e:Tmp}(f:Array Value->Nat->Array Value)(l:Value->Obj){j m:Code}{Q:Exit->Act->World->Prop}{T:Array Value}{w:World}
  {b:Nat} {c:Array Value} (B:(Act.mk T []).eval g=.func (.func b) #[] c) (A: ∀a w,(callFunc b a).run P w=.ok (.enter b a) w)
  {Pre:α->Array Value->Prop} {h Tn:Nat->Prop} {S n:List α->Prop} (r:Uz P b c (fun _ x a _ _=>Pre x a) h Tn S n w) (F: ∀k,(h k\/Tn k)->k<w.heap.size) (q: ∀x a,Pre x a-> ∃v,a= #[v])
  (J:List α->(Nat->Prop)->World->Prop) (d:Code->List α->(Nat->Prop)->World->Prop) (t:iJ (fun k=>w.heap.size<=k\/Tn k) J) (E: ∀s,iJ (fun k=>w.heap.size<=k\/Tn k) (d s)) (c:Nat->Prop) (G:J [] c w) (y: ∀k,(h k\/Tn k)-> ¬c k)
  (C: ∀(o:Nat) (x:α) (v:Value) (W:World) (K:Act->World->Prop),Pre x #[v]->(∀(Y:Nat) (i:World),W.heap.size<=Y->i.heap[Y]?=some (l v)->Below W.heap.size W i->K {tmps:=f (T.setIfInBounds e v) Y,defers:=[]} i)->
   j.wpIn (Fence.wide.inRound o) 9 P (Exit.then K (fun _ _ _=>False)) {tmps:=T.setIfInBounds e v,defers:=[]} W)
  (u: ∀(o:Nat) b x v Y U (W:World),J b U W->Pre x #[v]->W.heap[Y]?=some (l v)-> ¬U Y->m.wpIn (Fence.wide.inRound o) 9 P (nY J d (b++[x]) U W) {tmps:=f (T.setIfInBounds e v) Y,defers:=[]} W)
  (p: ∀(D:Nat) h U (W:World),w.heap.size<=D-> ¬U D->S h->J h U W->Only (fun k=>c k\/Tn k) w W->W.heap[D]?=some (.deferred (some []))->Q .normal {tmps:=T,defers:=[{target:=.collected D,args:= #[]}]} W)
  (z: ∀(D:Nat) (s:Code) b U (W:World),w.heap.size<=D-> ¬U D->n b->d s b U W->Only (fun k=>c k\/Tn k) w W->W.heap[D]?=some (.deferred (some []))->s.wp P Q {tmps:=T,defers:=[{target:=.collected D,args:= #[]}]} W):
  (Code.rangeFunc g #[e] j m).wp P Q {tmps:=T,defers:=[]} w:=by
 refine(wpIn_wide (n:=10)).1 (ry B A r F ?_ J d t E c G y
  (fun b x a k U W=> ∃v Y,a= #[v]/\k={tmps:=f (T.setIfInBounds e v) Y,defers:=[]}/\Pre x #[v]/\W.heap[Y]?=some (l v)/\ ¬U Y) ?_ ?_ ?_ (fun D h U W f d c m l _ n=>p D h U W f d c m l n) ?_)
 ·intro b x a U W t;obtain⟨v,rfl⟩:=q x a t;rfl
 ·rintro b x a k U V A B ⟨v,Y,rfl,rfl,f,d,c⟩ h r;exact⟨v,Y,rfl,rfl,f,h.heap d c,fun t=>c (r Y t)⟩
 ·rintro o b x a U V W K p r y h A;obtain⟨v,rfl⟩:=q x a h;show j.wpIn _ _ _ _ {tmps:=(#[e].zip #[v]).foldl (fun j (x:Tmp×Value)=>j.setIfInBounds x.1 x.2) T,defers:=[]} _;rw[show(#[e].zip #[v]).foldl (fun j (x:Tmp×Value)=>j.setIfInBounds x.1 x.2) T=T.setIfInBounds e v by simp];refine C o x v W K h (fun Y i f d c=>?_);exact A _ _ ⟨v,Y,rfl,rfl,h,d,fun t=>by have:=y Y t;omega⟩ (oB c _)
 ·rintro o b x a k U W p ⟨v,Y,rfl,rfl,f,d,c⟩;exact u o b x v Y U W p f d c
 ·intro D s b U W f d c m l _ n;exact wpIn_wide.2 (z D s b U W f d c m l n)
def ed{α:Type}(base:Nat)(J:List α->(Nat->Prop)->World->Prop):Prop:=
 (∀a U A,J a U A-> ∀k,U k->k<A.heap.size)/\
 (∀a U A B S,J a U A->Only S A B->(∀k,S k->base<=k/\ ¬U k)->J a U B)
theorem ed.none{α:Type}(base:Nat):ed (α:=α) base (fun _ _ _=>False):=⟨fun _ _ _ h=>h.elim,fun _ _ _ _ _ h=>h.elim⟩
def Aj{α:Type}(P:Program)(g:Nat)(f:Array Value)(Pre:List α->α->Array Value->(Nat->Prop)->World->Prop)(a:Nat->Prop)(S h:List α->Prop)(w:World):Prop:=
 ∀(l:Nat) (J d:List α->(Nat->Prop)->World->Prop) (W:World) (c:Nat->Prop),ed W.heap.size J->ed W.heap.size d->(∀k o,a k->w.heap[k]?=some o->W.heap[k]?=some o)->(∀k,a k-> ¬c k)->J [] c W->
  (∀a x e U b,J a U b->Pre a x e U b->YieldAt Fence.wide 9 P l e b fun e W'=>
   (e=.returned (.bool true)/\ ∃U',J (a++[x]) U' W'/\Only U b W'/\Grow b U U')\/(e=.returned (.bool false)/\ ∃U',d (a++[x]) U' W'/\Only U b W'/\Grow b U U'))->
  CallsIn Fence.wide 9 P g (#[.func (.yield l) #[] #[]]++f) W fun e W'=>(∃v,e=.returned v)/\
   ((∃b U,S b/\J b U W'/\Only c W W'/\Grow W c U)\/(∃a U,h a/\d a U W'/\Only c W W'/\Grow W c U))
theorem ed.Yq{α:Type}{base:Nat}{J:List α->(Nat->Prop)->World->Prop}(h:ed base J):iJ (fun k=>base<=k\/False) J:=
 ⟨h.1,fun _ _ _ _ _ c b a=>h.2 _ _ _ _ _ c b (fun k b=>⟨(a k b).1.elim id False.elim,(a k b).2⟩)⟩
theorem iJ.wD{α:Type}{base:Nat}{J:List α->(Nat->Prop)->World->Prop}(h:iJ (fun k=>base<=k\/False) J):ed base J:=
 ⟨h.1,fun _ _ _ _ _ c b a=>h.2 _ _ _ _ _ c b (fun k b=>⟨.inl (a k b).1,(a k b).2⟩)⟩
theorem Aj.Yq{α:Type}{P:Program}{g:Nat}{a:Array Value}{Pre:List α->α->Array Value->(Nat->Prop)->World->Prop}{c:Nat->Prop}{S b:List α->Prop}{w:World}(j:Aj P g a Pre c S b w):Uz P g a Pre c (fun _=>False) S b w:=by
 intro l J c W i f a d h e b;refine(j l J c W i f.wD a.wD (fun k o _ a=>d.heap a (fun j=>j)) (fun k a=>h k (.inl a)) e b).m ?_;rintro j i ⟨h,(⟨c,U,e,b,f,d⟩|⟨c,U,e,b,f,d⟩)⟩
 ·exact⟨h,.inl ⟨c,U,e,b,f.m (fun k _ a=>.inl a),d⟩⟩
 ·exact⟨h,.inr ⟨c,U,e,b,f.m (fun k _ a=>.inl a),d⟩⟩
theorem M8{α:Type}{P:Program}{g:Operand}{ps:Array Tmp}{j l:Code}{Q:Exit->Act->World->Prop}{a:Act}{w:World}
  {b:Nat} {e:Array Value} (z:a.eval g=.func (.func b) #[] e) (y: ∀c w,(callFunc b c).run P w=.ok (.enter b c) w)
  {Pre:List α->α->Array Value->(Nat->Prop)->World->Prop} {d:Nat->Prop} {S n:List α->Prop} (q:Aj P b e Pre d S n w) (C: ∀k,d k->k<w.heap.size)
  (s: ∀b x c U W,Pre b x c U W->c.size=ps.size)
  (J:List α->(Nat->Prop)->World->Prop) (h:Code->List α->(Nat->Prop)->World->Prop) (u:ed w.heap.size J) (B: ∀m,ed w.heap.size (h m)) (e:Nat->Prop) (E:J [] e w) (v: ∀k,d k-> ¬e k)
  (f:List α->α->Array Value->Act->(Nat->Prop)->World->Prop) (r: ∀b x c d U V A i,f b x c d V A->Only V A i->(∀k,U k->V k)->f b x c d U i)
  (A: ∀(o:Nat) b x c (U V:Nat->Prop) (W:World) (K:Act->World->Prop),J b U W->(∀k,U k->V k)->Pre b x c V W->(∀d i,f b x c d V i->Only (fun _=>False) W i->K d i)->
   j.wpIn (Fence.wide.inRound o) 9 P (Exit.then K (fun _ _ _=>False)) {tmps:=(ps.zip c).foldl (fun t (p,i)=>t.setIfInBounds p i) a.tmps,defers:=[]} W)
  (i: ∀(o:Nat) b x c d U (W:World),J b U W->f b x c d U W->l.wpIn (Fence.wide.inRound o) 9 P (nY J h (b++[x]) U W) d W)
  (p: ∀(D:Nat) d U (W:World),w.heap.size<=D-> ¬U D->S d->J d U W->Only e w W->Grow w e U->W.heap[D]?=some (.deferred (some []))->Q .normal {a with defers:={target:=.collected D,args:= #[]}::a.defers} W)
  (t: ∀(D:Nat) (m:Code) b U (W:World),w.heap.size<=D-> ¬U D->n b->h m b U W->Only e w W->Grow w e U->W.heap[D]?=some (.deferred (some []))->m.wpIn Fence.wide 10 P Q {a with defers:={target:=.collected D,args:= #[]}::a.defers} W):
  (Code.rangeFunc g ps j l).wpIn Fence.wide 10 P Q a w:=by
 refine ry (Tn:=fun _=>False) z y q.Yq (fun k j=>j.elim (C k) False.elim) s J h u.Yq (fun m=>(B m).Yq) e E (fun k j=>j.elim (v k) False.elim) f r
  (fun o b x c U V W K e f _ h j=>A o b x c U V W K e f h j) i
  (fun D d U W l c e h f i j=>p D d U W l c e h (f.m (fun k _ d=>d.elim id False.elim)) i j)
  (fun D m b U W l c e h f i j=>t D m b U W l c e h (f.m (fun k _ d=>d.elim id False.elim)) i j)
theorem lO{α:Type}{P:Program}{g:Operand}{e f:Tmp}(k:Array Value->Value->Value->Array Value){j n:Code}{Q:Exit->Act->World->Prop}{T:Array Value}{ds:List Deferred}{w:World}
  {a:Nat} {b:Array Value} (A:(Act.mk T ds).eval g=.func (.func a) #[] b) (z: ∀d w,(callFunc a d).run P w=.ok (.enter a d) w)
  {Pre:List α->α->Value->Value->(Nat->Prop)->World->Prop} {l:Nat->Prop} {S o:List α->Prop}
  (s:Aj P a b (fun c x d U W=> ∃a b,d= #[a,b]/\Pre c x a b U W) l S o w) (E: ∀m,l m->m<w.heap.size)
  (u: ∀c x a b U V H G,Pre c x a b V H->Only V H G->(∀m,U m->V m)->Pre c x a b U G)
  (J:List α->(Nat->Prop)->World->Prop) (i:Code->List α->(Nat->Prop)->World->Prop) (v:ed w.heap.size J) (C: ∀p,ed w.heap.size (i p)) (h:Nat->Prop) (F:J [] h w) (y: ∀m,l m-> ¬h m)
  (B: ∀(l:Nat) (a b:Value) (W:World) (K:Act->World->Prop),K {tmps:=k ((T.setIfInBounds e a).setIfInBounds f b) a b,defers:=[]} W->
   j.wpIn (Fence.wide.inRound l) 9 P (Exit.then K (fun _ _ _=>False)) {tmps:=(T.setIfInBounds e a).setIfInBounds f b,defers:=[]} W)
  (q: ∀(l:Nat) c x a b U (W:World),J c U W->Pre c x a b U W->n.wpIn (Fence.wide.inRound l) 9 P (nY J i (c++[x]) U W) {tmps:=k ((T.setIfInBounds e a).setIfInBounds f b) a b,defers:=[]} W)
  (r: ∀(D:Nat) m U (W:World),w.heap.size<=D-> ¬U D->S m->J m U W->Only h w W->Grow w h U->W.heap[D]?=some (.deferred (some []))->Q .normal {tmps:=T,defers:={target:=.collected D,args:= #[]}::ds} W)
  (t: ∀(D:Nat) (p:Code) c U (W:World),w.heap.size<=D-> ¬U D->o c->i p c U W->Only h w W->Grow w h U->W.heap[D]?=some (.deferred (some []))->p.wp P Q {tmps:=T,defers:={target:=.collected D,args:= #[]}::ds} W):
  (Code.rangeFunc g #[e,f] j n).wp P Q {tmps:=T,defers:=ds} w:=by
 refine(wpIn_wide (n:=10)).1 (M8 A z s E ?_ J i v C h F y
  (fun c x d i U W=> ∃a b,d= #[a,b]/\i={tmps:=k ((T.setIfInBounds e a).setIfInBounds f b) a b,defers:=[]}/\Pre c x a b U W) ?_ ?_ ?_ r ?_)
 ·rintro c x d U W ⟨a,b,rfl,_⟩;rfl
 ·rintro c x d i U V H G ⟨a,b,rfl,rfl,h⟩ k m;exact⟨a,b,rfl,rfl,u _ _ _ _ _ _ _ _ h k m⟩
 ·rintro l c x d U V W K k m ⟨a,b,rfl,h⟩ n;have m:(#[e,f].zip #[a,b]).foldl (fun o (x:Tmp×Value)=>o.setIfInBounds x.1 x.2) T=(T.setIfInBounds e a).setIfInBounds f b:=by simp
  show j.wpIn _ _ _ _ {tmps:=(#[e,f].zip #[a,b]).foldl (fun o (x:Tmp×Value)=>o.setIfInBounds x.1 x.2) T,defers:=[]} _;rw[m];exact B l a b W K (n _ _ ⟨a,b,rfl,rfl,h⟩ (oE _ _))
 ·rintro l c x d i U W k ⟨a,b,rfl,rfl,h⟩;exact q l c x a b U W k h
 ·intro D p c U W i a b e d f h;exact wpIn_wide.2 (t D p c U W i a b e d f h)
def fu(N:Nat)(U:Nat->Prop)(W:World)(ds:List Deferred):Prop:=
 ∃a:List Nat,ds=a.map (fun D=>{target:=.collected D,args:= #[]})/\a.Nodup/\ ∀D∈a,N<=D/\D<W.heap.size/\ ¬U D/\W.heap[D]?=some (.deferred (some []))
section
variable{N:Nat}{U U' S:Nat->Prop}{W W':World}{ds:List Deferred}
theorem fu.nil(N:Nat)(U:Nat->Prop)(W:World):fu N U W []:=⟨[],rfl,List.nodup_nil,fun _ h=>by simp at h⟩
theorem fu.go(h:fu N U W ds)(a:Only U W W')(e:Grow W U U'):fu N U' W' ds:=by obtain⟨c,f,d,b⟩:=h;refine⟨c,f,d,fun D c=>?_⟩;obtain⟨f,g,d,h⟩:=b D c;exact⟨f,da g a.size,fun b=>(e D b).elim d (fun e=>by omega),a.heap h d⟩
theorem fu.more(k:fu N U W ds){D:Nat}(j:N<=D)(e: ¬U D)(a:W.heap.size<=D)(b:Only U W W')(g:Grow W U U')(i: ¬U' D)(d:W'.heap[D]?=some (.deferred (some []))):fu N U' W' ({target:=.collected D,args:= #[]}::ds):=by
 obtain⟨f,h,a,c⟩:=k;have k:fu N U' W' ds:=fu.go ⟨f,h,a,c⟩ b g;refine⟨D::f,by rw[h];rfl,List.nodup_cons.2 ⟨fun f=>by have:=(c D f).2.1;omega,a⟩,fun E a=>?_⟩;rcases eS.1 a with rfl|a
 ·exact⟨j,(cq.1 d).1,i,d⟩
 ·obtain⟨f,h,d,i⟩:=c E a;exact⟨f,da h b.size,fun e=>(g E e).elim d (fun e=>by omega),b.heap i d⟩
theorem jF{P:Program}{a:Func}{R:Ending->World->Prop}{tmps:Array Value}{v:Value}(c: ∀W,(results a tmps).run P W=.ok v W):
  ∀{ds:List Deferred} {W:World},fu N U W ds->(∀W',Only (fun k=>N<=k/\ ¬U k) W W'->R (.returned v) W')->LeavesInM Fence.wide 10 P a tmps R ds .returning W:=by
 rintro ds W ⟨a,rfl,e,b⟩
 induction a generalizing W with
 |nil=>exact fun h=>⟨v,c W,h W (oE _ _)⟩
 |cons D a c=>intro h;obtain⟨f,a,j,g⟩:=b D (by simp);obtain⟨d,a⟩:=List.nodup_cons.1 e;have e:Only (fun k=>N<=k/\ ¬U k) W (W.putObj D (.deferred none)):=(Only.putObj W D _).m (fun k _ i=>by subst i;exact⟨f,j⟩);refine⟨by simp,.inl ⟨D,_,rfl,run_takeDeferred g,c a (fun E a=>?_) (fun W' c=>h W' (e.x c (fun _ _ h=>h)))⟩⟩;obtain⟨g,e,f,c⟩:=b E (List.mem_cons_of_mem _ a);exact⟨g,by simpa using e,f,(World.putObj_heap_other (fun i=>d (by rw[<-i];exact a))).x c⟩
end
end Go.Proofs.YtehccbdajiiaaaaGreatDoor
