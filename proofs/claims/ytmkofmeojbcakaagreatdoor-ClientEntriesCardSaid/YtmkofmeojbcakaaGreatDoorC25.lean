import Derived.Test.YtmkofmeojbcakaaGreatDoorC01
import Derived.RangeFuncNested
import Derived.RangeFuncBound
import Derived.RangeFuncCalls
import Derived.RangeFuncLeaves
import Derived.Shelf.Abstract
import Derived.Shelf.RegionOpen
import Derived.OwnWalkIn
import Derived.TacticsInMore
import Derived.LoopNIn
import Derived.LoopIn
namespace Go.Proofs.YtmkofmeojbcakaaGreatDoor
set_option maxRecDepth 100000
open Go.RowKit
def Grow(w:World)(U U':Nat->Prop):Prop:= ∀k,U' k->U k\/w.heap.size<=k
theorem Grow.refl(w:World)(U:Nat->Prop):Grow w U U:=fun _ h=>.inl h
theorem Grow.trans{w w':World}{U V X:Nat->Prop}(h:Grow w U V)(k:Grow w' V X)(hs:w.heap.size<=w'.heap.size):Grow w U X:=fun i hi=>by
 rcases k i hi with h1|h1
 ·exact h i h1
 ·exact .inr (by omega)
abbrev Grow.x:=@Grow.trans
theorem Only.putObj(w:World)(r:Nat)(o:Obj):Only (fun k=>k=r) w (w.putObj r o):=
 ⟨rfl,rfl,rfl,by simp,fun _ _ hk=>World.putObj_heap_other hk⟩
theorem Cn{n m:Nat}{P:Program}{l:Nat}{f:FuncId}{tmps:Array Value}{assign body:Code}{w:World}{R:Ending->World->Prop}(h:RoundIn Fence.wide n P l f tmps assign body w R):RoundIn Fence.wide m P l f tmps assign body w R:=
 ⟨h.1,fun c cs _=>h.2 c cs (room_wide _)⟩
theorem Em{P:Program}{f:FuncId}{fn:Func}{c:Code}{args:Array Value}{w:World}{R:Ending->World->Prop}(hf:P.funcs[f]?=some fn)(hb:fn.body=some c)
  (h:c.wp P (bodyPostM Fence.wide 10 P fn R) {tmps:=args++Array.replicate (fn.ntmps-args.size) undef,defers:=[]} w):Calls P f args w R:=
 callsIn_wide.1 (callsIn_of_wp_marks (F:=Fence.wide) (n:=10) hf hb trivial (wpIn_wide.2 h) rfl)
theorem xZ{P:Program}{fn:Func}{R:Ending->World->Prop}{tmps:Array Value}{D:Nat}{w:World}{v:Value}(hK:w.heap[D]?=some (.deferred (some [])))
  (hres:(results fn tmps).run P (w.putObj D (.deferred none))=.ok v (w.putObj D (.deferred none))) (hR:R (.returned v) (w.putObj D (.deferred none))):
  bodyPostM Fence.wide 10 P fn R .ret {tmps:=tmps,defers:=[{target:=.collected D,args:= #[]}]} w:=
 ⟨by simp,.inl ⟨_,_,rfl,run_takeDeferred hK,⟨_,hres,hR⟩⟩⟩
def OB{α:Type}(J:List α->(Nat->Prop)->World->Prop)(Jx:Code->List α->(Nat->Prop)->World->Prop)(xs:List α)(U:Nat->Prop)(W:World):Exit->Act->World->Prop
 | .normal,_,W'=> ∃U',J xs U' W'/\Only U W W'/\Grow W U U'
 | .ret,_,W'=> ∃U',Jx .ret xs U' W'/\Only U W W'/\Grow W U U'
 | .exit id,_,W'=> ∃U',Jx (.exit id) xs U' W'/\Only U W W'/\Grow W U U'
 | .goto t,_,W'=> ∃U',Jx (.goto t) xs U' W'/\Only U W W'/\Grow W U U'
 | .panic _,_,_=>False
 | .outgrown,_,_=>False

def lW{α:Type}(Bs:Nat->Prop)(J:List α->(Nat->Prop)->World->Prop):Prop:=
 (∀pre U A,J pre U A-> ∀k,U k->k<A.heap.size)/\
 (∀pre U A B S,J pre U A->Only S A B->(∀k,S k->Bs k/\ ¬U k)->J pre U B)
def VY{α:Type}(P:Program)(g:Nat)(lb:Array Value)(Pre:List α->α->Array Value->(Nat->Prop)->World->Prop)(Fp Tn:Nat->Prop)(S Sp:List α->Prop)(w:World):Prop:=
 ∀(l:Nat) (J Jx:List α->(Nat->Prop)->World->Prop) (W:World) (U0:Nat->Prop),lW (fun k=>W.heap.size<=k\/Tn k) J->lW (fun k=>W.heap.size<=k\/Tn k) Jx->Only (fun _=>False) w W->(∀k,(Fp k\/Tn k)-> ¬U0 k)->J [] U0 W->
  (∀pre x args U W1,J pre U W1->Pre pre x args U W1->YieldAt Fence.wide 9 P l args W1 fun e W'=>
   (e=.returned (.bool true)/\ ∃U',J (pre++[x]) U' W'/\Only U W1 W'/\Grow W1 U U')\/(e=.returned (.bool false)/\ ∃U',Jx (pre++[x]) U' W'/\Only U W1 W'/\Grow W1 U U'))->
  CallsIn Fence.wide 9 P g (#[.func (.yield l) #[] #[]]++lb) W fun e W'=>(∃v,e=.returned v)/\
   ((∃xs U,S xs/\J xs U W'/\Only (fun k=>U0 k\/Tn k) W W'/\Grow W U0 U)\/(∃pre U,Sp pre/\Jx pre U W'/\Only (fun k=>U0 k\/Tn k) W W'/\Grow W U0 U))
theorem GQ{α:Type}{P:Program}{g:Operand}{ps:Array Tmp}{assign body:Code}{Q:Exit->Act->World->Prop}{a:Act}{w:World}
  {gf:Nat} {lb:Array Value} (hg:a.eval g=.func (.func gf) #[] lb) (eg: ∀args w,(callFunc gf args).run P w=.ok (.enter gf args) w)
  {Pre:List α->α->Array Value->(Nat->Prop)->World->Prop} {Fp Tn:Nat->Prop} {S Sp:List α->Prop} (hseq:VY P gf lb Pre Fp Tn S Sp w) (XG: ∀k,(Fp k\/Tn k)->k<w.heap.size)
  (hps: ∀pre x args U W,Pre pre x args U W->args.size=ps.size)
  (J:List α->(Nat->Prop)->World->Prop) (Jx:Code->List α->(Nat->Prop)->World->Prop) (hJ:lW (fun k=>w.heap.size<=k\/Tn k) J) (Su: ∀c,lW (fun k=>w.heap.size<=k\/Tn k) (Jx c)) (U0:Nat->Prop) (h0:J [] U0 w) (ZH: ∀k,(Fp k\/Tn k)-> ¬U0 k)
  (Ax:List α->α->Array Value->Act->(Nat->Prop)->World->Prop) (hAx: ∀pre x args a₁ U V A B,Ax pre x args a₁ V A->Only V A B->(∀k,U k->V k)->Ax pre x args a₁ U B)
  (se: ∀(l:Nat) pre x args (U V:Nat->Prop) (W:World) (K:Act->World->Prop),J pre U W->(∀k,U k->V k)->(∀k,V k->k<W.heap.size)->Pre pre x args V W->(∀a₁ W₁,Ax pre x args a₁ V W₁->Only (fun _=>False) W W₁->K a₁ W₁)->
   assign.wpIn (Fence.wide.inRound l) 9 P (Exit.then K (fun _ _ _=>False)) {tmps:=(ps.zip args).foldl (fun t (p,v)=>t.setIfInBounds p v) a.tmps,defers:=[]} W)
  (hbody: ∀(l:Nat) pre x args a₁ U (W:World),J pre U W->Ax pre x args a₁ U W->body.wpIn (Fence.wide.inRound l) 9 P (OB J Jx (pre++[x]) U W) a₁ W)
  (hdone: ∀(D:Nat) xs U (W:World),w.heap.size<=D-> ¬U D->S xs->J xs U W->Only (fun k=>U0 k\/Tn k) w W->Grow w U0 U->W.heap[D]?=some (.deferred (some []))->Q .normal {a with defers:={target:=.collected D,args:= #[]}::a.defers} W)
  (En: ∀(D:Nat) (c:Code) pre U (W:World),w.heap.size<=D-> ¬U D->Sp pre->Jx c pre U W->Only (fun k=>U0 k\/Tn k) w W->Grow w U0 U->W.heap[D]?=some (.deferred (some []))->c.wpIn Fence.wide 10 P Q {a with defers:={target:=.collected D,args:= #[]}::a.defers} W):
  (Code.rangeFunc g ps assign body).wpIn Fence.wide 10 P Q a w:=by
 refine wpIn_rangeFunc ?_;intro fn hfn;obtain⟨rc,hrc⟩: ∃rc:LoopState->Option Code->Loop,rc=fun st pe=>{state:=st,pending:=pe,fn,tmps:=a.tmps,params:=ps,assign,body,defers:=w.heap.size}:=⟨_,rfl⟩;obtain⟨W1,hW1⟩:=qt ((w.alloc (.deferred (some []))).alloc (.loop (rc .ready none)))
 have hL1:W1.heap[w.heap.size+1]?=some (.loop (rc .ready none)):=by rw[<-hW1];have:=World.alloc_heap_new (w.alloc (.deferred (some []))) (.loop (rc .ready none));rwa[World.size_alloc]at this
 have hK1:W1.heap[w.heap.size]?=some (.deferred (some [])):=by rw[<-hW1];exact(Below.heap_alloc _ _ _ (by simp)).x (World.alloc_heap_new w _)
 have XH:Only (fun _=>False) w W1:=by rw[<-hW1];exact((ox _ _).alloc _).alloc _
 have hsz1:W1.heap.size=w.heap.size+2:=by rw[<-hW1];simp
 have hI1:J [] U0 W1:=hJ.2 _ _ _ _ _ h0 XH (fun _ h=>h.elim);have ZI:=hJ.1 _ _ _ h0
 refine⟨w.heap.size+1,[{target:=.collected w.heap.size,args:= #[]}],W1,{target:=.fn (.func gf) lb,args:= #[.func (.yield (w.heap.size+1)) #[] #[]]},W1,gf,
  #[.func (.yield (w.heap.size + 1)) #[] #[]] ++ lb, W1, ?_, ?_, ?_, ?_, ?_, ?_⟩
 ·rw[<-hW1,hrc];exact run_enterLoop_outer _ _ _ _ _
 ·simp only[resolve,hg];simp[go_sem]
 ·intro f' _;trivial
 ·simp[invoke,go_sem,eg]
 ·intro h;simp[Fence.wide]at h
 · --the iterator's contract at the caller's invariant,with the loop's two blocks beside it
  let bk:(Nat->Prop)->Nat->Prop:=fun U k=>U k\/k=w.heap.size\/k=w.heap.size+1
  refine(hseq (w.heap.size+1)
   (fun pre V W=> ∃U,V=bk U/\J pre U W/\ ¬U w.heap.size/\ ¬U (w.heap.size+1)/\W.heap[w.heap.size+1]?=some (.loop (rc .ready none))/\W.heap[w.heap.size]?=some (.deferred (some [])))
   (fun pre V W=> ∃U c,V=bk U/\Jx c pre U W/\ ¬U w.heap.size/\ ¬U (w.heap.size+1)/\W.heap[w.heap.size+1]?=some (.loop (rc .done (some c)))/\W.heap[w.heap.size]?=some (.deferred (some [])))
   W1 (bk U0) ⟨?_,?_⟩ ⟨?_,?_⟩ ?_ ?_ ?_ ?_).m ?_
  ·rintro pre V A ⟨U,rfl,hj,_,_,hl,hk⟩ k (hk'|rfl|rfl)
   ·exact hJ.1 _ _ _ hj k hk'
   ·exact(bd.1 hk).1
   ·exact(bd.1 hl).1
  ·rintro pre V A B S' ⟨U,rfl,hj,n1,n2,hl,hk⟩ ho hd;exact⟨U,rfl,hJ.2 _ _ _ _ _ hj ho (fun k hk'=>⟨(hd k hk').1.imp (fun h=>by omega) id,fun hu=>(hd k hk').2 (.inl hu)⟩),n1,n2,ho.heap hl (fun hh=>(hd _ hh).2 (.inr (.inr rfl))),ho.heap hk (fun hh=>(hd _ hh).2 (.inr (.inl rfl)))⟩
  ·rintro pre V A ⟨U,c,rfl,hj,_,_,hl,hk⟩ k (hk'|rfl|rfl)
   ·exact(Su c).1 _ _ _ hj k hk'
   ·exact(bd.1 hk).1
   ·exact(bd.1 hl).1
  ·rintro pre V A B S' ⟨U,c,rfl,hj,n1,n2,hl,hk⟩ ho hd;exact⟨U,c,rfl,(Su c).2 _ _ _ _ _ hj ho (fun k hk'=>⟨(hd k hk').1.imp (fun h=>by omega) id,fun hu=>(hd k hk').2 (.inl hu)⟩),n1,n2,ho.heap hl (fun hh=>(hd _ hh).2 (.inr (.inr rfl))),ho.heap hk (fun hh=>(hd _ hh).2 (.inr (.inl rfl)))⟩
  ·exact XH
  ·rintro k hk (h|rfl|rfl)
   ·exact ZH k hk h
   ·have:=XG _ hk;omega
   ·have:=XG _ hk;omega
  ·exact⟨U0,rfl,hI1,fun h=>by have:=ZI _ h;omega,fun h=>by have:=ZI _ h;omega,hL1,hK1⟩
  · --one round
   rintro pre x args V W ⟨U,rfl,hj,n1,n2,hl,hk⟩ hpre;have hlt:w.heap.size+1<W.heap.size:=(bd.1 hl).1;have hy:=run_yield (P:=P) (args:=args) hl (by rw[hrc];exact hps _ _ _ _ _ hpre);rw[hrc]at hy;refine⟨fn,_,assign,body,hy,roundIn_of_wpIn hfn ?_⟩;refine se _ pre x args U (bk U) W _ hj (fun k hk'=>.inl hk') ?_ hpre ?_
   ·rintro k (hk'|rfl|rfl)
    ·exact hJ.1 _ _ _ hj k hk'
    ·exact(bd.1 hk).1
    ·exact hlt
   intro a₁ W₁ hax ho₁;have hl₁:W₁.heap[w.heap.size+1]?=some (.loop (rc .ready none)):=ho₁.heap hl (fun h=>h);have hk₁:W₁.heap[w.heap.size]?=some (.deferred (some [])):=ho₁.heap hk (fun h=>h);refine⟨_,run_beginRound hl₁ (by rw[hrc]),?_⟩;obtain⟨W₂,hW₂⟩:=qt (W₁.putObj (w.heap.size+1) (.loop {rc .ready none with state:=.busy}));rw[hW₂];have ho₂:Only (fun k=>k=w.heap.size+1) W₁ W₂:=by rw[<-hW₂];exact Only.putObj _ _ _
   have hlt₁:w.heap.size+1<W₁.heap.size:=(bd.1 hl₁).1;have hl₂:W₂.heap[w.heap.size+1]?=some (.loop {rc .ready none with state:=.busy}):=by rw[<-hW₂];exact World.putObj_heap_same hlt₁
   have hk₂:W₂.heap[w.heap.size]?=some (.deferred (some [])):=ho₂.heap hk₁ (by omega);have hsz₂:W.heap.size<=W₂.heap.size:=da ho₁.size ho₂.size;have hj₂:J pre U W₂:=hJ.2 _ _ _ _ _ (hJ.2 _ _ _ _ _ hj ho₁ (fun _ h=>h.elim)) ho₂ (fun k e=>by subst e;exact⟨.inl (by omega),n2⟩);have hax₂:Ax pre x args a₁ U W₂:=hAx _ _ _ _ _ _ _ _ hax (ho₂.mono (fun k _ e=>.inr (.inr e))) (fun k hk'=>.inl hk');refine wpIn_mono (hbody _ pre x args a₁ U W₂ hj₂ hax₂) ?_
   have fin: ∀(jump:Option Code) (W₃:World) (U':Nat->Prop),Only U W₂ W₃->Grow W₂ U U'->
     (Instr.endRound (w.heap.size+1) jump).run P W₃=.ok (.bool jump.isNone) (W₃.putObj (w.heap.size+1) (.loop (rc (if jump.isNone then .ready else .done) jump)))/\
     (W₃.putObj (w.heap.size+1) (.loop (rc (if jump.isNone then .ready else .done) jump))).heap[w.heap.size+1]?=some (.loop (rc (if jump.isNone then .ready else .done) jump))/\
     (W₃.putObj (w.heap.size+1) (.loop (rc (if jump.isNone then .ready else .done) jump))).heap[w.heap.size]?=some (.deferred (some []))/\
     ¬U' w.heap.size/\ ¬U' (w.heap.size+1)/\Only (bk U) W (W₃.putObj (w.heap.size+1) (.loop (rc (if jump.isNone then .ready else .done) jump)))/\Grow W (bk U) (bk U'):=fun jump W₃ U' ho₃ hg₃=>by
    have hl₃:=ho₃.heap hl₂ n2;have hk₃:=ho₃.heap hk₂ n1;have hr:=run_endRound (P:=P) jump hl₃;rw[hrc]at hr⊢;refine⟨hr,World.putObj_heap_same (bd.1 hl₃).1,(World.putObj_heap_other (by omega)).x hk₃,?_,?_,?_,?_⟩
    ·intro h;rcases hg₃ _ h with h|h
     ·exact n1 h
     ·omega
    ·intro h;rcases hg₃ _ h with h|h
     ·exact n2 h
     ·omega
    ·refine Only.trans (T:=bk U) ?_ ((Only.putObj _ _ _).m (fun k _ e=>.inr (.inr e))) (fun _ _ h=>h);refine Only.trans (T:=bk U) ?_ (ho₃.mono (fun k _ e=>.inl e)) (fun _ _ h=>h);refine Only.trans (T:=bk U) ?_ (ho₂.mono (fun k _ e=>.inr (.inr e))) (fun _ _ h=>h);exact ho₁.mono (fun _ _ h=>h.elim)
    ·rintro k (h|h)
     ·rcases hg₃ k h with h|h
      ·exact .inl (.inl h)
      ·exact .inr (by omega)
     ·exact .inl (.inr h)
   rintro e a3 W₃ hp
   cases e with
   |normal=>obtain⟨U',hj₃,ho₃,hg₃⟩:=hp;obtain⟨hr,hl₄,hk₄,m1,m2,FN,hgg⟩:=fin none W₃ U' ho₃ hg₃;exact⟨_,_,hr,.inl ⟨rfl,bk U',⟨U',rfl,hJ.2 _ _ _ _ _ hj₃ (Only.putObj _ _ _) (fun k e=>by subst e;exact⟨.inl (by omega),m2⟩),m1,m2,hl₄,hk₄⟩,FN,hgg⟩⟩
   |ret=>obtain⟨U',hj₃,ho₃,hg₃⟩:=hp;obtain⟨hr,hl₄,hk₄,m1,m2,FN,hgg⟩:=fin (some .ret) W₃ U' ho₃ hg₃;exact⟨_,_,hr,.inr ⟨rfl,bk U',⟨U',_,rfl,(Su _).2 _ _ _ _ _ hj₃ (Only.putObj _ _ _) (fun k e=>by subst e;exact⟨.inl (by omega),m2⟩),m1,m2,hl₄,hk₄⟩,FN,hgg⟩⟩
   |exit id=>obtain⟨U',hj₃,ho₃,hg₃⟩:=hp;obtain⟨hr,hl₄,hk₄,m1,m2,FN,hgg⟩:=fin (some (.exit id)) W₃ U' ho₃ hg₃;exact⟨_,_,hr,.inr ⟨rfl,bk U',⟨U',_,rfl,(Su _).2 _ _ _ _ _ hj₃ (Only.putObj _ _ _) (fun k e=>by subst e;exact⟨.inl (by omega),m2⟩),m1,m2,hl₄,hk₄⟩,FN,hgg⟩⟩
   |goto t=>obtain⟨U',hj₃,ho₃,hg₃⟩:=hp;obtain⟨hr,hl₄,hk₄,m1,m2,FN,hgg⟩:=fin (some (.goto t)) W₃ U' ho₃ hg₃;exact⟨_,_,hr,.inr ⟨rfl,bk U',⟨U',_,rfl,(Su _).2 _ _ _ _ _ hj₃ (Only.putObj _ _ _) (fun k e=>by subst e;exact⟨.inl (by omega),m2⟩),m1,m2,hl₄,hk₄⟩,FN,hgg⟩⟩
   |panic ch=>exact hp.elim
   |outgrown=>exact hp.elim
  · --behind the iterator
   have ZJ: ∀(W2 W3:World) (U:Nat->Prop) (st:LoopState) (pe:Option Code),Only (fun k=>bk U0 k\/Tn k) W1 W2->Grow W1 (bk U0) (bk U)-> ¬U w.heap.size-> ¬U (w.heap.size+1)->W3=W2.putObj (w.heap.size+1) (.loop (rc st pe))->
     Only (fun k=>U0 k\/Tn k) w W3/\Grow w U0 U:=fun W2 W3 U st pe ho hgr n1 n2 e=>by
    subst e;constructor
    ·refine Only.trans (T:=fun k=>k=w.heap.size+1) ?_ (Only.putObj _ _ _) (fun i hi e=>by omega);refine Only.trans (T:=fun k=>bk U0 k\/Tn k) (XH.m (fun _ _ h=>h.elim)) ho ?_;rintro i hi ((h|h|h)|h)
     ·exact .inl h
     ·omega
     ·omega
     ·exact .inr h
    ·intro k hk;rcases hgr k (.inl hk)with(h|h|h)|h
     ·exact .inl h
     ·exact .inr (by omega)
     ·exact .inr (by omega)
     ·exact .inr (by omega)
   rintro e W2 ⟨⟨v,rfl⟩,(⟨xs,V,hS,⟨U,rfl,hj,n1,n2,hl,hk⟩,ho,hgr⟩|⟨pre,V,hSp,⟨U,c,rfl,hj,n1,n2,hl,hk⟩,ho,hgr⟩)⟩
   ·obtain⟨f1,f2⟩:=ZJ W2 _ U .exhausted none ho hgr n1 n2 rfl;refine⟨none,_,by have:=run_endLoop (P:=P) hl (by rw[hrc];simp);rw[hrc]at this;exact this,?_⟩;rw[hrc]at f1;exact hdone w.heap.size xs U _ (aE _) n1 hS (hJ.2 _ _ _ _ _ hj (Only.putObj _ _ _) (fun k e=>by subst e;exact⟨.inl (by omega),n2⟩)) f1 f2 ((World.putObj_heap_other (by omega)).x hk)
   ·obtain⟨f1,f2⟩:=ZJ W2 _ U .exhausted (some c) ho hgr n1 n2 rfl;refine⟨some c,_,by have:=run_endLoop (P:=P) hl (by rw[hrc];simp);rw[hrc]at this;exact this,?_⟩;rw[hrc]at f1;exact En w.heap.size c pre U _ (aE _) n1 hSp ((Su c).2 _ _ _ _ _ hj (Only.putObj _ _ _) (fun k e=>by subst e;exact⟨.inl (by omega),n2⟩)) f1 f2 ((World.putObj_heap_other (by omega)).x hk)
theorem Eo{α:Type}{P:Program}{g:Operand}{p0:Tmp}(upd:Array Value->Nat->Array Value)(bx:Value->Obj){assign body:Code}{Q:Exit->Act->World->Prop}{T:Array Value}{w:World}
  {gf:Nat} {lb:Array Value} (hg:(Act.mk T []).eval g=.func (.func gf) #[] lb) (eg: ∀args w,(callFunc gf args).run P w=.ok (.enter gf args) w)
  {Pre:α->Array Value->Prop} {Fp Tn:Nat->Prop} {S Sp:List α->Prop} (hseq:VY P gf lb (fun _ x args _ _=>Pre x args) Fp Tn S Sp w) (XG: ∀k,(Fp k\/Tn k)->k<w.heap.size) (Sv: ∀x args,Pre x args-> ∃v,args= #[v])
  (J:List α->(Nat->Prop)->World->Prop) (Jx:Code->List α->(Nat->Prop)->World->Prop) (hJ:lW (fun k=>w.heap.size<=k\/Tn k) J) (Su: ∀c,lW (fun k=>w.heap.size<=k\/Tn k) (Jx c)) (U0:Nat->Prop) (h0:J [] U0 w) (ZH: ∀k,(Fp k\/Tn k)-> ¬U0 k)
  (se: ∀(l:Nat) (x:α) (v:Value) (W:World) (K:Act->World->Prop),Pre x #[v]->(∀(Y:Nat) (W₁:World),W.heap.size<=Y->W₁.heap[Y]?=some (bx v)->Below W.heap.size W W₁->K {tmps:=upd (T.setIfInBounds p0 v) Y,defers:=[]} W₁)->
   assign.wpIn (Fence.wide.inRound l) 9 P (Exit.then K (fun _ _ _=>False)) {tmps:=T.setIfInBounds p0 v,defers:=[]} W)
  (hbody: ∀(l:Nat) pre x v Y U (W:World),J pre U W->Pre x #[v]->W.heap[Y]?=some (bx v)-> ¬U Y->body.wpIn (Fence.wide.inRound l) 9 P (OB J Jx (pre++[x]) U W) {tmps:=upd (T.setIfInBounds p0 v) Y,defers:=[]} W)
  (hdone: ∀(D:Nat) xs U (W:World),w.heap.size<=D-> ¬U D->S xs->J xs U W->Only (fun k=>U0 k\/Tn k) w W->W.heap[D]?=some (.deferred (some []))->Q .normal {tmps:=T,defers:=[{target:=.collected D,args:= #[]}]} W)
  (En: ∀(D:Nat) (c:Code) pre U (W:World),w.heap.size<=D-> ¬U D->Sp pre->Jx c pre U W->Only (fun k=>U0 k\/Tn k) w W->W.heap[D]?=some (.deferred (some []))->c.wp P Q {tmps:=T,defers:=[{target:=.collected D,args:= #[]}]} W):
  (Code.rangeFunc g #[p0] assign body).wp P Q {tmps:=T,defers:=[]} w:=by
 refine(wpIn_wide (n:=10)).1 (GQ hg eg hseq XG ?_ J Jx hJ Su U0 h0 ZH
  (fun pre x args a₁ U W=> ∃v Y,args= #[v]/\a₁={tmps:=upd (T.setIfInBounds p0 v) Y,defers:=[]}/\Pre x #[v]/\W.heap[Y]?=some (bx v)/\ ¬U Y) ?_ ?_ ?_ (fun D xs U W h1 h2 h3 h4 h5 _ h7=>hdone D xs U W h1 h2 h3 h4 h5 h7) ?_)
 ·intro pre x args U W h;obtain⟨v,rfl⟩:=Sv x args h;rfl
 ·rintro pre x args a₁ U V A B ⟨v,Y,rfl,rfl,h1,h2,h3⟩ ho hs;exact⟨v,Y,rfl,rfl,h1,ho.heap h2 h3,fun h=>h3 (hs Y h)⟩
 ·rintro l pre x args U V W K hj hs hlt hp hK;obtain⟨v,rfl⟩:=Sv x args hp;show assign.wpIn _ _ _ _ {tmps:=(#[p0].zip #[v]).foldl (fun t (x:Tmp×Value)=>t.setIfInBounds x.1 x.2) T,defers:=[]} _;rw[show(#[p0].zip #[v]).foldl (fun t (x:Tmp×Value)=>t.setIfInBounds x.1 x.2) T=T.setIfInBounds p0 v by simp];refine se l x v W K hp (fun Y W₁ h1 h2 h3=>?_);exact hK _ _ ⟨v,Y,rfl,rfl,hp,h2,fun h=>by have:=hlt Y h;omega⟩ (oj h3 _)
 ·rintro l pre x args a₁ U W hj ⟨v,Y,rfl,rfl,h1,h2,h3⟩;exact hbody l pre x v Y U W hj h1 h2 h3
 ·intro D c pre U W h1 h2 h3 h4 h5 _ h7;exact wpIn_wide.2 (En D c pre U W h1 h2 h3 h4 h5 h7)
end Go.Proofs.YtmkofmeojbcakaaGreatDoor
