/- Proved: SerialParts returns true for every input: Fold of a prefix of pieces has the outcomes of Fold of all, as far as it goes; no condition (the listed package variables start as the program lays them). Not covered: nothing. -/
import Derived.Test.YtehccbdajiiaaaaGreatDoorS49
import Derived.Test.YtehccbdajiiaaaaGreatDoorTie
import Derived.Test.YtehccbdajiiaaaaGreatDoorCards
namespace Go.Proofs.YtehccbdajiiaaaaGreatDoor
open Go.Proofs.Tryz
set_option maxRecDepth 100000
open Go.RowKit
section
open Go.ChangeShapes Go.WideShapes Go.ChangeAt Go.RowKit Go.Deep
theorem rF(os:Os)(g:os.Started)(H:Type)(enc:TypeId×Value->H):
  ReturnsInHanded {} Tryz.checked os 4 .any (fun w d=>(Rows.serialPartsSpec.pre enc prog Tryz.f4 [] false w d/\laidMetH prog Rows.serialPartsRow.laid w)/\sizedMet enc prog Tryz.f4 (OpenSpec.ofChange Rows.serialPartsSpec) false w d) (Rows.serialPartsSpec.post enc prog Tryz.f4 false true false false):=by
 refine ov os g H enc 4 Tryz.f4 Rows.serialPartsSpec Rows.serialPartsRow.laid (by kernel_rfl) func4 rfl (by kernel_rfl) ?_ ?_
  (ChangeSpec.witness_shaped (enc:=enc) (C:=Tryz.checked) (os:=os) (X:=fun w _=>laidMetH prog Rows.serialPartsRow.laid w) false (World.doorLaid prog 200 os) #[.slice none 0 0,.agg #[rm 0,rm 0,rm 0],rm 0] 8 rfl (World.shaped_of_RefB (by kernel_rfl) (by kernel_rfl)) (by kernel_rfl) (by kernel_rfl) (by kernel_rfl)
   (laidMetH_of_parts3 (fuel:=8) (laidMet_of_run' 8 (by kernel_rfl) (by kernel_rfl)) (by kernel_rfl) (by kernel_rfl))) ?_
 ·rw[Tryz.params4];intro t b;simp at b;rcases b with rfl|rfl|rfl
  ·exact⟨by kernel_rfl,of_decide_eq_true (by kernel_rfl)⟩
  ·exact⟨by kernel_rfl,of_decide_eq_true (by kernel_rfl)⟩
  ·exact⟨by kernel_rfl,of_decide_eq_true (by kernel_rfl)⟩
 ·intro e a;rw[Tryz.params4]at a
  match e,a with
  |[v,w,d3],_=>exact⟨rfl,rfl,rfl⟩
 ·intro W z d e G c a f;rw[Tryz.params4]at f a;have b:=uQ c (by rfl) (by simp[Rows.serialPartsRow]);have q:=yN c (by rfl) (by simp[Rows.serialPartsRow]);have p:=sQ c (by rfl) (by simp[Rows.serialPartsRow]) (by simp[Rows.serialPartsRow]);have i:=qM c (by rfl) (by simp[Rows.serialPartsRow]);obtain⟨j,u,o,E,v,w,D,A,C,h,rfl,rfl,n,k,s⟩:=trodAll_three f;subst h;obtain⟨y,r⟩:=sH (a 0 22 j rfl rfl) n;obtain⟨l,t,x,rfl,B⟩:=F9 (a 1 24 u rfl rfl) k;obtain⟨m,rfl,rfl,rfl,h⟩:=open_int underlying3 (a 2 3 o rfl rfl) s;have F:=bounds_i64 h;exact NS W _ _ y l t x m r i p q b
theorem vG:Rows.SerialPartsSaid:=
 OpenClaim.holds_of_wide 4 Tryz.f4 rfl rfl rfl rfl rfl rfl rfl ⟨rfl,rfl,rfl,rfl,rfl⟩ rfl rfl rfl rfl rfl (by kernel_rfl) func4 rD
  (of_decide_eq_true (by kernel_rfl)) (by unfold Func.isWrapper;rw[fb (of_decide_eq_false (by kernel_rfl))];exact⟨rfl,rfl⟩)
  (fun c a H b _=>rF c a H b)
theorem sV:Rows.SerialPartsCardSaid:=
 Claim7.holds_tied_plain_at .later [] [.data,.data,.data,.sentinel,.sentinel,.data,.data] true Rows.serialPartsCard.stood.harness true
  vG (fun _ h=>by cases h) zb (fun _ h=>by cases h) serialParts_row_tie rfl ⟨rfl,rfl⟩ WJ rfl
  (fun f b c a=>by
   obtain rfl:f=4:=eC ((show prog.funcNamed "breviary/breviarylaw15.SerialParts" =some 4 by kernel_rfl).symm.x c)|>.symm;obtain rfl:b=Tryz.f4:=(eC (func4.symm.x a)).symm;refine⟨WI,fun j t b=>?_⟩;have a:t∈Tryz.f4.params.toList:=Array.mem_toList_iff.2 (Array.mem_of_getElem? b);rw[Tryz.params4]at a;simp at a;rcases a with rfl|rfl|rfl
   ·exact(show prog.wantsStandIn 22=false by kernel_rfl)
   ·exact(show prog.wantsStandIn 24=false by kernel_rfl)
   ·exact(show prog.wantsStandIn 3=false by kernel_rfl))
  ze
#print axioms sV
end
section
open Go.ChangeShapes Go.WideShapes Go.ChangeAt Go.RowKit Go.Deep
end

end Go.Proofs.YtehccbdajiiaaaaGreatDoor
