/- Proved: ReconAts returns true for every input: the table of a prefix of a log is the one that Fold of those pieces comes to; no condition (the listed package variables start as the program lays them). Not covered: nothing. -/
import Derived.Test.YtehccbdajiiaaaaGreatDoorS49
import Derived.Test.YtehccbdajiiaaaaGreatDoorTie
import Derived.Test.YtehccbdajiiaaaaGreatDoorCards
namespace Go.Proofs.YtehccbdajiiaaaaGreatDoor
open Go.Proofs.Tryz
set_option maxRecDepth 100000
open Go.RowKit
section
open Go.ChangeShapes Go.WideShapes Go.ChangeAt Go.RowKit Go.Deep
end
section
open Go.ChangeShapes Go.WideShapes Go.ChangeAt Go.RowKit Go.Deep
theorem vH(os:Os)(g:os.Started)(H:Type)(enc:TypeId×Value->H):
  ReturnsInHanded {} Tryz.checked os 5 .any (fun w d=>(Rows.reconAtsSpec.pre enc prog Tryz.f5 [] false w d/\laidMetH prog Rows.reconAtsRow.laid w)/\sizedMet enc prog Tryz.f5 (OpenSpec.ofChange Rows.reconAtsSpec) false w d) (Rows.reconAtsSpec.post enc prog Tryz.f5 false true false false):=by
 refine ov os g H enc 5 Tryz.f5 Rows.reconAtsSpec Rows.reconAtsRow.laid (by kernel_rfl) func5 rfl (by kernel_rfl) ?_ ?_
  (ChangeSpec.witness_shaped (enc:=enc) (C:=Tryz.checked) (os:=os) (X:=fun w _=>laidMetH prog Rows.reconAtsRow.laid w) false (World.doorLaid prog 200 os) #[.slice none 0 0,.agg #[rm 0,rm 0,rm 0],rm 0] 8 rfl (World.shaped_of_RefB (by kernel_rfl) (by kernel_rfl)) (by kernel_rfl) (by kernel_rfl) (by kernel_rfl)
   (laidMetH_of_parts3 (fuel:=8) (laidMet_of_run' 8 (by kernel_rfl) (by kernel_rfl)) (by kernel_rfl) (by kernel_rfl))) ?_
 ·rw[Tryz.params5];intro t b;simp at b;rcases b with rfl|rfl|rfl
  ·exact⟨by kernel_rfl,of_decide_eq_true (by kernel_rfl)⟩
  ·exact⟨by kernel_rfl,of_decide_eq_true (by kernel_rfl)⟩
  ·exact⟨by kernel_rfl,of_decide_eq_true (by kernel_rfl)⟩
 ·intro f a;rw[Tryz.params5]at a
  match f,a with
  |[s,k,d3],_=>exact⟨rfl,rfl,rfl⟩
 ·intro W z d f G c a e;rw[Tryz.params5]at e a;have b:=uQ c (by rfl) (by simp[Rows.reconAtsRow]);have p:=yN c (by rfl) (by simp[Rows.reconAtsRow]);have l:=sQ c (by rfl) (by simp[Rows.reconAtsRow]) (by simp[Rows.reconAtsRow]);have i:=qM c (by rfl) (by simp[Rows.reconAtsRow]);obtain⟨n,t,m,F,s,k,C,D,E,h,rfl,rfl,x,o,j⟩:=trodAll_three e;subst h;obtain⟨y,v⟩:=sH (a 0 22 n rfl rfl) x;obtain⟨q,u,r,rfl,B⟩:=F9 (a 1 24 t rfl rfl) o;obtain⟨w,rfl,rfl,rfl,h⟩:=open_int underlying3 (a 2 3 m rfl rfl) j;have A:=bounds_i64 h;exact VC W _ _ y q u r w v i l p b
theorem DN:Rows.ReconAtsSaid:=
 OpenClaim.holds_of_wide 5 Tryz.f5 rfl rfl rfl rfl rfl rfl rfl ⟨rfl,rfl,rfl,rfl,rfl⟩ rfl rfl rfl rfl rfl (by kernel_rfl) func5 vD
  (of_decide_eq_true (by kernel_rfl)) (by unfold Func.isWrapper;rw[fb (of_decide_eq_false (by kernel_rfl))];exact⟨rfl,rfl⟩)
  (fun c a H b _=>vH c a H b)
theorem zw:Rows.ReconAtsCardSaid:=
 Claim7.holds_tied_plain_at .later [] [.data,.data,.data,.sentinel,.sentinel,.data,.data] true Rows.reconAtsCard.stood.harness true
  DN (fun _ h=>by cases h) Gx (fun _ h=>by cases h) reconAts_row_tie rfl ⟨rfl,rfl⟩ WJ rfl
  (fun f c b a=>by
   obtain rfl:f=5:=eC ((show prog.funcNamed "breviary/breviarylaw18.ReconAts" =some 5 by kernel_rfl).symm.x b)|>.symm;obtain rfl:c=Tryz.f5:=(eC (func5.symm.x a)).symm;refine⟨WI,fun j t b=>?_⟩;have a:t∈Tryz.f5.params.toList:=Array.mem_toList_iff.2 (Array.mem_of_getElem? b);rw[Tryz.params5]at a;simp at a;rcases a with rfl|rfl|rfl
   ·exact(show prog.wantsStandIn 22=false by kernel_rfl)
   ·exact(show prog.wantsStandIn 24=false by kernel_rfl)
   ·exact(show prog.wantsStandIn 3=false by kernel_rfl))
  Gy
#print axioms zw
end

end Go.Proofs.YtehccbdajiiaaaaGreatDoor
