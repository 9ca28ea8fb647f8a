/- Proved: ReconParts returns true for every input: some pieces touch a footprint just if those of one of two parts do, and what touches one of two footprints touches both together; no condition (the listed package variables start as the program lays them). Not covered: nothing. -/
import Derived.Test.YtehccbdajiiaaaaGreatDoorP49
import Derived.Test.YtehccbdajiiaaaaGreatDoorTie
import Derived.Test.YtehccbdajiiaaaaGreatDoorCards
namespace Go.Proofs.YtehccbdajiiaaaaGreatDoor
open Go.Proofs.Tryz
set_option maxRecDepth 100000
open Go.RowKit
section
open Go.ChangeShapes Go.WideShapes Go.ChangeAt Go.RowKit Go.Deep
theorem reconParts_lifted(os:Os)(g:os.Started)(H:Type)(enc:TypeId×Value->H):
  ReturnsInHanded {} Tryz.checked os 3 .any (fun w d=>(Rows.reconPartsSpec.pre enc prog Tryz.f3 [] false w d/\laidMetH prog Rows.reconPartsRow.laid w)/\sizedMet enc prog Tryz.f3 (OpenSpec.ofChange Rows.reconPartsSpec) false w d) (Rows.reconPartsSpec.post enc prog Tryz.f3 false true false false):=by
 refine uL os g H enc 3 Tryz.f3 Rows.reconPartsSpec Rows.reconPartsRow.laid (by kernel_rfl) func3 rfl (by kernel_rfl) ?_ ?_
  (ChangeSpec.witness_shaped (enc:=enc) (C:=Tryz.checked) (os:=os) (X:=fun w _=>laidMetH prog Rows.reconPartsRow.laid w) false (World.doorLaid prog 200 os) #[.slice none 0 0,.agg #[rv 0,rv 0,rv 0,rv 0,rv 0],.agg #[.slice none 0 0,.slice none 0 0,rv 0]] 8 rfl (World.shaped_of_RefB (by kernel_rfl) (by kernel_rfl)) (by kernel_rfl) (by kernel_rfl) (by kernel_rfl)
   (laidMetH_of_parts3 (fuel:=8) (laidMet_of_run' 8 (by kernel_rfl) (by kernel_rfl)) (by kernel_rfl) (by kernel_rfl))) ?_
 ·rw[Tryz.params3];intro t c;simp at c;rcases c with rfl|rfl|rfl
  ·exact⟨by kernel_rfl,of_decide_eq_true (by kernel_rfl)⟩
  ·exact⟨by kernel_rfl,of_decide_eq_true (by kernel_rfl)⟩
  ·exact⟨by kernel_rfl,of_decide_eq_true (by kernel_rfl)⟩
 ·intro f a;rw[Tryz.params3]at a
  match f,a with
  |[l,x,d3],_=>exact⟨rfl,rfl,rfl⟩
 ·intro W G d f O b a e;rw[Tryz.params3]at e a;have c:=E2 b (by rfl) (by simp[Rows.reconPartsRow]);have m:=Ip b (by rfl) (by simp[Rows.reconPartsRow]);have k:=C5 b (by rfl) (by simp[Rows.reconPartsRow]) (by simp[Rows.reconPartsRow]);have i:=zD b (by rfl) (by simp[Rows.reconPartsRow]);obtain⟨p,y,r,I,l,x,J,L,M,h,rfl,rfl,w,j,n⟩:=trodAll_three e;subst h;obtain⟨t,u⟩:=CK (a 0 22 p rfl rfl) w;obtain⟨F,h,z,o,E,rfl⟩:=L9 (a 1 26 y rfl rfl) j;obtain⟨K,N,C,v,B,rfl,D,q,s,A⟩:=Ma (a 2 29 r rfl rfl) n;exact Uw W _ _ _ _ _ _ t C v F h z o E B u D q s A i k m c
theorem reconParts_row:Rows.ReconPartsSaid:=
 OpenClaim.holds_of_wide 3 Tryz.f3 rfl rfl rfl rfl rfl rfl rfl ⟨rfl,rfl,rfl,rfl,rfl⟩ rfl rfl rfl rfl rfl (by kernel_rfl) func3 rW
  (of_decide_eq_true (by kernel_rfl)) (by unfold Func.isWrapper;rw[ff (of_decide_eq_false (by kernel_rfl))];exact⟨rfl,rfl⟩)
  (fun c a H b _=>reconParts_lifted c a H b)
theorem reconParts_holds:Rows.ReconPartsCardSaid:=
 Claim7.holds_tied_plain_at .later [] [.data,.data,.data,.sentinel,.sentinel,.data,.data] true Rows.reconPartsCard.stood.harness true
  reconParts_row (fun _ h=>by cases h) zw (fun _ h=>by cases h) reconParts_row_tie rfl ⟨rfl,rfl⟩ abo rfl
  (fun f c b a=>by
   obtain rfl:f=3:=eC ((show prog.funcNamed "breviary/breviarylaw18.ReconParts" =some 3 by kernel_rfl).symm.x b)|>.symm;obtain rfl:c=Tryz.f3:=(eC (func3.symm.x a)).symm;refine⟨abn,fun j t b=>?_⟩;have a:t∈Tryz.f3.params.toList:=Array.mem_toList_iff.2 (Array.mem_of_getElem? b);rw[Tryz.params3]at a;simp at a;rcases a with rfl|rfl|rfl
   ·exact(show prog.wantsStandIn 22=false by kernel_rfl)
   ·exact(show prog.wantsStandIn 26=false by kernel_rfl)
   ·exact(show prog.wantsStandIn 29=false by kernel_rfl))
  zx
#print axioms reconParts_holds
end
end Go.Proofs.YtehccbdajiiaaaaGreatDoor
