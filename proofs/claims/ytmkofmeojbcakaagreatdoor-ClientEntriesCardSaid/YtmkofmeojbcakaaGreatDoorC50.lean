/- Proved: ClientEntries returns true for every input: the bytes in the log for a try are those of the entry that is told ahead over that table; no condition (the listed package variables start as the program's text and Go's library lay them). -/
import Derived.Test.YtmkofmeojbcakaaGreatDoorC49
import Derived.Test.YtmkofmeojbcakaaGreatDoorTie
import Derived.Test.YtmkofmeojbcakaaGreatDoorCards
namespace Go.Proofs.YtmkofmeojbcakaaGreatDoor
open Go.Proofs.Tryz
set_option maxRecDepth 100000
open Go.RowKit
section
open Go.ChangeShapes Go.WideShapes Go.ChangeAt Go.RowKit Go.Deep
theorem clientEntries_lifted(os:Os)(started:os.Started)(H:Type)(enc:TypeId×Value->H):
  ReturnsInHanded {} Tryz.checked os 3 .any (fun w args=>(Rows.clientEntriesSpec.pre enc prog Tryz.f3 [] false w args/\laidMetH prog Rows.clientEntriesRow.laid w)/\sizedMet enc prog Tryz.f3 (OpenSpec.ofChange Rows.clientEntriesSpec) false w args) (Rows.clientEntriesSpec.post enc prog Tryz.f3 false true false false):=by
 refine vv os started H enc 3 Tryz.f3 Rows.clientEntriesSpec Rows.clientEntriesRow.laid (by kernel_rfl) func3 rfl (by kernel_rfl) ?_ ?_
  (ChangeSpec.witness_shaped (enc:=enc) (C:=Tryz.checked) (os:=os) (X:=fun w _=>laidMetH prog Rows.clientEntriesRow.laid w) false (World.doorLaid prog 200 os) #[.slice none 0 0,.agg #[.slice none 0 0,.slice none 0 0,.int .i64 0,.int .i64 0],.agg #[.int .i64 0,.int .i64 0]] 8 rfl (World.shaped_of_RefB (by kernel_rfl) (by kernel_rfl)) (by kernel_rfl) (by kernel_rfl) (by kernel_rfl)
   (laidMetH_of_parts3 (fuel:=8) (laidMet_of_run' 8 (by kernel_rfl) (by kernel_rfl)) (by kernel_rfl) (by kernel_rfl))) ?_
 ·rw[Tryz.params3];intro t ht;simp at ht;rcases ht with rfl|rfl|rfl
  ·exact⟨by kernel_rfl,of_decide_eq_true (by kernel_rfl)⟩
  ·exact⟨by kernel_rfl,of_decide_eq_true (by kernel_rfl)⟩
  ·exact⟨by kernel_rfl,of_decide_eq_true (by kernel_rfl)⟩
 ·intro ds hl;rw[Tryz.params3]at hl
  match ds,hl with
  |[d1,d2,d3],_=>exact⟨rfl,rfl,rfl⟩
 ·intro W base args ds p hL hval hA;rw[Tryz.params3]at hA hval;have ht:=EI hL (by rfl) (by simp[Rows.clientEntriesRow]);have hs:=Hq hL (by rfl) (by simp[Rows.clientEntriesRow]);have he:=CH hL (by rfl) (by simp[Rows.clientEntriesRow]) (by simp[Rows.clientEntriesRow]);have h10:=zB hL (by rfl) (by simp[Rows.clientEntriesRow]);obtain⟨v0,v1,v2,d0,d1,d2,p0,p1,p2,hargs,rfl,rfl,h0,h1,h2⟩:=trodAll_three hA;subst hargs;obtain⟨l0,r0,f0⟩:=Cv (hval 0 22 v0 rfl rfl) h0;obtain⟨u1,y1,s1,z1,m1,k1,rfl,q1,g1⟩:=Mb (hval 1 28 v1 rfl rfl) h1;obtain⟨x0,x1,rfl⟩:=Qj (hval 2 29 v2 rfl rfl) h2;exact Mc W (fun _=>True) v0 u1 s1 l0 y1 z1 m1 k1 x0 x1 r0 f0 q1 g1 hs ht h10 he
theorem clientEntries_row:Rows.ClientEntriesSaid:=
 OpenClaim.holds_of_wide 3 Tryz.f3 rfl rfl rfl rfl rfl rfl rfl ⟨rfl,rfl,rfl,rfl,rfl⟩ rfl rfl rfl rfl rfl (by kernel_rfl) func3 pA
  (of_decide_eq_true (by kernel_rfl)) (by unfold Func.isWrapper;rw[ff (of_decide_eq_false (by kernel_rfl))];exact⟨rfl,rfl⟩)
  (fun os started H enc _=>clientEntries_lifted os started H enc)
theorem clientEntries_holds:Rows.ClientEntriesCardSaid:=
 Claim7.holds_tied_plain_at .later [] [.data,.data,.data,.sentinel,.sentinel,.data,.data] true Rows.clientEntriesCard.stood.harness true
  clientEntries_row (fun _ h=>by cases h) ug (fun _ h=>by cases h) clientEntries_row_tie rfl ⟨rfl,rfl⟩ aam rfl
  (fun f fn hf hfn=>by
   obtain rfl:f=3:=eE ((show prog.funcNamed "breviary/breviarylaw19.ClientEntries" =some 3 by kernel_rfl).symm.x hf)|>.symm;obtain rfl:fn=Tryz.f3:=(eE (func3.symm.x hfn)).symm;refine⟨aal,fun j t ht=>?_⟩;have hm:t∈Tryz.f3.params.toList:=Array.mem_toList_iff.2 (Array.mem_of_getElem? ht);rw[Tryz.params3]at hm;simp at hm;rcases hm with rfl|rfl|rfl
   ·exact(show prog.wantsStandIn 22=false by kernel_rfl)
   ·exact(show prog.wantsStandIn 28=false by kernel_rfl)
   ·exact(show prog.wantsStandIn 29=false by kernel_rfl))
  uh
#print axioms clientEntries_holds
end
end Go.Proofs.YtmkofmeojbcakaaGreatDoor
