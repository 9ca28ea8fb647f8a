/-
  No cell of these rows narrows 'for every input' (looked for: loops, veiled, ifaces, maps, wideKeys, modest, calm, conditions, laid).
  DERIVED. THE GIVEN ROWS OF THIS SEAT. 14 by the template 'for every input the law returns true; each argument reads behind the call as it read before'; 0 by the template 'total and deterministic' (their statements: YtdmpdlpfanfjoaaTotals.lean).
  GIVEN WITH THE SEED: the statements are not yours to turn. If you find one false, say at which input.
  Laid BY PROGRAM, IN A SANDBOX (cutbox-rows.mjs): the forced cells as the released guide's own fill.sh prints them over the translation 4a61c51198c22a71… (all of the seat's roots in one cut). By AI agents, Wed Nov 11 2026. No macro, syntax, notation, axiom, sorry.
-/
import Derived.Test.YtdmpdlpfanfjoaaChecked
import GoSem.Claim
import GoSem.ClaimJoined
import GoSem.ClaimMapViews
import Derived.JoinedTies
import Derived.KernelRfl
namespace Go.Proofs.Ytdmpdlpfanfjoaa
/- THE CELL 'sum', in the pinned program and in every row, IS THE sha256 OF THE DUMP (.gsa) THAT YtdmpdlpfanfjoaaProg.lean LOADS. Nothing in Lean hashes anything: it is a label: what it is worth is what the hold of that sum in a sandbox is worth. -/
noncomputable def Try.pinned : Pinned := { name := "ytdmpdlpfanfjoaa", sum := "4a61c51198c22a718a92834df4e815ac0fd4ee9ddfde472172e3082c56e8eb5c", checked := Try.checked }
namespace Rows
def none {H : Type} : Left H := { results := [], args := [] }

/-- 'breviarylaw09.FootNew': WHATEVER THE INPUT: true; the input reads as it did. -/
def footNewSpec : ChangeSpec := { name := "footNew", fn := fun _ => fun
  | [d] => { results := [.lit (.bool true)], args := [d] }
  | _ => none }
def footNewRow : OpenClaim := { program := "ytdmpdlpfanfjoaa", sum := "4a61c51198c22a718a92834df4e815ac0fd4ee9ddfde472172e3082c56e8eb5c", func := "breviary/breviarylaw09.FootNew", spec := "footNew", unfollowed := true, recurses := true, plainKeys := false, apart := false }
def FootNewSaid : Prop := footNewRow.holds Try.pinned (OpenSpec.ofChange footNewSpec)

/-- ITS FALSE NEIGHBOUR: 'it returns false'. Refute it at one input. -/
def footNewWrong : ChangeSpec := { name := "footNew", fn := fun _ => fun
  | [d] => { results := [.lit (.bool false)], args := [d] }
  | _ => none }
def FootNewWrongFalsely : Prop := footNewRow.holds Try.pinned (OpenSpec.ofChange footNewWrong)

/-- 'breviarylaw09.FootParts': WHATEVER THE INPUT: true; the input reads as it did. -/
def footPartsSpec : ChangeSpec := { name := "footParts", fn := fun _ => fun
  | [d1, d2] => { results := [.lit (.bool true)], args := [d1, d2] }
  | _ => none }
def footPartsRow : OpenClaim := { program := "ytdmpdlpfanfjoaa", sum := "4a61c51198c22a718a92834df4e815ac0fd4ee9ddfde472172e3082c56e8eb5c", func := "breviary/breviarylaw09.FootParts", spec := "footParts", unfollowed := true, recurses := true, plainKeys := false, apart := false }
def FootPartsSaid : Prop := footPartsRow.holds Try.pinned (OpenSpec.ofChange footPartsSpec)

/-- ITS FALSE NEIGHBOUR: 'it returns false'. Refute it at one input. -/
def footPartsWrong : ChangeSpec := { name := "footParts", fn := fun _ => fun
  | [d1, d2] => { results := [.lit (.bool false)], args := [d1, d2] }
  | _ => none }
def FootPartsWrongFalsely : Prop := footPartsRow.holds Try.pinned (OpenSpec.ofChange footPartsWrong)

/-- 'breviarylaw09.FootThings': WHATEVER THE INPUT: true; the input reads as it did. -/
def footThingsSpec : ChangeSpec := { name := "footThings", fn := fun _ => fun
  | [d1, d2] => { results := [.lit (.bool true)], args := [d1, d2] }
  | _ => none }
def footThingsRow : OpenClaim := { program := "ytdmpdlpfanfjoaa", sum := "4a61c51198c22a718a92834df4e815ac0fd4ee9ddfde472172e3082c56e8eb5c", func := "breviary/breviarylaw09.FootThings", spec := "footThings", unfollowed := true, recurses := true, plainKeys := false, apart := false }
def FootThingsSaid : Prop := footThingsRow.holds Try.pinned (OpenSpec.ofChange footThingsSpec)

/-- ITS FALSE NEIGHBOUR: 'it returns false'. Refute it at one input. -/
def footThingsWrong : ChangeSpec := { name := "footThings", fn := fun _ => fun
  | [d1, d2] => { results := [.lit (.bool false)], args := [d1, d2] }
  | _ => none }
def FootThingsWrongFalsely : Prop := footThingsRow.holds Try.pinned (OpenSpec.ofChange footThingsWrong)

/-- 'breviarylaw09.FootHolds': WHATEVER THE INPUT: true; the input reads as it did. -/
def footHoldsSpec : ChangeSpec := { name := "footHolds", fn := fun _ => fun
  | [d1, d2] => { results := [.lit (.bool true)], args := [d1, d2] }
  | _ => none }
def footHoldsRow : OpenClaim := { program := "ytdmpdlpfanfjoaa", sum := "4a61c51198c22a718a92834df4e815ac0fd4ee9ddfde472172e3082c56e8eb5c", func := "breviary/breviarylaw09.FootHolds", spec := "footHolds", unfollowed := true, recurses := true, plainKeys := false, apart := false }
def FootHoldsSaid : Prop := footHoldsRow.holds Try.pinned (OpenSpec.ofChange footHoldsSpec)

/-- ITS FALSE NEIGHBOUR: 'it returns false'. Refute it at one input. -/
def footHoldsWrong : ChangeSpec := { name := "footHolds", fn := fun _ => fun
  | [d1, d2] => { results := [.lit (.bool false)], args := [d1, d2] }
  | _ => none }
def FootHoldsWrongFalsely : Prop := footHoldsRow.holds Try.pinned (OpenSpec.ofChange footHoldsWrong)

/-- 'breviarylaw09.FootForm': WHATEVER THE INPUT: true; the input reads as it did. -/
def footFormSpec : ChangeSpec := { name := "footForm", fn := fun _ => fun
  | [d1, d2] => { results := [.lit (.bool true)], args := [d1, d2] }
  | _ => none }
def footFormRow : OpenClaim := { program := "ytdmpdlpfanfjoaa", sum := "4a61c51198c22a718a92834df4e815ac0fd4ee9ddfde472172e3082c56e8eb5c", func := "breviary/breviarylaw09.FootForm", spec := "footForm", unfollowed := true, recurses := true, plainKeys := false, apart := false }
def FootFormSaid : Prop := footFormRow.holds Try.pinned (OpenSpec.ofChange footFormSpec)

/-- ITS FALSE NEIGHBOUR: 'it returns false'. Refute it at one input. -/
def footFormWrong : ChangeSpec := { name := "footForm", fn := fun _ => fun
  | [d1, d2] => { results := [.lit (.bool false)], args := [d1, d2] }
  | _ => none }
def FootFormWrongFalsely : Prop := footFormRow.holds Try.pinned (OpenSpec.ofChange footFormWrong)

/-- 'breviarylaw09.FootJoins': WHATEVER THE INPUT: true; the input reads as it did. -/
def footJoinsSpec : ChangeSpec := { name := "footJoins", fn := fun _ => fun
  | [d1, d2, d3] => { results := [.lit (.bool true)], args := [d1, d2, d3] }
  | _ => none }
def footJoinsRow : OpenClaim := { program := "ytdmpdlpfanfjoaa", sum := "4a61c51198c22a718a92834df4e815ac0fd4ee9ddfde472172e3082c56e8eb5c", func := "breviary/breviarylaw09.FootJoins", spec := "footJoins", unfollowed := true, recurses := true, plainKeys := false, apart := false }
def FootJoinsSaid : Prop := footJoinsRow.holds Try.pinned (OpenSpec.ofChange footJoinsSpec)

/-- ITS FALSE NEIGHBOUR: 'it returns false'. Refute it at one input. -/
def footJoinsWrong : ChangeSpec := { name := "footJoins", fn := fun _ => fun
  | [d1, d2, d3] => { results := [.lit (.bool false)], args := [d1, d2, d3] }
  | _ => none }
def FootJoinsWrongFalsely : Prop := footJoinsRow.holds Try.pinned (OpenSpec.ofChange footJoinsWrong)

/-- 'breviarylaw09.FootNone': WHATEVER THE INPUT: true; the input reads as it did. -/
def footNoneSpec : ChangeSpec := { name := "footNone", fn := fun _ => fun
  | [d] => { results := [.lit (.bool true)], args := [d] }
  | _ => none }
def footNoneRow : OpenClaim := { program := "ytdmpdlpfanfjoaa", sum := "4a61c51198c22a718a92834df4e815ac0fd4ee9ddfde472172e3082c56e8eb5c", func := "breviary/breviarylaw09.FootNone", spec := "footNone", unfollowed := true, recurses := true, plainKeys := false, apart := false }
def FootNoneSaid : Prop := footNoneRow.holds Try.pinned (OpenSpec.ofChange footNoneSpec)

/-- ITS FALSE NEIGHBOUR: 'it returns false'. Refute it at one input. -/
def footNoneWrong : ChangeSpec := { name := "footNone", fn := fun _ => fun
  | [d] => { results := [.lit (.bool false)], args := [d] }
  | _ => none }
def FootNoneWrongFalsely : Prop := footNoneRow.holds Try.pinned (OpenSpec.ofChange footNoneWrong)

/-- 'breviarylaw10.LocksGo': WHATEVER THE INPUT: true; the input reads as it did. -/
def locksGoSpec : ChangeSpec := { name := "locksGo", fn := fun _ => fun
  | [d1, d2] => { results := [.lit (.bool true)], args := [d1, d2] }
  | _ => none }
def locksGoRow : OpenClaim := { program := "ytdmpdlpfanfjoaa", sum := "4a61c51198c22a718a92834df4e815ac0fd4ee9ddfde472172e3082c56e8eb5c", func := "breviary/breviarylaw10.LocksGo", spec := "locksGo", unfollowed := true, recurses := true, plainKeys := false, apart := false }
def LocksGoSaid : Prop := locksGoRow.holds Try.pinned (OpenSpec.ofChange locksGoSpec)

/-- ITS FALSE NEIGHBOUR: 'it returns false'. Refute it at one input. -/
def locksGoWrong : ChangeSpec := { name := "locksGo", fn := fun _ => fun
  | [d1, d2] => { results := [.lit (.bool false)], args := [d1, d2] }
  | _ => none }
def LocksGoWrongFalsely : Prop := locksGoRow.holds Try.pinned (OpenSpec.ofChange locksGoWrong)

/-- 'breviarylaw10.LocksFirst': WHATEVER THE INPUT: true; the input reads as it did. -/
def locksFirstSpec : ChangeSpec := { name := "locksFirst", fn := fun _ => fun
  | [d1, d2] => { results := [.lit (.bool true)], args := [d1, d2] }
  | _ => none }
def locksFirstRow : OpenClaim := { program := "ytdmpdlpfanfjoaa", sum := "4a61c51198c22a718a92834df4e815ac0fd4ee9ddfde472172e3082c56e8eb5c", func := "breviary/breviarylaw10.LocksFirst", spec := "locksFirst", unfollowed := true, recurses := true, plainKeys := false, apart := false }
def LocksFirstSaid : Prop := locksFirstRow.holds Try.pinned (OpenSpec.ofChange locksFirstSpec)

/-- ITS FALSE NEIGHBOUR: 'it returns false'. Refute it at one input. -/
def locksFirstWrong : ChangeSpec := { name := "locksFirst", fn := fun _ => fun
  | [d1, d2] => { results := [.lit (.bool false)], args := [d1, d2] }
  | _ => none }
def LocksFirstWrongFalsely : Prop := locksFirstRow.holds Try.pinned (OpenSpec.ofChange locksFirstWrong)

/-- 'breviarylaw10.LocksApart': WHATEVER THE INPUT: true; the input reads as it did. -/
def locksApartSpec : ChangeSpec := { name := "locksApart", fn := fun _ => fun
  | [d1, d2, d3] => { results := [.lit (.bool true)], args := [d1, d2, d3] }
  | _ => none }
def locksApartRow : OpenClaim := { program := "ytdmpdlpfanfjoaa", sum := "4a61c51198c22a718a92834df4e815ac0fd4ee9ddfde472172e3082c56e8eb5c", func := "breviary/breviarylaw10.LocksApart", spec := "locksApart", unfollowed := true, recurses := true, plainKeys := false, apart := false }
def LocksApartSaid : Prop := locksApartRow.holds Try.pinned (OpenSpec.ofChange locksApartSpec)

/-- ITS FALSE NEIGHBOUR: 'it returns false'. Refute it at one input. -/
def locksApartWrong : ChangeSpec := { name := "locksApart", fn := fun _ => fun
  | [d1, d2, d3] => { results := [.lit (.bool false)], args := [d1, d2, d3] }
  | _ => none }
def LocksApartWrongFalsely : Prop := locksApartRow.holds Try.pinned (OpenSpec.ofChange locksApartWrong)

/-- 'breviarylaw10.LocksReads': WHATEVER THE INPUT: true; the input reads as it did. -/
def locksReadsSpec : ChangeSpec := { name := "locksReads", fn := fun _ => fun
  | [d1, d2] => { results := [.lit (.bool true)], args := [d1, d2] }
  | _ => none }
def locksReadsRow : OpenClaim := { program := "ytdmpdlpfanfjoaa", sum := "4a61c51198c22a718a92834df4e815ac0fd4ee9ddfde472172e3082c56e8eb5c", func := "breviary/breviarylaw10.LocksReads", spec := "locksReads", unfollowed := true, recurses := true, plainKeys := false, apart := false }
def LocksReadsSaid : Prop := locksReadsRow.holds Try.pinned (OpenSpec.ofChange locksReadsSpec)

/-- ITS FALSE NEIGHBOUR: 'it returns false'. Refute it at one input. -/
def locksReadsWrong : ChangeSpec := { name := "locksReads", fn := fun _ => fun
  | [d1, d2] => { results := [.lit (.bool false)], args := [d1, d2] }
  | _ => none }
def LocksReadsWrongFalsely : Prop := locksReadsRow.holds Try.pinned (OpenSpec.ofChange locksReadsWrong)

/-- 'breviarylaw10.LocksNil': WHATEVER THE INPUT: true; the input reads as it did. -/
def locksNilSpec : ChangeSpec := { name := "locksNil", fn := fun _ => fun
  | [d] => { results := [.lit (.bool true)], args := [d] }
  | _ => none }
def locksNilRow : OpenClaim := { program := "ytdmpdlpfanfjoaa", sum := "4a61c51198c22a718a92834df4e815ac0fd4ee9ddfde472172e3082c56e8eb5c", func := "breviary/breviarylaw10.LocksNil", spec := "locksNil", unfollowed := true, recurses := true, plainKeys := false, apart := false }
def LocksNilSaid : Prop := locksNilRow.holds Try.pinned (OpenSpec.ofChange locksNilSpec)

/-- ITS FALSE NEIGHBOUR: 'it returns false'. Refute it at one input. -/
def locksNilWrong : ChangeSpec := { name := "locksNil", fn := fun _ => fun
  | [d] => { results := [.lit (.bool false)], args := [d] }
  | _ => none }
def LocksNilWrongFalsely : Prop := locksNilRow.holds Try.pinned (OpenSpec.ofChange locksNilWrong)

/-- 'breviarylaw10.LocksLast': WHATEVER THE INPUT: true; the input reads as it did. -/
def locksLastSpec : ChangeSpec := { name := "locksLast", fn := fun _ => fun
  | [d] => { results := [.lit (.bool true)], args := [d] }
  | _ => none }
def locksLastRow : OpenClaim := { program := "ytdmpdlpfanfjoaa", sum := "4a61c51198c22a718a92834df4e815ac0fd4ee9ddfde472172e3082c56e8eb5c", func := "breviary/breviarylaw10.LocksLast", spec := "locksLast", unfollowed := true, recurses := true, plainKeys := false, apart := false }
def LocksLastSaid : Prop := locksLastRow.holds Try.pinned (OpenSpec.ofChange locksLastSpec)

/-- ITS FALSE NEIGHBOUR: 'it returns false'. Refute it at one input. -/
def locksLastWrong : ChangeSpec := { name := "locksLast", fn := fun _ => fun
  | [d] => { results := [.lit (.bool false)], args := [d] }
  | _ => none }
def LocksLastWrongFalsely : Prop := locksLastRow.holds Try.pinned (OpenSpec.ofChange locksLastWrong)

/-- 'breviarylaw10.LocksPlay': WHATEVER THE INPUT: true; the input reads as it did. -/
def locksPlaySpec : ChangeSpec := { name := "locksPlay", fn := fun _ => fun
  | [d] => { results := [.lit (.bool true)], args := [d] }
  | _ => none }
def locksPlayRow : OpenClaim := { program := "ytdmpdlpfanfjoaa", sum := "4a61c51198c22a718a92834df4e815ac0fd4ee9ddfde472172e3082c56e8eb5c", func := "breviary/breviarylaw10.LocksPlay", spec := "locksPlay", unfollowed := true, recurses := true, plainKeys := false, apart := false }
def LocksPlaySaid : Prop := locksPlayRow.holds Try.pinned (OpenSpec.ofChange locksPlaySpec)

/-- ITS FALSE NEIGHBOUR: 'it returns false'. Refute it at one input. -/
def locksPlayWrong : ChangeSpec := { name := "locksPlay", fn := fun _ => fun
  | [d] => { results := [.lit (.bool false)], args := [d] }
  | _ => none }
def LocksPlayWrongFalsely : Prop := locksPlayRow.holds Try.pinned (OpenSpec.ofChange locksPlayWrong)

/- THE SECOND FORM. 'bulk': how many values and letters a reading holds, each counted each time it is reached (what is shared counts as often as it is met; a slice's spare places count too). A statement '..UptoSaid' is the law's where the arguments, and the package variables that the reading takes, are together of bulk at most 1048576: NARROWER than '..Said'. Prove '..Said' where nothing that the law and all that it calls make is longer than what came in: it says more and counts as full. Else prove '..UptoSaid'. A law counts once. -/
mutual
def uptoBulk {H : Type} : DataW H → Nat
  | .lit (.string bytes) => bytes.length + 1
  | .lit _ => 1
  | .nil => 1
  | .ptr d => uptoBulk d + 1
  | .slice elems spare => uptoBulkAll elems + uptoBulkAll spare + 1
  | .agg parts => uptoBulkAll parts + 1
  | .iface _ d => uptoBulk d + 1
  | .map entries => uptoBulkEntries entries + 1
  | .held _ => 1
def uptoBulkAll {H : Type} : List (DataW H) → Nat
  | [] => 0
  | d :: r => uptoBulk d + uptoBulkAll r
def uptoBulkEntries {H : Type} : List (Lit × DataW H) → Nat
  | [] => 0
  | x :: r => uptoBulkEntry x + uptoBulkEntries r
def uptoBulkEntry {H : Type} : Lit × DataW H → Nat
  | (.string bytes, d) => bytes.length + uptoBulk d + 1
  | (_, d) => uptoBulk d + 1
 end
def uptoSmall : (H : Type) → List (DataW H) → Bool := fun _ ds => decide (uptoBulkAll ds ≤ 1048576)
def OpenSpec.upto (s : _root_.Go.ChangeSpec) : _root_.Go.OpenSpec := { _root_.Go.OpenSpec.ofChange s with cond := some uptoSmall }

/-- 'breviarylaw09.FootNew', WHERE WHAT IT READS IS OF BULK AT MOST 1048576: true; the input reads as it did. -/
def footNewUptoRow : OpenClaim := { program := "ytdmpdlpfanfjoaa", sum := "4a61c51198c22a718a92834df4e815ac0fd4ee9ddfde472172e3082c56e8eb5c", func := "breviary/breviarylaw09.FootNew", spec := "footNew", unfollowed := true, recurses := true, plainKeys := false, apart := false, narrowed := true }
def FootNewUptoSaid : Prop := footNewUptoRow.holds Try.pinned (OpenSpec.upto footNewSpec)

/-- 'breviarylaw09.FootParts', WHERE WHAT IT READS IS OF BULK AT MOST 1048576: true; the input reads as it did. -/
def footPartsUptoRow : OpenClaim := { program := "ytdmpdlpfanfjoaa", sum := "4a61c51198c22a718a92834df4e815ac0fd4ee9ddfde472172e3082c56e8eb5c", func := "breviary/breviarylaw09.FootParts", spec := "footParts", unfollowed := true, recurses := true, plainKeys := false, apart := false, narrowed := true }
def FootPartsUptoSaid : Prop := footPartsUptoRow.holds Try.pinned (OpenSpec.upto footPartsSpec)

/-- 'breviarylaw09.FootThings', WHERE WHAT IT READS IS OF BULK AT MOST 1048576: true; the input reads as it did. -/
def footThingsUptoRow : OpenClaim := { program := "ytdmpdlpfanfjoaa", sum := "4a61c51198c22a718a92834df4e815ac0fd4ee9ddfde472172e3082c56e8eb5c", func := "breviary/breviarylaw09.FootThings", spec := "footThings", unfollowed := true, recurses := true, plainKeys := false, apart := false, narrowed := true }
def FootThingsUptoSaid : Prop := footThingsUptoRow.holds Try.pinned (OpenSpec.upto footThingsSpec)

/-- 'breviarylaw09.FootHolds', WHERE WHAT IT READS IS OF BULK AT MOST 1048576: true; the input reads as it did. -/
def footHoldsUptoRow : OpenClaim := { program := "ytdmpdlpfanfjoaa", sum := "4a61c51198c22a718a92834df4e815ac0fd4ee9ddfde472172e3082c56e8eb5c", func := "breviary/breviarylaw09.FootHolds", spec := "footHolds", unfollowed := true, recurses := true, plainKeys := false, apart := false, narrowed := true }
def FootHoldsUptoSaid : Prop := footHoldsUptoRow.holds Try.pinned (OpenSpec.upto footHoldsSpec)

/-- 'breviarylaw09.FootForm', WHERE WHAT IT READS IS OF BULK AT MOST 1048576: true; the input reads as it did. -/
def footFormUptoRow : OpenClaim := { program := "ytdmpdlpfanfjoaa", sum := "4a61c51198c22a718a92834df4e815ac0fd4ee9ddfde472172e3082c56e8eb5c", func := "breviary/breviarylaw09.FootForm", spec := "footForm", unfollowed := true, recurses := true, plainKeys := false, apart := false, narrowed := true }
def FootFormUptoSaid : Prop := footFormUptoRow.holds Try.pinned (OpenSpec.upto footFormSpec)

/-- 'breviarylaw09.FootJoins', WHERE WHAT IT READS IS OF BULK AT MOST 1048576: true; the input reads as it did. -/
def footJoinsUptoRow : OpenClaim := { program := "ytdmpdlpfanfjoaa", sum := "4a61c51198c22a718a92834df4e815ac0fd4ee9ddfde472172e3082c56e8eb5c", func := "breviary/breviarylaw09.FootJoins", spec := "footJoins", unfollowed := true, recurses := true, plainKeys := false, apart := false, narrowed := true }
def FootJoinsUptoSaid : Prop := footJoinsUptoRow.holds Try.pinned (OpenSpec.upto footJoinsSpec)

/-- 'breviarylaw09.FootNone', WHERE WHAT IT READS IS OF BULK AT MOST 1048576: true; the input reads as it did. -/
def footNoneUptoRow : OpenClaim := { program := "ytdmpdlpfanfjoaa", sum := "4a61c51198c22a718a92834df4e815ac0fd4ee9ddfde472172e3082c56e8eb5c", func := "breviary/breviarylaw09.FootNone", spec := "footNone", unfollowed := true, recurses := true, plainKeys := false, apart := false, narrowed := true }
def FootNoneUptoSaid : Prop := footNoneUptoRow.holds Try.pinned (OpenSpec.upto footNoneSpec)

/-- 'breviarylaw10.LocksGo', WHERE WHAT IT READS IS OF BULK AT MOST 1048576: true; the input reads as it did. -/
def locksGoUptoRow : OpenClaim := { program := "ytdmpdlpfanfjoaa", sum := "4a61c51198c22a718a92834df4e815ac0fd4ee9ddfde472172e3082c56e8eb5c", func := "breviary/breviarylaw10.LocksGo", spec := "locksGo", unfollowed := true, recurses := true, plainKeys := false, apart := false, narrowed := true }
def LocksGoUptoSaid : Prop := locksGoUptoRow.holds Try.pinned (OpenSpec.upto locksGoSpec)

/-- 'breviarylaw10.LocksFirst', WHERE WHAT IT READS IS OF BULK AT MOST 1048576: true; the input reads as it did. -/
def locksFirstUptoRow : OpenClaim := { program := "ytdmpdlpfanfjoaa", sum := "4a61c51198c22a718a92834df4e815ac0fd4ee9ddfde472172e3082c56e8eb5c", func := "breviary/breviarylaw10.LocksFirst", spec := "locksFirst", unfollowed := true, recurses := true, plainKeys := false, apart := false, narrowed := true }
def LocksFirstUptoSaid : Prop := locksFirstUptoRow.holds Try.pinned (OpenSpec.upto locksFirstSpec)

/-- 'breviarylaw10.LocksApart', WHERE WHAT IT READS IS OF BULK AT MOST 1048576: true; the input reads as it did. -/
def locksApartUptoRow : OpenClaim := { program := "ytdmpdlpfanfjoaa", sum := "4a61c51198c22a718a92834df4e815ac0fd4ee9ddfde472172e3082c56e8eb5c", func := "breviary/breviarylaw10.LocksApart", spec := "locksApart", unfollowed := true, recurses := true, plainKeys := false, apart := false, narrowed := true }
def LocksApartUptoSaid : Prop := locksApartUptoRow.holds Try.pinned (OpenSpec.upto locksApartSpec)

/-- 'breviarylaw10.LocksReads', WHERE WHAT IT READS IS OF BULK AT MOST 1048576: true; the input reads as it did. -/
def locksReadsUptoRow : OpenClaim := { program := "ytdmpdlpfanfjoaa", sum := "4a61c51198c22a718a92834df4e815ac0fd4ee9ddfde472172e3082c56e8eb5c", func := "breviary/breviarylaw10.LocksReads", spec := "locksReads", unfollowed := true, recurses := true, plainKeys := false, apart := false, narrowed := true }
def LocksReadsUptoSaid : Prop := locksReadsUptoRow.holds Try.pinned (OpenSpec.upto locksReadsSpec)

/-- 'breviarylaw10.LocksNil', WHERE WHAT IT READS IS OF BULK AT MOST 1048576: true; the input reads as it did. -/
def locksNilUptoRow : OpenClaim := { program := "ytdmpdlpfanfjoaa", sum := "4a61c51198c22a718a92834df4e815ac0fd4ee9ddfde472172e3082c56e8eb5c", func := "breviary/breviarylaw10.LocksNil", spec := "locksNil", unfollowed := true, recurses := true, plainKeys := false, apart := false, narrowed := true }
def LocksNilUptoSaid : Prop := locksNilUptoRow.holds Try.pinned (OpenSpec.upto locksNilSpec)

/-- 'breviarylaw10.LocksLast', WHERE WHAT IT READS IS OF BULK AT MOST 1048576: true; the input reads as it did. -/
def locksLastUptoRow : OpenClaim := { program := "ytdmpdlpfanfjoaa", sum := "4a61c51198c22a718a92834df4e815ac0fd4ee9ddfde472172e3082c56e8eb5c", func := "breviary/breviarylaw10.LocksLast", spec := "locksLast", unfollowed := true, recurses := true, plainKeys := false, apart := false, narrowed := true }
def LocksLastUptoSaid : Prop := locksLastUptoRow.holds Try.pinned (OpenSpec.upto locksLastSpec)

/-- 'breviarylaw10.LocksPlay', WHERE WHAT IT READS IS OF BULK AT MOST 1048576: true; the input reads as it did. -/
def locksPlayUptoRow : OpenClaim := { program := "ytdmpdlpfanfjoaa", sum := "4a61c51198c22a718a92834df4e815ac0fd4ee9ddfde472172e3082c56e8eb5c", func := "breviary/breviarylaw10.LocksPlay", spec := "locksPlay", unfollowed := true, recurses := true, plainKeys := false, apart := false, narrowed := true }
def LocksPlayUptoSaid : Prop := locksPlayUptoRow.holds Try.pinned (OpenSpec.upto locksPlaySpec)

end Rows
end Go.Proofs.Ytdmpdlpfanfjoaa
