/-
  NARROWER THAN 'FOR EVERY INPUT', by the rows' own cells (each row's printed sentence says how): FrameWrites: laid · FrameTurned: laid · FrameReads: laid · FrameBack: laid · FrameSame: laid · LogHolds: laid · LogNil: laid.
  DERIVED. THE GIVEN ROWS OF THIS SEAT. 7 by the template 'for every input the law returns true; each argument reads behind the call as it read before'; 0 by the template 'total and deterministic' (their statements: YtihjcfifakcpgaaGreatDoorTotals.lean).
  GIVEN WITH THE SEED: the statements are not yours to turn. If you find one false, say at which input.
  Laid BY PROGRAM, IN A SANDBOX (cutbox-rows.mjs): the forced cells as the released guide's own fill.sh prints them over the translation d20574d495e0b873… (all of the seat's roots in one cut). By AI agents, Wed Nov 11 2026. No macro, syntax, notation, axiom, sorry.
-/
import Derived.Test.YtihjcfifakcpgaaGreatDoorChecked
import GoSem.Claim
import GoSem.ClaimJoined
import GoSem.ClaimMapViews
import Derived.JoinedTies
import Derived.KernelRfl
namespace Go.Proofs.YtihjcfifakcpgaaGreatDoor
/- THE CELL 'sum', in the pinned program and in every row, IS THE sha256 OF THE DUMP (.gsa) THAT YtihjcfifakcpgaaGreatDoorProg.lean LOADS. Nothing in Lean hashes anything: it is a label: what it is worth is what the hold of that sum in a sandbox is worth. -/
noncomputable def Tryz.pinned : Pinned := { name := "ytihjcfifakcpgaagreatdoor", sum := "d20574d495e0b873601bacca61f2379b6d4dee2a49c315c8d3fe6b664b365e19", checked := Tryz.checked }
namespace Rows
def none {H : Type} : Left H := { results := [], args := [] }

/- WHAT THE LISTED PACKAGE-LEVEL VARIABLES READ AS WHEN THE CALL BEGINS. Each datum BY PROGRAM (the guide's laid-datum.mjs) off the statement by which the dump's own 'gosem.cut.vars' lays the variable. In a bare row this is a premise. The card (YtihjcfifakcpgaaGreatDoorCards.lean) ties it to the program's text. -/
def laid_breviary_sum_nibbles {H : Type} : DataW H := .agg [.lit (.int .u32 0), .lit (.int .u32 498536548), .lit (.int .u32 997073096), .lit (.int .u32 651767980), .lit (.int .u32 1994146192), .lit (.int .u32 1802195444), .lit (.int .u32 1303535960), .lit (.int .u32 1342533948), .lit (.int .u32 3988292384), .lit (.int .u32 4027552580), .lit (.int .u32 3604390888), .lit (.int .u32 3412177804), .lit (.int .u32 2607071920), .lit (.int .u32 2262029012), .lit (.int .u32 2685067896), .lit (.int .u32 3183342108)]
def laid_breviary_proc_shapes {H : Type} : DataW H := .agg [.agg [.lit (.string []), .lit (.string [])], .agg [.lit (.string [115, 101, 116]), .lit (.string [65, 67])], .agg [.lit (.string [99, 111, 112, 121]), .lit (.string [65, 66])], .agg [.lit (.string [97, 100, 100]), .lit (.string [65, 66])], .agg [.lit (.string [115, 117, 98]), .lit (.string [65, 66])], .agg [.lit (.string [109, 117, 108]), .lit (.string [65, 66])], .agg [.lit (.string [108, 101, 115, 115]), .lit (.string [65, 66])], .agg [.lit (.string [104, 97, 115]), .lit (.string [65, 66])], .agg [.lit (.string [103, 101, 116]), .lit (.string [65, 66, 67])], .agg [.lit (.string [112, 117, 116]), .lit (.string [65, 66])], .agg [.lit (.string [100, 101, 108, 101, 116, 101]), .lit (.string [66])], .agg [.lit (.string [102, 105, 110, 100]), .lit (.string [65, 66, 67])], .agg [.lit (.string [99, 111, 117, 110, 116]), .lit (.string [65, 66, 67, 78])], .agg [.lit (.string [105, 102]), .lit (.string [65, 78])], .agg [.lit (.string [108, 111, 111, 112]), .lit (.string [67, 78])], .agg [.lit (.string [97, 98, 111, 114, 116]), .lit (.string [65])]]

/-- 'breviarylaw13.FrameWrites': WHATEVER THE INPUT: true; the input reads as it did. -/
def frameWritesSpec : ChangeSpec := { name := "frameWrites", fn := fun _ => fun
  | [d] => { results := [.lit (.bool true)], args := [d] }
  | _ => none }
def frameWritesRow : OpenClaim := { program := "ytihjcfifakcpgaagreatdoor", sum := "d20574d495e0b873601bacca61f2379b6d4dee2a49c315c8d3fe6b664b365e19", func := "breviary/breviarylaw13.FrameWrites", spec := "frameWrites", inPlace := ["internal/bytealg.IndexByteString", "internal/bytealg.IndexString"], unfollowed := true, recurses := true, named := ["breviary/proc.shapes", "breviary/sum.nibbles", "internal/bytealg.MaxLen"], plainKeys := false, apart := false, laid := [("breviary/sum.nibbles", laid_breviary_sum_nibbles), ("breviary/proc.shapes", laid_breviary_proc_shapes)] }
def FrameWritesSaid : Prop := frameWritesRow.holds Tryz.pinned (OpenSpec.ofChange frameWritesSpec)

/-- ITS FALSE NEIGHBOUR: 'it returns false'. Refute it at one input. -/
def frameWritesWrong : ChangeSpec := { name := "frameWrites", fn := fun _ => fun
  | [d] => { results := [.lit (.bool false)], args := [d] }
  | _ => none }
def FrameWritesWrongFalsely : Prop := frameWritesRow.holds Tryz.pinned (OpenSpec.ofChange frameWritesWrong)

/-- 'breviarylaw13.FrameTurned': WHATEVER THE INPUT: true; the input reads as it did. -/
def frameTurnedSpec : ChangeSpec := { name := "frameTurned", fn := fun _ => fun
  | [d1, d2, d3] => { results := [.lit (.bool true)], args := [d1, d2, d3] }
  | _ => none }
def frameTurnedRow : OpenClaim := { program := "ytihjcfifakcpgaagreatdoor", sum := "d20574d495e0b873601bacca61f2379b6d4dee2a49c315c8d3fe6b664b365e19", func := "breviary/breviarylaw13.FrameTurned", spec := "frameTurned", inPlace := ["internal/bytealg.IndexByteString", "internal/bytealg.IndexString"], unfollowed := true, recurses := true, named := ["breviary/proc.shapes", "breviary/sum.nibbles", "internal/bytealg.MaxLen"], plainKeys := false, apart := false, laid := [("breviary/sum.nibbles", laid_breviary_sum_nibbles), ("breviary/proc.shapes", laid_breviary_proc_shapes)] }
def FrameTurnedSaid : Prop := frameTurnedRow.holds Tryz.pinned (OpenSpec.ofChange frameTurnedSpec)

/-- ITS FALSE NEIGHBOUR: 'it returns false'. Refute it at one input. -/
def frameTurnedWrong : ChangeSpec := { name := "frameTurned", fn := fun _ => fun
  | [d1, d2, d3] => { results := [.lit (.bool false)], args := [d1, d2, d3] }
  | _ => none }
def FrameTurnedWrongFalsely : Prop := frameTurnedRow.holds Tryz.pinned (OpenSpec.ofChange frameTurnedWrong)

/-- 'breviarylaw13.FrameReads': WHATEVER THE INPUT: true; the input reads as it did. -/
def frameReadsSpec : ChangeSpec := { name := "frameReads", fn := fun _ => fun
  | [d1, d2] => { results := [.lit (.bool true)], args := [d1, d2] }
  | _ => none }
def frameReadsRow : OpenClaim := { program := "ytihjcfifakcpgaagreatdoor", sum := "d20574d495e0b873601bacca61f2379b6d4dee2a49c315c8d3fe6b664b365e19", func := "breviary/breviarylaw13.FrameReads", spec := "frameReads", inPlace := ["internal/bytealg.IndexByteString", "internal/bytealg.IndexString"], unfollowed := true, recurses := true, named := ["breviary/proc.shapes", "breviary/sum.nibbles", "internal/bytealg.MaxLen"], plainKeys := false, apart := false, laid := [("breviary/sum.nibbles", laid_breviary_sum_nibbles), ("breviary/proc.shapes", laid_breviary_proc_shapes)] }
def FrameReadsSaid : Prop := frameReadsRow.holds Tryz.pinned (OpenSpec.ofChange frameReadsSpec)

/-- ITS FALSE NEIGHBOUR: 'it returns false'. Refute it at one input. -/
def frameReadsWrong : ChangeSpec := { name := "frameReads", fn := fun _ => fun
  | [d1, d2] => { results := [.lit (.bool false)], args := [d1, d2] }
  | _ => none }
def FrameReadsWrongFalsely : Prop := frameReadsRow.holds Tryz.pinned (OpenSpec.ofChange frameReadsWrong)

/-- 'breviarylaw13.FrameBack': WHATEVER THE INPUT: true; the input reads as it did. -/
def frameBackSpec : ChangeSpec := { name := "frameBack", fn := fun _ => fun
  | [d1, d2] => { results := [.lit (.bool true)], args := [d1, d2] }
  | _ => none }
def frameBackRow : OpenClaim := { program := "ytihjcfifakcpgaagreatdoor", sum := "d20574d495e0b873601bacca61f2379b6d4dee2a49c315c8d3fe6b664b365e19", func := "breviary/breviarylaw13.FrameBack", spec := "frameBack", inPlace := ["internal/bytealg.IndexByteString", "internal/bytealg.IndexString"], unfollowed := true, recurses := true, named := ["breviary/proc.shapes", "breviary/sum.nibbles", "internal/bytealg.MaxLen"], plainKeys := false, apart := false, laid := [("breviary/sum.nibbles", laid_breviary_sum_nibbles), ("breviary/proc.shapes", laid_breviary_proc_shapes)] }
def FrameBackSaid : Prop := frameBackRow.holds Tryz.pinned (OpenSpec.ofChange frameBackSpec)

/-- ITS FALSE NEIGHBOUR: 'it returns false'. Refute it at one input. -/
def frameBackWrong : ChangeSpec := { name := "frameBack", fn := fun _ => fun
  | [d1, d2] => { results := [.lit (.bool false)], args := [d1, d2] }
  | _ => none }
def FrameBackWrongFalsely : Prop := frameBackRow.holds Tryz.pinned (OpenSpec.ofChange frameBackWrong)

/-- 'breviarylaw13.FrameSame': WHATEVER THE INPUT: true; the input reads as it did. -/
def frameSameSpec : ChangeSpec := { name := "frameSame", fn := fun _ => fun
  | [d1, d2] => { results := [.lit (.bool true)], args := [d1, d2] }
  | _ => none }
def frameSameRow : OpenClaim := { program := "ytihjcfifakcpgaagreatdoor", sum := "d20574d495e0b873601bacca61f2379b6d4dee2a49c315c8d3fe6b664b365e19", func := "breviary/breviarylaw13.FrameSame", spec := "frameSame", inPlace := ["internal/bytealg.IndexByteString", "internal/bytealg.IndexString"], unfollowed := true, recurses := true, named := ["breviary/proc.shapes", "breviary/sum.nibbles", "internal/bytealg.MaxLen"], plainKeys := false, apart := false, laid := [("breviary/sum.nibbles", laid_breviary_sum_nibbles), ("breviary/proc.shapes", laid_breviary_proc_shapes)] }
def FrameSameSaid : Prop := frameSameRow.holds Tryz.pinned (OpenSpec.ofChange frameSameSpec)

/-- ITS FALSE NEIGHBOUR: 'it returns false'. Refute it at one input. -/
def frameSameWrong : ChangeSpec := { name := "frameSame", fn := fun _ => fun
  | [d1, d2] => { results := [.lit (.bool false)], args := [d1, d2] }
  | _ => none }
def FrameSameWrongFalsely : Prop := frameSameRow.holds Tryz.pinned (OpenSpec.ofChange frameSameWrong)

/-- 'breviarylaw14.LogHolds': WHATEVER THE INPUT: true; the input reads as it did. -/
def logHoldsSpec : ChangeSpec := { name := "logHolds", fn := fun _ => fun
  | [d] => { results := [.lit (.bool true)], args := [d] }
  | _ => none }
def logHoldsRow : OpenClaim := { program := "ytihjcfifakcpgaagreatdoor", sum := "d20574d495e0b873601bacca61f2379b6d4dee2a49c315c8d3fe6b664b365e19", func := "breviary/breviarylaw14.LogHolds", spec := "logHolds", inPlace := ["internal/bytealg.IndexByteString", "internal/bytealg.IndexString"], unfollowed := true, recurses := true, named := ["breviary/sum.nibbles", "breviary/proc.shapes", "internal/bytealg.MaxLen"], plainKeys := false, apart := false, laid := [("breviary/sum.nibbles", laid_breviary_sum_nibbles), ("breviary/proc.shapes", laid_breviary_proc_shapes)] }
def LogHoldsSaid : Prop := logHoldsRow.holds Tryz.pinned (OpenSpec.ofChange logHoldsSpec)

/-- ITS FALSE NEIGHBOUR: 'it returns false'. Refute it at one input. -/
def logHoldsWrong : ChangeSpec := { name := "logHolds", fn := fun _ => fun
  | [d] => { results := [.lit (.bool false)], args := [d] }
  | _ => none }
def LogHoldsWrongFalsely : Prop := logHoldsRow.holds Tryz.pinned (OpenSpec.ofChange logHoldsWrong)

/-- 'breviarylaw14.LogNil': WHATEVER THE INPUT: true; the input reads as it did. -/
def logNilSpec : ChangeSpec := { name := "logNil", fn := fun _ => fun
  | [d1, d2] => { results := [.lit (.bool true)], args := [d1, d2] }
  | _ => none }
def logNilRow : OpenClaim := { program := "ytihjcfifakcpgaagreatdoor", sum := "d20574d495e0b873601bacca61f2379b6d4dee2a49c315c8d3fe6b664b365e19", func := "breviary/breviarylaw14.LogNil", spec := "logNil", inPlace := ["internal/bytealg.IndexByteString", "internal/bytealg.IndexString"], unfollowed := true, recurses := true, named := ["breviary/sum.nibbles", "breviary/proc.shapes", "internal/bytealg.MaxLen"], plainKeys := false, apart := false, laid := [("breviary/sum.nibbles", laid_breviary_sum_nibbles), ("breviary/proc.shapes", laid_breviary_proc_shapes)] }
def LogNilSaid : Prop := logNilRow.holds Tryz.pinned (OpenSpec.ofChange logNilSpec)

/-- ITS FALSE NEIGHBOUR: 'it returns false'. Refute it at one input. -/
def logNilWrong : ChangeSpec := { name := "logNil", fn := fun _ => fun
  | [d1, d2] => { results := [.lit (.bool false)], args := [d1, d2] }
  | _ => none }
def LogNilWrongFalsely : Prop := logNilRow.holds Tryz.pinned (OpenSpec.ofChange logNilWrong)

/- THE SECOND FORM. 'bulk': how many values and letters a reading holds, each counted each time it is reached (what is shared counts as often as it is met; a slice's spare places count too). A statement '..UptoSaid' is the law's where the arguments, and the package variables that the reading takes, are together of bulk at most 1048576: NARROWER than '..Said'. Prove '..Said' where nothing that the law and all that it calls make is longer than what came in: it says more and counts as full. Else prove '..UptoSaid'. A law counts once. -/
mutual
def uptoBulk {H : Type} : DataW H → Nat
  | .lit (.string bytes) => bytes.length + 1
  | .lit _ => 1
  | .nil => 1
  | .ptr d => uptoBulk d + 1
  | .slice elems spare => uptoBulkAll elems + uptoBulkAll spare + 1
  | .agg parts => uptoBulkAll parts + 1
  | .iface _ d => uptoBulk d + 1
  | .map entries => uptoBulkEntries entries + 1
  | .held _ => 1
def uptoBulkAll {H : Type} : List (DataW H) → Nat
  | [] => 0
  | d :: r => uptoBulk d + uptoBulkAll r
def uptoBulkEntries {H : Type} : List (Lit × DataW H) → Nat
  | [] => 0
  | x :: r => uptoBulkEntry x + uptoBulkEntries r
def uptoBulkEntry {H : Type} : Lit × DataW H → Nat
  | (.string bytes, d) => bytes.length + uptoBulk d + 1
  | (_, d) => uptoBulk d + 1
 end
def uptoSmall : (H : Type) → List (DataW H) → Bool := fun _ ds => decide (uptoBulkAll ds ≤ 1048576)
def OpenSpec.upto (s : _root_.Go.ChangeSpec) : _root_.Go.OpenSpec := { _root_.Go.OpenSpec.ofChange s with cond := some uptoSmall }

/-- 'breviarylaw13.FrameWrites', WHERE WHAT IT READS IS OF BULK AT MOST 1048576: true; the input reads as it did. -/
def frameWritesUptoRow : OpenClaim := { program := "ytihjcfifakcpgaagreatdoor", sum := "d20574d495e0b873601bacca61f2379b6d4dee2a49c315c8d3fe6b664b365e19", func := "breviary/breviarylaw13.FrameWrites", spec := "frameWrites", inPlace := ["internal/bytealg.IndexByteString", "internal/bytealg.IndexString"], unfollowed := true, recurses := true, named := ["breviary/proc.shapes", "breviary/sum.nibbles", "internal/bytealg.MaxLen"], plainKeys := false, apart := false, laid := [("breviary/sum.nibbles", laid_breviary_sum_nibbles), ("breviary/proc.shapes", laid_breviary_proc_shapes)], narrowed := true }
def FrameWritesUptoSaid : Prop := frameWritesUptoRow.holds Tryz.pinned (OpenSpec.upto frameWritesSpec)

/-- 'breviarylaw13.FrameTurned', WHERE WHAT IT READS IS OF BULK AT MOST 1048576: true; the input reads as it did. -/
def frameTurnedUptoRow : OpenClaim := { program := "ytihjcfifakcpgaagreatdoor", sum := "d20574d495e0b873601bacca61f2379b6d4dee2a49c315c8d3fe6b664b365e19", func := "breviary/breviarylaw13.FrameTurned", spec := "frameTurned", inPlace := ["internal/bytealg.IndexByteString", "internal/bytealg.IndexString"], unfollowed := true, recurses := true, named := ["breviary/proc.shapes", "breviary/sum.nibbles", "internal/bytealg.MaxLen"], plainKeys := false, apart := false, laid := [("breviary/sum.nibbles", laid_breviary_sum_nibbles), ("breviary/proc.shapes", laid_breviary_proc_shapes)], narrowed := true }
def FrameTurnedUptoSaid : Prop := frameTurnedUptoRow.holds Tryz.pinned (OpenSpec.upto frameTurnedSpec)

/-- 'breviarylaw13.FrameReads', WHERE WHAT IT READS IS OF BULK AT MOST 1048576: true; the input reads as it did. -/
def frameReadsUptoRow : OpenClaim := { program := "ytihjcfifakcpgaagreatdoor", sum := "d20574d495e0b873601bacca61f2379b6d4dee2a49c315c8d3fe6b664b365e19", func := "breviary/breviarylaw13.FrameReads", spec := "frameReads", inPlace := ["internal/bytealg.IndexByteString", "internal/bytealg.IndexString"], unfollowed := true, recurses := true, named := ["breviary/proc.shapes", "breviary/sum.nibbles", "internal/bytealg.MaxLen"], plainKeys := false, apart := false, laid := [("breviary/sum.nibbles", laid_breviary_sum_nibbles), ("breviary/proc.shapes", laid_breviary_proc_shapes)], narrowed := true }
def FrameReadsUptoSaid : Prop := frameReadsUptoRow.holds Tryz.pinned (OpenSpec.upto frameReadsSpec)

/-- 'breviarylaw13.FrameBack', WHERE WHAT IT READS IS OF BULK AT MOST 1048576: true; the input reads as it did. -/
def frameBackUptoRow : OpenClaim := { program := "ytihjcfifakcpgaagreatdoor", sum := "d20574d495e0b873601bacca61f2379b6d4dee2a49c315c8d3fe6b664b365e19", func := "breviary/breviarylaw13.FrameBack", spec := "frameBack", inPlace := ["internal/bytealg.IndexByteString", "internal/bytealg.IndexString"], unfollowed := true, recurses := true, named := ["breviary/proc.shapes", "breviary/sum.nibbles", "internal/bytealg.MaxLen"], plainKeys := false, apart := false, laid := [("breviary/sum.nibbles", laid_breviary_sum_nibbles), ("breviary/proc.shapes", laid_breviary_proc_shapes)], narrowed := true }
def FrameBackUptoSaid : Prop := frameBackUptoRow.holds Tryz.pinned (OpenSpec.upto frameBackSpec)

/-- 'breviarylaw13.FrameSame', WHERE WHAT IT READS IS OF BULK AT MOST 1048576: true; the input reads as it did. -/
def frameSameUptoRow : OpenClaim := { program := "ytihjcfifakcpgaagreatdoor", sum := "d20574d495e0b873601bacca61f2379b6d4dee2a49c315c8d3fe6b664b365e19", func := "breviary/breviarylaw13.FrameSame", spec := "frameSame", inPlace := ["internal/bytealg.IndexByteString", "internal/bytealg.IndexString"], unfollowed := true, recurses := true, named := ["breviary/proc.shapes", "breviary/sum.nibbles", "internal/bytealg.MaxLen"], plainKeys := false, apart := false, laid := [("breviary/sum.nibbles", laid_breviary_sum_nibbles), ("breviary/proc.shapes", laid_breviary_proc_shapes)], narrowed := true }
def FrameSameUptoSaid : Prop := frameSameUptoRow.holds Tryz.pinned (OpenSpec.upto frameSameSpec)

/-- 'breviarylaw14.LogHolds', WHERE WHAT IT READS IS OF BULK AT MOST 1048576: true; the input reads as it did. -/
def logHoldsUptoRow : OpenClaim := { program := "ytihjcfifakcpgaagreatdoor", sum := "d20574d495e0b873601bacca61f2379b6d4dee2a49c315c8d3fe6b664b365e19", func := "breviary/breviarylaw14.LogHolds", spec := "logHolds", inPlace := ["internal/bytealg.IndexByteString", "internal/bytealg.IndexString"], unfollowed := true, recurses := true, named := ["breviary/sum.nibbles", "breviary/proc.shapes", "internal/bytealg.MaxLen"], plainKeys := false, apart := false, laid := [("breviary/sum.nibbles", laid_breviary_sum_nibbles), ("breviary/proc.shapes", laid_breviary_proc_shapes)], narrowed := true }
def LogHoldsUptoSaid : Prop := logHoldsUptoRow.holds Tryz.pinned (OpenSpec.upto logHoldsSpec)

/-- 'breviarylaw14.LogNil', WHERE WHAT IT READS IS OF BULK AT MOST 1048576: true; the input reads as it did. -/
def logNilUptoRow : OpenClaim := { program := "ytihjcfifakcpgaagreatdoor", sum := "d20574d495e0b873601bacca61f2379b6d4dee2a49c315c8d3fe6b664b365e19", func := "breviary/breviarylaw14.LogNil", spec := "logNil", inPlace := ["internal/bytealg.IndexByteString", "internal/bytealg.IndexString"], unfollowed := true, recurses := true, named := ["breviary/sum.nibbles", "breviary/proc.shapes", "internal/bytealg.MaxLen"], plainKeys := false, apart := false, laid := [("breviary/sum.nibbles", laid_breviary_sum_nibbles), ("breviary/proc.shapes", laid_breviary_proc_shapes)], narrowed := true }
def LogNilUptoSaid : Prop := logNilUptoRow.holds Tryz.pinned (OpenSpec.upto logNilSpec)

end Rows
end Go.Proofs.YtihjcfifakcpgaaGreatDoor
