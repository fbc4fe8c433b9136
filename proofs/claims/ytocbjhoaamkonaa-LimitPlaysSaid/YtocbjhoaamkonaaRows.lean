/-
  No cell of these rows narrows 'for every input' (looked for: loops, veiled, ifaces, maps, wideKeys, modest, calm, conditions, laid).
  DERIVED. THE GIVEN ROWS OF THIS SEAT. 11 by the template 'for every input the law returns true; each argument reads behind the call as it read before'; 0 by the template 'total and deterministic' (their statements: YtocbjhoaamkonaaTotals.lean).
  GIVEN WITH THE SEED: the statements are not yours to turn. If you find one false, say at which input.
  Laid BY PROGRAM, IN A SANDBOX (cutbox-rows.mjs): the forced cells as the released guide's own fill.sh prints them over the translation 4f300dfe70f6cf4c… (all of the seat's roots in one cut). By AI agents, Wed Nov 11 2026. No macro, syntax, notation, axiom, sorry.
-/
import Derived.Test.YtocbjhoaamkonaaChecked
import GoSem.Claim
import GoSem.ClaimJoined
import GoSem.ClaimMapViews
import Derived.JoinedTies
import Derived.KernelRfl
namespace Go.Proofs.Ytocbjhoaamkonaa
/- THE CELL 'sum', in the pinned program and in every row, IS THE sha256 OF THE DUMP (.gsa) THAT YtocbjhoaamkonaaProg.lean LOADS. Nothing in Lean hashes anything: it is a label: what it is worth is what the hold of that sum in a sandbox is worth. -/
noncomputable def Try.pinned : Pinned := { name := "ytocbjhoaamkonaa", sum := "4f300dfe70f6cf4cb435eb9e43decfee6e8e8be5043e9f503119c144c589f40c", checked := Try.checked }
namespace Rows
def none {H : Type} : Left H := { results := [], args := [] }

/-- 'limelightlaw6.RtcpNumbers': WHATEVER THE INPUT: true; the input reads as it did. -/
def rtcpNumbersSpec : ChangeSpec := { name := "rtcpNumbers", fn := fun _ => fun
  | [] => { results := [.lit (.bool true)], args := [] }
  | _ => none }
def rtcpNumbersRow : OpenClaim := { program := "ytocbjhoaamkonaa", sum := "4f300dfe70f6cf4cb435eb9e43decfee6e8e8be5043e9f503119c144c589f40c", func := "limelight/limelightlaw6.RtcpNumbers", spec := "rtcpNumbers", unfollowed := true, recurses := true, apart := false }
def RtcpNumbersSaid : Prop := rtcpNumbersRow.holds Try.pinned (OpenSpec.ofChange rtcpNumbersSpec)

/-- ITS FALSE NEIGHBOUR: 'it returns false'. Refute it at one input. -/
def rtcpNumbersWrong : ChangeSpec := { name := "rtcpNumbers", fn := fun _ => fun
  | [] => { results := [.lit (.bool false)], args := [] }
  | _ => none }
def RtcpNumbersWrongFalsely : Prop := rtcpNumbersRow.holds Try.pinned (OpenSpec.ofChange rtcpNumbersWrong)

/-- 'limelightlaw6.RtcpTells': WHATEVER THE INPUT: true; the input reads as it did. -/
def rtcpTellsSpec : ChangeSpec := { name := "rtcpTells", fn := fun _ => fun
  | [d1, d2, d3, d4, d5, d6, d7] => { results := [.lit (.bool true)], args := [d1, d2, d3, d4, d5, d6, d7] }
  | _ => none }
def rtcpTellsRow : OpenClaim := { program := "ytocbjhoaamkonaa", sum := "4f300dfe70f6cf4cb435eb9e43decfee6e8e8be5043e9f503119c144c589f40c", func := "limelight/limelightlaw6.RtcpTells", spec := "rtcpTells", unfollowed := true, recurses := true, apart := false }
def RtcpTellsSaid : Prop := rtcpTellsRow.holds Try.pinned (OpenSpec.ofChange rtcpTellsSpec)

/-- ITS FALSE NEIGHBOUR: 'it returns false'. Refute it at one input. -/
def rtcpTellsWrong : ChangeSpec := { name := "rtcpTells", fn := fun _ => fun
  | [d1, d2, d3, d4, d5, d6, d7] => { results := [.lit (.bool false)], args := [d1, d2, d3, d4, d5, d6, d7] }
  | _ => none }
def RtcpTellsWrongFalsely : Prop := rtcpTellsRow.holds Try.pinned (OpenSpec.ofChange rtcpTellsWrong)

/-- 'limelightlaw6.RtcpBack': WHATEVER THE INPUT: true; the input reads as it did. -/
def rtcpBackSpec : ChangeSpec := { name := "rtcpBack", fn := fun _ => fun
  | [d1, d2] => { results := [.lit (.bool true)], args := [d1, d2] }
  | _ => none }
def rtcpBackRow : OpenClaim := { program := "ytocbjhoaamkonaa", sum := "4f300dfe70f6cf4cb435eb9e43decfee6e8e8be5043e9f503119c144c589f40c", func := "limelight/limelightlaw6.RtcpBack", spec := "rtcpBack", unfollowed := true, recurses := true, apart := false }
def RtcpBackSaid : Prop := rtcpBackRow.holds Try.pinned (OpenSpec.ofChange rtcpBackSpec)

/-- ITS FALSE NEIGHBOUR: 'it returns false'. Refute it at one input. -/
def rtcpBackWrong : ChangeSpec := { name := "rtcpBack", fn := fun _ => fun
  | [d1, d2] => { results := [.lit (.bool false)], args := [d1, d2] }
  | _ => none }
def RtcpBackWrongFalsely : Prop := rtcpBackRow.holds Try.pinned (OpenSpec.ofChange rtcpBackWrong)

/-- 'limelightlaw6.RtcpRates': WHATEVER THE INPUT: true; the input reads as it did. -/
def rtcpRatesSpec : ChangeSpec := { name := "rtcpRates", fn := fun _ => fun
  | [d1, d2, d3] => { results := [.lit (.bool true)], args := [d1, d2, d3] }
  | _ => none }
def rtcpRatesRow : OpenClaim := { program := "ytocbjhoaamkonaa", sum := "4f300dfe70f6cf4cb435eb9e43decfee6e8e8be5043e9f503119c144c589f40c", func := "limelight/limelightlaw6.RtcpRates", spec := "rtcpRates", unfollowed := true, recurses := true, apart := false }
def RtcpRatesSaid : Prop := rtcpRatesRow.holds Try.pinned (OpenSpec.ofChange rtcpRatesSpec)

/-- ITS FALSE NEIGHBOUR: 'it returns false'. Refute it at one input. -/
def rtcpRatesWrong : ChangeSpec := { name := "rtcpRates", fn := fun _ => fun
  | [d1, d2, d3] => { results := [.lit (.bool false)], args := [d1, d2, d3] }
  | _ => none }
def RtcpRatesWrongFalsely : Prop := rtcpRatesRow.holds Try.pinned (OpenSpec.ofChange rtcpRatesWrong)

/-- 'limelightlaw6.RtcpApart': WHATEVER THE INPUT: true; the input reads as it did. -/
def rtcpApartSpec : ChangeSpec := { name := "rtcpApart", fn := fun _ => fun
  | [d1, d2] => { results := [.lit (.bool true)], args := [d1, d2] }
  | _ => none }
def rtcpApartRow : OpenClaim := { program := "ytocbjhoaamkonaa", sum := "4f300dfe70f6cf4cb435eb9e43decfee6e8e8be5043e9f503119c144c589f40c", func := "limelight/limelightlaw6.RtcpApart", spec := "rtcpApart", unfollowed := true, recurses := true, apart := false }
def RtcpApartSaid : Prop := rtcpApartRow.holds Try.pinned (OpenSpec.ofChange rtcpApartSpec)

/-- ITS FALSE NEIGHBOUR: 'it returns false'. Refute it at one input. -/
def rtcpApartWrong : ChangeSpec := { name := "rtcpApart", fn := fun _ => fun
  | [d1, d2] => { results := [.lit (.bool false)], args := [d1, d2] }
  | _ => none }
def RtcpApartWrongFalsely : Prop := rtcpApartRow.holds Try.pinned (OpenSpec.ofChange rtcpApartWrong)

/-- 'limelightlaw6.RtcpTuples': WHATEVER THE INPUT: true; the input reads as it did. -/
def rtcpTuplesSpec : ChangeSpec := { name := "rtcpTuples", fn := fun _ => fun
  | [d1, d2, d3] => { results := [.lit (.bool true)], args := [d1, d2, d3] }
  | _ => none }
def rtcpTuplesRow : OpenClaim := { program := "ytocbjhoaamkonaa", sum := "4f300dfe70f6cf4cb435eb9e43decfee6e8e8be5043e9f503119c144c589f40c", func := "limelight/limelightlaw6.RtcpTuples", spec := "rtcpTuples", unfollowed := true, recurses := true, apart := false }
def RtcpTuplesSaid : Prop := rtcpTuplesRow.holds Try.pinned (OpenSpec.ofChange rtcpTuplesSpec)

/-- ITS FALSE NEIGHBOUR: 'it returns false'. Refute it at one input. -/
def rtcpTuplesWrong : ChangeSpec := { name := "rtcpTuples", fn := fun _ => fun
  | [d1, d2, d3] => { results := [.lit (.bool false)], args := [d1, d2, d3] }
  | _ => none }
def RtcpTuplesWrongFalsely : Prop := rtcpTuplesRow.holds Try.pinned (OpenSpec.ofChange rtcpTuplesWrong)

/-- 'limelightlaw14.LimitNumbers': WHATEVER THE INPUT: true; the input reads as it did. -/
def limitNumbersSpec : ChangeSpec := { name := "limitNumbers", fn := fun _ => fun
  | [] => { results := [.lit (.bool true)], args := [] }
  | _ => none }
def limitNumbersRow : OpenClaim := { program := "ytocbjhoaamkonaa", sum := "4f300dfe70f6cf4cb435eb9e43decfee6e8e8be5043e9f503119c144c589f40c", func := "limelight/limelightlaw14.LimitNumbers", spec := "limitNumbers", inPlace := ["slices.overlaps[limelight/api.Tuple]"], unfollowed := true, recurses := true, apart := false }
def LimitNumbersSaid : Prop := limitNumbersRow.holds Try.pinned (OpenSpec.ofChange limitNumbersSpec)

/-- ITS FALSE NEIGHBOUR: 'it returns false'. Refute it at one input. -/
def limitNumbersWrong : ChangeSpec := { name := "limitNumbers", fn := fun _ => fun
  | [] => { results := [.lit (.bool false)], args := [] }
  | _ => none }
def LimitNumbersWrongFalsely : Prop := limitNumbersRow.holds Try.pinned (OpenSpec.ofChange limitNumbersWrong)

/-- 'limelightlaw14.LimitPlays': WHATEVER THE INPUT: true; the input reads as it did. -/
def limitPlaysSpec : ChangeSpec := { name := "limitPlays", fn := fun _ => fun
  | [d1, d2] => { results := [.lit (.bool true)], args := [d1, d2] }
  | _ => none }
def limitPlaysRow : OpenClaim := { program := "ytocbjhoaamkonaa", sum := "4f300dfe70f6cf4cb435eb9e43decfee6e8e8be5043e9f503119c144c589f40c", func := "limelight/limelightlaw14.LimitPlays", spec := "limitPlays", inPlace := ["slices.overlaps[limelight/api.Tuple]"], unfollowed := true, recurses := true, apart := false }
def LimitPlaysSaid : Prop := limitPlaysRow.holds Try.pinned (OpenSpec.ofChange limitPlaysSpec)

/-- ITS FALSE NEIGHBOUR: 'it returns false'. Refute it at one input. -/
def limitPlaysWrong : ChangeSpec := { name := "limitPlays", fn := fun _ => fun
  | [d1, d2] => { results := [.lit (.bool false)], args := [d1, d2] }
  | _ => none }
def LimitPlaysWrongFalsely : Prop := limitPlaysRow.holds Try.pinned (OpenSpec.ofChange limitPlaysWrong)

/-- 'limelightlaw14.LimitLeast': WHATEVER THE INPUT: true; the input reads as it did. -/
def limitLeastSpec : ChangeSpec := { name := "limitLeast", fn := fun _ => fun
  | [d1, d2, d3] => { results := [.lit (.bool true)], args := [d1, d2, d3] }
  | _ => none }
def limitLeastRow : OpenClaim := { program := "ytocbjhoaamkonaa", sum := "4f300dfe70f6cf4cb435eb9e43decfee6e8e8be5043e9f503119c144c589f40c", func := "limelight/limelightlaw14.LimitLeast", spec := "limitLeast", inPlace := ["slices.overlaps[limelight/api.Tuple]"], unfollowed := true, recurses := true, apart := false }
def LimitLeastSaid : Prop := limitLeastRow.holds Try.pinned (OpenSpec.ofChange limitLeastSpec)

/-- ITS FALSE NEIGHBOUR: 'it returns false'. Refute it at one input. -/
def limitLeastWrong : ChangeSpec := { name := "limitLeast", fn := fun _ => fun
  | [d1, d2, d3] => { results := [.lit (.bool false)], args := [d1, d2, d3] }
  | _ => none }
def LimitLeastWrongFalsely : Prop := limitLeastRow.holds Try.pinned (OpenSpec.ofChange limitLeastWrong)

/-- 'limelightlaw14.LimitSet': WHATEVER THE INPUT: true; the input reads as it did. -/
def limitSetSpec : ChangeSpec := { name := "limitSet", fn := fun _ => fun
  | [d] => { results := [.lit (.bool true)], args := [d] }
  | _ => none }
def limitSetRow : OpenClaim := { program := "ytocbjhoaamkonaa", sum := "4f300dfe70f6cf4cb435eb9e43decfee6e8e8be5043e9f503119c144c589f40c", func := "limelight/limelightlaw14.LimitSet", spec := "limitSet", inPlace := ["slices.overlaps[limelight/api.Tuple]"], unfollowed := true, recurses := true, apart := false }
def LimitSetSaid : Prop := limitSetRow.holds Try.pinned (OpenSpec.ofChange limitSetSpec)

/-- ITS FALSE NEIGHBOUR: 'it returns false'. Refute it at one input. -/
def limitSetWrong : ChangeSpec := { name := "limitSet", fn := fun _ => fun
  | [d] => { results := [.lit (.bool false)], args := [d] }
  | _ => none }
def LimitSetWrongFalsely : Prop := limitSetRow.holds Try.pinned (OpenSpec.ofChange limitSetWrong)

/-- 'limelightlaw14.LimitLater': WHATEVER THE INPUT: true; the input reads as it did. -/
def limitLaterSpec : ChangeSpec := { name := "limitLater", fn := fun _ => fun
  | [d1, d2, d3] => { results := [.lit (.bool true)], args := [d1, d2, d3] }
  | _ => none }
def limitLaterRow : OpenClaim := { program := "ytocbjhoaamkonaa", sum := "4f300dfe70f6cf4cb435eb9e43decfee6e8e8be5043e9f503119c144c589f40c", func := "limelight/limelightlaw14.LimitLater", spec := "limitLater", inPlace := ["slices.overlaps[limelight/api.Tuple]"], unfollowed := true, recurses := true, apart := false }
def LimitLaterSaid : Prop := limitLaterRow.holds Try.pinned (OpenSpec.ofChange limitLaterSpec)

/-- ITS FALSE NEIGHBOUR: 'it returns false'. Refute it at one input. -/
def limitLaterWrong : ChangeSpec := { name := "limitLater", fn := fun _ => fun
  | [d1, d2, d3] => { results := [.lit (.bool false)], args := [d1, d2, d3] }
  | _ => none }
def LimitLaterWrongFalsely : Prop := limitLaterRow.holds Try.pinned (OpenSpec.ofChange limitLaterWrong)

/- THE SECOND FORM. 'bulk': how many values and letters a reading holds, each counted each time it is reached (what is shared counts as often as it is met; a slice's spare places count too). A statement '..UptoSaid' is the law's where the arguments, and the package variables that the reading takes, are together of bulk at most 1048576: NARROWER than '..Said'. Prove '..Said' where nothing that the law and all that it calls make is longer than what came in: it says more and counts as full. Else prove '..UptoSaid'. A law counts once. -/
mutual
def uptoBulk {H : Type} : DataW H → Nat
  | .lit (.string bytes) => bytes.length + 1
  | .lit _ => 1
  | .nil => 1
  | .ptr d => uptoBulk d + 1
  | .slice elems spare => uptoBulkAll elems + uptoBulkAll spare + 1
  | .agg parts => uptoBulkAll parts + 1
  | .iface _ d => uptoBulk d + 1
  | .map entries => uptoBulkEntries entries + 1
  | .held _ => 1
def uptoBulkAll {H : Type} : List (DataW H) → Nat
  | [] => 0
  | d :: r => uptoBulk d + uptoBulkAll r
def uptoBulkEntries {H : Type} : List (Lit × DataW H) → Nat
  | [] => 0
  | x :: r => uptoBulkEntry x + uptoBulkEntries r
def uptoBulkEntry {H : Type} : Lit × DataW H → Nat
  | (.string bytes, d) => bytes.length + uptoBulk d + 1
  | (_, d) => uptoBulk d + 1
 end
def uptoSmall : (H : Type) → List (DataW H) → Bool := fun _ ds => decide (uptoBulkAll ds ≤ 1048576)
def OpenSpec.upto (s : _root_.Go.ChangeSpec) : _root_.Go.OpenSpec := { _root_.Go.OpenSpec.ofChange s with cond := some uptoSmall }

/-- 'limelightlaw6.RtcpNumbers', WHERE WHAT IT READS IS OF BULK AT MOST 1048576: true; the input reads as it did. -/
def rtcpNumbersUptoRow : OpenClaim := { program := "ytocbjhoaamkonaa", sum := "4f300dfe70f6cf4cb435eb9e43decfee6e8e8be5043e9f503119c144c589f40c", func := "limelight/limelightlaw6.RtcpNumbers", spec := "rtcpNumbers", unfollowed := true, recurses := true, apart := false, narrowed := true }
def RtcpNumbersUptoSaid : Prop := rtcpNumbersUptoRow.holds Try.pinned (OpenSpec.upto rtcpNumbersSpec)

/-- 'limelightlaw6.RtcpTells', WHERE WHAT IT READS IS OF BULK AT MOST 1048576: true; the input reads as it did. -/
def rtcpTellsUptoRow : OpenClaim := { program := "ytocbjhoaamkonaa", sum := "4f300dfe70f6cf4cb435eb9e43decfee6e8e8be5043e9f503119c144c589f40c", func := "limelight/limelightlaw6.RtcpTells", spec := "rtcpTells", unfollowed := true, recurses := true, apart := false, narrowed := true }
def RtcpTellsUptoSaid : Prop := rtcpTellsUptoRow.holds Try.pinned (OpenSpec.upto rtcpTellsSpec)

/-- 'limelightlaw6.RtcpBack', WHERE WHAT IT READS IS OF BULK AT MOST 1048576: true; the input reads as it did. -/
def rtcpBackUptoRow : OpenClaim := { program := "ytocbjhoaamkonaa", sum := "4f300dfe70f6cf4cb435eb9e43decfee6e8e8be5043e9f503119c144c589f40c", func := "limelight/limelightlaw6.RtcpBack", spec := "rtcpBack", unfollowed := true, recurses := true, apart := false, narrowed := true }
def RtcpBackUptoSaid : Prop := rtcpBackUptoRow.holds Try.pinned (OpenSpec.upto rtcpBackSpec)

/-- 'limelightlaw6.RtcpRates', WHERE WHAT IT READS IS OF BULK AT MOST 1048576: true; the input reads as it did. -/
def rtcpRatesUptoRow : OpenClaim := { program := "ytocbjhoaamkonaa", sum := "4f300dfe70f6cf4cb435eb9e43decfee6e8e8be5043e9f503119c144c589f40c", func := "limelight/limelightlaw6.RtcpRates", spec := "rtcpRates", unfollowed := true, recurses := true, apart := false, narrowed := true }
def RtcpRatesUptoSaid : Prop := rtcpRatesUptoRow.holds Try.pinned (OpenSpec.upto rtcpRatesSpec)

/-- 'limelightlaw6.RtcpApart', WHERE WHAT IT READS IS OF BULK AT MOST 1048576: true; the input reads as it did. -/
def rtcpApartUptoRow : OpenClaim := { program := "ytocbjhoaamkonaa", sum := "4f300dfe70f6cf4cb435eb9e43decfee6e8e8be5043e9f503119c144c589f40c", func := "limelight/limelightlaw6.RtcpApart", spec := "rtcpApart", unfollowed := true, recurses := true, apart := false, narrowed := true }
def RtcpApartUptoSaid : Prop := rtcpApartUptoRow.holds Try.pinned (OpenSpec.upto rtcpApartSpec)

/-- 'limelightlaw6.RtcpTuples', WHERE WHAT IT READS IS OF BULK AT MOST 1048576: true; the input reads as it did. -/
def rtcpTuplesUptoRow : OpenClaim := { program := "ytocbjhoaamkonaa", sum := "4f300dfe70f6cf4cb435eb9e43decfee6e8e8be5043e9f503119c144c589f40c", func := "limelight/limelightlaw6.RtcpTuples", spec := "rtcpTuples", unfollowed := true, recurses := true, apart := false, narrowed := true }
def RtcpTuplesUptoSaid : Prop := rtcpTuplesUptoRow.holds Try.pinned (OpenSpec.upto rtcpTuplesSpec)

/-- 'limelightlaw14.LimitNumbers', WHERE WHAT IT READS IS OF BULK AT MOST 1048576: true; the input reads as it did. -/
def limitNumbersUptoRow : OpenClaim := { program := "ytocbjhoaamkonaa", sum := "4f300dfe70f6cf4cb435eb9e43decfee6e8e8be5043e9f503119c144c589f40c", func := "limelight/limelightlaw14.LimitNumbers", spec := "limitNumbers", inPlace := ["slices.overlaps[limelight/api.Tuple]"], unfollowed := true, recurses := true, apart := false, narrowed := true }
def LimitNumbersUptoSaid : Prop := limitNumbersUptoRow.holds Try.pinned (OpenSpec.upto limitNumbersSpec)

/-- 'limelightlaw14.LimitPlays', WHERE WHAT IT READS IS OF BULK AT MOST 1048576: true; the input reads as it did. -/
def limitPlaysUptoRow : OpenClaim := { program := "ytocbjhoaamkonaa", sum := "4f300dfe70f6cf4cb435eb9e43decfee6e8e8be5043e9f503119c144c589f40c", func := "limelight/limelightlaw14.LimitPlays", spec := "limitPlays", inPlace := ["slices.overlaps[limelight/api.Tuple]"], unfollowed := true, recurses := true, apart := false, narrowed := true }
def LimitPlaysUptoSaid : Prop := limitPlaysUptoRow.holds Try.pinned (OpenSpec.upto limitPlaysSpec)

/-- 'limelightlaw14.LimitLeast', WHERE WHAT IT READS IS OF BULK AT MOST 1048576: true; the input reads as it did. -/
def limitLeastUptoRow : OpenClaim := { program := "ytocbjhoaamkonaa", sum := "4f300dfe70f6cf4cb435eb9e43decfee6e8e8be5043e9f503119c144c589f40c", func := "limelight/limelightlaw14.LimitLeast", spec := "limitLeast", inPlace := ["slices.overlaps[limelight/api.Tuple]"], unfollowed := true, recurses := true, apart := false, narrowed := true }
def LimitLeastUptoSaid : Prop := limitLeastUptoRow.holds Try.pinned (OpenSpec.upto limitLeastSpec)

/-- 'limelightlaw14.LimitSet', WHERE WHAT IT READS IS OF BULK AT MOST 1048576: true; the input reads as it did. -/
def limitSetUptoRow : OpenClaim := { program := "ytocbjhoaamkonaa", sum := "4f300dfe70f6cf4cb435eb9e43decfee6e8e8be5043e9f503119c144c589f40c", func := "limelight/limelightlaw14.LimitSet", spec := "limitSet", inPlace := ["slices.overlaps[limelight/api.Tuple]"], unfollowed := true, recurses := true, apart := false, narrowed := true }
def LimitSetUptoSaid : Prop := limitSetUptoRow.holds Try.pinned (OpenSpec.upto limitSetSpec)

/-- 'limelightlaw14.LimitLater', WHERE WHAT IT READS IS OF BULK AT MOST 1048576: true; the input reads as it did. -/
def limitLaterUptoRow : OpenClaim := { program := "ytocbjhoaamkonaa", sum := "4f300dfe70f6cf4cb435eb9e43decfee6e8e8be5043e9f503119c144c589f40c", func := "limelight/limelightlaw14.LimitLater", spec := "limitLater", inPlace := ["slices.overlaps[limelight/api.Tuple]"], unfollowed := true, recurses := true, apart := false, narrowed := true }
def LimitLaterUptoSaid : Prop := limitLaterUptoRow.holds Try.pinned (OpenSpec.upto limitLaterSpec)

end Rows
end Go.Proofs.Ytocbjhoaamkonaa
