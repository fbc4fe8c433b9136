/-
  No cell of these rows narrows 'for every input' (looked for: loops, veiled, ifaces, maps, wideKeys, modest, calm, conditions, laid).
  DERIVED. THE GIVEN ROWS OF THIS SEAT. 12 by the template 'for every input the law returns true; each argument reads behind the call as it read before'; 0 by the template 'total and deterministic' (their statements: YtigkdihkmihmmaaTotals.lean).
  GIVEN WITH THE SEED: the statements are not yours to turn. If you find one false, say at which input.
  Laid BY PROGRAM, IN A SANDBOX (cutbox-rows.mjs): the forced cells as the released guide's own fill.sh prints them over the translation 8d13c6bbbed151e0… (all of the seat's roots in one cut). By AI agents, Wed Nov 11 2026. No macro, syntax, notation, axiom, sorry.
-/
import Derived.Test.YtigkdihkmihmmaaChecked
import GoSem.Claim
import GoSem.ClaimJoined
import GoSem.ClaimMapViews
import Derived.JoinedTies
import Derived.KernelRfl
namespace Go.Proofs.Ytigkdihkmihmmaa
/- THE CELL 'sum', in the pinned program and in every row, IS THE sha256 OF THE DUMP (.gsa) THAT YtigkdihkmihmmaaProg.lean LOADS. Nothing in Lean hashes anything: it is a label: what it is worth is what the hold of that sum in a sandbox is worth. -/
noncomputable def Try.pinned : Pinned := { name := "ytigkdihkmihmmaa", sum := "8d13c6bbbed151e02309eee6b2ba6fa0b7c06c9b4e852d1d2b70f19bb3cb1ad9", checked := Try.checked }
namespace Rows
def none {H : Type} : Left H := { results := [], args := [] }

/-- 'limelightlaw4.ExtNumbers': WHATEVER THE INPUT: true; the input reads as it did. -/
def extNumbersSpec : ChangeSpec := { name := "extNumbers", fn := fun _ => fun
  | [] => { results := [.lit (.bool true)], args := [] }
  | _ => none }
def extNumbersRow : OpenClaim := { program := "ytigkdihkmihmmaa", sum := "8d13c6bbbed151e02309eee6b2ba6fa0b7c06c9b4e852d1d2b70f19bb3cb1ad9", func := "limelight/limelightlaw4.ExtNumbers", spec := "extNumbers", unfollowed := true, recurses := true, apart := false }
def ExtNumbersSaid : Prop := extNumbersRow.holds Try.pinned (OpenSpec.ofChange extNumbersSpec)

/-- ITS FALSE NEIGHBOUR: 'it returns false'. Refute it at one input. -/
def extNumbersWrong : ChangeSpec := { name := "extNumbers", fn := fun _ => fun
  | [] => { results := [.lit (.bool false)], args := [] }
  | _ => none }
def ExtNumbersWrongFalsely : Prop := extNumbersRow.holds Try.pinned (OpenSpec.ofChange extNumbersWrong)

/-- 'limelightlaw4.ExtTells': WHATEVER THE INPUT: true; the input reads as it did. -/
def extTellsSpec : ChangeSpec := { name := "extTells", fn := fun _ => fun
  | [d1, d2, d3, d4, d5, d6, d7] => { results := [.lit (.bool true)], args := [d1, d2, d3, d4, d5, d6, d7] }
  | _ => none }
def extTellsRow : OpenClaim := { program := "ytigkdihkmihmmaa", sum := "8d13c6bbbed151e02309eee6b2ba6fa0b7c06c9b4e852d1d2b70f19bb3cb1ad9", func := "limelight/limelightlaw4.ExtTells", spec := "extTells", unfollowed := true, recurses := true, apart := false }
def ExtTellsSaid : Prop := extTellsRow.holds Try.pinned (OpenSpec.ofChange extTellsSpec)

/-- ITS FALSE NEIGHBOUR: 'it returns false'. Refute it at one input. -/
def extTellsWrong : ChangeSpec := { name := "extTells", fn := fun _ => fun
  | [d1, d2, d3, d4, d5, d6, d7] => { results := [.lit (.bool false)], args := [d1, d2, d3, d4, d5, d6, d7] }
  | _ => none }
def ExtTellsWrongFalsely : Prop := extTellsRow.holds Try.pinned (OpenSpec.ofChange extTellsWrong)

/-- 'limelightlaw4.ExtBack': WHATEVER THE INPUT: true; the input reads as it did. -/
def extBackSpec : ChangeSpec := { name := "extBack", fn := fun _ => fun
  | [d1, d2, d3] => { results := [.lit (.bool true)], args := [d1, d2, d3] }
  | _ => none }
def extBackRow : OpenClaim := { program := "ytigkdihkmihmmaa", sum := "8d13c6bbbed151e02309eee6b2ba6fa0b7c06c9b4e852d1d2b70f19bb3cb1ad9", func := "limelight/limelightlaw4.ExtBack", spec := "extBack", unfollowed := true, recurses := true, apart := false }
def ExtBackSaid : Prop := extBackRow.holds Try.pinned (OpenSpec.ofChange extBackSpec)

/-- ITS FALSE NEIGHBOUR: 'it returns false'. Refute it at one input. -/
def extBackWrong : ChangeSpec := { name := "extBack", fn := fun _ => fun
  | [d1, d2, d3] => { results := [.lit (.bool false)], args := [d1, d2, d3] }
  | _ => none }
def ExtBackWrongFalsely : Prop := extBackRow.holds Try.pinned (OpenSpec.ofChange extBackWrong)

/-- 'limelightlaw4.ExtPads': WHATEVER THE INPUT: true; the input reads as it did. -/
def extPadsSpec : ChangeSpec := { name := "extPads", fn := fun _ => fun
  | [d1, d2, d3] => { results := [.lit (.bool true)], args := [d1, d2, d3] }
  | _ => none }
def extPadsRow : OpenClaim := { program := "ytigkdihkmihmmaa", sum := "8d13c6bbbed151e02309eee6b2ba6fa0b7c06c9b4e852d1d2b70f19bb3cb1ad9", func := "limelight/limelightlaw4.ExtPads", spec := "extPads", unfollowed := true, recurses := true, apart := false }
def ExtPadsSaid : Prop := extPadsRow.holds Try.pinned (OpenSpec.ofChange extPadsSpec)

/-- ITS FALSE NEIGHBOUR: 'it returns false'. Refute it at one input. -/
def extPadsWrong : ChangeSpec := { name := "extPads", fn := fun _ => fun
  | [d1, d2, d3] => { results := [.lit (.bool false)], args := [d1, d2, d3] }
  | _ => none }
def ExtPadsWrongFalsely : Prop := extPadsRow.holds Try.pinned (OpenSpec.ofChange extPadsWrong)

/-- 'limelightlaw4.ExtRids': WHATEVER THE INPUT: true; the input reads as it did. -/
def extRidsSpec : ChangeSpec := { name := "extRids", fn := fun _ => fun
  | [d1, d2] => { results := [.lit (.bool true)], args := [d1, d2] }
  | _ => none }
def extRidsRow : OpenClaim := { program := "ytigkdihkmihmmaa", sum := "8d13c6bbbed151e02309eee6b2ba6fa0b7c06c9b4e852d1d2b70f19bb3cb1ad9", func := "limelight/limelightlaw4.ExtRids", spec := "extRids", unfollowed := true, recurses := true, apart := false }
def ExtRidsSaid : Prop := extRidsRow.holds Try.pinned (OpenSpec.ofChange extRidsSpec)

/-- ITS FALSE NEIGHBOUR: 'it returns false'. Refute it at one input. -/
def extRidsWrong : ChangeSpec := { name := "extRids", fn := fun _ => fun
  | [d1, d2] => { results := [.lit (.bool false)], args := [d1, d2] }
  | _ => none }
def ExtRidsWrongFalsely : Prop := extRidsRow.holds Try.pinned (OpenSpec.ofChange extRidsWrong)

/-- 'limelightlaw8.CtlBack': WHATEVER THE INPUT: true; the input reads as it did. -/
def ctlBackSpec : ChangeSpec := { name := "ctlBack", fn := fun _ => fun
  | [d1, d2, d3] => { results := [.lit (.bool true)], args := [d1, d2, d3] }
  | _ => none }
def ctlBackRow : OpenClaim := { program := "ytigkdihkmihmmaa", sum := "8d13c6bbbed151e02309eee6b2ba6fa0b7c06c9b4e852d1d2b70f19bb3cb1ad9", func := "limelight/limelightlaw8.CtlBack", spec := "ctlBack", unfollowed := true, recurses := true, apart := false }
def CtlBackSaid : Prop := ctlBackRow.holds Try.pinned (OpenSpec.ofChange ctlBackSpec)

/-- ITS FALSE NEIGHBOUR: 'it returns false'. Refute it at one input. -/
def ctlBackWrong : ChangeSpec := { name := "ctlBack", fn := fun _ => fun
  | [d1, d2, d3] => { results := [.lit (.bool false)], args := [d1, d2, d3] }
  | _ => none }
def CtlBackWrongFalsely : Prop := ctlBackRow.holds Try.pinned (OpenSpec.ofChange ctlBackWrong)

/-- 'limelightlaw8.CtlApart': WHATEVER THE INPUT: true; the input reads as it did. -/
def ctlApartSpec : ChangeSpec := { name := "ctlApart", fn := fun _ => fun
  | [d1, d2] => { results := [.lit (.bool true)], args := [d1, d2] }
  | _ => none }
def ctlApartRow : OpenClaim := { program := "ytigkdihkmihmmaa", sum := "8d13c6bbbed151e02309eee6b2ba6fa0b7c06c9b4e852d1d2b70f19bb3cb1ad9", func := "limelight/limelightlaw8.CtlApart", spec := "ctlApart", unfollowed := true, recurses := true, apart := false }
def CtlApartSaid : Prop := ctlApartRow.holds Try.pinned (OpenSpec.ofChange ctlApartSpec)

/-- ITS FALSE NEIGHBOUR: 'it returns false'. Refute it at one input. -/
def ctlApartWrong : ChangeSpec := { name := "ctlApart", fn := fun _ => fun
  | [d1, d2] => { results := [.lit (.bool false)], args := [d1, d2] }
  | _ => none }
def CtlApartWrongFalsely : Prop := ctlApartRow.holds Try.pinned (OpenSpec.ofChange ctlApartWrong)

/-- 'limelightlaw8.CtlLayers': WHATEVER THE INPUT: true; the input reads as it did. -/
def ctlLayersSpec : ChangeSpec := { name := "ctlLayers", fn := fun _ => fun
  | [d1, d2] => { results := [.lit (.bool true)], args := [d1, d2] }
  | _ => none }
def ctlLayersRow : OpenClaim := { program := "ytigkdihkmihmmaa", sum := "8d13c6bbbed151e02309eee6b2ba6fa0b7c06c9b4e852d1d2b70f19bb3cb1ad9", func := "limelight/limelightlaw8.CtlLayers", spec := "ctlLayers", unfollowed := true, recurses := true, apart := false }
def CtlLayersSaid : Prop := ctlLayersRow.holds Try.pinned (OpenSpec.ofChange ctlLayersSpec)

/-- ITS FALSE NEIGHBOUR: 'it returns false'. Refute it at one input. -/
def ctlLayersWrong : ChangeSpec := { name := "ctlLayers", fn := fun _ => fun
  | [d1, d2] => { results := [.lit (.bool false)], args := [d1, d2] }
  | _ => none }
def CtlLayersWrongFalsely : Prop := ctlLayersRow.holds Try.pinned (OpenSpec.ofChange ctlLayersWrong)

/-- 'limelightlaw8.CtlReads': WHATEVER THE INPUT: true; the input reads as it did. -/
def ctlReadsSpec : ChangeSpec := { name := "ctlReads", fn := fun _ => fun
  | [d1, d2, d3, d4] => { results := [.lit (.bool true)], args := [d1, d2, d3, d4] }
  | _ => none }
def ctlReadsRow : OpenClaim := { program := "ytigkdihkmihmmaa", sum := "8d13c6bbbed151e02309eee6b2ba6fa0b7c06c9b4e852d1d2b70f19bb3cb1ad9", func := "limelight/limelightlaw8.CtlReads", spec := "ctlReads", unfollowed := true, recurses := true, apart := false }
def CtlReadsSaid : Prop := ctlReadsRow.holds Try.pinned (OpenSpec.ofChange ctlReadsSpec)

/-- ITS FALSE NEIGHBOUR: 'it returns false'. Refute it at one input. -/
def ctlReadsWrong : ChangeSpec := { name := "ctlReads", fn := fun _ => fun
  | [d1, d2, d3, d4] => { results := [.lit (.bool false)], args := [d1, d2, d3, d4] }
  | _ => none }
def CtlReadsWrongFalsely : Prop := ctlReadsRow.holds Try.pinned (OpenSpec.ofChange ctlReadsWrong)

/-- 'limelightlaw17.LayerNumbers': WHATEVER THE INPUT: true; the input reads as it did. -/
def layerNumbersSpec : ChangeSpec := { name := "layerNumbers", fn := fun _ => fun
  | [] => { results := [.lit (.bool true)], args := [] }
  | _ => none }
def layerNumbersRow : OpenClaim := { program := "ytigkdihkmihmmaa", sum := "8d13c6bbbed151e02309eee6b2ba6fa0b7c06c9b4e852d1d2b70f19bb3cb1ad9", func := "limelight/limelightlaw17.LayerNumbers", spec := "layerNumbers", unfollowed := true, recurses := true, apart := false }
def LayerNumbersSaid : Prop := layerNumbersRow.holds Try.pinned (OpenSpec.ofChange layerNumbersSpec)

/-- ITS FALSE NEIGHBOUR: 'it returns false'. Refute it at one input. -/
def layerNumbersWrong : ChangeSpec := { name := "layerNumbers", fn := fun _ => fun
  | [] => { results := [.lit (.bool false)], args := [] }
  | _ => none }
def LayerNumbersWrongFalsely : Prop := layerNumbersRow.holds Try.pinned (OpenSpec.ofChange layerNumbersWrong)

/-- 'limelightlaw17.LayerCosts': WHATEVER THE INPUT: true; the input reads as it did. -/
def layerCostsSpec : ChangeSpec := { name := "layerCosts", fn := fun _ => fun
  | [d1, d2, d3] => { results := [.lit (.bool true)], args := [d1, d2, d3] }
  | _ => none }
def layerCostsRow : OpenClaim := { program := "ytigkdihkmihmmaa", sum := "8d13c6bbbed151e02309eee6b2ba6fa0b7c06c9b4e852d1d2b70f19bb3cb1ad9", func := "limelight/limelightlaw17.LayerCosts", spec := "layerCosts", unfollowed := true, recurses := true, apart := false }
def LayerCostsSaid : Prop := layerCostsRow.holds Try.pinned (OpenSpec.ofChange layerCostsSpec)

/-- ITS FALSE NEIGHBOUR: 'it returns false'. Refute it at one input. -/
def layerCostsWrong : ChangeSpec := { name := "layerCosts", fn := fun _ => fun
  | [d1, d2, d3] => { results := [.lit (.bool false)], args := [d1, d2, d3] }
  | _ => none }
def LayerCostsWrongFalsely : Prop := layerCostsRow.holds Try.pinned (OpenSpec.ofChange layerCostsWrong)

/-- 'limelightlaw17.LayerApart': WHATEVER THE INPUT: true; the input reads as it did. -/
def layerApartSpec : ChangeSpec := { name := "layerApart", fn := fun _ => fun
  | [d1, d2] => { results := [.lit (.bool true)], args := [d1, d2] }
  | _ => none }
def layerApartRow : OpenClaim := { program := "ytigkdihkmihmmaa", sum := "8d13c6bbbed151e02309eee6b2ba6fa0b7c06c9b4e852d1d2b70f19bb3cb1ad9", func := "limelight/limelightlaw17.LayerApart", spec := "layerApart", unfollowed := true, recurses := true, apart := false }
def LayerApartSaid : Prop := layerApartRow.holds Try.pinned (OpenSpec.ofChange layerApartSpec)

/-- ITS FALSE NEIGHBOUR: 'it returns false'. Refute it at one input. -/
def layerApartWrong : ChangeSpec := { name := "layerApart", fn := fun _ => fun
  | [d1, d2] => { results := [.lit (.bool false)], args := [d1, d2] }
  | _ => none }
def LayerApartWrongFalsely : Prop := layerApartRow.holds Try.pinned (OpenSpec.ofChange layerApartWrong)

/- THE SECOND FORM. 'bulk': how many values and letters a reading holds, each counted each time it is reached (what is shared counts as often as it is met; a slice's spare places count too). A statement '..UptoSaid' is the law's where the arguments, and the package variables that the reading takes, are together of bulk at most 1048576: NARROWER than '..Said'. Prove '..Said' where nothing that the law and all that it calls make is longer than what came in: it says more and counts as full. Else prove '..UptoSaid'. A law counts once. -/
mutual
def uptoBulk {H : Type} : DataW H → Nat
  | .lit (.string bytes) => bytes.length + 1
  | .lit _ => 1
  | .nil => 1
  | .ptr d => uptoBulk d + 1
  | .slice elems spare => uptoBulkAll elems + uptoBulkAll spare + 1
  | .agg parts => uptoBulkAll parts + 1
  | .iface _ d => uptoBulk d + 1
  | .map entries => uptoBulkEntries entries + 1
  | .held _ => 1
def uptoBulkAll {H : Type} : List (DataW H) → Nat
  | [] => 0
  | d :: r => uptoBulk d + uptoBulkAll r
def uptoBulkEntries {H : Type} : List (Lit × DataW H) → Nat
  | [] => 0
  | x :: r => uptoBulkEntry x + uptoBulkEntries r
def uptoBulkEntry {H : Type} : Lit × DataW H → Nat
  | (.string bytes, d) => bytes.length + uptoBulk d + 1
  | (_, d) => uptoBulk d + 1
 end
def uptoSmall : (H : Type) → List (DataW H) → Bool := fun _ ds => decide (uptoBulkAll ds ≤ 1048576)
def OpenSpec.upto (s : _root_.Go.ChangeSpec) : _root_.Go.OpenSpec := { _root_.Go.OpenSpec.ofChange s with cond := some uptoSmall }

/-- 'limelightlaw4.ExtNumbers', WHERE WHAT IT READS IS OF BULK AT MOST 1048576: true; the input reads as it did. -/
def extNumbersUptoRow : OpenClaim := { program := "ytigkdihkmihmmaa", sum := "8d13c6bbbed151e02309eee6b2ba6fa0b7c06c9b4e852d1d2b70f19bb3cb1ad9", func := "limelight/limelightlaw4.ExtNumbers", spec := "extNumbers", unfollowed := true, recurses := true, apart := false, narrowed := true }
def ExtNumbersUptoSaid : Prop := extNumbersUptoRow.holds Try.pinned (OpenSpec.upto extNumbersSpec)

/-- 'limelightlaw4.ExtTells', WHERE WHAT IT READS IS OF BULK AT MOST 1048576: true; the input reads as it did. -/
def extTellsUptoRow : OpenClaim := { program := "ytigkdihkmihmmaa", sum := "8d13c6bbbed151e02309eee6b2ba6fa0b7c06c9b4e852d1d2b70f19bb3cb1ad9", func := "limelight/limelightlaw4.ExtTells", spec := "extTells", unfollowed := true, recurses := true, apart := false, narrowed := true }
def ExtTellsUptoSaid : Prop := extTellsUptoRow.holds Try.pinned (OpenSpec.upto extTellsSpec)

/-- 'limelightlaw4.ExtBack', WHERE WHAT IT READS IS OF BULK AT MOST 1048576: true; the input reads as it did. -/
def extBackUptoRow : OpenClaim := { program := "ytigkdihkmihmmaa", sum := "8d13c6bbbed151e02309eee6b2ba6fa0b7c06c9b4e852d1d2b70f19bb3cb1ad9", func := "limelight/limelightlaw4.ExtBack", spec := "extBack", unfollowed := true, recurses := true, apart := false, narrowed := true }
def ExtBackUptoSaid : Prop := extBackUptoRow.holds Try.pinned (OpenSpec.upto extBackSpec)

/-- 'limelightlaw4.ExtPads', WHERE WHAT IT READS IS OF BULK AT MOST 1048576: true; the input reads as it did. -/
def extPadsUptoRow : OpenClaim := { program := "ytigkdihkmihmmaa", sum := "8d13c6bbbed151e02309eee6b2ba6fa0b7c06c9b4e852d1d2b70f19bb3cb1ad9", func := "limelight/limelightlaw4.ExtPads", spec := "extPads", unfollowed := true, recurses := true, apart := false, narrowed := true }
def ExtPadsUptoSaid : Prop := extPadsUptoRow.holds Try.pinned (OpenSpec.upto extPadsSpec)

/-- 'limelightlaw4.ExtRids', WHERE WHAT IT READS IS OF BULK AT MOST 1048576: true; the input reads as it did. -/
def extRidsUptoRow : OpenClaim := { program := "ytigkdihkmihmmaa", sum := "8d13c6bbbed151e02309eee6b2ba6fa0b7c06c9b4e852d1d2b70f19bb3cb1ad9", func := "limelight/limelightlaw4.ExtRids", spec := "extRids", unfollowed := true, recurses := true, apart := false, narrowed := true }
def ExtRidsUptoSaid : Prop := extRidsUptoRow.holds Try.pinned (OpenSpec.upto extRidsSpec)

/-- 'limelightlaw8.CtlBack', WHERE WHAT IT READS IS OF BULK AT MOST 1048576: true; the input reads as it did. -/
def ctlBackUptoRow : OpenClaim := { program := "ytigkdihkmihmmaa", sum := "8d13c6bbbed151e02309eee6b2ba6fa0b7c06c9b4e852d1d2b70f19bb3cb1ad9", func := "limelight/limelightlaw8.CtlBack", spec := "ctlBack", unfollowed := true, recurses := true, apart := false, narrowed := true }
def CtlBackUptoSaid : Prop := ctlBackUptoRow.holds Try.pinned (OpenSpec.upto ctlBackSpec)

/-- 'limelightlaw8.CtlApart', WHERE WHAT IT READS IS OF BULK AT MOST 1048576: true; the input reads as it did. -/
def ctlApartUptoRow : OpenClaim := { program := "ytigkdihkmihmmaa", sum := "8d13c6bbbed151e02309eee6b2ba6fa0b7c06c9b4e852d1d2b70f19bb3cb1ad9", func := "limelight/limelightlaw8.CtlApart", spec := "ctlApart", unfollowed := true, recurses := true, apart := false, narrowed := true }
def CtlApartUptoSaid : Prop := ctlApartUptoRow.holds Try.pinned (OpenSpec.upto ctlApartSpec)

/-- 'limelightlaw8.CtlLayers', WHERE WHAT IT READS IS OF BULK AT MOST 1048576: true; the input reads as it did. -/
def ctlLayersUptoRow : OpenClaim := { program := "ytigkdihkmihmmaa", sum := "8d13c6bbbed151e02309eee6b2ba6fa0b7c06c9b4e852d1d2b70f19bb3cb1ad9", func := "limelight/limelightlaw8.CtlLayers", spec := "ctlLayers", unfollowed := true, recurses := true, apart := false, narrowed := true }
def CtlLayersUptoSaid : Prop := ctlLayersUptoRow.holds Try.pinned (OpenSpec.upto ctlLayersSpec)

/-- 'limelightlaw8.CtlReads', WHERE WHAT IT READS IS OF BULK AT MOST 1048576: true; the input reads as it did. -/
def ctlReadsUptoRow : OpenClaim := { program := "ytigkdihkmihmmaa", sum := "8d13c6bbbed151e02309eee6b2ba6fa0b7c06c9b4e852d1d2b70f19bb3cb1ad9", func := "limelight/limelightlaw8.CtlReads", spec := "ctlReads", unfollowed := true, recurses := true, apart := false, narrowed := true }
def CtlReadsUptoSaid : Prop := ctlReadsUptoRow.holds Try.pinned (OpenSpec.upto ctlReadsSpec)

/-- 'limelightlaw17.LayerNumbers', WHERE WHAT IT READS IS OF BULK AT MOST 1048576: true; the input reads as it did. -/
def layerNumbersUptoRow : OpenClaim := { program := "ytigkdihkmihmmaa", sum := "8d13c6bbbed151e02309eee6b2ba6fa0b7c06c9b4e852d1d2b70f19bb3cb1ad9", func := "limelight/limelightlaw17.LayerNumbers", spec := "layerNumbers", unfollowed := true, recurses := true, apart := false, narrowed := true }
def LayerNumbersUptoSaid : Prop := layerNumbersUptoRow.holds Try.pinned (OpenSpec.upto layerNumbersSpec)

/-- 'limelightlaw17.LayerCosts', WHERE WHAT IT READS IS OF BULK AT MOST 1048576: true; the input reads as it did. -/
def layerCostsUptoRow : OpenClaim := { program := "ytigkdihkmihmmaa", sum := "8d13c6bbbed151e02309eee6b2ba6fa0b7c06c9b4e852d1d2b70f19bb3cb1ad9", func := "limelight/limelightlaw17.LayerCosts", spec := "layerCosts", unfollowed := true, recurses := true, apart := false, narrowed := true }
def LayerCostsUptoSaid : Prop := layerCostsUptoRow.holds Try.pinned (OpenSpec.upto layerCostsSpec)

/-- 'limelightlaw17.LayerApart', WHERE WHAT IT READS IS OF BULK AT MOST 1048576: true; the input reads as it did. -/
def layerApartUptoRow : OpenClaim := { program := "ytigkdihkmihmmaa", sum := "8d13c6bbbed151e02309eee6b2ba6fa0b7c06c9b4e852d1d2b70f19bb3cb1ad9", func := "limelight/limelightlaw17.LayerApart", spec := "layerApart", unfollowed := true, recurses := true, apart := false, narrowed := true }
def LayerApartUptoSaid : Prop := layerApartUptoRow.holds Try.pinned (OpenSpec.upto layerApartSpec)

end Rows
end Go.Proofs.Ytigkdihkmihmmaa
