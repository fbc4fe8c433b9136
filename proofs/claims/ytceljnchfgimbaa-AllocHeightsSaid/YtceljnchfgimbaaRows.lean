/-
  No cell of these rows narrows 'for every input' (looked for: loops, veiled, ifaces, maps, wideKeys, modest, calm, conditions, laid).
  DERIVED. THE GIVEN ROWS OF THIS SEAT. 10 by the template 'for every input the law returns true; each argument reads behind the call as it read before'; 0 by the template 'total and deterministic' (their statements: YtceljnchfgimbaaTotals.lean).
  GIVEN WITH THE SEED: the statements are not yours to turn. If you find one false, say at which input.
  Laid BY PROGRAM, IN A SANDBOX (cutbox-rows.mjs): the forced cells as the released guide's own fill.sh prints them over the translation 0315318efc652c3c… (all of the seat's roots in one cut). By AI agents, Wed Nov 11 2026. No macro, syntax, notation, axiom, sorry.
-/
import Derived.Test.YtceljnchfgimbaaChecked
import GoSem.Claim
import GoSem.ClaimJoined
import GoSem.ClaimMapViews
import Derived.JoinedTies
import Derived.KernelRfl
namespace Go.Proofs.Ytceljnchfgimbaa
/- THE CELL 'sum', in the pinned program and in every row, IS THE sha256 OF THE DUMP (.gsa) THAT YtceljnchfgimbaaProg.lean LOADS. Nothing in Lean hashes anything: it is a label: what it is worth is what the hold of that sum in a sandbox is worth. -/
noncomputable def Try.pinned : Pinned := { name := "ytceljnchfgimbaa", sum := "0315318efc652c3c552c71e97f46fe7a75998a54fb6b7a5569e600b22c27161c", checked := Try.checked }
namespace Rows
def none {H : Type} : Left H := { results := [], args := [] }

/-- 'limelightlaw12.AlarmOrder': WHATEVER THE INPUT: true; the input reads as it did. -/
def alarmOrderSpec : ChangeSpec := { name := "alarmOrder", fn := fun _ => fun
  | [d1, d2] => { results := [.lit (.bool true)], args := [d1, d2] }
  | _ => none }
def alarmOrderRow : OpenClaim := { program := "ytceljnchfgimbaa", sum := "0315318efc652c3c552c71e97f46fe7a75998a54fb6b7a5569e600b22c27161c", func := "limelight/limelightlaw12.AlarmOrder", spec := "alarmOrder", unfollowed := true, recurses := true, apart := false }
def AlarmOrderSaid : Prop := alarmOrderRow.holds Try.pinned (OpenSpec.ofChange alarmOrderSpec)

/-- ITS FALSE NEIGHBOUR: 'it returns false'. Refute it at one input. -/
def alarmOrderWrong : ChangeSpec := { name := "alarmOrder", fn := fun _ => fun
  | [d1, d2] => { results := [.lit (.bool false)], args := [d1, d2] }
  | _ => none }
def AlarmOrderWrongFalsely : Prop := alarmOrderRow.holds Try.pinned (OpenSpec.ofChange alarmOrderWrong)

/-- 'limelightlaw12.AlarmNumbers': WHATEVER THE INPUT: true; the input reads as it did. -/
def alarmNumbersSpec : ChangeSpec := { name := "alarmNumbers", fn := fun _ => fun
  | [] => { results := [.lit (.bool true)], args := [] }
  | _ => none }
def alarmNumbersRow : OpenClaim := { program := "ytceljnchfgimbaa", sum := "0315318efc652c3c552c71e97f46fe7a75998a54fb6b7a5569e600b22c27161c", func := "limelight/limelightlaw12.AlarmNumbers", spec := "alarmNumbers", unfollowed := true, recurses := true, apart := false }
def AlarmNumbersSaid : Prop := alarmNumbersRow.holds Try.pinned (OpenSpec.ofChange alarmNumbersSpec)

/-- ITS FALSE NEIGHBOUR: 'it returns false'. Refute it at one input. -/
def alarmNumbersWrong : ChangeSpec := { name := "alarmNumbers", fn := fun _ => fun
  | [] => { results := [.lit (.bool false)], args := [] }
  | _ => none }
def AlarmNumbersWrongFalsely : Prop := alarmNumbersRow.holds Try.pinned (OpenSpec.ofChange alarmNumbersWrong)

/-- 'limelightlaw12.AlarmPlays': WHATEVER THE INPUT: true; the input reads as it did. -/
def alarmPlaysSpec : ChangeSpec := { name := "alarmPlays", fn := fun _ => fun
  | [d] => { results := [.lit (.bool true)], args := [d] }
  | _ => none }
def alarmPlaysRow : OpenClaim := { program := "ytceljnchfgimbaa", sum := "0315318efc652c3c552c71e97f46fe7a75998a54fb6b7a5569e600b22c27161c", func := "limelight/limelightlaw12.AlarmPlays", spec := "alarmPlays", unfollowed := true, recurses := true, apart := false }
def AlarmPlaysSaid : Prop := alarmPlaysRow.holds Try.pinned (OpenSpec.ofChange alarmPlaysSpec)

/-- ITS FALSE NEIGHBOUR: 'it returns false'. Refute it at one input. -/
def alarmPlaysWrong : ChangeSpec := { name := "alarmPlays", fn := fun _ => fun
  | [d] => { results := [.lit (.bool false)], args := [d] }
  | _ => none }
def AlarmPlaysWrongFalsely : Prop := alarmPlaysRow.holds Try.pinned (OpenSpec.ofChange alarmPlaysWrong)

/-- 'limelightlaw12.AlarmLast': WHATEVER THE INPUT: true; the input reads as it did. -/
def alarmLastSpec : ChangeSpec := { name := "alarmLast", fn := fun _ => fun
  | [d1, d2] => { results := [.lit (.bool true)], args := [d1, d2] }
  | _ => none }
def alarmLastRow : OpenClaim := { program := "ytceljnchfgimbaa", sum := "0315318efc652c3c552c71e97f46fe7a75998a54fb6b7a5569e600b22c27161c", func := "limelight/limelightlaw12.AlarmLast", spec := "alarmLast", unfollowed := true, recurses := true, apart := false }
def AlarmLastSaid : Prop := alarmLastRow.holds Try.pinned (OpenSpec.ofChange alarmLastSpec)

/-- ITS FALSE NEIGHBOUR: 'it returns false'. Refute it at one input. -/
def alarmLastWrong : ChangeSpec := { name := "alarmLast", fn := fun _ => fun
  | [d1, d2] => { results := [.lit (.bool false)], args := [d1, d2] }
  | _ => none }
def AlarmLastWrongFalsely : Prop := alarmLastRow.holds Try.pinned (OpenSpec.ofChange alarmLastWrong)

/-- 'limelightlaw22.RoomNumbers': WHATEVER THE INPUT: true; the input reads as it did. -/
def roomNumbersSpec : ChangeSpec := { name := "roomNumbers", fn := fun _ => fun
  | [] => { results := [.lit (.bool true)], args := [] }
  | _ => none }
def roomNumbersRow : OpenClaim := { program := "ytceljnchfgimbaa", sum := "0315318efc652c3c552c71e97f46fe7a75998a54fb6b7a5569e600b22c27161c", func := "limelight/limelightlaw22.RoomNumbers", spec := "roomNumbers", inPlace := ["slices.overlaps[limelight/room.Sub]"], unfollowed := true, recurses := true, apart := false }
def RoomNumbersSaid : Prop := roomNumbersRow.holds Try.pinned (OpenSpec.ofChange roomNumbersSpec)

/-- ITS FALSE NEIGHBOUR: 'it returns false'. Refute it at one input. -/
def roomNumbersWrong : ChangeSpec := { name := "roomNumbers", fn := fun _ => fun
  | [] => { results := [.lit (.bool false)], args := [] }
  | _ => none }
def RoomNumbersWrongFalsely : Prop := roomNumbersRow.holds Try.pinned (OpenSpec.ofChange roomNumbersWrong)

/-- 'limelightlaw22.RoomPlays': WHATEVER THE INPUT: true; the input reads as it did. -/
def roomPlaysSpec : ChangeSpec := { name := "roomPlays", fn := fun _ => fun
  | [d1, d2, d3] => { results := [.lit (.bool true)], args := [d1, d2, d3] }
  | _ => none }
def roomPlaysRow : OpenClaim := { program := "ytceljnchfgimbaa", sum := "0315318efc652c3c552c71e97f46fe7a75998a54fb6b7a5569e600b22c27161c", func := "limelight/limelightlaw22.RoomPlays", spec := "roomPlays", inPlace := ["slices.overlaps[limelight/room.Sub]"], unfollowed := true, recurses := true, apart := false }
def RoomPlaysSaid : Prop := roomPlaysRow.holds Try.pinned (OpenSpec.ofChange roomPlaysSpec)

/-- ITS FALSE NEIGHBOUR: 'it returns false'. Refute it at one input. -/
def roomPlaysWrong : ChangeSpec := { name := "roomPlays", fn := fun _ => fun
  | [d1, d2, d3] => { results := [.lit (.bool false)], args := [d1, d2, d3] }
  | _ => none }
def RoomPlaysWrongFalsely : Prop := roomPlaysRow.holds Try.pinned (OpenSpec.ofChange roomPlaysWrong)

/-- 'limelightlaw22.RoomLinks': WHATEVER THE INPUT: true; the input reads as it did. -/
def roomLinksSpec : ChangeSpec := { name := "roomLinks", fn := fun _ => fun
  | [d1, d2] => { results := [.lit (.bool true)], args := [d1, d2] }
  | _ => none }
def roomLinksRow : OpenClaim := { program := "ytceljnchfgimbaa", sum := "0315318efc652c3c552c71e97f46fe7a75998a54fb6b7a5569e600b22c27161c", func := "limelight/limelightlaw22.RoomLinks", spec := "roomLinks", inPlace := ["slices.overlaps[limelight/room.Sub]"], unfollowed := true, recurses := true, apart := false }
def RoomLinksSaid : Prop := roomLinksRow.holds Try.pinned (OpenSpec.ofChange roomLinksSpec)

/-- ITS FALSE NEIGHBOUR: 'it returns false'. Refute it at one input. -/
def roomLinksWrong : ChangeSpec := { name := "roomLinks", fn := fun _ => fun
  | [d1, d2] => { results := [.lit (.bool false)], args := [d1, d2] }
  | _ => none }
def RoomLinksWrongFalsely : Prop := roomLinksRow.holds Try.pinned (OpenSpec.ofChange roomLinksWrong)

/-- 'limelightlaw22.RoomBack': WHATEVER THE INPUT: true; the input reads as it did. -/
def roomBackSpec : ChangeSpec := { name := "roomBack", fn := fun _ => fun
  | [d1, d2] => { results := [.lit (.bool true)], args := [d1, d2] }
  | _ => none }
def roomBackRow : OpenClaim := { program := "ytceljnchfgimbaa", sum := "0315318efc652c3c552c71e97f46fe7a75998a54fb6b7a5569e600b22c27161c", func := "limelight/limelightlaw22.RoomBack", spec := "roomBack", inPlace := ["slices.overlaps[limelight/room.Sub]"], unfollowed := true, recurses := true, apart := false }
def RoomBackSaid : Prop := roomBackRow.holds Try.pinned (OpenSpec.ofChange roomBackSpec)

/-- ITS FALSE NEIGHBOUR: 'it returns false'. Refute it at one input. -/
def roomBackWrong : ChangeSpec := { name := "roomBack", fn := fun _ => fun
  | [d1, d2] => { results := [.lit (.bool false)], args := [d1, d2] }
  | _ => none }
def RoomBackWrongFalsely : Prop := roomBackRow.holds Try.pinned (OpenSpec.ofChange roomBackWrong)

/-- 'limelightlaw19.AllocStays': WHATEVER THE INPUT: true; the input reads as it did. -/
def allocStaysSpec : ChangeSpec := { name := "allocStays", fn := fun _ => fun
  | [d1, d2, d3, d4] => { results := [.lit (.bool true)], args := [d1, d2, d3, d4] }
  | _ => none }
def allocStaysRow : OpenClaim := { program := "ytceljnchfgimbaa", sum := "0315318efc652c3c552c71e97f46fe7a75998a54fb6b7a5569e600b22c27161c", func := "limelight/limelightlaw19.AllocStays", spec := "allocStays", recurses := true, apart := false }
def AllocStaysSaid : Prop := allocStaysRow.holds Try.pinned (OpenSpec.ofChange allocStaysSpec)

/-- ITS FALSE NEIGHBOUR: 'it returns false'. Refute it at one input. -/
def allocStaysWrong : ChangeSpec := { name := "allocStays", fn := fun _ => fun
  | [d1, d2, d3, d4] => { results := [.lit (.bool false)], args := [d1, d2, d3, d4] }
  | _ => none }
def AllocStaysWrongFalsely : Prop := allocStaysRow.holds Try.pinned (OpenSpec.ofChange allocStaysWrong)

/-- 'limelightlaw19.AllocHeights': WHATEVER THE INPUT: true; the input reads as it did. -/
def allocHeightsSpec : ChangeSpec := { name := "allocHeights", fn := fun _ => fun
  | [d1, d2, d3] => { results := [.lit (.bool true)], args := [d1, d2, d3] }
  | _ => none }
def allocHeightsRow : OpenClaim := { program := "ytceljnchfgimbaa", sum := "0315318efc652c3c552c71e97f46fe7a75998a54fb6b7a5569e600b22c27161c", func := "limelight/limelightlaw19.AllocHeights", spec := "allocHeights", unfollowed := true, recurses := true, apart := false }
def AllocHeightsSaid : Prop := allocHeightsRow.holds Try.pinned (OpenSpec.ofChange allocHeightsSpec)

/-- ITS FALSE NEIGHBOUR: 'it returns false'. Refute it at one input. -/
def allocHeightsWrong : ChangeSpec := { name := "allocHeights", fn := fun _ => fun
  | [d1, d2, d3] => { results := [.lit (.bool false)], args := [d1, d2, d3] }
  | _ => none }
def AllocHeightsWrongFalsely : Prop := allocHeightsRow.holds Try.pinned (OpenSpec.ofChange allocHeightsWrong)

/- THE SECOND FORM. 'bulk': how many values and letters a reading holds, each counted each time it is reached (what is shared counts as often as it is met; a slice's spare places count too). A statement '..UptoSaid' is the law's where the arguments, and the package variables that the reading takes, are together of bulk at most 1048576: NARROWER than '..Said'. Prove '..Said' where nothing that the law and all that it calls make is longer than what came in: it says more and counts as full. Else prove '..UptoSaid'. A law counts once. -/
mutual
def uptoBulk {H : Type} : DataW H → Nat
  | .lit (.string bytes) => bytes.length + 1
  | .lit _ => 1
  | .nil => 1
  | .ptr d => uptoBulk d + 1
  | .slice elems spare => uptoBulkAll elems + uptoBulkAll spare + 1
  | .agg parts => uptoBulkAll parts + 1
  | .iface _ d => uptoBulk d + 1
  | .map entries => uptoBulkEntries entries + 1
  | .held _ => 1
def uptoBulkAll {H : Type} : List (DataW H) → Nat
  | [] => 0
  | d :: r => uptoBulk d + uptoBulkAll r
def uptoBulkEntries {H : Type} : List (Lit × DataW H) → Nat
  | [] => 0
  | x :: r => uptoBulkEntry x + uptoBulkEntries r
def uptoBulkEntry {H : Type} : Lit × DataW H → Nat
  | (.string bytes, d) => bytes.length + uptoBulk d + 1
  | (_, d) => uptoBulk d + 1
 end
def uptoSmall : (H : Type) → List (DataW H) → Bool := fun _ ds => decide (uptoBulkAll ds ≤ 1048576)
def OpenSpec.upto (s : _root_.Go.ChangeSpec) : _root_.Go.OpenSpec := { _root_.Go.OpenSpec.ofChange s with cond := some uptoSmall }

/-- 'limelightlaw12.AlarmOrder', WHERE WHAT IT READS IS OF BULK AT MOST 1048576: true; the input reads as it did. -/
def alarmOrderUptoRow : OpenClaim := { program := "ytceljnchfgimbaa", sum := "0315318efc652c3c552c71e97f46fe7a75998a54fb6b7a5569e600b22c27161c", func := "limelight/limelightlaw12.AlarmOrder", spec := "alarmOrder", unfollowed := true, recurses := true, apart := false, narrowed := true }
def AlarmOrderUptoSaid : Prop := alarmOrderUptoRow.holds Try.pinned (OpenSpec.upto alarmOrderSpec)

/-- 'limelightlaw12.AlarmNumbers', WHERE WHAT IT READS IS OF BULK AT MOST 1048576: true; the input reads as it did. -/
def alarmNumbersUptoRow : OpenClaim := { program := "ytceljnchfgimbaa", sum := "0315318efc652c3c552c71e97f46fe7a75998a54fb6b7a5569e600b22c27161c", func := "limelight/limelightlaw12.AlarmNumbers", spec := "alarmNumbers", unfollowed := true, recurses := true, apart := false, narrowed := true }
def AlarmNumbersUptoSaid : Prop := alarmNumbersUptoRow.holds Try.pinned (OpenSpec.upto alarmNumbersSpec)

/-- 'limelightlaw12.AlarmPlays', WHERE WHAT IT READS IS OF BULK AT MOST 1048576: true; the input reads as it did. -/
def alarmPlaysUptoRow : OpenClaim := { program := "ytceljnchfgimbaa", sum := "0315318efc652c3c552c71e97f46fe7a75998a54fb6b7a5569e600b22c27161c", func := "limelight/limelightlaw12.AlarmPlays", spec := "alarmPlays", unfollowed := true, recurses := true, apart := false, narrowed := true }
def AlarmPlaysUptoSaid : Prop := alarmPlaysUptoRow.holds Try.pinned (OpenSpec.upto alarmPlaysSpec)

/-- 'limelightlaw12.AlarmLast', WHERE WHAT IT READS IS OF BULK AT MOST 1048576: true; the input reads as it did. -/
def alarmLastUptoRow : OpenClaim := { program := "ytceljnchfgimbaa", sum := "0315318efc652c3c552c71e97f46fe7a75998a54fb6b7a5569e600b22c27161c", func := "limelight/limelightlaw12.AlarmLast", spec := "alarmLast", unfollowed := true, recurses := true, apart := false, narrowed := true }
def AlarmLastUptoSaid : Prop := alarmLastUptoRow.holds Try.pinned (OpenSpec.upto alarmLastSpec)

/-- 'limelightlaw22.RoomNumbers', WHERE WHAT IT READS IS OF BULK AT MOST 1048576: true; the input reads as it did. -/
def roomNumbersUptoRow : OpenClaim := { program := "ytceljnchfgimbaa", sum := "0315318efc652c3c552c71e97f46fe7a75998a54fb6b7a5569e600b22c27161c", func := "limelight/limelightlaw22.RoomNumbers", spec := "roomNumbers", inPlace := ["slices.overlaps[limelight/room.Sub]"], unfollowed := true, recurses := true, apart := false, narrowed := true }
def RoomNumbersUptoSaid : Prop := roomNumbersUptoRow.holds Try.pinned (OpenSpec.upto roomNumbersSpec)

/-- 'limelightlaw22.RoomPlays', WHERE WHAT IT READS IS OF BULK AT MOST 1048576: true; the input reads as it did. -/
def roomPlaysUptoRow : OpenClaim := { program := "ytceljnchfgimbaa", sum := "0315318efc652c3c552c71e97f46fe7a75998a54fb6b7a5569e600b22c27161c", func := "limelight/limelightlaw22.RoomPlays", spec := "roomPlays", inPlace := ["slices.overlaps[limelight/room.Sub]"], unfollowed := true, recurses := true, apart := false, narrowed := true }
def RoomPlaysUptoSaid : Prop := roomPlaysUptoRow.holds Try.pinned (OpenSpec.upto roomPlaysSpec)

/-- 'limelightlaw22.RoomLinks', WHERE WHAT IT READS IS OF BULK AT MOST 1048576: true; the input reads as it did. -/
def roomLinksUptoRow : OpenClaim := { program := "ytceljnchfgimbaa", sum := "0315318efc652c3c552c71e97f46fe7a75998a54fb6b7a5569e600b22c27161c", func := "limelight/limelightlaw22.RoomLinks", spec := "roomLinks", inPlace := ["slices.overlaps[limelight/room.Sub]"], unfollowed := true, recurses := true, apart := false, narrowed := true }
def RoomLinksUptoSaid : Prop := roomLinksUptoRow.holds Try.pinned (OpenSpec.upto roomLinksSpec)

/-- 'limelightlaw22.RoomBack', WHERE WHAT IT READS IS OF BULK AT MOST 1048576: true; the input reads as it did. -/
def roomBackUptoRow : OpenClaim := { program := "ytceljnchfgimbaa", sum := "0315318efc652c3c552c71e97f46fe7a75998a54fb6b7a5569e600b22c27161c", func := "limelight/limelightlaw22.RoomBack", spec := "roomBack", inPlace := ["slices.overlaps[limelight/room.Sub]"], unfollowed := true, recurses := true, apart := false, narrowed := true }
def RoomBackUptoSaid : Prop := roomBackUptoRow.holds Try.pinned (OpenSpec.upto roomBackSpec)

/-- 'limelightlaw19.AllocStays', WHERE WHAT IT READS IS OF BULK AT MOST 1048576: true; the input reads as it did. -/
def allocStaysUptoRow : OpenClaim := { program := "ytceljnchfgimbaa", sum := "0315318efc652c3c552c71e97f46fe7a75998a54fb6b7a5569e600b22c27161c", func := "limelight/limelightlaw19.AllocStays", spec := "allocStays", recurses := true, apart := false, narrowed := true }
def AllocStaysUptoSaid : Prop := allocStaysUptoRow.holds Try.pinned (OpenSpec.upto allocStaysSpec)

/-- 'limelightlaw19.AllocHeights', WHERE WHAT IT READS IS OF BULK AT MOST 1048576: true; the input reads as it did. -/
def allocHeightsUptoRow : OpenClaim := { program := "ytceljnchfgimbaa", sum := "0315318efc652c3c552c71e97f46fe7a75998a54fb6b7a5569e600b22c27161c", func := "limelight/limelightlaw19.AllocHeights", spec := "allocHeights", unfollowed := true, recurses := true, apart := false, narrowed := true }
def AllocHeightsUptoSaid : Prop := allocHeightsUptoRow.holds Try.pinned (OpenSpec.upto allocHeightsSpec)

end Rows
end Go.Proofs.Ytceljnchfgimbaa
