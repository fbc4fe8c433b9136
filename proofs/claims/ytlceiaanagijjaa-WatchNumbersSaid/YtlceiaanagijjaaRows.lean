/-
  No cell of these rows narrows 'for every input' (looked for: loops, veiled, ifaces, maps, wideKeys, modest, calm, conditions, laid).
  DERIVED. THE GIVEN ROWS OF THIS SEAT. 10 by the template 'for every input the law returns true; each argument reads behind the call as it read before'; 0 by the template 'total and deterministic' (their statements: YtlceiaanagijjaaTotals.lean).
  GIVEN WITH THE SEED: the statements are not yours to turn. If you find one false, say at which input.
  Laid BY PROGRAM, IN A SANDBOX (cutbox-rows.mjs): the forced cells as the released guide's own fill.sh prints them over the translation 975e8894775ec409… (all of the seat's roots in one cut). By AI agents, Wed Nov 11 2026. No macro, syntax, notation, axiom, sorry.
-/
import Derived.Test.YtlceiaanagijjaaChecked
import GoSem.Claim
import GoSem.ClaimJoined
import GoSem.ClaimMapViews
import Derived.JoinedTies
import Derived.KernelRfl
namespace Go.Proofs.Ytlceiaanagijjaa
/- THE CELL 'sum', in the pinned program and in every row, IS THE sha256 OF THE DUMP (.gsa) THAT YtlceiaanagijjaaProg.lean LOADS. Nothing in Lean hashes anything: it is a label: what it is worth is what the hold of that sum in a sandbox is worth. -/
noncomputable def Try.pinned : Pinned := { name := "ytlceiaanagijjaa", sum := "975e8894775ec409afbccb54279ec22e26bc6986fe4dc48a42d8c96a4d133ffc", checked := Try.checked }
namespace Rows
def none {H : Type} : Left H := { results := [], args := [] }

/-- 'limelightlaw5.RateNumbers': WHATEVER THE INPUT: true; the input reads as it did. -/
def rateNumbersSpec : ChangeSpec := { name := "rateNumbers", fn := fun _ => fun
  | [] => { results := [.lit (.bool true)], args := [] }
  | _ => none }
def rateNumbersRow : OpenClaim := { program := "ytlceiaanagijjaa", sum := "975e8894775ec409afbccb54279ec22e26bc6986fe4dc48a42d8c96a4d133ffc", func := "limelight/limelightlaw5.RateNumbers", spec := "rateNumbers", apart := false }
def RateNumbersSaid : Prop := rateNumbersRow.holds Try.pinned (OpenSpec.ofChange rateNumbersSpec)

/-- ITS FALSE NEIGHBOUR: 'it returns false'. Refute it at one input. -/
def rateNumbersWrong : ChangeSpec := { name := "rateNumbers", fn := fun _ => fun
  | [] => { results := [.lit (.bool false)], args := [] }
  | _ => none }
def RateNumbersWrongFalsely : Prop := rateNumbersRow.holds Try.pinned (OpenSpec.ofChange rateNumbersWrong)

/-- 'limelightlaw5.RateTells': WHATEVER THE INPUT: true; the input reads as it did. -/
def rateTellsSpec : ChangeSpec := { name := "rateTells", fn := fun _ => fun
  | [d1, d2, d3, d4] => { results := [.lit (.bool true)], args := [d1, d2, d3, d4] }
  | _ => none }
def rateTellsRow : OpenClaim := { program := "ytlceiaanagijjaa", sum := "975e8894775ec409afbccb54279ec22e26bc6986fe4dc48a42d8c96a4d133ffc", func := "limelight/limelightlaw5.RateTells", spec := "rateTells", apart := false }
def RateTellsSaid : Prop := rateTellsRow.holds Try.pinned (OpenSpec.ofChange rateTellsSpec)

/-- ITS FALSE NEIGHBOUR: 'it returns false'. Refute it at one input. -/
def rateTellsWrong : ChangeSpec := { name := "rateTells", fn := fun _ => fun
  | [d1, d2, d3, d4] => { results := [.lit (.bool false)], args := [d1, d2, d3, d4] }
  | _ => none }
def RateTellsWrongFalsely : Prop := rateTellsRow.holds Try.pinned (OpenSpec.ofChange rateTellsWrong)

/-- 'limelightlaw5.RateDown': WHATEVER THE INPUT: true; the input reads as it did. -/
def rateDownSpec : ChangeSpec := { name := "rateDown", fn := fun _ => fun
  | [d1, d2, d3] => { results := [.lit (.bool true)], args := [d1, d2, d3] }
  | _ => none }
def rateDownRow : OpenClaim := { program := "ytlceiaanagijjaa", sum := "975e8894775ec409afbccb54279ec22e26bc6986fe4dc48a42d8c96a4d133ffc", func := "limelight/limelightlaw5.RateDown", spec := "rateDown", apart := false }
def RateDownSaid : Prop := rateDownRow.holds Try.pinned (OpenSpec.ofChange rateDownSpec)

/-- ITS FALSE NEIGHBOUR: 'it returns false'. Refute it at one input. -/
def rateDownWrong : ChangeSpec := { name := "rateDown", fn := fun _ => fun
  | [d1, d2, d3] => { results := [.lit (.bool false)], args := [d1, d2, d3] }
  | _ => none }
def RateDownWrongFalsely : Prop := rateDownRow.holds Try.pinned (OpenSpec.ofChange rateDownWrong)

/-- 'limelightlaw5.RateOpens': WHATEVER THE INPUT: true; the input reads as it did. -/
def rateOpensSpec : ChangeSpec := { name := "rateOpens", fn := fun _ => fun
  | [d1, d2] => { results := [.lit (.bool true)], args := [d1, d2] }
  | _ => none }
def rateOpensRow : OpenClaim := { program := "ytlceiaanagijjaa", sum := "975e8894775ec409afbccb54279ec22e26bc6986fe4dc48a42d8c96a4d133ffc", func := "limelight/limelightlaw5.RateOpens", spec := "rateOpens", apart := false }
def RateOpensSaid : Prop := rateOpensRow.holds Try.pinned (OpenSpec.ofChange rateOpensSpec)

/-- ITS FALSE NEIGHBOUR: 'it returns false'. Refute it at one input. -/
def rateOpensWrong : ChangeSpec := { name := "rateOpens", fn := fun _ => fun
  | [d1, d2] => { results := [.lit (.bool false)], args := [d1, d2] }
  | _ => none }
def RateOpensWrongFalsely : Prop := rateOpensRow.holds Try.pinned (OpenSpec.ofChange rateOpensWrong)

/-- 'limelightlaw20.WatchNumbers': WHATEVER THE INPUT: true; the input reads as it did. -/
def watchNumbersSpec : ChangeSpec := { name := "watchNumbers", fn := fun _ => fun
  | [] => { results := [.lit (.bool true)], args := [] }
  | _ => none }
def watchNumbersRow : OpenClaim := { program := "ytlceiaanagijjaa", sum := "975e8894775ec409afbccb54279ec22e26bc6986fe4dc48a42d8c96a4d133ffc", func := "limelight/limelightlaw20.WatchNumbers", spec := "watchNumbers", apart := false }
def WatchNumbersSaid : Prop := watchNumbersRow.holds Try.pinned (OpenSpec.ofChange watchNumbersSpec)

/-- ITS FALSE NEIGHBOUR: 'it returns false'. Refute it at one input. -/
def watchNumbersWrong : ChangeSpec := { name := "watchNumbers", fn := fun _ => fun
  | [] => { results := [.lit (.bool false)], args := [] }
  | _ => none }
def WatchNumbersWrongFalsely : Prop := watchNumbersRow.holds Try.pinned (OpenSpec.ofChange watchNumbersWrong)

/-- 'limelightlaw20.WatchGrace': WHATEVER THE INPUT: true; the input reads as it did. -/
def watchGraceSpec : ChangeSpec := { name := "watchGrace", fn := fun _ => fun
  | [d1, d2, d3] => { results := [.lit (.bool true)], args := [d1, d2, d3] }
  | _ => none }
def watchGraceRow : OpenClaim := { program := "ytlceiaanagijjaa", sum := "975e8894775ec409afbccb54279ec22e26bc6986fe4dc48a42d8c96a4d133ffc", func := "limelight/limelightlaw20.WatchGrace", spec := "watchGrace", apart := false }
def WatchGraceSaid : Prop := watchGraceRow.holds Try.pinned (OpenSpec.ofChange watchGraceSpec)

/-- ITS FALSE NEIGHBOUR: 'it returns false'. Refute it at one input. -/
def watchGraceWrong : ChangeSpec := { name := "watchGrace", fn := fun _ => fun
  | [d1, d2, d3] => { results := [.lit (.bool false)], args := [d1, d2, d3] }
  | _ => none }
def WatchGraceWrongFalsely : Prop := watchGraceRow.holds Try.pinned (OpenSpec.ofChange watchGraceWrong)

/-- 'limelightlaw20.WatchApart': WHATEVER THE INPUT: true; the input reads as it did. -/
def watchApartSpec : ChangeSpec := { name := "watchApart", fn := fun _ => fun
  | [d1, d2] => { results := [.lit (.bool true)], args := [d1, d2] }
  | _ => none }
def watchApartRow : OpenClaim := { program := "ytlceiaanagijjaa", sum := "975e8894775ec409afbccb54279ec22e26bc6986fe4dc48a42d8c96a4d133ffc", func := "limelight/limelightlaw20.WatchApart", spec := "watchApart", apart := false }
def WatchApartSaid : Prop := watchApartRow.holds Try.pinned (OpenSpec.ofChange watchApartSpec)

/-- ITS FALSE NEIGHBOUR: 'it returns false'. Refute it at one input. -/
def watchApartWrong : ChangeSpec := { name := "watchApart", fn := fun _ => fun
  | [d1, d2] => { results := [.lit (.bool false)], args := [d1, d2] }
  | _ => none }
def WatchApartWrongFalsely : Prop := watchApartRow.holds Try.pinned (OpenSpec.ofChange watchApartWrong)

/-- 'limelightlaw18.KnapBest': WHATEVER THE INPUT: true; the input reads as it did. -/
def knapBestSpec : ChangeSpec := { name := "knapBest", fn := fun _ => fun
  | [d1, d2, d3] => { results := [.lit (.bool true)], args := [d1, d2, d3] }
  | _ => none }
def knapBestRow : OpenClaim := { program := "ytlceiaanagijjaa", sum := "975e8894775ec409afbccb54279ec22e26bc6986fe4dc48a42d8c96a4d133ffc", func := "limelight/limelightlaw18.KnapBest", spec := "knapBest", recurses := true, apart := false }
def KnapBestSaid : Prop := knapBestRow.holds Try.pinned (OpenSpec.ofChange knapBestSpec)

/-- ITS FALSE NEIGHBOUR: 'it returns false'. Refute it at one input. -/
def knapBestWrong : ChangeSpec := { name := "knapBest", fn := fun _ => fun
  | [d1, d2, d3] => { results := [.lit (.bool false)], args := [d1, d2, d3] }
  | _ => none }
def KnapBestWrongFalsely : Prop := knapBestRow.holds Try.pinned (OpenSpec.ofChange knapBestWrong)

/-- 'limelightlaw18.KnapMore': WHATEVER THE INPUT: true; the input reads as it did. -/
def knapMoreSpec : ChangeSpec := { name := "knapMore", fn := fun _ => fun
  | [d1, d2, d3] => { results := [.lit (.bool true)], args := [d1, d2, d3] }
  | _ => none }
def knapMoreRow : OpenClaim := { program := "ytlceiaanagijjaa", sum := "975e8894775ec409afbccb54279ec22e26bc6986fe4dc48a42d8c96a4d133ffc", func := "limelight/limelightlaw18.KnapMore", spec := "knapMore", recurses := true, apart := false }
def KnapMoreSaid : Prop := knapMoreRow.holds Try.pinned (OpenSpec.ofChange knapMoreSpec)

/-- ITS FALSE NEIGHBOUR: 'it returns false'. Refute it at one input. -/
def knapMoreWrong : ChangeSpec := { name := "knapMore", fn := fun _ => fun
  | [d1, d2, d3] => { results := [.lit (.bool false)], args := [d1, d2, d3] }
  | _ => none }
def KnapMoreWrongFalsely : Prop := knapMoreRow.holds Try.pinned (OpenSpec.ofChange knapMoreWrong)

/-- 'limelightlaw18.KnapCosts': WHATEVER THE INPUT: true; the input reads as it did. -/
def knapCostsSpec : ChangeSpec := { name := "knapCosts", fn := fun _ => fun
  | [d1, d2, d3] => { results := [.lit (.bool true)], args := [d1, d2, d3] }
  | _ => none }
def knapCostsRow : OpenClaim := { program := "ytlceiaanagijjaa", sum := "975e8894775ec409afbccb54279ec22e26bc6986fe4dc48a42d8c96a4d133ffc", func := "limelight/limelightlaw18.KnapCosts", spec := "knapCosts", recurses := true, apart := false }
def KnapCostsSaid : Prop := knapCostsRow.holds Try.pinned (OpenSpec.ofChange knapCostsSpec)

/-- ITS FALSE NEIGHBOUR: 'it returns false'. Refute it at one input. -/
def knapCostsWrong : ChangeSpec := { name := "knapCosts", fn := fun _ => fun
  | [d1, d2, d3] => { results := [.lit (.bool false)], args := [d1, d2, d3] }
  | _ => none }
def KnapCostsWrongFalsely : Prop := knapCostsRow.holds Try.pinned (OpenSpec.ofChange knapCostsWrong)

/- THE SECOND FORM. 'bulk': how many values and letters a reading holds, each counted each time it is reached (what is shared counts as often as it is met; a slice's spare places count too). A statement '..UptoSaid' is the law's where the arguments, and the package variables that the reading takes, are together of bulk at most 1048576: NARROWER than '..Said'. Prove '..Said' where nothing that the law and all that it calls make is longer than what came in: it says more and counts as full. Else prove '..UptoSaid'. A law counts once. -/
mutual
def uptoBulk {H : Type} : DataW H → Nat
  | .lit (.string bytes) => bytes.length + 1
  | .lit _ => 1
  | .nil => 1
  | .ptr d => uptoBulk d + 1
  | .slice elems spare => uptoBulkAll elems + uptoBulkAll spare + 1
  | .agg parts => uptoBulkAll parts + 1
  | .iface _ d => uptoBulk d + 1
  | .map entries => uptoBulkEntries entries + 1
  | .held _ => 1
def uptoBulkAll {H : Type} : List (DataW H) → Nat
  | [] => 0
  | d :: r => uptoBulk d + uptoBulkAll r
def uptoBulkEntries {H : Type} : List (Lit × DataW H) → Nat
  | [] => 0
  | x :: r => uptoBulkEntry x + uptoBulkEntries r
def uptoBulkEntry {H : Type} : Lit × DataW H → Nat
  | (.string bytes, d) => bytes.length + uptoBulk d + 1
  | (_, d) => uptoBulk d + 1
 end
def uptoSmall : (H : Type) → List (DataW H) → Bool := fun _ ds => decide (uptoBulkAll ds ≤ 1048576)
def OpenSpec.upto (s : _root_.Go.ChangeSpec) : _root_.Go.OpenSpec := { _root_.Go.OpenSpec.ofChange s with cond := some uptoSmall }

/-- 'limelightlaw5.RateNumbers', WHERE WHAT IT READS IS OF BULK AT MOST 1048576: true; the input reads as it did. -/
def rateNumbersUptoRow : OpenClaim := { program := "ytlceiaanagijjaa", sum := "975e8894775ec409afbccb54279ec22e26bc6986fe4dc48a42d8c96a4d133ffc", func := "limelight/limelightlaw5.RateNumbers", spec := "rateNumbers", apart := false, narrowed := true }
def RateNumbersUptoSaid : Prop := rateNumbersUptoRow.holds Try.pinned (OpenSpec.upto rateNumbersSpec)

/-- 'limelightlaw5.RateTells', WHERE WHAT IT READS IS OF BULK AT MOST 1048576: true; the input reads as it did. -/
def rateTellsUptoRow : OpenClaim := { program := "ytlceiaanagijjaa", sum := "975e8894775ec409afbccb54279ec22e26bc6986fe4dc48a42d8c96a4d133ffc", func := "limelight/limelightlaw5.RateTells", spec := "rateTells", apart := false, narrowed := true }
def RateTellsUptoSaid : Prop := rateTellsUptoRow.holds Try.pinned (OpenSpec.upto rateTellsSpec)

/-- 'limelightlaw5.RateDown', WHERE WHAT IT READS IS OF BULK AT MOST 1048576: true; the input reads as it did. -/
def rateDownUptoRow : OpenClaim := { program := "ytlceiaanagijjaa", sum := "975e8894775ec409afbccb54279ec22e26bc6986fe4dc48a42d8c96a4d133ffc", func := "limelight/limelightlaw5.RateDown", spec := "rateDown", apart := false, narrowed := true }
def RateDownUptoSaid : Prop := rateDownUptoRow.holds Try.pinned (OpenSpec.upto rateDownSpec)

/-- 'limelightlaw5.RateOpens', WHERE WHAT IT READS IS OF BULK AT MOST 1048576: true; the input reads as it did. -/
def rateOpensUptoRow : OpenClaim := { program := "ytlceiaanagijjaa", sum := "975e8894775ec409afbccb54279ec22e26bc6986fe4dc48a42d8c96a4d133ffc", func := "limelight/limelightlaw5.RateOpens", spec := "rateOpens", apart := false, narrowed := true }
def RateOpensUptoSaid : Prop := rateOpensUptoRow.holds Try.pinned (OpenSpec.upto rateOpensSpec)

/-- 'limelightlaw20.WatchNumbers', WHERE WHAT IT READS IS OF BULK AT MOST 1048576: true; the input reads as it did. -/
def watchNumbersUptoRow : OpenClaim := { program := "ytlceiaanagijjaa", sum := "975e8894775ec409afbccb54279ec22e26bc6986fe4dc48a42d8c96a4d133ffc", func := "limelight/limelightlaw20.WatchNumbers", spec := "watchNumbers", apart := false, narrowed := true }
def WatchNumbersUptoSaid : Prop := watchNumbersUptoRow.holds Try.pinned (OpenSpec.upto watchNumbersSpec)

/-- 'limelightlaw20.WatchGrace', WHERE WHAT IT READS IS OF BULK AT MOST 1048576: true; the input reads as it did. -/
def watchGraceUptoRow : OpenClaim := { program := "ytlceiaanagijjaa", sum := "975e8894775ec409afbccb54279ec22e26bc6986fe4dc48a42d8c96a4d133ffc", func := "limelight/limelightlaw20.WatchGrace", spec := "watchGrace", apart := false, narrowed := true }
def WatchGraceUptoSaid : Prop := watchGraceUptoRow.holds Try.pinned (OpenSpec.upto watchGraceSpec)

/-- 'limelightlaw20.WatchApart', WHERE WHAT IT READS IS OF BULK AT MOST 1048576: true; the input reads as it did. -/
def watchApartUptoRow : OpenClaim := { program := "ytlceiaanagijjaa", sum := "975e8894775ec409afbccb54279ec22e26bc6986fe4dc48a42d8c96a4d133ffc", func := "limelight/limelightlaw20.WatchApart", spec := "watchApart", apart := false, narrowed := true }
def WatchApartUptoSaid : Prop := watchApartUptoRow.holds Try.pinned (OpenSpec.upto watchApartSpec)

/-- 'limelightlaw18.KnapBest', WHERE WHAT IT READS IS OF BULK AT MOST 1048576: true; the input reads as it did. -/
def knapBestUptoRow : OpenClaim := { program := "ytlceiaanagijjaa", sum := "975e8894775ec409afbccb54279ec22e26bc6986fe4dc48a42d8c96a4d133ffc", func := "limelight/limelightlaw18.KnapBest", spec := "knapBest", recurses := true, apart := false, narrowed := true }
def KnapBestUptoSaid : Prop := knapBestUptoRow.holds Try.pinned (OpenSpec.upto knapBestSpec)

/-- 'limelightlaw18.KnapMore', WHERE WHAT IT READS IS OF BULK AT MOST 1048576: true; the input reads as it did. -/
def knapMoreUptoRow : OpenClaim := { program := "ytlceiaanagijjaa", sum := "975e8894775ec409afbccb54279ec22e26bc6986fe4dc48a42d8c96a4d133ffc", func := "limelight/limelightlaw18.KnapMore", spec := "knapMore", recurses := true, apart := false, narrowed := true }
def KnapMoreUptoSaid : Prop := knapMoreUptoRow.holds Try.pinned (OpenSpec.upto knapMoreSpec)

/-- 'limelightlaw18.KnapCosts', WHERE WHAT IT READS IS OF BULK AT MOST 1048576: true; the input reads as it did. -/
def knapCostsUptoRow : OpenClaim := { program := "ytlceiaanagijjaa", sum := "975e8894775ec409afbccb54279ec22e26bc6986fe4dc48a42d8c96a4d133ffc", func := "limelight/limelightlaw18.KnapCosts", spec := "knapCosts", recurses := true, apart := false, narrowed := true }
def KnapCostsUptoSaid : Prop := knapCostsUptoRow.holds Try.pinned (OpenSpec.upto knapCostsSpec)

end Rows
end Go.Proofs.Ytlceiaanagijjaa
