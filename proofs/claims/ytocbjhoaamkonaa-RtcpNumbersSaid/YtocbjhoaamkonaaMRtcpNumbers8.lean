/- A part of the proof that follows: Chapter 6's runs: reports of sixty tapes, each thing of them turned; bytes cut off, each byte turned; reports of each type and count. -/
import Derived.Test.YtocbjhoaamkonaaMRtcpNumbers7
import Derived.KernelRfl
namespace Go.Ev
set_option maxRecDepth 100000
theorem num10 {β : Type} (kN : Int→Option β) (kE1 : Bool→Option β) : numB 589 10 (tapeL 10 400 0) kN kE1 = kN 11:=by kernel_rfl
theorem num11 {β : Type} (kN : Int→Option β) (kE1 : Bool→Option β) : numB 588 11 (tapeL 11 400 0) kN kE1 = kN 12:=by kernel_rfl
theorem num12 {β : Type} (kN : Int→Option β) (kE1 : Bool→Option β) : numB 587 12 (tapeL 12 400 0) kN kE1 = kN 13:=by kernel_rfl
theorem num13 {β : Type} (kN : Int→Option β) (kE1 : Bool→Option β) : numB 586 13 (tapeL 13 400 0) kN kE1 = kN 14:=by kernel_rfl
theorem num14 {β : Type} (kN : Int→Option β) (kE1 : Bool→Option β) : numB 585 14 (tapeL 14 400 0) kN kE1 = kN 15:=by kernel_rfl
end Go.Ev
