/- A part of the proof that follows: Chapter 6's runs: reports of sixty tapes, each thing of them turned; bytes cut off, each byte turned; reports of each type and count. -/
import Derived.Test.YtocbjhoaamkonaaMRtcpNumbers16
import Derived.KernelRfl
namespace Go.Ev
set_option maxRecDepth 100000
theorem num55 {β : Type} (kN : Int→Option β) (kE1 : Bool→Option β) : numB 544 55 (tapeL 55 400 0) kN kE1 = kN 56:=by kernel_rfl
theorem num56 {β : Type} (kN : Int→Option β) (kE1 : Bool→Option β) : numB 543 56 (tapeL 56 400 0) kN kE1 = kN 57:=by kernel_rfl
theorem num57 {β : Type} (kN : Int→Option β) (kE1 : Bool→Option β) : numB 542 57 (tapeL 57 400 0) kN kE1 = kN 58:=by kernel_rfl
theorem num58 {β : Type} (kN : Int→Option β) (kE1 : Bool→Option β) : numB 541 58 (tapeL 58 400 0) kN kE1 = kN 59:=by kernel_rfl
theorem num59 {β : Type} (kN : Int→Option β) (kE1 : Bool→Option β) : numB 540 59 (tapeL 59 400 0) kN kE1 = kN 60:=by kernel_rfl
end Go.Ev
