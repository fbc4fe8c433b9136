/- A part of the proof that follows: Chapter 6's runs: reports of sixty tapes, each thing of them turned; bytes cut off, each byte turned; reports of each type and count. -/
import Derived.Test.YtocbjhoaamkonaaMRtcpNumbers10
import Derived.KernelRfl
namespace Go.Ev
set_option maxRecDepth 100000
theorem num25 {β : Type} (kN : Int→Option β) (kE1 : Bool→Option β) : numB 574 25 (tapeL 25 400 0) kN kE1 = kN 26:=by kernel_rfl
theorem num26 {β : Type} (kN : Int→Option β) (kE1 : Bool→Option β) : numB 573 26 (tapeL 26 400 0) kN kE1 = kN 27:=by kernel_rfl
theorem num27 {β : Type} (kN : Int→Option β) (kE1 : Bool→Option β) : numB 572 27 (tapeL 27 400 0) kN kE1 = kN 28:=by kernel_rfl
theorem num28 {β : Type} (kN : Int→Option β) (kE1 : Bool→Option β) : numB 571 28 (tapeL 28 400 0) kN kE1 = kN 29:=by kernel_rfl
theorem num29 {β : Type} (kN : Int→Option β) (kE1 : Bool→Option β) : numB 570 29 (tapeL 29 400 0) kN kE1 = kN 30:=by kernel_rfl
end Go.Ev
