/- A part of the proof that follows: Chapter 6's runs: reports of sixty tapes, each thing of them turned; bytes cut off, each byte turned; reports of each type and count. -/
import Derived.Test.YtocbjhoaamkonaaMRtcpNumbers5
import Derived.KernelRfl
namespace Go.Ev
set_option maxRecDepth 100000
theorem num0 {β : Type} (kN : Int→Option β) (kE1 : Bool→Option β) : numB 599 0 (tapeL 0 400 0) kN kE1 = kN 1:=by kernel_rfl
theorem num1 {β : Type} (kN : Int→Option β) (kE1 : Bool→Option β) : numB 598 1 (tapeL 1 400 0) kN kE1 = kN 2:=by kernel_rfl
theorem num2 {β : Type} (kN : Int→Option β) (kE1 : Bool→Option β) : numB 597 2 (tapeL 2 400 0) kN kE1 = kN 3:=by kernel_rfl
theorem num3 {β : Type} (kN : Int→Option β) (kE1 : Bool→Option β) : numB 596 3 (tapeL 3 400 0) kN kE1 = kN 4:=by kernel_rfl
theorem num4 {β : Type} (kN : Int→Option β) (kE1 : Bool→Option β) : numB 595 4 (tapeL 4 400 0) kN kE1 = kN 5:=by kernel_rfl
end Go.Ev
