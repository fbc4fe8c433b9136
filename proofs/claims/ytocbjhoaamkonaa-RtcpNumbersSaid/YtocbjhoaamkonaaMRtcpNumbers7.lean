/- A part of the proof that follows: Chapter 6's runs: reports of sixty tapes, each thing of them turned; bytes cut off, each byte turned; reports of each type and count. -/
import Derived.Test.YtocbjhoaamkonaaMRtcpNumbers6
import Derived.KernelRfl
namespace Go.Ev
set_option maxRecDepth 100000
theorem num5 {β : Type} (kN : Int→Option β) (kE1 : Bool→Option β) : numB 594 5 (tapeL 5 400 0) kN kE1 = kN 6:=by kernel_rfl
theorem num6 {β : Type} (kN : Int→Option β) (kE1 : Bool→Option β) : numB 593 6 (tapeL 6 400 0) kN kE1 = kN 7:=by kernel_rfl
theorem num7 {β : Type} (kN : Int→Option β) (kE1 : Bool→Option β) : numB 592 7 (tapeL 7 400 0) kN kE1 = kN 8:=by kernel_rfl
theorem num8 {β : Type} (kN : Int→Option β) (kE1 : Bool→Option β) : numB 591 8 (tapeL 8 400 0) kN kE1 = kN 9:=by kernel_rfl
theorem num9 {β : Type} (kN : Int→Option β) (kE1 : Bool→Option β) : numB 590 9 (tapeL 9 400 0) kN kE1 = kN 10:=by kernel_rfl
end Go.Ev
