/- A part of the proof that follows: Chapter 6's runs: reports of sixty tapes, each thing of them turned; bytes cut off, each byte turned; reports of each type and count. -/
import Derived.Test.YtocbjhoaamkonaaMRtcpNumbers12
import Derived.KernelRfl
namespace Go.Ev
set_option maxRecDepth 100000
theorem num35 {β : Type} (kN : Int→Option β) (kE1 : Bool→Option β) : numB 564 35 (tapeL 35 400 0) kN kE1 = kN 36:=by kernel_rfl
theorem num36 {β : Type} (kN : Int→Option β) (kE1 : Bool→Option β) : numB 563 36 (tapeL 36 400 0) kN kE1 = kN 37:=by kernel_rfl
theorem num37 {β : Type} (kN : Int→Option β) (kE1 : Bool→Option β) : numB 562 37 (tapeL 37 400 0) kN kE1 = kN 38:=by kernel_rfl
theorem num38 {β : Type} (kN : Int→Option β) (kE1 : Bool→Option β) : numB 561 38 (tapeL 38 400 0) kN kE1 = kN 39:=by kernel_rfl
theorem num39 {β : Type} (kN : Int→Option β) (kE1 : Bool→Option β) : numB 560 39 (tapeL 39 400 0) kN kE1 = kN 40:=by kernel_rfl
end Go.Ev
