/- A part of the proof that follows: Chapter 6's runs: reports of sixty tapes, each thing of them turned; bytes cut off, each byte turned; reports of each type and count. -/
import Derived.Test.YtocbjhoaamkonaaMRtcpNumbers13
import Derived.KernelRfl
namespace Go.Ev
set_option maxRecDepth 100000
theorem num40 {β : Type} (kN : Int→Option β) (kE1 : Bool→Option β) : numB 559 40 (tapeL 40 400 0) kN kE1 = kN 41:=by kernel_rfl
theorem num41 {β : Type} (kN : Int→Option β) (kE1 : Bool→Option β) : numB 558 41 (tapeL 41 400 0) kN kE1 = kN 42:=by kernel_rfl
theorem num42 {β : Type} (kN : Int→Option β) (kE1 : Bool→Option β) : numB 557 42 (tapeL 42 400 0) kN kE1 = kN 43:=by kernel_rfl
theorem num43 {β : Type} (kN : Int→Option β) (kE1 : Bool→Option β) : numB 556 43 (tapeL 43 400 0) kN kE1 = kN 44:=by kernel_rfl
theorem num44 {β : Type} (kN : Int→Option β) (kE1 : Bool→Option β) : numB 555 44 (tapeL 44 400 0) kN kE1 = kN 45:=by kernel_rfl
end Go.Ev
