/- A part of the proof that follows: Chapter 6's runs: reports of sixty tapes, each thing of them turned; bytes cut off, each byte turned; reports of each type and count. -/
import Derived.Test.YtocbjhoaamkonaaMRtcpNumbers11
import Derived.KernelRfl
namespace Go.Ev
set_option maxRecDepth 100000
theorem num30 {β : Type} (kN : Int→Option β) (kE1 : Bool→Option β) : numB 569 30 (tapeL 30 400 0) kN kE1 = kN 31:=by kernel_rfl
theorem num31 {β : Type} (kN : Int→Option β) (kE1 : Bool→Option β) : numB 568 31 (tapeL 31 400 0) kN kE1 = kN 32:=by kernel_rfl
theorem num32 {β : Type} (kN : Int→Option β) (kE1 : Bool→Option β) : numB 567 32 (tapeL 32 400 0) kN kE1 = kN 33:=by kernel_rfl
theorem num33 {β : Type} (kN : Int→Option β) (kE1 : Bool→Option β) : numB 566 33 (tapeL 33 400 0) kN kE1 = kN 34:=by kernel_rfl
theorem num34 {β : Type} (kN : Int→Option β) (kE1 : Bool→Option β) : numB 565 34 (tapeL 34 400 0) kN kE1 = kN 35:=by kernel_rfl
end Go.Ev
