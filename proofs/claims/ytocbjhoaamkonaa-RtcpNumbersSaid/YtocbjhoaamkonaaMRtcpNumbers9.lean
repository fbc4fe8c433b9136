/- A part of the proof that follows: Chapter 6's runs: reports of sixty tapes, each thing of them turned; bytes cut off, each byte turned; reports of each type and count. -/
import Derived.Test.YtocbjhoaamkonaaMRtcpNumbers8
import Derived.KernelRfl
namespace Go.Ev
set_option maxRecDepth 100000
theorem num15 {β : Type} (kN : Int→Option β) (kE1 : Bool→Option β) : numB 584 15 (tapeL 15 400 0) kN kE1 = kN 16:=by kernel_rfl
theorem num16 {β : Type} (kN : Int→Option β) (kE1 : Bool→Option β) : numB 583 16 (tapeL 16 400 0) kN kE1 = kN 17:=by kernel_rfl
theorem num17 {β : Type} (kN : Int→Option β) (kE1 : Bool→Option β) : numB 582 17 (tapeL 17 400 0) kN kE1 = kN 18:=by kernel_rfl
theorem num18 {β : Type} (kN : Int→Option β) (kE1 : Bool→Option β) : numB 581 18 (tapeL 18 400 0) kN kE1 = kN 19:=by kernel_rfl
theorem num19 {β : Type} (kN : Int→Option β) (kE1 : Bool→Option β) : numB 580 19 (tapeL 19 400 0) kN kE1 = kN 20:=by kernel_rfl
end Go.Ev
