/- A part of the proof that follows: Chapter 6's runs: reports of sixty tapes, each thing of them turned; bytes cut off, each byte turned; reports of each type and count. -/
import Derived.Test.YtocbjhoaamkonaaMRtcpNumbers9
import Derived.KernelRfl
namespace Go.Ev
set_option maxRecDepth 100000
theorem num20 {β : Type} (kN : Int→Option β) (kE1 : Bool→Option β) : numB 579 20 (tapeL 20 400 0) kN kE1 = kN 21:=by kernel_rfl
theorem num21 {β : Type} (kN : Int→Option β) (kE1 : Bool→Option β) : numB 578 21 (tapeL 21 400 0) kN kE1 = kN 22:=by kernel_rfl
theorem num22 {β : Type} (kN : Int→Option β) (kE1 : Bool→Option β) : numB 577 22 (tapeL 22 400 0) kN kE1 = kN 23:=by kernel_rfl
theorem num23 {β : Type} (kN : Int→Option β) (kE1 : Bool→Option β) : numB 576 23 (tapeL 23 400 0) kN kE1 = kN 24:=by kernel_rfl
theorem num24 {β : Type} (kN : Int→Option β) (kE1 : Bool→Option β) : numB 575 24 (tapeL 24 400 0) kN kE1 = kN 25:=by kernel_rfl
end Go.Ev
