/- A part of the proof that follows: Chapter 6's runs: reports of sixty tapes, each thing of them turned; bytes cut off, each byte turned; reports of each type and count. -/
import Derived.Test.YtocbjhoaamkonaaMRtcpNumbers15
import Derived.KernelRfl
namespace Go.Ev
set_option maxRecDepth 100000
theorem num50 {β : Type} (kN : Int→Option β) (kE1 : Bool→Option β) : numB 549 50 (tapeL 50 400 0) kN kE1 = kN 51:=by kernel_rfl
theorem num51 {β : Type} (kN : Int→Option β) (kE1 : Bool→Option β) : numB 548 51 (tapeL 51 400 0) kN kE1 = kN 52:=by kernel_rfl
theorem num52 {β : Type} (kN : Int→Option β) (kE1 : Bool→Option β) : numB 547 52 (tapeL 52 400 0) kN kE1 = kN 53:=by kernel_rfl
theorem num53 {β : Type} (kN : Int→Option β) (kE1 : Bool→Option β) : numB 546 53 (tapeL 53 400 0) kN kE1 = kN 54:=by kernel_rfl
theorem num54 {β : Type} (kN : Int→Option β) (kE1 : Bool→Option β) : numB 545 54 (tapeL 54 400 0) kN kE1 = kN 55:=by kernel_rfl
end Go.Ev
