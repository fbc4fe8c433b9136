/- A part of the proof that follows: Chapter 6's runs: reports of sixty tapes, each thing of them turned; bytes cut off, each byte turned; reports of each type and count. -/
import Derived.Test.YtocbjhoaamkonaaMRtcpNumbers14
import Derived.KernelRfl
namespace Go.Ev
set_option maxRecDepth 100000
theorem num45 {β : Type} (kN : Int→Option β) (kE1 : Bool→Option β) : numB 554 45 (tapeL 45 400 0) kN kE1 = kN 46:=by kernel_rfl
theorem num46 {β : Type} (kN : Int→Option β) (kE1 : Bool→Option β) : numB 553 46 (tapeL 46 400 0) kN kE1 = kN 47:=by kernel_rfl
theorem num47 {β : Type} (kN : Int→Option β) (kE1 : Bool→Option β) : numB 552 47 (tapeL 47 400 0) kN kE1 = kN 48:=by kernel_rfl
theorem num48 {β : Type} (kN : Int→Option β) (kE1 : Bool→Option β) : numB 551 48 (tapeL 48 400 0) kN kE1 = kN 49:=by kernel_rfl
theorem num49 {β : Type} (kN : Int→Option β) (kE1 : Bool→Option β) : numB 550 49 (tapeL 49 400 0) kN kE1 = kN 50:=by kernel_rfl
end Go.Ev
