/- A part of the proof that follows: Chapter 6's runs: reports of sixty tapes, each thing of them turned; bytes cut off, each byte turned; reports of each type and count. -/
import Derived.Test.YtocbjhoaamkonaaMRtcpNumbers17
import Derived.KernelRfl
namespace Go.Ev
set_option maxRecDepth 100000
theorem typ190 {β : Type} (kE0 : Int→Option β) (kE1 : Bool→Option β) : f_zl6_RtcpNumbers_l5 599 kE0 kE1 190 0 = kE0 190:=by kernel_rfl
theorem typ191 {β : Type} (kE0 : Int→Option β) (kE1 : Bool→Option β) : f_zl6_RtcpNumbers_l5 598 kE0 kE1 191 0 = kE0 191:=by kernel_rfl
theorem typ192 {β : Type} (kE0 : Int→Option β) (kE1 : Bool→Option β) : f_zl6_RtcpNumbers_l5 597 kE0 kE1 192 0 = kE0 192:=by kernel_rfl
theorem typ193 {β : Type} (kE0 : Int→Option β) (kE1 : Bool→Option β) : f_zl6_RtcpNumbers_l5 596 kE0 kE1 193 0 = kE0 193:=by kernel_rfl
theorem typ194 {β : Type} (kE0 : Int→Option β) (kE1 : Bool→Option β) : f_zl6_RtcpNumbers_l5 595 kE0 kE1 194 0 = kE0 194:=by kernel_rfl
theorem typ195 {β : Type} (kE0 : Int→Option β) (kE1 : Bool→Option β) : f_zl6_RtcpNumbers_l5 594 kE0 kE1 195 0 = kE0 195:=by kernel_rfl
theorem typ196 {β : Type} (kE0 : Int→Option β) (kE1 : Bool→Option β) : f_zl6_RtcpNumbers_l5 593 kE0 kE1 196 0 = kE0 196:=by kernel_rfl
theorem typ197 {β : Type} (kE0 : Int→Option β) (kE1 : Bool→Option β) : f_zl6_RtcpNumbers_l5 592 kE0 kE1 197 0 = kE0 197:=by kernel_rfl
theorem typ198 {β : Type} (kE0 : Int→Option β) (kE1 : Bool→Option β) : f_zl6_RtcpNumbers_l5 591 kE0 kE1 198 0 = kE0 198:=by kernel_rfl
theorem typ199 {β : Type} (kE0 : Int→Option β) (kE1 : Bool→Option β) : f_zl6_RtcpNumbers_l5 590 kE0 kE1 199 0 = kE0 199:=by kernel_rfl
theorem typ200 {β : Type} (kE0 : Int→Option β) (kE1 : Bool→Option β) : f_zl6_RtcpNumbers_l5 589 kE0 kE1 200 0 = kE0 200:=by kernel_rfl
theorem typ201 {β : Type} (kE0 : Int→Option β) (kE1 : Bool→Option β) : f_zl6_RtcpNumbers_l5 588 kE0 kE1 201 0 = kE0 201:=by kernel_rfl
end Go.Ev
