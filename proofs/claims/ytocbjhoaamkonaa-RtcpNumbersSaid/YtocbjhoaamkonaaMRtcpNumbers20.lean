/- A part of the proof that follows: Chapter 6's runs: reports of sixty tapes, each thing of them turned; bytes cut off, each byte turned; reports of each type and count. -/
import Derived.Test.YtocbjhoaamkonaaMRtcpNumbers19
import Derived.KernelRfl
namespace Go.Ev
set_option maxRecDepth 100000
theorem typ214 {β : Type} (kE0 : Int→Option β) (kE1 : Bool→Option β) : f_zl6_RtcpNumbers_l5 575 kE0 kE1 214 0 = kE0 214:=by kernel_rfl
theorem typ215 {β : Type} (kE0 : Int→Option β) (kE1 : Bool→Option β) : f_zl6_RtcpNumbers_l5 574 kE0 kE1 215 0 = kE0 215:=by kernel_rfl
theorem typ216 {β : Type} (kE0 : Int→Option β) (kE1 : Bool→Option β) : f_zl6_RtcpNumbers_l5 573 kE0 kE1 216 0 = kE0 216:=by kernel_rfl
theorem typ217 {β : Type} (kE0 : Int→Option β) (kE1 : Bool→Option β) : f_zl6_RtcpNumbers_l5 572 kE0 kE1 217 0 = kE0 217:=by kernel_rfl
theorem typ218 {β : Type} (kE0 : Int→Option β) (kE1 : Bool→Option β) : f_zl6_RtcpNumbers_l5 571 kE0 kE1 218 0 = kE0 218:=by kernel_rfl
theorem typ219 {β : Type} (kE0 : Int→Option β) (kE1 : Bool→Option β) : f_zl6_RtcpNumbers_l5 570 kE0 kE1 219 0 = kE0 219:=by kernel_rfl
theorem typ220 {β : Type} (kE0 : Int→Option β) (kE1 : Bool→Option β) : f_zl6_RtcpNumbers_l5 569 kE0 kE1 220 0 = kE0 220:=by kernel_rfl
theorem typ221 {β : Type} (kE0 : Int→Option β) (kE1 : Bool→Option β) : f_zl6_RtcpNumbers_l5 568 kE0 kE1 221 0 = kE0 221:=by kernel_rfl
theorem typ222 {β : Type} (kE0 : Int→Option β) (kE1 : Bool→Option β) : f_zl6_RtcpNumbers_l5 567 kE0 kE1 222 0 = kE0 222:=by kernel_rfl
theorem typ223 {β : Type} (kE0 : Int→Option β) (kE1 : Bool→Option β) : f_zl6_RtcpNumbers_l5 566 kE0 kE1 223 0 = kE0 223:=by kernel_rfl
theorem typ224 {β : Type} (kE0 : Int→Option β) (kE1 : Bool→Option β) : f_zl6_RtcpNumbers_l5 565 kE0 kE1 224 0 = kE0 224:=by kernel_rfl
theorem typ225 {β : Type} (kE0 : Int→Option β) (kE1 : Bool→Option β) : f_zl6_RtcpNumbers_l5 564 kE0 kE1 225 0 = kE0 225:=by kernel_rfl
end Go.Ev
