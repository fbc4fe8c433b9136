/- A part of the proof that follows: Chapter 6's runs: reports of sixty tapes, each thing of them turned; bytes cut off, each byte turned; reports of each type and count. -/
import Derived.Test.YtocbjhoaamkonaaMRtcpNumbers18
import Derived.KernelRfl
namespace Go.Ev
set_option maxRecDepth 100000
theorem typ202 {β : Type} (kE0 : Int→Option β) (kE1 : Bool→Option β) : f_zl6_RtcpNumbers_l5 587 kE0 kE1 202 0 = kE0 202:=by kernel_rfl
theorem typ203 {β : Type} (kE0 : Int→Option β) (kE1 : Bool→Option β) : f_zl6_RtcpNumbers_l5 586 kE0 kE1 203 0 = kE0 203:=by kernel_rfl
theorem typ204 {β : Type} (kE0 : Int→Option β) (kE1 : Bool→Option β) : f_zl6_RtcpNumbers_l5 585 kE0 kE1 204 0 = kE0 204:=by kernel_rfl
theorem typ205 {β : Type} (kE0 : Int→Option β) (kE1 : Bool→Option β) : f_zl6_RtcpNumbers_l5 584 kE0 kE1 205 0 = kE0 205:=by kernel_rfl
theorem typ206 {β : Type} (kE0 : Int→Option β) (kE1 : Bool→Option β) : f_zl6_RtcpNumbers_l5 583 kE0 kE1 206 0 = kE0 206:=by kernel_rfl
theorem typ207 {β : Type} (kE0 : Int→Option β) (kE1 : Bool→Option β) : f_zl6_RtcpNumbers_l5 582 kE0 kE1 207 0 = kE0 207:=by kernel_rfl
theorem typ208 {β : Type} (kE0 : Int→Option β) (kE1 : Bool→Option β) : f_zl6_RtcpNumbers_l5 581 kE0 kE1 208 0 = kE0 208:=by kernel_rfl
theorem typ209 {β : Type} (kE0 : Int→Option β) (kE1 : Bool→Option β) : f_zl6_RtcpNumbers_l5 580 kE0 kE1 209 0 = kE0 209:=by kernel_rfl
theorem typ210 {β : Type} (kE0 : Int→Option β) (kE1 : Bool→Option β) : f_zl6_RtcpNumbers_l5 579 kE0 kE1 210 0 = kE0 210:=by kernel_rfl
theorem typ211 {β : Type} (kE0 : Int→Option β) (kE1 : Bool→Option β) : f_zl6_RtcpNumbers_l5 578 kE0 kE1 211 0 = kE0 211:=by kernel_rfl
theorem typ212 {β : Type} (kE0 : Int→Option β) (kE1 : Bool→Option β) : f_zl6_RtcpNumbers_l5 577 kE0 kE1 212 0 = kE0 212:=by kernel_rfl
theorem typ213 {β : Type} (kE0 : Int→Option β) (kE1 : Bool→Option β) : f_zl6_RtcpNumbers_l5 576 kE0 kE1 213 0 = kE0 213:=by kernel_rfl
end Go.Ev
