/- A part of the proof that follows: the watch keeps to the document in forty scripts and at bounds -/
import Derived.Test.YtlceiaanagijjaaMWatchNumbers10
namespace Go.Ev
theorem wrap_i64 {n:Int} (h1:-9223372036854775808≤n) (h2:n<9223372036854775808):IntKind.wrap .i64 n=n:=wrap64 h1 h2
end Go.Ev
namespace Go.Ev
namespace Wtn
theorem last:((z4 160 2 ([((⟨0,0,9223372036854775807⟩:z5)),((⟨4,0,(-9223372036854775808)⟩:z5)),((⟨4,1,9223372036854775807⟩:z5))])).bind fun r52 =>
 (bif r52 then ((z3m 160).bind fun r57=>some r57) else (some false)).bind fun b62=>some b62)=some true:=by kernel_rfl
theorem step {k:Nat} {i:Int} {s:List z5} {kE0:Unit→Option Bool} {kE1:Bool→Option Bool} (hi:i<40) (h0:0≤i) (hl:∀ {β:Type} (K:Int→List z5→Option β),zk k K i [] 0=K i s) (ha:z4 k (Int.tmod i 5) s=some true) (hb:z4 k 3 s=some true) :
  zn (k+1) kE0 kE1 i=zn k kE0 kE1 (i+1):=by
 rw [zn,decide_eq_true hi,cond_true,hl,ha,Option.bind_some,Bool.not_true,cond_false,hb,Option.bind_some,Option.bind_some,Bool.not_true,cond_false,wrap_i64 (n:=i+1) (by omega) (by omega)]
end Wtn
theorem watchNumbers_ev:ev G X0 7 [] [] []=some ([.v (bV true)],[]):=by
 obtain ⟨_,h3,rfl⟩:=z6m 160 (h:=[]) (σ:=[]) _ Wtn.watchNumbers_p
 exact h3
end Go.Ev
