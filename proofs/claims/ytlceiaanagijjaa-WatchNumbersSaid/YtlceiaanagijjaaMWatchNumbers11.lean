/- A part of the proof that follows: the watch keeps to the document in forty scripts and at bounds -/
import Derived.Test.YtlceiaanagijjaaMWatchNumbers10
namespace Go.Ev
theorem wrap_i64 {n:Int} (h1:-9223372036854775808≤n) (h2:n<9223372036854775808):IntKind.wrap .i64 n=n:=wrap64 h1 h2
end Go.Ev
namespace Go.Ev
namespace Wtn
theorem last:((z4 160 2 ([((⟨0,0,9223372036854775807⟩:z6)),((⟨4,0,(-9223372036854775808)⟩:z6)),((⟨4,1,9223372036854775807⟩:z6))])).bind fun r52 =>
 (bif r52 then ((z3v 160).bind fun r57=>some r57) else (some false)).bind fun b62=>some b62)=some true:=by kernel_rfl
theorem step {k:Nat} {i:Int} {s:List z6} {kE0:Unit→Option Bool} {kE1:Bool→Option Bool} (hi:i<40) (h0:0≤i) (hl:∀ {β:Type} (K:Int→List z6→Option β),z3 k K i [] 0=K i s) (ha:z4 k (Int.tmod i 5) s=some true) (hb:z4 k 3 s=some true) :
  zn (k+1) kE0 kE1 i=zn k kE0 kE1 (i+1):=by
 rw [zn,decide_eq_true hi,cond_true,hl,ha,Option.bind_some,Bool.not_true,cond_false,hb,Option.bind_some,Option.bind_some,Bool.not_true,cond_false,wrap_i64 (n:=i+1) (by omega) (by omega)]
theorem watchNumbers_p:z1w 160=some true:=by
 unfold z1w
 refine Eq.trans (step (k:=159) (i:=0) (by decide) (by decide) l0 a0 b0) ?_
 refine Eq.trans (step (k:=158) (i:=1) (by decide) (by decide) l1 a1 b1) ?_
 refine Eq.trans (step (k:=157) (i:=2) (by decide) (by decide) l2 a2 b2) ?_
 refine Eq.trans (step (k:=156) (i:=3) (by decide) (by decide) l3 a3 b3) ?_
 refine Eq.trans (step (k:=155) (i:=4) (by decide) (by decide) l4 a4 b4) ?_
 refine Eq.trans (step (k:=154) (i:=5) (by decide) (by decide) l5 a5 b5) ?_
 refine Eq.trans (step (k:=153) (i:=6) (by decide) (by decide) l6 a6 b6) ?_
 refine Eq.trans (step (k:=152) (i:=7) (by decide) (by decide) l7 a7 b7) ?_
 refine Eq.trans (step (k:=151) (i:=8) (by decide) (by decide) l8 a8 b8) ?_
 refine Eq.trans (step (k:=150) (i:=9) (by decide) (by decide) l9 a9 b9) ?_
 refine Eq.trans (step (k:=149) (i:=10) (by decide) (by decide) l10 a10 b10) ?_
 refine Eq.trans (step (k:=148) (i:=11) (by decide) (by decide) l11 a11 b11) ?_
 refine Eq.trans (step (k:=147) (i:=12) (by decide) (by decide) l12 a12 b12) ?_
 refine Eq.trans (step (k:=146) (i:=13) (by decide) (by decide) l13 a13 b13) ?_
 refine Eq.trans (step (k:=145) (i:=14) (by decide) (by decide) l14 a14 b14) ?_
 refine Eq.trans (step (k:=144) (i:=15) (by decide) (by decide) l15 a15 b15) ?_
 refine Eq.trans (step (k:=143) (i:=16) (by decide) (by decide) l16 a16 b16) ?_
 refine Eq.trans (step (k:=142) (i:=17) (by decide) (by decide) l17 a17 b17) ?_
 refine Eq.trans (step (k:=141) (i:=18) (by decide) (by decide) l18 a18 b18) ?_
 refine Eq.trans (step (k:=140) (i:=19) (by decide) (by decide) l19 a19 b19) ?_
 refine Eq.trans (step (k:=139) (i:=20) (by decide) (by decide) l20 a20 b20) ?_
 refine Eq.trans (step (k:=138) (i:=21) (by decide) (by decide) l21 a21 b21) ?_
 refine Eq.trans (step (k:=137) (i:=22) (by decide) (by decide) l22 a22 b22) ?_
 refine Eq.trans (step (k:=136) (i:=23) (by decide) (by decide) l23 a23 b23) ?_
 refine Eq.trans (step (k:=135) (i:=24) (by decide) (by decide) l24 a24 b24) ?_
 refine Eq.trans (step (k:=134) (i:=25) (by decide) (by decide) l25 a25 b25) ?_
 refine Eq.trans (step (k:=133) (i:=26) (by decide) (by decide) l26 a26 b26) ?_
 refine Eq.trans (step (k:=132) (i:=27) (by decide) (by decide) l27 a27 b27) ?_
 refine Eq.trans (step (k:=131) (i:=28) (by decide) (by decide) l28 a28 b28) ?_
 refine Eq.trans (step (k:=130) (i:=29) (by decide) (by decide) l29 a29 b29) ?_
 refine Eq.trans (step (k:=129) (i:=30) (by decide) (by decide) l30 a30 b30) ?_
 refine Eq.trans (step (k:=128) (i:=31) (by decide) (by decide) l31 a31 b31) ?_
 refine Eq.trans (step (k:=127) (i:=32) (by decide) (by decide) l32 a32 b32) ?_
 refine Eq.trans (step (k:=126) (i:=33) (by decide) (by decide) l33 a33 b33) ?_
 refine Eq.trans (step (k:=125) (i:=34) (by decide) (by decide) l34 a34 b34) ?_
 refine Eq.trans (step (k:=124) (i:=35) (by decide) (by decide) l35 a35 b35) ?_
 refine Eq.trans (step (k:=123) (i:=36) (by decide) (by decide) l36 a36 b36) ?_
 refine Eq.trans (step (k:=122) (i:=37) (by decide) (by decide) l37 a37 b37) ?_
 refine Eq.trans (step (k:=121) (i:=38) (by decide) (by decide) l38 a38 b38) ?_
 refine Eq.trans (step (k:=120) (i:=39) (by decide) (by decide) l39 a39 b39) ?_
 exact last
end Wtn
theorem watchNumbers_ev:ev G X0 7 [] [] []=some ([.v (bV true)],[]):=by
 obtain ⟨_,h3,rfl⟩:=z6g 160 (h:=[]) (σ:=[]) _ Wtn.watchNumbers_p
 exact h3
end Go.Ev
