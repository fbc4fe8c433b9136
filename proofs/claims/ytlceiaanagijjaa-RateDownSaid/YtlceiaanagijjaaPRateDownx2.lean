-- PRINTED BY print.sh 35421559b90ae4d0a3588c463048766b98c2df88dd9212a6774a882060cdf62d: not written by this session
import Derived.Test.YtlceiaanagijjaaPRateDownx0
import Derived.Test.YtlceiaanagijjaaPRateDownx1
namespace Go.Proofs.Ytlceiaanagijjaa.PRateDown
open Go.RowKit Go.Proofs.YtlceiaanagijjaaW.PrintWords Go.Proofs.YtlceiaanagijjaaW.PrintLast Go.Proofs.YtlceiaanagijjaaW.PrintMore
attribute [local go_sem] max2_int min2_int max_two min_two max_three min_three max_four min_four   -- for this text's walks alone
set_option linter.unusedVariables false
set_option linter.unusedSimpArgs false

/-! ### limelightlaw5_RateDown: function 5 -/
def limelightlaw5_RateDown.f (k : Nat) (a0 : Int) (a1 : Int) (a2 : Int) : Option (Bool) := (rate_Down.f k a0 (wrap64 (1 + (Int.tmod (wrap64 ((Int.tmod a2 24) + 24)) 24)))).bind fun t114 => ((rate_Down.f k a1 (wrap64 (1 + (Int.tmod (wrap64 ((Int.tmod a2 24) + 24)) 24)))).bind fun t115 => ((rate_Pack.f k a0 (wrap64 (1 + (Int.tmod (wrap64 ((Int.tmod a2 24) + 24)) 24)))).bind fun bt116 => (if t114 ≤ a0 then (if a0 = 0 then ((rate_Down.f k t114 (wrap64 (1 + (Int.tmod (wrap64 ((Int.tmod a2 24) + 24)) 24)))).bind fun t118 => (if t118 = t114 then (if a0 > a1 then ((rate_Open.f k bt116.1 bt116.2 (wrap64 (1 + (Int.tmod (wrap64 ((Int.tmod a2 24) + 24)) 24)))).bind fun t119 => (if t119 = t114 then (if 0 ≤ (IntKind.u64.wrap (bt116.1)) then (if (IntKind.u64.wrap (a0 - t114)) < (shl .u64 1 (IntKind.u64.wrap (bt116.1))) then (if 0 ≤ (IntKind.u64.wrap (wrap64 (1 + (Int.tmod (wrap64 ((Int.tmod a2 24) + 24)) 24)))) then (if ((decide (a0 < (shl .u64 1 (IntKind.u64.wrap (wrap64 (1 + (Int.tmod (wrap64 ((Int.tmod a2 24) + 24)) 24))))))) == (bt116.1 == 0)) = true then ((limelightlaw5_known.f k).bind fun t120 => (some t120)) else (some false)) else (none)) else (some false)) else (none)) else (some false))) else (if t114 ≤ t115 then ((rate_Open.f k bt116.1 bt116.2 (wrap64 (1 + (Int.tmod (wrap64 ((Int.tmod a2 24) + 24)) 24)))).bind fun t121 => (if t121 = t114 then (if 0 ≤ (IntKind.u64.wrap (bt116.1)) then (if (IntKind.u64.wrap (a0 - t114)) < (shl .u64 1 (IntKind.u64.wrap (bt116.1))) then (if 0 ≤ (IntKind.u64.wrap (wrap64 (1 + (Int.tmod (wrap64 ((Int.tmod a2 24) + 24)) 24)))) then (if ((decide (a0 < (shl .u64 1 (IntKind.u64.wrap (wrap64 (1 + (Int.tmod (wrap64 ((Int.tmod a2 24) + 24)) 24))))))) == (bt116.1 == 0)) = true then ((limelightlaw5_known.f k).bind fun t122 => (some t122)) else (some false)) else (none)) else (some false)) else (none)) else (some false))) else (some false))) else (some false))) else (if t114 > (IntKind.u64.wrap (Int.tdiv a0 2)) then ((rate_Down.f k t114 (wrap64 (1 + (Int.tmod (wrap64 ((Int.tmod a2 24) + 24)) 24)))).bind fun t123 => (if t123 = t114 then (if a0 > a1 then ((rate_Open.f k bt116.1 bt116.2 (wrap64 (1 + (Int.tmod (wrap64 ((Int.tmod a2 24) + 24)) 24)))).bind fun t124 => (if t124 = t114 then (if 0 ≤ (IntKind.u64.wrap (bt116.1)) then (if (IntKind.u64.wrap (a0 - t114)) < (shl .u64 1 (IntKind.u64.wrap (bt116.1))) then (if 0 ≤ (IntKind.u64.wrap (wrap64 (1 + (Int.tmod (wrap64 ((Int.tmod a2 24) + 24)) 24)))) then (if ((decide (a0 < (shl .u64 1 (IntKind.u64.wrap (wrap64 (1 + (Int.tmod (wrap64 ((Int.tmod a2 24) + 24)) 24))))))) == (bt116.1 == 0)) = true then ((limelightlaw5_known.f k).bind fun t125 => (some t125)) else (some false)) else (none)) else (some false)) else (none)) else (some false))) else (if t114 ≤ t115 then ((rate_Open.f k bt116.1 bt116.2 (wrap64 (1 + (Int.tmod (wrap64 ((Int.tmod a2 24) + 24)) 24)))).bind fun t126 => (if t126 = t114 then (if 0 ≤ (IntKind.u64.wrap (bt116.1)) then (if (IntKind.u64.wrap (a0 - t114)) < (shl .u64 1 (IntKind.u64.wrap (bt116.1))) then (if 0 ≤ (IntKind.u64.wrap (wrap64 (1 + (Int.tmod (wrap64 ((Int.tmod a2 24) + 24)) 24)))) then (if ((decide (a0 < (shl .u64 1 (IntKind.u64.wrap (wrap64 (1 + (Int.tmod (wrap64 ((Int.tmod a2 24) + 24)) 24))))))) == (bt116.1 == 0)) = true then ((limelightlaw5_known.f k).bind fun t127 => (some t127)) else (some false)) else (none)) else (some false)) else (none)) else (some false))) else (some false))) else (some false))) else (some false))) else (some false))))
theorem limelightlaw5_RateDown.mono : ∀ a0 a1 a2 k, LeO (limelightlaw5_RateDown.f k a0 a1 a2) (limelightlaw5_RateDown.f (k + 1) a0 a1 a2) := by
  intro a0 a1 a2 k
  unfold limelightlaw5_RateDown.f
  repeat' first
      | (with_reducible exact limelightlaw5_known.mono _)
      | (with_reducible exact rate_Down.mono _ _ _)
      | (with_reducible exact rate_Open.mono _ _ _ _)
      | (with_reducible exact rate_Pack.mono _ _ _)
      | (with_reducible exact LeO.refl _)
      | (with_reducible exact LeO.none _)
      | (with_reducible refine LeO.ite ?_ ?_)
      | (with_reducible refine LeO.bind ?_ (fun _ => ?_))
      | exact limelightlaw5_known.mono _
      | exact rate_Down.mono _ _ _
      | exact rate_Open.mono _ _ _ _
      | exact rate_Pack.mono _ _ _
      | exact LeO.none _
      | refine LeO.ite ?_ ?_
      | refine LeO.bind ?_ (fun _ => ?_)
set_option maxHeartbeats 8000000 in
set_option maxRecDepth 100000 in
theorem limelightlaw5_RateDown.calls (k : Nat) (a0 : Int) (a1 : Int) (a2 : Int) (r : Bool) (w : World) (h : limelightlaw5_RateDown.f k a0 a1 a2 = some r) :
    Calls Try.prog 5 #[.int .u64 a0, .int .u64 a1, .int .i64 a2] w fun e w' => e = .returned (.bool r) ∧ Below w.heap.size w w' := by
  have HB := Aside0.mk (Below.refl w.heap.size w)
  have H : ((rate_Down.f k a0 (wrap64 (1 + (Int.tmod (wrap64 ((Int.tmod a2 24) + 24)) 24)))).bind fun t114 => ((rate_Down.f k a1 (wrap64 (1 + (Int.tmod (wrap64 ((Int.tmod a2 24) + 24)) 24)))).bind fun t115 => ((rate_Pack.f k a0 (wrap64 (1 + (Int.tmod (wrap64 ((Int.tmod a2 24) + 24)) 24)))).bind fun bt116 => (if t114 ≤ a0 then (if a0 = 0 then ((rate_Down.f k t114 (wrap64 (1 + (Int.tmod (wrap64 ((Int.tmod a2 24) + 24)) 24)))).bind fun t118 => (if t118 = t114 then (if a0 > a1 then ((rate_Open.f k bt116.1 bt116.2 (wrap64 (1 + (Int.tmod (wrap64 ((Int.tmod a2 24) + 24)) 24)))).bind fun t119 => (if t119 = t114 then (if 0 ≤ (IntKind.u64.wrap (bt116.1)) then (if (IntKind.u64.wrap (a0 - t114)) < (shl .u64 1 (IntKind.u64.wrap (bt116.1))) then (if 0 ≤ (IntKind.u64.wrap (wrap64 (1 + (Int.tmod (wrap64 ((Int.tmod a2 24) + 24)) 24)))) then (if ((decide (a0 < (shl .u64 1 (IntKind.u64.wrap (wrap64 (1 + (Int.tmod (wrap64 ((Int.tmod a2 24) + 24)) 24))))))) == (bt116.1 == 0)) = true then ((limelightlaw5_known.f k).bind fun t120 => (some t120)) else (some false)) else (none)) else (some false)) else (none)) else (some false))) else (if t114 ≤ t115 then ((rate_Open.f k bt116.1 bt116.2 (wrap64 (1 + (Int.tmod (wrap64 ((Int.tmod a2 24) + 24)) 24)))).bind fun t121 => (if t121 = t114 then (if 0 ≤ (IntKind.u64.wrap (bt116.1)) then (if (IntKind.u64.wrap (a0 - t114)) < (shl .u64 1 (IntKind.u64.wrap (bt116.1))) then (if 0 ≤ (IntKind.u64.wrap (wrap64 (1 + (Int.tmod (wrap64 ((Int.tmod a2 24) + 24)) 24)))) then (if ((decide (a0 < (shl .u64 1 (IntKind.u64.wrap (wrap64 (1 + (Int.tmod (wrap64 ((Int.tmod a2 24) + 24)) 24))))))) == (bt116.1 == 0)) = true then ((limelightlaw5_known.f k).bind fun t122 => (some t122)) else (some false)) else (none)) else (some false)) else (none)) else (some false))) else (some false))) else (some false))) else (if t114 > (IntKind.u64.wrap (Int.tdiv a0 2)) then ((rate_Down.f k t114 (wrap64 (1 + (Int.tmod (wrap64 ((Int.tmod a2 24) + 24)) 24)))).bind fun t123 => (if t123 = t114 then (if a0 > a1 then ((rate_Open.f k bt116.1 bt116.2 (wrap64 (1 + (Int.tmod (wrap64 ((Int.tmod a2 24) + 24)) 24)))).bind fun t124 => (if t124 = t114 then (if 0 ≤ (IntKind.u64.wrap (bt116.1)) then (if (IntKind.u64.wrap (a0 - t114)) < (shl .u64 1 (IntKind.u64.wrap (bt116.1))) then (if 0 ≤ (IntKind.u64.wrap (wrap64 (1 + (Int.tmod (wrap64 ((Int.tmod a2 24) + 24)) 24)))) then (if ((decide (a0 < (shl .u64 1 (IntKind.u64.wrap (wrap64 (1 + (Int.tmod (wrap64 ((Int.tmod a2 24) + 24)) 24))))))) == (bt116.1 == 0)) = true then ((limelightlaw5_known.f k).bind fun t125 => (some t125)) else (some false)) else (none)) else (some false)) else (none)) else (some false))) else (if t114 ≤ t115 then ((rate_Open.f k bt116.1 bt116.2 (wrap64 (1 + (Int.tmod (wrap64 ((Int.tmod a2 24) + 24)) 24)))).bind fun t126 => (if t126 = t114 then (if 0 ≤ (IntKind.u64.wrap (bt116.1)) then (if (IntKind.u64.wrap (a0 - t114)) < (shl .u64 1 (IntKind.u64.wrap (bt116.1))) then (if 0 ≤ (IntKind.u64.wrap (wrap64 (1 + (Int.tmod (wrap64 ((Int.tmod a2 24) + 24)) 24)))) then (if ((decide (a0 < (shl .u64 1 (IntKind.u64.wrap (wrap64 (1 + (Int.tmod (wrap64 ((Int.tmod a2 24) + 24)) 24))))))) == (bt116.1 == 0)) = true then ((limelightlaw5_known.f k).bind fun t127 => (some t127)) else (some false)) else (none)) else (some false)) else (none)) else (some false))) else (some false))) else (some false))) else (some false))) else (some false))))) = some r := h
  clear h
  replace H := Option.bind_eq_some_iff.mp H
  obtain ⟨t114, A40, H⟩ := H
  replace H : ((rate_Down.f k a1 (wrap64 (1 + (Int.tmod (wrap64 ((Int.tmod a2 24) + 24)) 24)))).bind fun t115 => ((rate_Pack.f k a0 (wrap64 (1 + (Int.tmod (wrap64 ((Int.tmod a2 24) + 24)) 24)))).bind fun bt116 => (if t114 ≤ a0 then (if a0 = 0 then ((rate_Down.f k t114 (wrap64 (1 + (Int.tmod (wrap64 ((Int.tmod a2 24) + 24)) 24)))).bind fun t118 => (if t118 = t114 then (if a0 > a1 then ((rate_Open.f k bt116.1 bt116.2 (wrap64 (1 + (Int.tmod (wrap64 ((Int.tmod a2 24) + 24)) 24)))).bind fun t119 => (if t119 = t114 then (if 0 ≤ (IntKind.u64.wrap (bt116.1)) then (if (IntKind.u64.wrap (a0 - t114)) < (shl .u64 1 (IntKind.u64.wrap (bt116.1))) then (if 0 ≤ (IntKind.u64.wrap (wrap64 (1 + (Int.tmod (wrap64 ((Int.tmod a2 24) + 24)) 24)))) then (if ((decide (a0 < (shl .u64 1 (IntKind.u64.wrap (wrap64 (1 + (Int.tmod (wrap64 ((Int.tmod a2 24) + 24)) 24))))))) == (bt116.1 == 0)) = true then ((limelightlaw5_known.f k).bind fun t120 => (some t120)) else (some false)) else (none)) else (some false)) else (none)) else (some false))) else (if t114 ≤ t115 then ((rate_Open.f k bt116.1 bt116.2 (wrap64 (1 + (Int.tmod (wrap64 ((Int.tmod a2 24) + 24)) 24)))).bind fun t121 => (if t121 = t114 then (if 0 ≤ (IntKind.u64.wrap (bt116.1)) then (if (IntKind.u64.wrap (a0 - t114)) < (shl .u64 1 (IntKind.u64.wrap (bt116.1))) then (if 0 ≤ (IntKind.u64.wrap (wrap64 (1 + (Int.tmod (wrap64 ((Int.tmod a2 24) + 24)) 24)))) then (if ((decide (a0 < (shl .u64 1 (IntKind.u64.wrap (wrap64 (1 + (Int.tmod (wrap64 ((Int.tmod a2 24) + 24)) 24))))))) == (bt116.1 == 0)) = true then ((limelightlaw5_known.f k).bind fun t122 => (some t122)) else (some false)) else (none)) else (some false)) else (none)) else (some false))) else (some false))) else (some false))) else (if t114 > (IntKind.u64.wrap (Int.tdiv a0 2)) then ((rate_Down.f k t114 (wrap64 (1 + (Int.tmod (wrap64 ((Int.tmod a2 24) + 24)) 24)))).bind fun t123 => (if t123 = t114 then (if a0 > a1 then ((rate_Open.f k bt116.1 bt116.2 (wrap64 (1 + (Int.tmod (wrap64 ((Int.tmod a2 24) + 24)) 24)))).bind fun t124 => (if t124 = t114 then (if 0 ≤ (IntKind.u64.wrap (bt116.1)) then (if (IntKind.u64.wrap (a0 - t114)) < (shl .u64 1 (IntKind.u64.wrap (bt116.1))) then (if 0 ≤ (IntKind.u64.wrap (wrap64 (1 + (Int.tmod (wrap64 ((Int.tmod a2 24) + 24)) 24)))) then (if ((decide (a0 < (shl .u64 1 (IntKind.u64.wrap (wrap64 (1 + (Int.tmod (wrap64 ((Int.tmod a2 24) + 24)) 24))))))) == (bt116.1 == 0)) = true then ((limelightlaw5_known.f k).bind fun t125 => (some t125)) else (some false)) else (none)) else (some false)) else (none)) else (some false))) else (if t114 ≤ t115 then ((rate_Open.f k bt116.1 bt116.2 (wrap64 (1 + (Int.tmod (wrap64 ((Int.tmod a2 24) + 24)) 24)))).bind fun t126 => (if t126 = t114 then (if 0 ≤ (IntKind.u64.wrap (bt116.1)) then (if (IntKind.u64.wrap (a0 - t114)) < (shl .u64 1 (IntKind.u64.wrap (bt116.1))) then (if 0 ≤ (IntKind.u64.wrap (wrap64 (1 + (Int.tmod (wrap64 ((Int.tmod a2 24) + 24)) 24)))) then (if ((decide (a0 < (shl .u64 1 (IntKind.u64.wrap (wrap64 (1 + (Int.tmod (wrap64 ((Int.tmod a2 24) + 24)) 24))))))) == (bt116.1 == 0)) = true then ((limelightlaw5_known.f k).bind fun t127 => (some t127)) else (some false)) else (none)) else (some false)) else (none)) else (some false))) else (some false))) else (some false))) else (some false))) else (some false)))) = some r := H
  have A4 := Aside0.mk A40
  clear A40
  replace H := Option.bind_eq_some_iff.mp H
  obtain ⟨t115, A50, H⟩ := H
  replace H : ((rate_Pack.f k a0 (wrap64 (1 + (Int.tmod (wrap64 ((Int.tmod a2 24) + 24)) 24)))).bind fun bt116 => (if t114 ≤ a0 then (if a0 = 0 then ((rate_Down.f k t114 (wrap64 (1 + (Int.tmod (wrap64 ((Int.tmod a2 24) + 24)) 24)))).bind fun t118 => (if t118 = t114 then (if a0 > a1 then ((rate_Open.f k bt116.1 bt116.2 (wrap64 (1 + (Int.tmod (wrap64 ((Int.tmod a2 24) + 24)) 24)))).bind fun t119 => (if t119 = t114 then (if 0 ≤ (IntKind.u64.wrap (bt116.1)) then (if (IntKind.u64.wrap (a0 - t114)) < (shl .u64 1 (IntKind.u64.wrap (bt116.1))) then (if 0 ≤ (IntKind.u64.wrap (wrap64 (1 + (Int.tmod (wrap64 ((Int.tmod a2 24) + 24)) 24)))) then (if ((decide (a0 < (shl .u64 1 (IntKind.u64.wrap (wrap64 (1 + (Int.tmod (wrap64 ((Int.tmod a2 24) + 24)) 24))))))) == (bt116.1 == 0)) = true then ((limelightlaw5_known.f k).bind fun t120 => (some t120)) else (some false)) else (none)) else (some false)) else (none)) else (some false))) else (if t114 ≤ t115 then ((rate_Open.f k bt116.1 bt116.2 (wrap64 (1 + (Int.tmod (wrap64 ((Int.tmod a2 24) + 24)) 24)))).bind fun t121 => (if t121 = t114 then (if 0 ≤ (IntKind.u64.wrap (bt116.1)) then (if (IntKind.u64.wrap (a0 - t114)) < (shl .u64 1 (IntKind.u64.wrap (bt116.1))) then (if 0 ≤ (IntKind.u64.wrap (wrap64 (1 + (Int.tmod (wrap64 ((Int.tmod a2 24) + 24)) 24)))) then (if ((decide (a0 < (shl .u64 1 (IntKind.u64.wrap (wrap64 (1 + (Int.tmod (wrap64 ((Int.tmod a2 24) + 24)) 24))))))) == (bt116.1 == 0)) = true then ((limelightlaw5_known.f k).bind fun t122 => (some t122)) else (some false)) else (none)) else (some false)) else (none)) else (some false))) else (some false))) else (some false))) else (if t114 > (IntKind.u64.wrap (Int.tdiv a0 2)) then ((rate_Down.f k t114 (wrap64 (1 + (Int.tmod (wrap64 ((Int.tmod a2 24) + 24)) 24)))).bind fun t123 => (if t123 = t114 then (if a0 > a1 then ((rate_Open.f k bt116.1 bt116.2 (wrap64 (1 + (Int.tmod (wrap64 ((Int.tmod a2 24) + 24)) 24)))).bind fun t124 => (if t124 = t114 then (if 0 ≤ (IntKind.u64.wrap (bt116.1)) then (if (IntKind.u64.wrap (a0 - t114)) < (shl .u64 1 (IntKind.u64.wrap (bt116.1))) then (if 0 ≤ (IntKind.u64.wrap (wrap64 (1 + (Int.tmod (wrap64 ((Int.tmod a2 24) + 24)) 24)))) then (if ((decide (a0 < (shl .u64 1 (IntKind.u64.wrap (wrap64 (1 + (Int.tmod (wrap64 ((Int.tmod a2 24) + 24)) 24))))))) == (bt116.1 == 0)) = true then ((limelightlaw5_known.f k).bind fun t125 => (some t125)) else (some false)) else (none)) else (some false)) else (none)) else (some false))) else (if t114 ≤ t115 then ((rate_Open.f k bt116.1 bt116.2 (wrap64 (1 + (Int.tmod (wrap64 ((Int.tmod a2 24) + 24)) 24)))).bind fun t126 => (if t126 = t114 then (if 0 ≤ (IntKind.u64.wrap (bt116.1)) then (if (IntKind.u64.wrap (a0 - t114)) < (shl .u64 1 (IntKind.u64.wrap (bt116.1))) then (if 0 ≤ (IntKind.u64.wrap (wrap64 (1 + (Int.tmod (wrap64 ((Int.tmod a2 24) + 24)) 24)))) then (if ((decide (a0 < (shl .u64 1 (IntKind.u64.wrap (wrap64 (1 + (Int.tmod (wrap64 ((Int.tmod a2 24) + 24)) 24))))))) == (bt116.1 == 0)) = true then ((limelightlaw5_known.f k).bind fun t127 => (some t127)) else (some false)) else (none)) else (some false)) else (none)) else (some false))) else (some false))) else (some false))) else (some false))) else (some false))) = some r := H
  have A5 := Aside0.mk A50
  clear A50
  replace H := Option.bind_eq_some_iff.mp H
  obtain ⟨⟨t116, t117⟩, A60, H⟩ := H
  replace H : (if t114 ≤ a0 then (if a0 = 0 then ((rate_Down.f k t114 (wrap64 (1 + (Int.tmod (wrap64 ((Int.tmod a2 24) + 24)) 24)))).bind fun t118 => (if t118 = t114 then (if a0 > a1 then ((rate_Open.f k t116 t117 (wrap64 (1 + (Int.tmod (wrap64 ((Int.tmod a2 24) + 24)) 24)))).bind fun t119 => (if t119 = t114 then (if 0 ≤ (IntKind.u64.wrap (t116)) then (if (IntKind.u64.wrap (a0 - t114)) < (shl .u64 1 (IntKind.u64.wrap (t116))) then (if 0 ≤ (IntKind.u64.wrap (wrap64 (1 + (Int.tmod (wrap64 ((Int.tmod a2 24) + 24)) 24)))) then (if ((decide (a0 < (shl .u64 1 (IntKind.u64.wrap (wrap64 (1 + (Int.tmod (wrap64 ((Int.tmod a2 24) + 24)) 24))))))) == (t116 == 0)) = true then ((limelightlaw5_known.f k).bind fun t120 => (some t120)) else (some false)) else (none)) else (some false)) else (none)) else (some false))) else (if t114 ≤ t115 then ((rate_Open.f k t116 t117 (wrap64 (1 + (Int.tmod (wrap64 ((Int.tmod a2 24) + 24)) 24)))).bind fun t121 => (if t121 = t114 then (if 0 ≤ (IntKind.u64.wrap (t116)) then (if (IntKind.u64.wrap (a0 - t114)) < (shl .u64 1 (IntKind.u64.wrap (t116))) then (if 0 ≤ (IntKind.u64.wrap (wrap64 (1 + (Int.tmod (wrap64 ((Int.tmod a2 24) + 24)) 24)))) then (if ((decide (a0 < (shl .u64 1 (IntKind.u64.wrap (wrap64 (1 + (Int.tmod (wrap64 ((Int.tmod a2 24) + 24)) 24))))))) == (t116 == 0)) = true then ((limelightlaw5_known.f k).bind fun t122 => (some t122)) else (some false)) else (none)) else (some false)) else (none)) else (some false))) else (some false))) else (some false))) else (if t114 > (IntKind.u64.wrap (Int.tdiv a0 2)) then ((rate_Down.f k t114 (wrap64 (1 + (Int.tmod (wrap64 ((Int.tmod a2 24) + 24)) 24)))).bind fun t123 => (if t123 = t114 then (if a0 > a1 then ((rate_Open.f k t116 t117 (wrap64 (1 + (Int.tmod (wrap64 ((Int.tmod a2 24) + 24)) 24)))).bind fun t124 => (if t124 = t114 then (if 0 ≤ (IntKind.u64.wrap (t116)) then (if (IntKind.u64.wrap (a0 - t114)) < (shl .u64 1 (IntKind.u64.wrap (t116))) then (if 0 ≤ (IntKind.u64.wrap (wrap64 (1 + (Int.tmod (wrap64 ((Int.tmod a2 24) + 24)) 24)))) then (if ((decide (a0 < (shl .u64 1 (IntKind.u64.wrap (wrap64 (1 + (Int.tmod (wrap64 ((Int.tmod a2 24) + 24)) 24))))))) == (t116 == 0)) = true then ((limelightlaw5_known.f k).bind fun t125 => (some t125)) else (some false)) else (none)) else (some false)) else (none)) else (some false))) else (if t114 ≤ t115 then ((rate_Open.f k t116 t117 (wrap64 (1 + (Int.tmod (wrap64 ((Int.tmod a2 24) + 24)) 24)))).bind fun t126 => (if t126 = t114 then (if 0 ≤ (IntKind.u64.wrap (t116)) then (if (IntKind.u64.wrap (a0 - t114)) < (shl .u64 1 (IntKind.u64.wrap (t116))) then (if 0 ≤ (IntKind.u64.wrap (wrap64 (1 + (Int.tmod (wrap64 ((Int.tmod a2 24) + 24)) 24)))) then (if ((decide (a0 < (shl .u64 1 (IntKind.u64.wrap (wrap64 (1 + (Int.tmod (wrap64 ((Int.tmod a2 24) + 24)) 24))))))) == (t116 == 0)) = true then ((limelightlaw5_known.f k).bind fun t127 => (some t127)) else (some false)) else (none)) else (some false)) else (none)) else (some false))) else (some false))) else (some false))) else (some false))) else (some false)) = some r := H
  have A6 := Aside0.mk A60
  clear A60
  by_cases c7 : t114 ≤ a0
  · rw [if_pos c7] at H
    have c7b0 : decide (t114 ≤ a0) = true := decide_eq_true c7
    clear c7
    by_cases c8 : a0 = 0
    · rw [if_pos c8] at H
      have c8b0 : (a0 == 0) = true := beq_iff_eq.mpr c8
      have c8b1 : (a0 != 0) = false := bne_eq_false_iff_eq.mpr c8
      clear c8
      replace H := Option.bind_eq_some_iff.mp H
      obtain ⟨t118, A90, H⟩ := H
      replace H : (if t118 = t114 then (if a0 > a1 then ((rate_Open.f k t116 t117 (wrap64 (1 + (Int.tmod (wrap64 ((Int.tmod a2 24) + 24)) 24)))).bind fun t119 => (if t119 = t114 then (if 0 ≤ (IntKind.u64.wrap (t116)) then (if (IntKind.u64.wrap (a0 - t114)) < (shl .u64 1 (IntKind.u64.wrap (t116))) then (if 0 ≤ (IntKind.u64.wrap (wrap64 (1 + (Int.tmod (wrap64 ((Int.tmod a2 24) + 24)) 24)))) then (if ((decide (a0 < (shl .u64 1 (IntKind.u64.wrap (wrap64 (1 + (Int.tmod (wrap64 ((Int.tmod a2 24) + 24)) 24))))))) == (t116 == 0)) = true then ((limelightlaw5_known.f k).bind fun t120 => (some t120)) else (some false)) else (none)) else (some false)) else (none)) else (some false))) else (if t114 ≤ t115 then ((rate_Open.f k t116 t117 (wrap64 (1 + (Int.tmod (wrap64 ((Int.tmod a2 24) + 24)) 24)))).bind fun t121 => (if t121 = t114 then (if 0 ≤ (IntKind.u64.wrap (t116)) then (if (IntKind.u64.wrap (a0 - t114)) < (shl .u64 1 (IntKind.u64.wrap (t116))) then (if 0 ≤ (IntKind.u64.wrap (wrap64 (1 + (Int.tmod (wrap64 ((Int.tmod a2 24) + 24)) 24)))) then (if ((decide (a0 < (shl .u64 1 (IntKind.u64.wrap (wrap64 (1 + (Int.tmod (wrap64 ((Int.tmod a2 24) + 24)) 24))))))) == (t116 == 0)) = true then ((limelightlaw5_known.f k).bind fun t122 => (some t122)) else (some false)) else (none)) else (some false)) else (none)) else (some false))) else (some false))) else (some false)) = some r := H
      have A9 := Aside0.mk A90
      clear A90
      by_cases c10 : t118 = t114
      · rw [if_pos c10] at H
        have c10b0 : (t118 == t114) = true := beq_iff_eq.mpr c10
        have c10b1 : (t118 != t114) = false := bne_eq_false_iff_eq.mpr c10
        clear c10
        by_cases c11 : a0 > a1
        · rw [if_pos c11] at H
          have c11b0 : decide (a1 < a0) = true := decide_eq_true c11
          clear c11
          replace H := Option.bind_eq_some_iff.mp H
          obtain ⟨t119, A120, H⟩ := H
          replace H : (if t119 = t114 then (if 0 ≤ (IntKind.u64.wrap (t116)) then (if (IntKind.u64.wrap (a0 - t114)) < (shl .u64 1 (IntKind.u64.wrap (t116))) then (if 0 ≤ (IntKind.u64.wrap (wrap64 (1 + (Int.tmod (wrap64 ((Int.tmod a2 24) + 24)) 24)))) then (if ((decide (a0 < (shl .u64 1 (IntKind.u64.wrap (wrap64 (1 + (Int.tmod (wrap64 ((Int.tmod a2 24) + 24)) 24))))))) == (t116 == 0)) = true then ((limelightlaw5_known.f k).bind fun t120 => (some t120)) else (some false)) else (none)) else (some false)) else (none)) else (some false)) = some r := H
          have A12 := Aside0.mk A120
          clear A120
          by_cases c13 : t119 = t114
          · rw [if_pos c13] at H
            have c13b0 : (t119 == t114) = true := beq_iff_eq.mpr c13
            have c13b1 : (t119 != t114) = false := bne_eq_false_iff_eq.mpr c13
            clear c13
            obtain ⟨ji14, hji14⟩ : ∃ j_ : Int, (IntKind.u64.wrap (t116)) = j_ := ⟨_, rfl⟩
            replace H : (if 0 ≤ (ji14) then (if (IntKind.u64.wrap (a0 - t114)) < (shl .u64 1 (ji14)) then (if 0 ≤ (IntKind.u64.wrap (wrap64 (1 + (Int.tmod (wrap64 ((Int.tmod a2 24) + 24)) 24)))) then (if ((decide (a0 < (shl .u64 1 (IntKind.u64.wrap (wrap64 (1 + (Int.tmod (wrap64 ((Int.tmod a2 24) + 24)) 24))))))) == (t116 == 0)) = true then ((limelightlaw5_known.f k).bind fun t120 => (some t120)) else (some false)) else (none)) else (some false)) else (none)) = some r := by first | (rw [hji14] at H; exact H) | (simp only [hji14] at H ⊢; exact H)
            (try rw [hji14] at A4)
            (try rw [hji14] at A5)
            (try rw [hji14] at A6)
            (try rw [hji14] at A9)
            (try rw [hji14] at A12)
            by_cases c15 : 0 ≤ (ji14)
            · rw [if_pos c15] at H
              have c15b0 := eq_true c15
              have c15b1 : decide (0 ≤ (ji14)) = true := decide_eq_true c15
              clear c15
              obtain ⟨ji16, hji16⟩ : ∃ j_ : Int, (shl .u64 1 (ji14)) = j_ := ⟨_, rfl⟩
              replace H : (if (IntKind.u64.wrap (a0 - t114)) < (ji16) then (if 0 ≤ (IntKind.u64.wrap (wrap64 (1 + (Int.tmod (wrap64 ((Int.tmod a2 24) + 24)) 24)))) then (if ((decide (a0 < (shl .u64 1 (IntKind.u64.wrap (wrap64 (1 + (Int.tmod (wrap64 ((Int.tmod a2 24) + 24)) 24))))))) == (t116 == 0)) = true then ((limelightlaw5_known.f k).bind fun t120 => (some t120)) else (some false)) else (none)) else (some false)) = some r := by first | (rw [hji16] at H; exact H) | (simp only [hji16] at H ⊢; exact H)
              (try rw [hji16] at A4)
              (try rw [hji16] at A5)
              (try rw [hji16] at A6)
              (try rw [hji16] at A9)
              (try rw [hji16] at A12)
              have hji16_ : (IntKind.u64.wrap (1 * 2 ^ min (ji14).toNat 64)) = ji16 := hji16
              have hji16z : (ji14) ≤ 64 → (IntKind.u64.wrap (1 * 2 ^ (ji14).toNat)) = ji16 := shl_small hji16
              have hji16u : (IntKind.u64.wrap (2 ^ min (ji14).toNat 64)) = ji16 := by have h_ := hji16_; rw [Int.one_mul] at h_; exact h_
              have hji16v : (ji14) ≤ 64 → (IntKind.u64.wrap (2 ^ (ji14).toNat)) = ji16 := fun hle_ => by have h_ := hji16z hle_; rw [Int.one_mul] at h_; exact h_
              by_cases c17 : (IntKind.u64.wrap (a0 - t114)) < (ji16)
              · rw [if_pos c17] at H
                have c17b0 : decide ((IntKind.u64.wrap (a0 - t114)) < (ji16)) = true := decide_eq_true c17
                clear c17
                obtain ⟨ji18, hji18⟩ : ∃ j_ : Int, (IntKind.u64.wrap (wrap64 (1 + (Int.tmod (wrap64 ((Int.tmod a2 24) + 24)) 24)))) = j_ := ⟨_, rfl⟩
                replace H : (if 0 ≤ (ji18) then (if ((decide (a0 < (shl .u64 1 (ji18)))) == (t116 == 0)) = true then ((limelightlaw5_known.f k).bind fun t120 => (some t120)) else (some false)) else (none)) = some r := by first | (rw [hji18] at H; exact H) | (simp only [hji18] at H ⊢; exact H)
                (try rw [hji18] at A4)
                (try rw [hji18] at A5)
                (try rw [hji18] at A6)
                (try rw [hji18] at A9)
                (try rw [hji18] at A12)
                by_cases c19 : 0 ≤ (ji18)
                · rw [if_pos c19] at H
                  have c19b0 := eq_true c19
                  have c19b1 : decide (0 ≤ (ji18)) = true := decide_eq_true c19
                  clear c19
                  obtain ⟨ji20, hji20⟩ : ∃ j_ : Int, (shl .u64 1 (ji18)) = j_ := ⟨_, rfl⟩
                  replace H : (if ((decide (a0 < (ji20))) == (t116 == 0)) = true then ((limelightlaw5_known.f k).bind fun t120 => (some t120)) else (some false)) = some r := by first | (rw [hji20] at H; exact H) | (simp only [hji20] at H ⊢; exact H)
                  (try rw [hji20] at A4)
                  (try rw [hji20] at A5)
                  (try rw [hji20] at A6)
                  (try rw [hji20] at A9)
                  (try rw [hji20] at A12)
                  have hji20_ : (IntKind.u64.wrap (1 * 2 ^ min (ji18).toNat 64)) = ji20 := hji20
                  have hji20z : (ji18) ≤ 64 → (IntKind.u64.wrap (1 * 2 ^ (ji18).toNat)) = ji20 := shl_small hji20
                  have hji20u : (IntKind.u64.wrap (2 ^ min (ji18).toNat 64)) = ji20 := by have h_ := hji20_; rw [Int.one_mul] at h_; exact h_
                  have hji20v : (ji18) ≤ 64 → (IntKind.u64.wrap (2 ^ (ji18).toNat)) = ji20 := fun hle_ => by have h_ := hji20z hle_; rw [Int.one_mul] at h_; exact h_
                  by_cases c21 : ((decide (a0 < (ji20))) == (t116 == 0)) = true
                  · rw [if_pos c21] at H
                    have c21b0 : ((decide (a0 < (ji20))) == (t116 == 0)) = true := c21
                    (try (have c21b1 : decide ((decide (a0 < (ji20))) = (t116 == 0)) = true := by simpa using c21))
                    (try (have c21b2 : ((decide (a0 < (ji20))) == (t116 == 0)) = true := by simpa using c21))
                    clear c21
                    replace H := Option.bind_eq_some_iff.mp H
                    obtain ⟨t120, A220, H⟩ := H
                    replace H : (some t120) = some r := H
                    have A22 := Aside0.mk A220
                    clear A220
                    obtain rfl := Option.some.inj H
                    go_enter Try.func5, Try.ntmps5
                    go_wp2_with (first | ((with_reducible refine gate_callee (f := 15) rfl ?_); refine goesL_ (some 19) rfl rfl Try.func15 (by kernel_rfl) rfl #[.int .u64 a0, .int .i64 (wrap64 (1 + (Int.tmod (wrap64 ((Int.tmod a2 24) + 24)) 24)))] rfl (by (try simp only [List.map_toArray, List.map_cons, List.map_nil]); first | done | rfl | (simp only [List.length_drop, List.length_take]; rfl)) ?_; (with_reducible refine (rate_Down.calls k a0 (wrap64 (1 + (Int.tmod (wrap64 ((Int.tmod a2 24) + 24)) 24))) t114 _ A4.out).mono ?_); rintro e w' ⟨rfl, ⟨nd, rfl⟩⟩; refine ⟨_, rfl, ?_⟩) | ((with_reducible refine gate_callee (f := 15) rfl ?_); refine goesL_ (some 22) rfl rfl Try.func15 (by kernel_rfl) rfl #[.int .u64 a1, .int .i64 (wrap64 (1 + (Int.tmod (wrap64 ((Int.tmod a2 24) + 24)) 24)))] rfl (by (try simp only [List.map_toArray, List.map_cons, List.map_nil]); first | done | rfl | (simp only [List.length_drop, List.length_take]; rfl)) ?_; (with_reducible refine (rate_Down.calls k a1 (wrap64 (1 + (Int.tmod (wrap64 ((Int.tmod a2 24) + 24)) 24))) t115 _ A5.out).mono ?_); rintro e w' ⟨rfl, ⟨nd, rfl⟩⟩; refine ⟨_, rfl, ?_⟩) | ((with_reducible refine gate_callee (f := 16) rfl ?_); refine goesL_ (some 26) rfl rfl Try.func16 (by kernel_rfl) rfl #[.int .u64 a0, .int .i64 (wrap64 (1 + (Int.tmod (wrap64 ((Int.tmod a2 24) + 24)) 24)))] rfl (by (try simp only [List.map_toArray, List.map_cons, List.map_nil]); first | done | rfl | (simp only [List.length_drop, List.length_take]; rfl)) ?_; (with_reducible refine (rate_Pack.calls k a0 (wrap64 (1 + (Int.tmod (wrap64 ((Int.tmod a2 24) + 24)) 24))) t116 t117 _ A6.out).mono ?_); rintro e w' ⟨rfl, ⟨nd, rfl⟩⟩; refine ⟨_, rfl, ?_⟩) | (go_at_call 15; (with_reducible refine (rate_Down.calls k t114 (wrap64 (1 + (Int.tmod (wrap64 ((Int.tmod a2 24) + 24)) 24))) t118 _ A9.out).mono ?_); rintro e w' ⟨rfl, ⟨nd, rfl⟩⟩) | (go_at_call 17; (with_reducible refine (rate_Open.calls k t116 t117 (wrap64 (1 + (Int.tmod (wrap64 ((Int.tmod a2 24) + 24)) 24))) t119 _ A12.out).mono ?_); rintro e w' ⟨rfl, ⟨nd, rfl⟩⟩) | (go_at_call 14; (with_reducible refine (limelightlaw5_known.calls k  t120 _ A22.out).mono ?_); rintro e w23 ⟨rfl, hb⟩; have n0_ := Aside0.mk (below_step (by repeat (first | (with_reducible first | exact HB.out | apply below_alloc | apply pw_below_drewN | apply below_drew1) | exact HB.out)) hb); clear HB; have HB := n0_; clear n0_; (try clear hb); (try clear hb2); (try clear hk); (try clear hi)))
                    go_ret
                    exact ⟨by first | rfl | (simp [errW_none, errW_some] <;> rfl) | (simp only [← hji14, ← hji16, ← hji18, ← hji20]; first | rfl | (simp [errW_none, errW_some] <;> rfl)) | (simp [*, errW_none, errW_some] <;> rfl), by repeat (first | (with_reducible first | exact HB.out | apply below_alloc | apply pw_below_drewN | apply below_drew1) | exact HB.out)⟩
                  · rw [if_neg c21] at H
                    have c21b0 : ((decide (a0 < (ji20))) == (t116 == 0)) = false := by simpa using c21
                    (try (have c21b1 : decide ((decide (a0 < (ji20))) = (t116 == 0)) = false := by simpa using c21))
                    (try (have c21b2 : ((decide (a0 < (ji20))) == (t116 == 0)) = false := by simpa using c21))
                    (try (have c21b3 : ¬ ((decide (a0 < (ji20))) = (t116 == 0)) := by simpa using c21))
                    clear c21
                    obtain rfl := Option.some.inj H
                    go_enter Try.func5, Try.ntmps5
                    go_wp2_with (first | ((with_reducible refine gate_callee (f := 15) rfl ?_); refine goesL_ (some 19) rfl rfl Try.func15 (by kernel_rfl) rfl #[.int .u64 a0, .int .i64 (wrap64 (1 + (Int.tmod (wrap64 ((Int.tmod a2 24) + 24)) 24)))] rfl (by (try simp only [List.map_toArray, List.map_cons, List.map_nil]); first | done | rfl | (simp only [List.length_drop, List.length_take]; rfl)) ?_; (with_reducible refine (rate_Down.calls k a0 (wrap64 (1 + (Int.tmod (wrap64 ((Int.tmod a2 24) + 24)) 24))) t114 _ A4.out).mono ?_); rintro e w' ⟨rfl, ⟨nd, rfl⟩⟩; refine ⟨_, rfl, ?_⟩) | ((with_reducible refine gate_callee (f := 15) rfl ?_); refine goesL_ (some 22) rfl rfl Try.func15 (by kernel_rfl) rfl #[.int .u64 a1, .int .i64 (wrap64 (1 + (Int.tmod (wrap64 ((Int.tmod a2 24) + 24)) 24)))] rfl (by (try simp only [List.map_toArray, List.map_cons, List.map_nil]); first | done | rfl | (simp only [List.length_drop, List.length_take]; rfl)) ?_; (with_reducible refine (rate_Down.calls k a1 (wrap64 (1 + (Int.tmod (wrap64 ((Int.tmod a2 24) + 24)) 24))) t115 _ A5.out).mono ?_); rintro e w' ⟨rfl, ⟨nd, rfl⟩⟩; refine ⟨_, rfl, ?_⟩) | ((with_reducible refine gate_callee (f := 16) rfl ?_); refine goesL_ (some 26) rfl rfl Try.func16 (by kernel_rfl) rfl #[.int .u64 a0, .int .i64 (wrap64 (1 + (Int.tmod (wrap64 ((Int.tmod a2 24) + 24)) 24)))] rfl (by (try simp only [List.map_toArray, List.map_cons, List.map_nil]); first | done | rfl | (simp only [List.length_drop, List.length_take]; rfl)) ?_; (with_reducible refine (rate_Pack.calls k a0 (wrap64 (1 + (Int.tmod (wrap64 ((Int.tmod a2 24) + 24)) 24))) t116 t117 _ A6.out).mono ?_); rintro e w' ⟨rfl, ⟨nd, rfl⟩⟩; refine ⟨_, rfl, ?_⟩) | (go_at_call 15; (with_reducible refine (rate_Down.calls k t114 (wrap64 (1 + (Int.tmod (wrap64 ((Int.tmod a2 24) + 24)) 24))) t118 _ A9.out).mono ?_); rintro e w' ⟨rfl, ⟨nd, rfl⟩⟩) | (go_at_call 17; (with_reducible refine (rate_Open.calls k t116 t117 (wrap64 (1 + (Int.tmod (wrap64 ((Int.tmod a2 24) + 24)) 24))) t119 _ A12.out).mono ?_); rintro e w' ⟨rfl, ⟨nd, rfl⟩⟩))
                    go_ret
                    exact ⟨by first | rfl | (simp [errW_none, errW_some] <;> rfl) | (simp only [← hji14, ← hji16, ← hji18, ← hji20]; first | rfl | (simp [errW_none, errW_some] <;> rfl)) | (simp [*, errW_none, errW_some] <;> rfl), by repeat (first | (with_reducible first | exact HB.out | apply below_alloc | apply pw_below_drewN | apply below_drew1) | exact HB.out)⟩
                · rw [if_neg c19] at H
                  exact absurd H (by simp)
              · rw [if_neg c17] at H
                have c17b0 : decide ((IntKind.u64.wrap (a0 - t114)) < (ji16)) = false := decide_eq_false c17
                clear c17
                obtain rfl := Option.some.inj H
                go_enter Try.func5, Try.ntmps5
                go_wp2_with (first | ((with_reducible refine gate_callee (f := 15) rfl ?_); refine goesL_ (some 19) rfl rfl Try.func15 (by kernel_rfl) rfl #[.int .u64 a0, .int .i64 (wrap64 (1 + (Int.tmod (wrap64 ((Int.tmod a2 24) + 24)) 24)))] rfl (by (try simp only [List.map_toArray, List.map_cons, List.map_nil]); first | done | rfl | (simp only [List.length_drop, List.length_take]; rfl)) ?_; (with_reducible refine (rate_Down.calls k a0 (wrap64 (1 + (Int.tmod (wrap64 ((Int.tmod a2 24) + 24)) 24))) t114 _ A4.out).mono ?_); rintro e w' ⟨rfl, ⟨nd, rfl⟩⟩; refine ⟨_, rfl, ?_⟩) | ((with_reducible refine gate_callee (f := 15) rfl ?_); refine goesL_ (some 22) rfl rfl Try.func15 (by kernel_rfl) rfl #[.int .u64 a1, .int .i64 (wrap64 (1 + (Int.tmod (wrap64 ((Int.tmod a2 24) + 24)) 24)))] rfl (by (try simp only [List.map_toArray, List.map_cons, List.map_nil]); first | done | rfl | (simp only [List.length_drop, List.length_take]; rfl)) ?_; (with_reducible refine (rate_Down.calls k a1 (wrap64 (1 + (Int.tmod (wrap64 ((Int.tmod a2 24) + 24)) 24))) t115 _ A5.out).mono ?_); rintro e w' ⟨rfl, ⟨nd, rfl⟩⟩; refine ⟨_, rfl, ?_⟩) | ((with_reducible refine gate_callee (f := 16) rfl ?_); refine goesL_ (some 26) rfl rfl Try.func16 (by kernel_rfl) rfl #[.int .u64 a0, .int .i64 (wrap64 (1 + (Int.tmod (wrap64 ((Int.tmod a2 24) + 24)) 24)))] rfl (by (try simp only [List.map_toArray, List.map_cons, List.map_nil]); first | done | rfl | (simp only [List.length_drop, List.length_take]; rfl)) ?_; (with_reducible refine (rate_Pack.calls k a0 (wrap64 (1 + (Int.tmod (wrap64 ((Int.tmod a2 24) + 24)) 24))) t116 t117 _ A6.out).mono ?_); rintro e w' ⟨rfl, ⟨nd, rfl⟩⟩; refine ⟨_, rfl, ?_⟩) | (go_at_call 15; (with_reducible refine (rate_Down.calls k t114 (wrap64 (1 + (Int.tmod (wrap64 ((Int.tmod a2 24) + 24)) 24))) t118 _ A9.out).mono ?_); rintro e w' ⟨rfl, ⟨nd, rfl⟩⟩) | (go_at_call 17; (with_reducible refine (rate_Open.calls k t116 t117 (wrap64 (1 + (Int.tmod (wrap64 ((Int.tmod a2 24) + 24)) 24))) t119 _ A12.out).mono ?_); rintro e w' ⟨rfl, ⟨nd, rfl⟩⟩))
                go_ret
                exact ⟨by first | rfl | (simp [errW_none, errW_some] <;> rfl) | (simp only [← hji14, ← hji16]; first | rfl | (simp [errW_none, errW_some] <;> rfl)) | (simp [*, errW_none, errW_some] <;> rfl), by repeat (first | (with_reducible first | exact HB.out | apply below_alloc | apply pw_below_drewN | apply below_drew1) | exact HB.out)⟩
            · rw [if_neg c15] at H
              exact absurd H (by simp)
          · rw [if_neg c13] at H
            have c13b0 : (t119 == t114) = false := beq_eq_false_iff_ne.mpr c13
            have c13b1 : (t119 != t114) = true := bne_iff_ne.mpr c13
            obtain rfl := Option.some.inj H
            go_enter Try.func5, Try.ntmps5
            go_wp2_with (first | ((with_reducible refine gate_callee (f := 15) rfl ?_); refine goesL_ (some 19) rfl rfl Try.func15 (by kernel_rfl) rfl #[.int .u64 a0, .int .i64 (wrap64 (1 + (Int.tmod (wrap64 ((Int.tmod a2 24) + 24)) 24)))] rfl (by (try simp only [List.map_toArray, List.map_cons, List.map_nil]); first | done | rfl | (simp only [List.length_drop, List.length_take]; rfl)) ?_; (with_reducible refine (rate_Down.calls k a0 (wrap64 (1 + (Int.tmod (wrap64 ((Int.tmod a2 24) + 24)) 24))) t114 _ A4.out).mono ?_); rintro e w' ⟨rfl, ⟨nd, rfl⟩⟩; refine ⟨_, rfl, ?_⟩) | ((with_reducible refine gate_callee (f := 15) rfl ?_); refine goesL_ (some 22) rfl rfl Try.func15 (by kernel_rfl) rfl #[.int .u64 a1, .int .i64 (wrap64 (1 + (Int.tmod (wrap64 ((Int.tmod a2 24) + 24)) 24)))] rfl (by (try simp only [List.map_toArray, List.map_cons, List.map_nil]); first | done | rfl | (simp only [List.length_drop, List.length_take]; rfl)) ?_; (with_reducible refine (rate_Down.calls k a1 (wrap64 (1 + (Int.tmod (wrap64 ((Int.tmod a2 24) + 24)) 24))) t115 _ A5.out).mono ?_); rintro e w' ⟨rfl, ⟨nd, rfl⟩⟩; refine ⟨_, rfl, ?_⟩) | ((with_reducible refine gate_callee (f := 16) rfl ?_); refine goesL_ (some 26) rfl rfl Try.func16 (by kernel_rfl) rfl #[.int .u64 a0, .int .i64 (wrap64 (1 + (Int.tmod (wrap64 ((Int.tmod a2 24) + 24)) 24)))] rfl (by (try simp only [List.map_toArray, List.map_cons, List.map_nil]); first | done | rfl | (simp only [List.length_drop, List.length_take]; rfl)) ?_; (with_reducible refine (rate_Pack.calls k a0 (wrap64 (1 + (Int.tmod (wrap64 ((Int.tmod a2 24) + 24)) 24))) t116 t117 _ A6.out).mono ?_); rintro e w' ⟨rfl, ⟨nd, rfl⟩⟩; refine ⟨_, rfl, ?_⟩) | (go_at_call 15; (with_reducible refine (rate_Down.calls k t114 (wrap64 (1 + (Int.tmod (wrap64 ((Int.tmod a2 24) + 24)) 24))) t118 _ A9.out).mono ?_); rintro e w' ⟨rfl, ⟨nd, rfl⟩⟩) | (go_at_call 17; (with_reducible refine (rate_Open.calls k t116 t117 (wrap64 (1 + (Int.tmod (wrap64 ((Int.tmod a2 24) + 24)) 24))) t119 _ A12.out).mono ?_); rintro e w' ⟨rfl, ⟨nd, rfl⟩⟩))
            go_ret
            exact ⟨by first | rfl | (simp [errW_none, errW_some] <;> rfl) | (simp [*, errW_none, errW_some] <;> rfl), by repeat (first | (with_reducible first | exact HB.out | apply below_alloc | apply pw_below_drewN | apply below_drew1) | exact HB.out)⟩
        · rw [if_neg c11] at H
          have c11b0 : decide (a1 < a0) = false := decide_eq_false c11
          clear c11
          by_cases c24 : t114 ≤ t115
          · rw [if_pos c24] at H
            have c24b0 : decide (t114 ≤ t115) = true := decide_eq_true c24
            clear c24
            replace H := Option.bind_eq_some_iff.mp H
            obtain ⟨t121, A250, H⟩ := H
            replace H : (if t121 = t114 then (if 0 ≤ (IntKind.u64.wrap (t116)) then (if (IntKind.u64.wrap (a0 - t114)) < (shl .u64 1 (IntKind.u64.wrap (t116))) then (if 0 ≤ (IntKind.u64.wrap (wrap64 (1 + (Int.tmod (wrap64 ((Int.tmod a2 24) + 24)) 24)))) then (if ((decide (a0 < (shl .u64 1 (IntKind.u64.wrap (wrap64 (1 + (Int.tmod (wrap64 ((Int.tmod a2 24) + 24)) 24))))))) == (t116 == 0)) = true then ((limelightlaw5_known.f k).bind fun t122 => (some t122)) else (some false)) else (none)) else (some false)) else (none)) else (some false)) = some r := H
            have A25 := Aside0.mk A250
            clear A250
            by_cases c26 : t121 = t114
            · rw [if_pos c26] at H
              have c26b0 : (t121 == t114) = true := beq_iff_eq.mpr c26
              have c26b1 : (t121 != t114) = false := bne_eq_false_iff_eq.mpr c26
              clear c26
              obtain ⟨ji27, hji27⟩ : ∃ j_ : Int, (IntKind.u64.wrap (t116)) = j_ := ⟨_, rfl⟩
              replace H : (if 0 ≤ (ji27) then (if (IntKind.u64.wrap (a0 - t114)) < (shl .u64 1 (ji27)) then (if 0 ≤ (IntKind.u64.wrap (wrap64 (1 + (Int.tmod (wrap64 ((Int.tmod a2 24) + 24)) 24)))) then (if ((decide (a0 < (shl .u64 1 (IntKind.u64.wrap (wrap64 (1 + (Int.tmod (wrap64 ((Int.tmod a2 24) + 24)) 24))))))) == (t116 == 0)) = true then ((limelightlaw5_known.f k).bind fun t122 => (some t122)) else (some false)) else (none)) else (some false)) else (none)) = some r := by first | (rw [hji27] at H; exact H) | (simp only [hji27] at H ⊢; exact H)
              (try rw [hji27] at A4)
              (try rw [hji27] at A5)
              (try rw [hji27] at A6)
              (try rw [hji27] at A9)
              (try rw [hji27] at A25)
              by_cases c28 : 0 ≤ (ji27)
              · rw [if_pos c28] at H
                have c28b0 := eq_true c28
                have c28b1 : decide (0 ≤ (ji27)) = true := decide_eq_true c28
                clear c28
                obtain ⟨ji29, hji29⟩ : ∃ j_ : Int, (shl .u64 1 (ji27)) = j_ := ⟨_, rfl⟩
                replace H : (if (IntKind.u64.wrap (a0 - t114)) < (ji29) then (if 0 ≤ (IntKind.u64.wrap (wrap64 (1 + (Int.tmod (wrap64 ((Int.tmod a2 24) + 24)) 24)))) then (if ((decide (a0 < (shl .u64 1 (IntKind.u64.wrap (wrap64 (1 + (Int.tmod (wrap64 ((Int.tmod a2 24) + 24)) 24))))))) == (t116 == 0)) = true then ((limelightlaw5_known.f k).bind fun t122 => (some t122)) else (some false)) else (none)) else (some false)) = some r := by first | (rw [hji29] at H; exact H) | (simp only [hji29] at H ⊢; exact H)
                (try rw [hji29] at A4)
                (try rw [hji29] at A5)
                (try rw [hji29] at A6)
                (try rw [hji29] at A9)
                (try rw [hji29] at A25)
                have hji29_ : (IntKind.u64.wrap (1 * 2 ^ min (ji27).toNat 64)) = ji29 := hji29
                have hji29z : (ji27) ≤ 64 → (IntKind.u64.wrap (1 * 2 ^ (ji27).toNat)) = ji29 := shl_small hji29
                have hji29u : (IntKind.u64.wrap (2 ^ min (ji27).toNat 64)) = ji29 := by have h_ := hji29_; rw [Int.one_mul] at h_; exact h_
                have hji29v : (ji27) ≤ 64 → (IntKind.u64.wrap (2 ^ (ji27).toNat)) = ji29 := fun hle_ => by have h_ := hji29z hle_; rw [Int.one_mul] at h_; exact h_
                by_cases c30 : (IntKind.u64.wrap (a0 - t114)) < (ji29)
                · rw [if_pos c30] at H
                  have c30b0 : decide ((IntKind.u64.wrap (a0 - t114)) < (ji29)) = true := decide_eq_true c30
                  clear c30
                  obtain ⟨ji31, hji31⟩ : ∃ j_ : Int, (IntKind.u64.wrap (wrap64 (1 + (Int.tmod (wrap64 ((Int.tmod a2 24) + 24)) 24)))) = j_ := ⟨_, rfl⟩
                  replace H : (if 0 ≤ (ji31) then (if ((decide (a0 < (shl .u64 1 (ji31)))) == (t116 == 0)) = true then ((limelightlaw5_known.f k).bind fun t122 => (some t122)) else (some false)) else (none)) = some r := by first | (rw [hji31] at H; exact H) | (simp only [hji31] at H ⊢; exact H)
                  (try rw [hji31] at A4)
                  (try rw [hji31] at A5)
                  (try rw [hji31] at A6)
                  (try rw [hji31] at A9)
                  (try rw [hji31] at A25)
                  by_cases c32 : 0 ≤ (ji31)
                  · rw [if_pos c32] at H
                    have c32b0 := eq_true c32
                    have c32b1 : decide (0 ≤ (ji31)) = true := decide_eq_true c32
                    clear c32
                    obtain ⟨ji33, hji33⟩ : ∃ j_ : Int, (shl .u64 1 (ji31)) = j_ := ⟨_, rfl⟩
                    replace H : (if ((decide (a0 < (ji33))) == (t116 == 0)) = true then ((limelightlaw5_known.f k).bind fun t122 => (some t122)) else (some false)) = some r := by first | (rw [hji33] at H; exact H) | (simp only [hji33] at H ⊢; exact H)
                    (try rw [hji33] at A4)
                    (try rw [hji33] at A5)
                    (try rw [hji33] at A6)
                    (try rw [hji33] at A9)
                    (try rw [hji33] at A25)
                    have hji33_ : (IntKind.u64.wrap (1 * 2 ^ min (ji31).toNat 64)) = ji33 := hji33
                    have hji33z : (ji31) ≤ 64 → (IntKind.u64.wrap (1 * 2 ^ (ji31).toNat)) = ji33 := shl_small hji33
                    have hji33u : (IntKind.u64.wrap (2 ^ min (ji31).toNat 64)) = ji33 := by have h_ := hji33_; rw [Int.one_mul] at h_; exact h_
                    have hji33v : (ji31) ≤ 64 → (IntKind.u64.wrap (2 ^ (ji31).toNat)) = ji33 := fun hle_ => by have h_ := hji33z hle_; rw [Int.one_mul] at h_; exact h_
                    by_cases c34 : ((decide (a0 < (ji33))) == (t116 == 0)) = true
                    · rw [if_pos c34] at H
                      have c34b0 : ((decide (a0 < (ji33))) == (t116 == 0)) = true := c34
                      (try (have c34b1 : decide ((decide (a0 < (ji33))) = (t116 == 0)) = true := by simpa using c34))
                      (try (have c34b2 : ((decide (a0 < (ji33))) == (t116 == 0)) = true := by simpa using c34))
                      clear c34
                      replace H := Option.bind_eq_some_iff.mp H
                      obtain ⟨t122, A350, H⟩ := H
                      replace H : (some t122) = some r := H
                      have A35 := Aside0.mk A350
                      clear A350
                      obtain rfl := Option.some.inj H
                      go_enter Try.func5, Try.ntmps5
                      go_wp2_with (first | ((with_reducible refine gate_callee (f := 15) rfl ?_); refine goesL_ (some 19) rfl rfl Try.func15 (by kernel_rfl) rfl #[.int .u64 a0, .int .i64 (wrap64 (1 + (Int.tmod (wrap64 ((Int.tmod a2 24) + 24)) 24)))] rfl (by (try simp only [List.map_toArray, List.map_cons, List.map_nil]); first | done | rfl | (simp only [List.length_drop, List.length_take]; rfl)) ?_; (with_reducible refine (rate_Down.calls k a0 (wrap64 (1 + (Int.tmod (wrap64 ((Int.tmod a2 24) + 24)) 24))) t114 _ A4.out).mono ?_); rintro e w' ⟨rfl, ⟨nd, rfl⟩⟩; refine ⟨_, rfl, ?_⟩) | ((with_reducible refine gate_callee (f := 15) rfl ?_); refine goesL_ (some 22) rfl rfl Try.func15 (by kernel_rfl) rfl #[.int .u64 a1, .int .i64 (wrap64 (1 + (Int.tmod (wrap64 ((Int.tmod a2 24) + 24)) 24)))] rfl (by (try simp only [List.map_toArray, List.map_cons, List.map_nil]); first | done | rfl | (simp only [List.length_drop, List.length_take]; rfl)) ?_; (with_reducible refine (rate_Down.calls k a1 (wrap64 (1 + (Int.tmod (wrap64 ((Int.tmod a2 24) + 24)) 24))) t115 _ A5.out).mono ?_); rintro e w' ⟨rfl, ⟨nd, rfl⟩⟩; refine ⟨_, rfl, ?_⟩) | ((with_reducible refine gate_callee (f := 16) rfl ?_); refine goesL_ (some 26) rfl rfl Try.func16 (by kernel_rfl) rfl #[.int .u64 a0, .int .i64 (wrap64 (1 + (Int.tmod (wrap64 ((Int.tmod a2 24) + 24)) 24)))] rfl (by (try simp only [List.map_toArray, List.map_cons, List.map_nil]); first | done | rfl | (simp only [List.length_drop, List.length_take]; rfl)) ?_; (with_reducible refine (rate_Pack.calls k a0 (wrap64 (1 + (Int.tmod (wrap64 ((Int.tmod a2 24) + 24)) 24))) t116 t117 _ A6.out).mono ?_); rintro e w' ⟨rfl, ⟨nd, rfl⟩⟩; refine ⟨_, rfl, ?_⟩) | (go_at_call 15; (with_reducible refine (rate_Down.calls k t114 (wrap64 (1 + (Int.tmod (wrap64 ((Int.tmod a2 24) + 24)) 24))) t118 _ A9.out).mono ?_); rintro e w' ⟨rfl, ⟨nd, rfl⟩⟩) | (go_at_call 17; (with_reducible refine (rate_Open.calls k t116 t117 (wrap64 (1 + (Int.tmod (wrap64 ((Int.tmod a2 24) + 24)) 24))) t121 _ A25.out).mono ?_); rintro e w' ⟨rfl, ⟨nd, rfl⟩⟩) | (go_at_call 14; (with_reducible refine (limelightlaw5_known.calls k  t122 _ A35.out).mono ?_); rintro e w36 ⟨rfl, hb⟩; have n0_ := Aside0.mk (below_step (by repeat (first | (with_reducible first | exact HB.out | apply below_alloc | apply pw_below_drewN | apply below_drew1) | exact HB.out)) hb); clear HB; have HB := n0_; clear n0_; (try clear hb); (try clear hb2); (try clear hk); (try clear hi)))
                      go_ret
                      exact ⟨by first | rfl | (simp [errW_none, errW_some] <;> rfl) | (simp only [← hji27, ← hji29, ← hji31, ← hji33]; first | rfl | (simp [errW_none, errW_some] <;> rfl)) | (simp [*, errW_none, errW_some] <;> rfl), by repeat (first | (with_reducible first | exact HB.out | apply below_alloc | apply pw_below_drewN | apply below_drew1) | exact HB.out)⟩
                    · rw [if_neg c34] at H
                      have c34b0 : ((decide (a0 < (ji33))) == (t116 == 0)) = false := by simpa using c34
                      (try (have c34b1 : decide ((decide (a0 < (ji33))) = (t116 == 0)) = false := by simpa using c34))
                      (try (have c34b2 : ((decide (a0 < (ji33))) == (t116 == 0)) = false := by simpa using c34))
                      (try (have c34b3 : ¬ ((decide (a0 < (ji33))) = (t116 == 0)) := by simpa using c34))
                      clear c34
                      obtain rfl := Option.some.inj H
                      go_enter Try.func5, Try.ntmps5
                      go_wp2_with (first | ((with_reducible refine gate_callee (f := 15) rfl ?_); refine goesL_ (some 19) rfl rfl Try.func15 (by kernel_rfl) rfl #[.int .u64 a0, .int .i64 (wrap64 (1 + (Int.tmod (wrap64 ((Int.tmod a2 24) + 24)) 24)))] rfl (by (try simp only [List.map_toArray, List.map_cons, List.map_nil]); first | done | rfl | (simp only [List.length_drop, List.length_take]; rfl)) ?_; (with_reducible refine (rate_Down.calls k a0 (wrap64 (1 + (Int.tmod (wrap64 ((Int.tmod a2 24) + 24)) 24))) t114 _ A4.out).mono ?_); rintro e w' ⟨rfl, ⟨nd, rfl⟩⟩; refine ⟨_, rfl, ?_⟩) | ((with_reducible refine gate_callee (f := 15) rfl ?_); refine goesL_ (some 22) rfl rfl Try.func15 (by kernel_rfl) rfl #[.int .u64 a1, .int .i64 (wrap64 (1 + (Int.tmod (wrap64 ((Int.tmod a2 24) + 24)) 24)))] rfl (by (try simp only [List.map_toArray, List.map_cons, List.map_nil]); first | done | rfl | (simp only [List.length_drop, List.length_take]; rfl)) ?_; (with_reducible refine (rate_Down.calls k a1 (wrap64 (1 + (Int.tmod (wrap64 ((Int.tmod a2 24) + 24)) 24))) t115 _ A5.out).mono ?_); rintro e w' ⟨rfl, ⟨nd, rfl⟩⟩; refine ⟨_, rfl, ?_⟩) | ((with_reducible refine gate_callee (f := 16) rfl ?_); refine goesL_ (some 26) rfl rfl Try.func16 (by kernel_rfl) rfl #[.int .u64 a0, .int .i64 (wrap64 (1 + (Int.tmod (wrap64 ((Int.tmod a2 24) + 24)) 24)))] rfl (by (try simp only [List.map_toArray, List.map_cons, List.map_nil]); first | done | rfl | (simp only [List.length_drop, List.length_take]; rfl)) ?_; (with_reducible refine (rate_Pack.calls k a0 (wrap64 (1 + (Int.tmod (wrap64 ((Int.tmod a2 24) + 24)) 24))) t116 t117 _ A6.out).mono ?_); rintro e w' ⟨rfl, ⟨nd, rfl⟩⟩; refine ⟨_, rfl, ?_⟩) | (go_at_call 15; (with_reducible refine (rate_Down.calls k t114 (wrap64 (1 + (Int.tmod (wrap64 ((Int.tmod a2 24) + 24)) 24))) t118 _ A9.out).mono ?_); rintro e w' ⟨rfl, ⟨nd, rfl⟩⟩) | (go_at_call 17; (with_reducible refine (rate_Open.calls k t116 t117 (wrap64 (1 + (Int.tmod (wrap64 ((Int.tmod a2 24) + 24)) 24))) t121 _ A25.out).mono ?_); rintro e w' ⟨rfl, ⟨nd, rfl⟩⟩))
                      go_ret
                      exact ⟨by first | rfl | (simp [errW_none, errW_some] <;> rfl) | (simp only [← hji27, ← hji29, ← hji31, ← hji33]; first | rfl | (simp [errW_none, errW_some] <;> rfl)) | (simp [*, errW_none, errW_some] <;> rfl), by repeat (first | (with_reducible first | exact HB.out | apply below_alloc | apply pw_below_drewN | apply below_drew1) | exact HB.out)⟩
                  · rw [if_neg c32] at H
                    exact absurd H (by simp)
                · rw [if_neg c30] at H
                  have c30b0 : decide ((IntKind.u64.wrap (a0 - t114)) < (ji29)) = false := decide_eq_false c30
                  clear c30
                  obtain rfl := Option.some.inj H
                  go_enter Try.func5, Try.ntmps5
                  go_wp2_with (first | ((with_reducible refine gate_callee (f := 15) rfl ?_); refine goesL_ (some 19) rfl rfl Try.func15 (by kernel_rfl) rfl #[.int .u64 a0, .int .i64 (wrap64 (1 + (Int.tmod (wrap64 ((Int.tmod a2 24) + 24)) 24)))] rfl (by (try simp only [List.map_toArray, List.map_cons, List.map_nil]); first | done | rfl | (simp only [List.length_drop, List.length_take]; rfl)) ?_; (with_reducible refine (rate_Down.calls k a0 (wrap64 (1 + (Int.tmod (wrap64 ((Int.tmod a2 24) + 24)) 24))) t114 _ A4.out).mono ?_); rintro e w' ⟨rfl, ⟨nd, rfl⟩⟩; refine ⟨_, rfl, ?_⟩) | ((with_reducible refine gate_callee (f := 15) rfl ?_); refine goesL_ (some 22) rfl rfl Try.func15 (by kernel_rfl) rfl #[.int .u64 a1, .int .i64 (wrap64 (1 + (Int.tmod (wrap64 ((Int.tmod a2 24) + 24)) 24)))] rfl (by (try simp only [List.map_toArray, List.map_cons, List.map_nil]); first | done | rfl | (simp only [List.length_drop, List.length_take]; rfl)) ?_; (with_reducible refine (rate_Down.calls k a1 (wrap64 (1 + (Int.tmod (wrap64 ((Int.tmod a2 24) + 24)) 24))) t115 _ A5.out).mono ?_); rintro e w' ⟨rfl, ⟨nd, rfl⟩⟩; refine ⟨_, rfl, ?_⟩) | ((with_reducible refine gate_callee (f := 16) rfl ?_); refine goesL_ (some 26) rfl rfl Try.func16 (by kernel_rfl) rfl #[.int .u64 a0, .int .i64 (wrap64 (1 + (Int.tmod (wrap64 ((Int.tmod a2 24) + 24)) 24)))] rfl (by (try simp only [List.map_toArray, List.map_cons, List.map_nil]); first | done | rfl | (simp only [List.length_drop, List.length_take]; rfl)) ?_; (with_reducible refine (rate_Pack.calls k a0 (wrap64 (1 + (Int.tmod (wrap64 ((Int.tmod a2 24) + 24)) 24))) t116 t117 _ A6.out).mono ?_); rintro e w' ⟨rfl, ⟨nd, rfl⟩⟩; refine ⟨_, rfl, ?_⟩) | (go_at_call 15; (with_reducible refine (rate_Down.calls k t114 (wrap64 (1 + (Int.tmod (wrap64 ((Int.tmod a2 24) + 24)) 24))) t118 _ A9.out).mono ?_); rintro e w' ⟨rfl, ⟨nd, rfl⟩⟩) | (go_at_call 17; (with_reducible refine (rate_Open.calls k t116 t117 (wrap64 (1 + (Int.tmod (wrap64 ((Int.tmod a2 24) + 24)) 24))) t121 _ A25.out).mono ?_); rintro e w' ⟨rfl, ⟨nd, rfl⟩⟩))
                  go_ret
                  exact ⟨by first | rfl | (simp [errW_none, errW_some] <;> rfl) | (simp only [← hji27, ← hji29]; first | rfl | (simp [errW_none, errW_some] <;> rfl)) | (simp [*, errW_none, errW_some] <;> rfl), by repeat (first | (with_reducible first | exact HB.out | apply below_alloc | apply pw_below_drewN | apply below_drew1) | exact HB.out)⟩
              · rw [if_neg c28] at H
                exact absurd H (by simp)
            · rw [if_neg c26] at H
              have c26b0 : (t121 == t114) = false := beq_eq_false_iff_ne.mpr c26
              have c26b1 : (t121 != t114) = true := bne_iff_ne.mpr c26
              obtain rfl := Option.some.inj H
              go_enter Try.func5, Try.ntmps5
              go_wp2_with (first | ((with_reducible refine gate_callee (f := 15) rfl ?_); refine goesL_ (some 19) rfl rfl Try.func15 (by kernel_rfl) rfl #[.int .u64 a0, .int .i64 (wrap64 (1 + (Int.tmod (wrap64 ((Int.tmod a2 24) + 24)) 24)))] rfl (by (try simp only [List.map_toArray, List.map_cons, List.map_nil]); first | done | rfl | (simp only [List.length_drop, List.length_take]; rfl)) ?_; (with_reducible refine (rate_Down.calls k a0 (wrap64 (1 + (Int.tmod (wrap64 ((Int.tmod a2 24) + 24)) 24))) t114 _ A4.out).mono ?_); rintro e w' ⟨rfl, ⟨nd, rfl⟩⟩; refine ⟨_, rfl, ?_⟩) | ((with_reducible refine gate_callee (f := 15) rfl ?_); refine goesL_ (some 22) rfl rfl Try.func15 (by kernel_rfl) rfl #[.int .u64 a1, .int .i64 (wrap64 (1 + (Int.tmod (wrap64 ((Int.tmod a2 24) + 24)) 24)))] rfl (by (try simp only [List.map_toArray, List.map_cons, List.map_nil]); first | done | rfl | (simp only [List.length_drop, List.length_take]; rfl)) ?_; (with_reducible refine (rate_Down.calls k a1 (wrap64 (1 + (Int.tmod (wrap64 ((Int.tmod a2 24) + 24)) 24))) t115 _ A5.out).mono ?_); rintro e w' ⟨rfl, ⟨nd, rfl⟩⟩; refine ⟨_, rfl, ?_⟩) | ((with_reducible refine gate_callee (f := 16) rfl ?_); refine goesL_ (some 26) rfl rfl Try.func16 (by kernel_rfl) rfl #[.int .u64 a0, .int .i64 (wrap64 (1 + (Int.tmod (wrap64 ((Int.tmod a2 24) + 24)) 24)))] rfl (by (try simp only [List.map_toArray, List.map_cons, List.map_nil]); first | done | rfl | (simp only [List.length_drop, List.length_take]; rfl)) ?_; (with_reducible refine (rate_Pack.calls k a0 (wrap64 (1 + (Int.tmod (wrap64 ((Int.tmod a2 24) + 24)) 24))) t116 t117 _ A6.out).mono ?_); rintro e w' ⟨rfl, ⟨nd, rfl⟩⟩; refine ⟨_, rfl, ?_⟩) | (go_at_call 15; (with_reducible refine (rate_Down.calls k t114 (wrap64 (1 + (Int.tmod (wrap64 ((Int.tmod a2 24) + 24)) 24))) t118 _ A9.out).mono ?_); rintro e w' ⟨rfl, ⟨nd, rfl⟩⟩) | (go_at_call 17; (with_reducible refine (rate_Open.calls k t116 t117 (wrap64 (1 + (Int.tmod (wrap64 ((Int.tmod a2 24) + 24)) 24))) t121 _ A25.out).mono ?_); rintro e w' ⟨rfl, ⟨nd, rfl⟩⟩))
              go_ret
              exact ⟨by first | rfl | (simp [errW_none, errW_some] <;> rfl) | (simp [*, errW_none, errW_some] <;> rfl), by repeat (first | (with_reducible first | exact HB.out | apply below_alloc | apply pw_below_drewN | apply below_drew1) | exact HB.out)⟩
          · rw [if_neg c24] at H
            have c24b0 : decide (t114 ≤ t115) = false := decide_eq_false c24
            clear c24
            obtain rfl := Option.some.inj H
            go_enter Try.func5, Try.ntmps5
            go_wp2_with (first | ((with_reducible refine gate_callee (f := 15) rfl ?_); refine goesL_ (some 19) rfl rfl Try.func15 (by kernel_rfl) rfl #[.int .u64 a0, .int .i64 (wrap64 (1 + (Int.tmod (wrap64 ((Int.tmod a2 24) + 24)) 24)))] rfl (by (try simp only [List.map_toArray, List.map_cons, List.map_nil]); first | done | rfl | (simp only [List.length_drop, List.length_take]; rfl)) ?_; (with_reducible refine (rate_Down.calls k a0 (wrap64 (1 + (Int.tmod (wrap64 ((Int.tmod a2 24) + 24)) 24))) t114 _ A4.out).mono ?_); rintro e w' ⟨rfl, ⟨nd, rfl⟩⟩; refine ⟨_, rfl, ?_⟩) | ((with_reducible refine gate_callee (f := 15) rfl ?_); refine goesL_ (some 22) rfl rfl Try.func15 (by kernel_rfl) rfl #[.int .u64 a1, .int .i64 (wrap64 (1 + (Int.tmod (wrap64 ((Int.tmod a2 24) + 24)) 24)))] rfl (by (try simp only [List.map_toArray, List.map_cons, List.map_nil]); first | done | rfl | (simp only [List.length_drop, List.length_take]; rfl)) ?_; (with_reducible refine (rate_Down.calls k a1 (wrap64 (1 + (Int.tmod (wrap64 ((Int.tmod a2 24) + 24)) 24))) t115 _ A5.out).mono ?_); rintro e w' ⟨rfl, ⟨nd, rfl⟩⟩; refine ⟨_, rfl, ?_⟩) | ((with_reducible refine gate_callee (f := 16) rfl ?_); refine goesL_ (some 26) rfl rfl Try.func16 (by kernel_rfl) rfl #[.int .u64 a0, .int .i64 (wrap64 (1 + (Int.tmod (wrap64 ((Int.tmod a2 24) + 24)) 24)))] rfl (by (try simp only [List.map_toArray, List.map_cons, List.map_nil]); first | done | rfl | (simp only [List.length_drop, List.length_take]; rfl)) ?_; (with_reducible refine (rate_Pack.calls k a0 (wrap64 (1 + (Int.tmod (wrap64 ((Int.tmod a2 24) + 24)) 24))) t116 t117 _ A6.out).mono ?_); rintro e w' ⟨rfl, ⟨nd, rfl⟩⟩; refine ⟨_, rfl, ?_⟩) | (go_at_call 15; (with_reducible refine (rate_Down.calls k t114 (wrap64 (1 + (Int.tmod (wrap64 ((Int.tmod a2 24) + 24)) 24))) t118 _ A9.out).mono ?_); rintro e w' ⟨rfl, ⟨nd, rfl⟩⟩))
            go_ret
            exact ⟨by first | rfl | (simp [errW_none, errW_some] <;> rfl) | (simp [*, errW_none, errW_some] <;> rfl), by repeat (first | (with_reducible first | exact HB.out | apply below_alloc | apply pw_below_drewN | apply below_drew1) | exact HB.out)⟩
      · rw [if_neg c10] at H
        have c10b0 : (t118 == t114) = false := beq_eq_false_iff_ne.mpr c10
        have c10b1 : (t118 != t114) = true := bne_iff_ne.mpr c10
        obtain rfl := Option.some.inj H
        go_enter Try.func5, Try.ntmps5
        go_wp2_with (first | ((with_reducible refine gate_callee (f := 15) rfl ?_); refine goesL_ (some 19) rfl rfl Try.func15 (by kernel_rfl) rfl #[.int .u64 a0, .int .i64 (wrap64 (1 + (Int.tmod (wrap64 ((Int.tmod a2 24) + 24)) 24)))] rfl (by (try simp only [List.map_toArray, List.map_cons, List.map_nil]); first | done | rfl | (simp only [List.length_drop, List.length_take]; rfl)) ?_; (with_reducible refine (rate_Down.calls k a0 (wrap64 (1 + (Int.tmod (wrap64 ((Int.tmod a2 24) + 24)) 24))) t114 _ A4.out).mono ?_); rintro e w' ⟨rfl, ⟨nd, rfl⟩⟩; refine ⟨_, rfl, ?_⟩) | ((with_reducible refine gate_callee (f := 15) rfl ?_); refine goesL_ (some 22) rfl rfl Try.func15 (by kernel_rfl) rfl #[.int .u64 a1, .int .i64 (wrap64 (1 + (Int.tmod (wrap64 ((Int.tmod a2 24) + 24)) 24)))] rfl (by (try simp only [List.map_toArray, List.map_cons, List.map_nil]); first | done | rfl | (simp only [List.length_drop, List.length_take]; rfl)) ?_; (with_reducible refine (rate_Down.calls k a1 (wrap64 (1 + (Int.tmod (wrap64 ((Int.tmod a2 24) + 24)) 24))) t115 _ A5.out).mono ?_); rintro e w' ⟨rfl, ⟨nd, rfl⟩⟩; refine ⟨_, rfl, ?_⟩) | ((with_reducible refine gate_callee (f := 16) rfl ?_); refine goesL_ (some 26) rfl rfl Try.func16 (by kernel_rfl) rfl #[.int .u64 a0, .int .i64 (wrap64 (1 + (Int.tmod (wrap64 ((Int.tmod a2 24) + 24)) 24)))] rfl (by (try simp only [List.map_toArray, List.map_cons, List.map_nil]); first | done | rfl | (simp only [List.length_drop, List.length_take]; rfl)) ?_; (with_reducible refine (rate_Pack.calls k a0 (wrap64 (1 + (Int.tmod (wrap64 ((Int.tmod a2 24) + 24)) 24))) t116 t117 _ A6.out).mono ?_); rintro e w' ⟨rfl, ⟨nd, rfl⟩⟩; refine ⟨_, rfl, ?_⟩) | (go_at_call 15; (with_reducible refine (rate_Down.calls k t114 (wrap64 (1 + (Int.tmod (wrap64 ((Int.tmod a2 24) + 24)) 24))) t118 _ A9.out).mono ?_); rintro e w' ⟨rfl, ⟨nd, rfl⟩⟩))
        go_ret
        exact ⟨by first | rfl | (simp [errW_none, errW_some] <;> rfl) | (simp [*, errW_none, errW_some] <;> rfl), by repeat (first | (with_reducible first | exact HB.out | apply below_alloc | apply pw_below_drewN | apply below_drew1) | exact HB.out)⟩
    · rw [if_neg c8] at H
      have c8b0 : (a0 == 0) = false := beq_eq_false_iff_ne.mpr c8
      have c8b1 : (a0 != 0) = true := bne_iff_ne.mpr c8
      by_cases c37 : t114 > (IntKind.u64.wrap (Int.tdiv a0 2))
      · rw [if_pos c37] at H
        have c37b0 : decide ((IntKind.u64.wrap (Int.tdiv a0 2)) < t114) = true := decide_eq_true c37
        clear c37
        replace H := Option.bind_eq_some_iff.mp H
        obtain ⟨t123, A380, H⟩ := H
        replace H : (if t123 = t114 then (if a0 > a1 then ((rate_Open.f k t116 t117 (wrap64 (1 + (Int.tmod (wrap64 ((Int.tmod a2 24) + 24)) 24)))).bind fun t124 => (if t124 = t114 then (if 0 ≤ (IntKind.u64.wrap (t116)) then (if (IntKind.u64.wrap (a0 - t114)) < (shl .u64 1 (IntKind.u64.wrap (t116))) then (if 0 ≤ (IntKind.u64.wrap (wrap64 (1 + (Int.tmod (wrap64 ((Int.tmod a2 24) + 24)) 24)))) then (if ((decide (a0 < (shl .u64 1 (IntKind.u64.wrap (wrap64 (1 + (Int.tmod (wrap64 ((Int.tmod a2 24) + 24)) 24))))))) == (t116 == 0)) = true then ((limelightlaw5_known.f k).bind fun t125 => (some t125)) else (some false)) else (none)) else (some false)) else (none)) else (some false))) else (if t114 ≤ t115 then ((rate_Open.f k t116 t117 (wrap64 (1 + (Int.tmod (wrap64 ((Int.tmod a2 24) + 24)) 24)))).bind fun t126 => (if t126 = t114 then (if 0 ≤ (IntKind.u64.wrap (t116)) then (if (IntKind.u64.wrap (a0 - t114)) < (shl .u64 1 (IntKind.u64.wrap (t116))) then (if 0 ≤ (IntKind.u64.wrap (wrap64 (1 + (Int.tmod (wrap64 ((Int.tmod a2 24) + 24)) 24)))) then (if ((decide (a0 < (shl .u64 1 (IntKind.u64.wrap (wrap64 (1 + (Int.tmod (wrap64 ((Int.tmod a2 24) + 24)) 24))))))) == (t116 == 0)) = true then ((limelightlaw5_known.f k).bind fun t127 => (some t127)) else (some false)) else (none)) else (some false)) else (none)) else (some false))) else (some false))) else (some false)) = some r := H
        have A38 := Aside0.mk A380
        clear A380
        by_cases c39 : t123 = t114
        · rw [if_pos c39] at H
          have c39b0 : (t123 == t114) = true := beq_iff_eq.mpr c39
          have c39b1 : (t123 != t114) = false := bne_eq_false_iff_eq.mpr c39
          clear c39
          by_cases c40 : a0 > a1
          · rw [if_pos c40] at H
            have c40b0 : decide (a1 < a0) = true := decide_eq_true c40
            clear c40
            replace H := Option.bind_eq_some_iff.mp H
            obtain ⟨t124, A410, H⟩ := H
            replace H : (if t124 = t114 then (if 0 ≤ (IntKind.u64.wrap (t116)) then (if (IntKind.u64.wrap (a0 - t114)) < (shl .u64 1 (IntKind.u64.wrap (t116))) then (if 0 ≤ (IntKind.u64.wrap (wrap64 (1 + (Int.tmod (wrap64 ((Int.tmod a2 24) + 24)) 24)))) then (if ((decide (a0 < (shl .u64 1 (IntKind.u64.wrap (wrap64 (1 + (Int.tmod (wrap64 ((Int.tmod a2 24) + 24)) 24))))))) == (t116 == 0)) = true then ((limelightlaw5_known.f k).bind fun t125 => (some t125)) else (some false)) else (none)) else (some false)) else (none)) else (some false)) = some r := H
            have A41 := Aside0.mk A410
            clear A410
            by_cases c42 : t124 = t114
            · rw [if_pos c42] at H
              have c42b0 : (t124 == t114) = true := beq_iff_eq.mpr c42
              have c42b1 : (t124 != t114) = false := bne_eq_false_iff_eq.mpr c42
              clear c42
              obtain ⟨ji43, hji43⟩ : ∃ j_ : Int, (IntKind.u64.wrap (t116)) = j_ := ⟨_, rfl⟩
              replace H : (if 0 ≤ (ji43) then (if (IntKind.u64.wrap (a0 - t114)) < (shl .u64 1 (ji43)) then (if 0 ≤ (IntKind.u64.wrap (wrap64 (1 + (Int.tmod (wrap64 ((Int.tmod a2 24) + 24)) 24)))) then (if ((decide (a0 < (shl .u64 1 (IntKind.u64.wrap (wrap64 (1 + (Int.tmod (wrap64 ((Int.tmod a2 24) + 24)) 24))))))) == (t116 == 0)) = true then ((limelightlaw5_known.f k).bind fun t125 => (some t125)) else (some false)) else (none)) else (some false)) else (none)) = some r := by first | (rw [hji43] at H; exact H) | (simp only [hji43] at H ⊢; exact H)
              (try rw [hji43] at A4)
              (try rw [hji43] at A5)
              (try rw [hji43] at A6)
              (try rw [hji43] at A38)
              (try rw [hji43] at A41)
              by_cases c44 : 0 ≤ (ji43)
              · rw [if_pos c44] at H
                have c44b0 := eq_true c44
                have c44b1 : decide (0 ≤ (ji43)) = true := decide_eq_true c44
                clear c44
                obtain ⟨ji45, hji45⟩ : ∃ j_ : Int, (shl .u64 1 (ji43)) = j_ := ⟨_, rfl⟩
                replace H : (if (IntKind.u64.wrap (a0 - t114)) < (ji45) then (if 0 ≤ (IntKind.u64.wrap (wrap64 (1 + (Int.tmod (wrap64 ((Int.tmod a2 24) + 24)) 24)))) then (if ((decide (a0 < (shl .u64 1 (IntKind.u64.wrap (wrap64 (1 + (Int.tmod (wrap64 ((Int.tmod a2 24) + 24)) 24))))))) == (t116 == 0)) = true then ((limelightlaw5_known.f k).bind fun t125 => (some t125)) else (some false)) else (none)) else (some false)) = some r := by first | (rw [hji45] at H; exact H) | (simp only [hji45] at H ⊢; exact H)
                (try rw [hji45] at A4)
                (try rw [hji45] at A5)
                (try rw [hji45] at A6)
                (try rw [hji45] at A38)
                (try rw [hji45] at A41)
                have hji45_ : (IntKind.u64.wrap (1 * 2 ^ min (ji43).toNat 64)) = ji45 := hji45
                have hji45z : (ji43) ≤ 64 → (IntKind.u64.wrap (1 * 2 ^ (ji43).toNat)) = ji45 := shl_small hji45
                have hji45u : (IntKind.u64.wrap (2 ^ min (ji43).toNat 64)) = ji45 := by have h_ := hji45_; rw [Int.one_mul] at h_; exact h_
                have hji45v : (ji43) ≤ 64 → (IntKind.u64.wrap (2 ^ (ji43).toNat)) = ji45 := fun hle_ => by have h_ := hji45z hle_; rw [Int.one_mul] at h_; exact h_
                by_cases c46 : (IntKind.u64.wrap (a0 - t114)) < (ji45)
                · rw [if_pos c46] at H
                  have c46b0 : decide ((IntKind.u64.wrap (a0 - t114)) < (ji45)) = true := decide_eq_true c46
                  clear c46
                  obtain ⟨ji47, hji47⟩ : ∃ j_ : Int, (IntKind.u64.wrap (wrap64 (1 + (Int.tmod (wrap64 ((Int.tmod a2 24) + 24)) 24)))) = j_ := ⟨_, rfl⟩
                  replace H : (if 0 ≤ (ji47) then (if ((decide (a0 < (shl .u64 1 (ji47)))) == (t116 == 0)) = true then ((limelightlaw5_known.f k).bind fun t125 => (some t125)) else (some false)) else (none)) = some r := by first | (rw [hji47] at H; exact H) | (simp only [hji47] at H ⊢; exact H)
                  (try rw [hji47] at A4)
                  (try rw [hji47] at A5)
                  (try rw [hji47] at A6)
                  (try rw [hji47] at A38)
                  (try rw [hji47] at A41)
                  by_cases c48 : 0 ≤ (ji47)
                  · rw [if_pos c48] at H
                    have c48b0 := eq_true c48
                    have c48b1 : decide (0 ≤ (ji47)) = true := decide_eq_true c48
                    clear c48
                    obtain ⟨ji49, hji49⟩ : ∃ j_ : Int, (shl .u64 1 (ji47)) = j_ := ⟨_, rfl⟩
                    replace H : (if ((decide (a0 < (ji49))) == (t116 == 0)) = true then ((limelightlaw5_known.f k).bind fun t125 => (some t125)) else (some false)) = some r := by first | (rw [hji49] at H; exact H) | (simp only [hji49] at H ⊢; exact H)
                    (try rw [hji49] at A4)
                    (try rw [hji49] at A5)
                    (try rw [hji49] at A6)
                    (try rw [hji49] at A38)
                    (try rw [hji49] at A41)
                    have hji49_ : (IntKind.u64.wrap (1 * 2 ^ min (ji47).toNat 64)) = ji49 := hji49
                    have hji49z : (ji47) ≤ 64 → (IntKind.u64.wrap (1 * 2 ^ (ji47).toNat)) = ji49 := shl_small hji49
                    have hji49u : (IntKind.u64.wrap (2 ^ min (ji47).toNat 64)) = ji49 := by have h_ := hji49_; rw [Int.one_mul] at h_; exact h_
                    have hji49v : (ji47) ≤ 64 → (IntKind.u64.wrap (2 ^ (ji47).toNat)) = ji49 := fun hle_ => by have h_ := hji49z hle_; rw [Int.one_mul] at h_; exact h_
                    by_cases c50 : ((decide (a0 < (ji49))) == (t116 == 0)) = true
                    · rw [if_pos c50] at H
                      have c50b0 : ((decide (a0 < (ji49))) == (t116 == 0)) = true := c50
                      (try (have c50b1 : decide ((decide (a0 < (ji49))) = (t116 == 0)) = true := by simpa using c50))
                      (try (have c50b2 : ((decide (a0 < (ji49))) == (t116 == 0)) = true := by simpa using c50))
                      clear c50
                      replace H := Option.bind_eq_some_iff.mp H
                      obtain ⟨t125, A510, H⟩ := H
                      replace H : (some t125) = some r := H
                      have A51 := Aside0.mk A510
                      clear A510
                      obtain rfl := Option.some.inj H
                      go_enter Try.func5, Try.ntmps5
                      go_wp2_with (first | ((with_reducible refine gate_callee (f := 15) rfl ?_); refine goesL_ (some 19) rfl rfl Try.func15 (by kernel_rfl) rfl #[.int .u64 a0, .int .i64 (wrap64 (1 + (Int.tmod (wrap64 ((Int.tmod a2 24) + 24)) 24)))] rfl (by (try simp only [List.map_toArray, List.map_cons, List.map_nil]); first | done | rfl | (simp only [List.length_drop, List.length_take]; rfl)) ?_; (with_reducible refine (rate_Down.calls k a0 (wrap64 (1 + (Int.tmod (wrap64 ((Int.tmod a2 24) + 24)) 24))) t114 _ A4.out).mono ?_); rintro e w' ⟨rfl, ⟨nd, rfl⟩⟩; refine ⟨_, rfl, ?_⟩) | ((with_reducible refine gate_callee (f := 15) rfl ?_); refine goesL_ (some 22) rfl rfl Try.func15 (by kernel_rfl) rfl #[.int .u64 a1, .int .i64 (wrap64 (1 + (Int.tmod (wrap64 ((Int.tmod a2 24) + 24)) 24)))] rfl (by (try simp only [List.map_toArray, List.map_cons, List.map_nil]); first | done | rfl | (simp only [List.length_drop, List.length_take]; rfl)) ?_; (with_reducible refine (rate_Down.calls k a1 (wrap64 (1 + (Int.tmod (wrap64 ((Int.tmod a2 24) + 24)) 24))) t115 _ A5.out).mono ?_); rintro e w' ⟨rfl, ⟨nd, rfl⟩⟩; refine ⟨_, rfl, ?_⟩) | ((with_reducible refine gate_callee (f := 16) rfl ?_); refine goesL_ (some 26) rfl rfl Try.func16 (by kernel_rfl) rfl #[.int .u64 a0, .int .i64 (wrap64 (1 + (Int.tmod (wrap64 ((Int.tmod a2 24) + 24)) 24)))] rfl (by (try simp only [List.map_toArray, List.map_cons, List.map_nil]); first | done | rfl | (simp only [List.length_drop, List.length_take]; rfl)) ?_; (with_reducible refine (rate_Pack.calls k a0 (wrap64 (1 + (Int.tmod (wrap64 ((Int.tmod a2 24) + 24)) 24))) t116 t117 _ A6.out).mono ?_); rintro e w' ⟨rfl, ⟨nd, rfl⟩⟩; refine ⟨_, rfl, ?_⟩) | (go_at_call 15; (with_reducible refine (rate_Down.calls k t114 (wrap64 (1 + (Int.tmod (wrap64 ((Int.tmod a2 24) + 24)) 24))) t123 _ A38.out).mono ?_); rintro e w' ⟨rfl, ⟨nd, rfl⟩⟩) | (go_at_call 17; (with_reducible refine (rate_Open.calls k t116 t117 (wrap64 (1 + (Int.tmod (wrap64 ((Int.tmod a2 24) + 24)) 24))) t124 _ A41.out).mono ?_); rintro e w' ⟨rfl, ⟨nd, rfl⟩⟩) | (go_at_call 14; (with_reducible refine (limelightlaw5_known.calls k  t125 _ A51.out).mono ?_); rintro e w52 ⟨rfl, hb⟩; have n0_ := Aside0.mk (below_step (by repeat (first | (with_reducible first | exact HB.out | apply below_alloc | apply pw_below_drewN | apply below_drew1) | exact HB.out)) hb); clear HB; have HB := n0_; clear n0_; (try clear hb); (try clear hb2); (try clear hk); (try clear hi)))
                      go_ret
                      exact ⟨by first | rfl | (simp [errW_none, errW_some] <;> rfl) | (simp only [← hji43, ← hji45, ← hji47, ← hji49]; first | rfl | (simp [errW_none, errW_some] <;> rfl)) | (simp [*, errW_none, errW_some] <;> rfl), by repeat (first | (with_reducible first | exact HB.out | apply below_alloc | apply pw_below_drewN | apply below_drew1) | exact HB.out)⟩
                    · rw [if_neg c50] at H
                      have c50b0 : ((decide (a0 < (ji49))) == (t116 == 0)) = false := by simpa using c50
                      (try (have c50b1 : decide ((decide (a0 < (ji49))) = (t116 == 0)) = false := by simpa using c50))
                      (try (have c50b2 : ((decide (a0 < (ji49))) == (t116 == 0)) = false := by simpa using c50))
                      (try (have c50b3 : ¬ ((decide (a0 < (ji49))) = (t116 == 0)) := by simpa using c50))
                      clear c50
                      obtain rfl := Option.some.inj H
                      go_enter Try.func5, Try.ntmps5
                      go_wp2_with (first | ((with_reducible refine gate_callee (f := 15) rfl ?_); refine goesL_ (some 19) rfl rfl Try.func15 (by kernel_rfl) rfl #[.int .u64 a0, .int .i64 (wrap64 (1 + (Int.tmod (wrap64 ((Int.tmod a2 24) + 24)) 24)))] rfl (by (try simp only [List.map_toArray, List.map_cons, List.map_nil]); first | done | rfl | (simp only [List.length_drop, List.length_take]; rfl)) ?_; (with_reducible refine (rate_Down.calls k a0 (wrap64 (1 + (Int.tmod (wrap64 ((Int.tmod a2 24) + 24)) 24))) t114 _ A4.out).mono ?_); rintro e w' ⟨rfl, ⟨nd, rfl⟩⟩; refine ⟨_, rfl, ?_⟩) | ((with_reducible refine gate_callee (f := 15) rfl ?_); refine goesL_ (some 22) rfl rfl Try.func15 (by kernel_rfl) rfl #[.int .u64 a1, .int .i64 (wrap64 (1 + (Int.tmod (wrap64 ((Int.tmod a2 24) + 24)) 24)))] rfl (by (try simp only [List.map_toArray, List.map_cons, List.map_nil]); first | done | rfl | (simp only [List.length_drop, List.length_take]; rfl)) ?_; (with_reducible refine (rate_Down.calls k a1 (wrap64 (1 + (Int.tmod (wrap64 ((Int.tmod a2 24) + 24)) 24))) t115 _ A5.out).mono ?_); rintro e w' ⟨rfl, ⟨nd, rfl⟩⟩; refine ⟨_, rfl, ?_⟩) | ((with_reducible refine gate_callee (f := 16) rfl ?_); refine goesL_ (some 26) rfl rfl Try.func16 (by kernel_rfl) rfl #[.int .u64 a0, .int .i64 (wrap64 (1 + (Int.tmod (wrap64 ((Int.tmod a2 24) + 24)) 24)))] rfl (by (try simp only [List.map_toArray, List.map_cons, List.map_nil]); first | done | rfl | (simp only [List.length_drop, List.length_take]; rfl)) ?_; (with_reducible refine (rate_Pack.calls k a0 (wrap64 (1 + (Int.tmod (wrap64 ((Int.tmod a2 24) + 24)) 24))) t116 t117 _ A6.out).mono ?_); rintro e w' ⟨rfl, ⟨nd, rfl⟩⟩; refine ⟨_, rfl, ?_⟩) | (go_at_call 15; (with_reducible refine (rate_Down.calls k t114 (wrap64 (1 + (Int.tmod (wrap64 ((Int.tmod a2 24) + 24)) 24))) t123 _ A38.out).mono ?_); rintro e w' ⟨rfl, ⟨nd, rfl⟩⟩) | (go_at_call 17; (with_reducible refine (rate_Open.calls k t116 t117 (wrap64 (1 + (Int.tmod (wrap64 ((Int.tmod a2 24) + 24)) 24))) t124 _ A41.out).mono ?_); rintro e w' ⟨rfl, ⟨nd, rfl⟩⟩))
                      go_ret
                      exact ⟨by first | rfl | (simp [errW_none, errW_some] <;> rfl) | (simp only [← hji43, ← hji45, ← hji47, ← hji49]; first | rfl | (simp [errW_none, errW_some] <;> rfl)) | (simp [*, errW_none, errW_some] <;> rfl), by repeat (first | (with_reducible first | exact HB.out | apply below_alloc | apply pw_below_drewN | apply below_drew1) | exact HB.out)⟩
                  · rw [if_neg c48] at H
                    exact absurd H (by simp)
                · rw [if_neg c46] at H
                  have c46b0 : decide ((IntKind.u64.wrap (a0 - t114)) < (ji45)) = false := decide_eq_false c46
                  clear c46
                  obtain rfl := Option.some.inj H
                  go_enter Try.func5, Try.ntmps5
                  go_wp2_with (first | ((with_reducible refine gate_callee (f := 15) rfl ?_); refine goesL_ (some 19) rfl rfl Try.func15 (by kernel_rfl) rfl #[.int .u64 a0, .int .i64 (wrap64 (1 + (Int.tmod (wrap64 ((Int.tmod a2 24) + 24)) 24)))] rfl (by (try simp only [List.map_toArray, List.map_cons, List.map_nil]); first | done | rfl | (simp only [List.length_drop, List.length_take]; rfl)) ?_; (with_reducible refine (rate_Down.calls k a0 (wrap64 (1 + (Int.tmod (wrap64 ((Int.tmod a2 24) + 24)) 24))) t114 _ A4.out).mono ?_); rintro e w' ⟨rfl, ⟨nd, rfl⟩⟩; refine ⟨_, rfl, ?_⟩) | ((with_reducible refine gate_callee (f := 15) rfl ?_); refine goesL_ (some 22) rfl rfl Try.func15 (by kernel_rfl) rfl #[.int .u64 a1, .int .i64 (wrap64 (1 + (Int.tmod (wrap64 ((Int.tmod a2 24) + 24)) 24)))] rfl (by (try simp only [List.map_toArray, List.map_cons, List.map_nil]); first | done | rfl | (simp only [List.length_drop, List.length_take]; rfl)) ?_; (with_reducible refine (rate_Down.calls k a1 (wrap64 (1 + (Int.tmod (wrap64 ((Int.tmod a2 24) + 24)) 24))) t115 _ A5.out).mono ?_); rintro e w' ⟨rfl, ⟨nd, rfl⟩⟩; refine ⟨_, rfl, ?_⟩) | ((with_reducible refine gate_callee (f := 16) rfl ?_); refine goesL_ (some 26) rfl rfl Try.func16 (by kernel_rfl) rfl #[.int .u64 a0, .int .i64 (wrap64 (1 + (Int.tmod (wrap64 ((Int.tmod a2 24) + 24)) 24)))] rfl (by (try simp only [List.map_toArray, List.map_cons, List.map_nil]); first | done | rfl | (simp only [List.length_drop, List.length_take]; rfl)) ?_; (with_reducible refine (rate_Pack.calls k a0 (wrap64 (1 + (Int.tmod (wrap64 ((Int.tmod a2 24) + 24)) 24))) t116 t117 _ A6.out).mono ?_); rintro e w' ⟨rfl, ⟨nd, rfl⟩⟩; refine ⟨_, rfl, ?_⟩) | (go_at_call 15; (with_reducible refine (rate_Down.calls k t114 (wrap64 (1 + (Int.tmod (wrap64 ((Int.tmod a2 24) + 24)) 24))) t123 _ A38.out).mono ?_); rintro e w' ⟨rfl, ⟨nd, rfl⟩⟩) | (go_at_call 17; (with_reducible refine (rate_Open.calls k t116 t117 (wrap64 (1 + (Int.tmod (wrap64 ((Int.tmod a2 24) + 24)) 24))) t124 _ A41.out).mono ?_); rintro e w' ⟨rfl, ⟨nd, rfl⟩⟩))
                  go_ret
                  exact ⟨by first | rfl | (simp [errW_none, errW_some] <;> rfl) | (simp only [← hji43, ← hji45]; first | rfl | (simp [errW_none, errW_some] <;> rfl)) | (simp [*, errW_none, errW_some] <;> rfl), by repeat (first | (with_reducible first | exact HB.out | apply below_alloc | apply pw_below_drewN | apply below_drew1) | exact HB.out)⟩
              · rw [if_neg c44] at H
                exact absurd H (by simp)
            · rw [if_neg c42] at H
              have c42b0 : (t124 == t114) = false := beq_eq_false_iff_ne.mpr c42
              have c42b1 : (t124 != t114) = true := bne_iff_ne.mpr c42
              obtain rfl := Option.some.inj H
              go_enter Try.func5, Try.ntmps5
              go_wp2_with (first | ((with_reducible refine gate_callee (f := 15) rfl ?_); refine goesL_ (some 19) rfl rfl Try.func15 (by kernel_rfl) rfl #[.int .u64 a0, .int .i64 (wrap64 (1 + (Int.tmod (wrap64 ((Int.tmod a2 24) + 24)) 24)))] rfl (by (try simp only [List.map_toArray, List.map_cons, List.map_nil]); first | done | rfl | (simp only [List.length_drop, List.length_take]; rfl)) ?_; (with_reducible refine (rate_Down.calls k a0 (wrap64 (1 + (Int.tmod (wrap64 ((Int.tmod a2 24) + 24)) 24))) t114 _ A4.out).mono ?_); rintro e w' ⟨rfl, ⟨nd, rfl⟩⟩; refine ⟨_, rfl, ?_⟩) | ((with_reducible refine gate_callee (f := 15) rfl ?_); refine goesL_ (some 22) rfl rfl Try.func15 (by kernel_rfl) rfl #[.int .u64 a1, .int .i64 (wrap64 (1 + (Int.tmod (wrap64 ((Int.tmod a2 24) + 24)) 24)))] rfl (by (try simp only [List.map_toArray, List.map_cons, List.map_nil]); first | done | rfl | (simp only [List.length_drop, List.length_take]; rfl)) ?_; (with_reducible refine (rate_Down.calls k a1 (wrap64 (1 + (Int.tmod (wrap64 ((Int.tmod a2 24) + 24)) 24))) t115 _ A5.out).mono ?_); rintro e w' ⟨rfl, ⟨nd, rfl⟩⟩; refine ⟨_, rfl, ?_⟩) | ((with_reducible refine gate_callee (f := 16) rfl ?_); refine goesL_ (some 26) rfl rfl Try.func16 (by kernel_rfl) rfl #[.int .u64 a0, .int .i64 (wrap64 (1 + (Int.tmod (wrap64 ((Int.tmod a2 24) + 24)) 24)))] rfl (by (try simp only [List.map_toArray, List.map_cons, List.map_nil]); first | done | rfl | (simp only [List.length_drop, List.length_take]; rfl)) ?_; (with_reducible refine (rate_Pack.calls k a0 (wrap64 (1 + (Int.tmod (wrap64 ((Int.tmod a2 24) + 24)) 24))) t116 t117 _ A6.out).mono ?_); rintro e w' ⟨rfl, ⟨nd, rfl⟩⟩; refine ⟨_, rfl, ?_⟩) | (go_at_call 15; (with_reducible refine (rate_Down.calls k t114 (wrap64 (1 + (Int.tmod (wrap64 ((Int.tmod a2 24) + 24)) 24))) t123 _ A38.out).mono ?_); rintro e w' ⟨rfl, ⟨nd, rfl⟩⟩) | (go_at_call 17; (with_reducible refine (rate_Open.calls k t116 t117 (wrap64 (1 + (Int.tmod (wrap64 ((Int.tmod a2 24) + 24)) 24))) t124 _ A41.out).mono ?_); rintro e w' ⟨rfl, ⟨nd, rfl⟩⟩))
              go_ret
              exact ⟨by first | rfl | (simp [errW_none, errW_some] <;> rfl) | (simp [*, errW_none, errW_some] <;> rfl), by repeat (first | (with_reducible first | exact HB.out | apply below_alloc | apply pw_below_drewN | apply below_drew1) | exact HB.out)⟩
          · rw [if_neg c40] at H
            have c40b0 : decide (a1 < a0) = false := decide_eq_false c40
            clear c40
            by_cases c53 : t114 ≤ t115
            · rw [if_pos c53] at H
              have c53b0 : decide (t114 ≤ t115) = true := decide_eq_true c53
              clear c53
              replace H := Option.bind_eq_some_iff.mp H
              obtain ⟨t126, A540, H⟩ := H
              replace H : (if t126 = t114 then (if 0 ≤ (IntKind.u64.wrap (t116)) then (if (IntKind.u64.wrap (a0 - t114)) < (shl .u64 1 (IntKind.u64.wrap (t116))) then (if 0 ≤ (IntKind.u64.wrap (wrap64 (1 + (Int.tmod (wrap64 ((Int.tmod a2 24) + 24)) 24)))) then (if ((decide (a0 < (shl .u64 1 (IntKind.u64.wrap (wrap64 (1 + (Int.tmod (wrap64 ((Int.tmod a2 24) + 24)) 24))))))) == (t116 == 0)) = true then ((limelightlaw5_known.f k).bind fun t127 => (some t127)) else (some false)) else (none)) else (some false)) else (none)) else (some false)) = some r := H
              have A54 := Aside0.mk A540
              clear A540
              by_cases c55 : t126 = t114
              · rw [if_pos c55] at H
                have c55b0 : (t126 == t114) = true := beq_iff_eq.mpr c55
                have c55b1 : (t126 != t114) = false := bne_eq_false_iff_eq.mpr c55
                clear c55
                obtain ⟨ji56, hji56⟩ : ∃ j_ : Int, (IntKind.u64.wrap (t116)) = j_ := ⟨_, rfl⟩
                replace H : (if 0 ≤ (ji56) then (if (IntKind.u64.wrap (a0 - t114)) < (shl .u64 1 (ji56)) then (if 0 ≤ (IntKind.u64.wrap (wrap64 (1 + (Int.tmod (wrap64 ((Int.tmod a2 24) + 24)) 24)))) then (if ((decide (a0 < (shl .u64 1 (IntKind.u64.wrap (wrap64 (1 + (Int.tmod (wrap64 ((Int.tmod a2 24) + 24)) 24))))))) == (t116 == 0)) = true then ((limelightlaw5_known.f k).bind fun t127 => (some t127)) else (some false)) else (none)) else (some false)) else (none)) = some r := by first | (rw [hji56] at H; exact H) | (simp only [hji56] at H ⊢; exact H)
                (try rw [hji56] at A4)
                (try rw [hji56] at A5)
                (try rw [hji56] at A6)
                (try rw [hji56] at A38)
                (try rw [hji56] at A54)
                by_cases c57 : 0 ≤ (ji56)
                · rw [if_pos c57] at H
                  have c57b0 := eq_true c57
                  have c57b1 : decide (0 ≤ (ji56)) = true := decide_eq_true c57
                  clear c57
                  obtain ⟨ji58, hji58⟩ : ∃ j_ : Int, (shl .u64 1 (ji56)) = j_ := ⟨_, rfl⟩
                  replace H : (if (IntKind.u64.wrap (a0 - t114)) < (ji58) then (if 0 ≤ (IntKind.u64.wrap (wrap64 (1 + (Int.tmod (wrap64 ((Int.tmod a2 24) + 24)) 24)))) then (if ((decide (a0 < (shl .u64 1 (IntKind.u64.wrap (wrap64 (1 + (Int.tmod (wrap64 ((Int.tmod a2 24) + 24)) 24))))))) == (t116 == 0)) = true then ((limelightlaw5_known.f k).bind fun t127 => (some t127)) else (some false)) else (none)) else (some false)) = some r := by first | (rw [hji58] at H; exact H) | (simp only [hji58] at H ⊢; exact H)
                  (try rw [hji58] at A4)
                  (try rw [hji58] at A5)
                  (try rw [hji58] at A6)
                  (try rw [hji58] at A38)
                  (try rw [hji58] at A54)
                  have hji58_ : (IntKind.u64.wrap (1 * 2 ^ min (ji56).toNat 64)) = ji58 := hji58
                  have hji58z : (ji56) ≤ 64 → (IntKind.u64.wrap (1 * 2 ^ (ji56).toNat)) = ji58 := shl_small hji58
                  have hji58u : (IntKind.u64.wrap (2 ^ min (ji56).toNat 64)) = ji58 := by have h_ := hji58_; rw [Int.one_mul] at h_; exact h_
                  have hji58v : (ji56) ≤ 64 → (IntKind.u64.wrap (2 ^ (ji56).toNat)) = ji58 := fun hle_ => by have h_ := hji58z hle_; rw [Int.one_mul] at h_; exact h_
                  by_cases c59 : (IntKind.u64.wrap (a0 - t114)) < (ji58)
                  · rw [if_pos c59] at H
                    have c59b0 : decide ((IntKind.u64.wrap (a0 - t114)) < (ji58)) = true := decide_eq_true c59
                    clear c59
                    obtain ⟨ji60, hji60⟩ : ∃ j_ : Int, (IntKind.u64.wrap (wrap64 (1 + (Int.tmod (wrap64 ((Int.tmod a2 24) + 24)) 24)))) = j_ := ⟨_, rfl⟩
                    replace H : (if 0 ≤ (ji60) then (if ((decide (a0 < (shl .u64 1 (ji60)))) == (t116 == 0)) = true then ((limelightlaw5_known.f k).bind fun t127 => (some t127)) else (some false)) else (none)) = some r := by first | (rw [hji60] at H; exact H) | (simp only [hji60] at H ⊢; exact H)
                    (try rw [hji60] at A4)
                    (try rw [hji60] at A5)
                    (try rw [hji60] at A6)
                    (try rw [hji60] at A38)
                    (try rw [hji60] at A54)
                    by_cases c61 : 0 ≤ (ji60)
                    · rw [if_pos c61] at H
                      have c61b0 := eq_true c61
                      have c61b1 : decide (0 ≤ (ji60)) = true := decide_eq_true c61
                      clear c61
                      obtain ⟨ji62, hji62⟩ : ∃ j_ : Int, (shl .u64 1 (ji60)) = j_ := ⟨_, rfl⟩
                      replace H : (if ((decide (a0 < (ji62))) == (t116 == 0)) = true then ((limelightlaw5_known.f k).bind fun t127 => (some t127)) else (some false)) = some r := by first | (rw [hji62] at H; exact H) | (simp only [hji62] at H ⊢; exact H)
                      (try rw [hji62] at A4)
                      (try rw [hji62] at A5)
                      (try rw [hji62] at A6)
                      (try rw [hji62] at A38)
                      (try rw [hji62] at A54)
                      have hji62_ : (IntKind.u64.wrap (1 * 2 ^ min (ji60).toNat 64)) = ji62 := hji62
                      have hji62z : (ji60) ≤ 64 → (IntKind.u64.wrap (1 * 2 ^ (ji60).toNat)) = ji62 := shl_small hji62
                      have hji62u : (IntKind.u64.wrap (2 ^ min (ji60).toNat 64)) = ji62 := by have h_ := hji62_; rw [Int.one_mul] at h_; exact h_
                      have hji62v : (ji60) ≤ 64 → (IntKind.u64.wrap (2 ^ (ji60).toNat)) = ji62 := fun hle_ => by have h_ := hji62z hle_; rw [Int.one_mul] at h_; exact h_
                      by_cases c63 : ((decide (a0 < (ji62))) == (t116 == 0)) = true
                      · rw [if_pos c63] at H
                        have c63b0 : ((decide (a0 < (ji62))) == (t116 == 0)) = true := c63
                        (try (have c63b1 : decide ((decide (a0 < (ji62))) = (t116 == 0)) = true := by simpa using c63))
                        (try (have c63b2 : ((decide (a0 < (ji62))) == (t116 == 0)) = true := by simpa using c63))
                        clear c63
                        replace H := Option.bind_eq_some_iff.mp H
                        obtain ⟨t127, A640, H⟩ := H
                        replace H : (some t127) = some r := H
                        have A64 := Aside0.mk A640
                        clear A640
                        obtain rfl := Option.some.inj H
                        go_enter Try.func5, Try.ntmps5
                        go_wp2_with (first | ((with_reducible refine gate_callee (f := 15) rfl ?_); refine goesL_ (some 19) rfl rfl Try.func15 (by kernel_rfl) rfl #[.int .u64 a0, .int .i64 (wrap64 (1 + (Int.tmod (wrap64 ((Int.tmod a2 24) + 24)) 24)))] rfl (by (try simp only [List.map_toArray, List.map_cons, List.map_nil]); first | done | rfl | (simp only [List.length_drop, List.length_take]; rfl)) ?_; (with_reducible refine (rate_Down.calls k a0 (wrap64 (1 + (Int.tmod (wrap64 ((Int.tmod a2 24) + 24)) 24))) t114 _ A4.out).mono ?_); rintro e w' ⟨rfl, ⟨nd, rfl⟩⟩; refine ⟨_, rfl, ?_⟩) | ((with_reducible refine gate_callee (f := 15) rfl ?_); refine goesL_ (some 22) rfl rfl Try.func15 (by kernel_rfl) rfl #[.int .u64 a1, .int .i64 (wrap64 (1 + (Int.tmod (wrap64 ((Int.tmod a2 24) + 24)) 24)))] rfl (by (try simp only [List.map_toArray, List.map_cons, List.map_nil]); first | done | rfl | (simp only [List.length_drop, List.length_take]; rfl)) ?_; (with_reducible refine (rate_Down.calls k a1 (wrap64 (1 + (Int.tmod (wrap64 ((Int.tmod a2 24) + 24)) 24))) t115 _ A5.out).mono ?_); rintro e w' ⟨rfl, ⟨nd, rfl⟩⟩; refine ⟨_, rfl, ?_⟩) | ((with_reducible refine gate_callee (f := 16) rfl ?_); refine goesL_ (some 26) rfl rfl Try.func16 (by kernel_rfl) rfl #[.int .u64 a0, .int .i64 (wrap64 (1 + (Int.tmod (wrap64 ((Int.tmod a2 24) + 24)) 24)))] rfl (by (try simp only [List.map_toArray, List.map_cons, List.map_nil]); first | done | rfl | (simp only [List.length_drop, List.length_take]; rfl)) ?_; (with_reducible refine (rate_Pack.calls k a0 (wrap64 (1 + (Int.tmod (wrap64 ((Int.tmod a2 24) + 24)) 24))) t116 t117 _ A6.out).mono ?_); rintro e w' ⟨rfl, ⟨nd, rfl⟩⟩; refine ⟨_, rfl, ?_⟩) | (go_at_call 15; (with_reducible refine (rate_Down.calls k t114 (wrap64 (1 + (Int.tmod (wrap64 ((Int.tmod a2 24) + 24)) 24))) t123 _ A38.out).mono ?_); rintro e w' ⟨rfl, ⟨nd, rfl⟩⟩) | (go_at_call 17; (with_reducible refine (rate_Open.calls k t116 t117 (wrap64 (1 + (Int.tmod (wrap64 ((Int.tmod a2 24) + 24)) 24))) t126 _ A54.out).mono ?_); rintro e w' ⟨rfl, ⟨nd, rfl⟩⟩) | (go_at_call 14; (with_reducible refine (limelightlaw5_known.calls k  t127 _ A64.out).mono ?_); rintro e w65 ⟨rfl, hb⟩; have n0_ := Aside0.mk (below_step (by repeat (first | (with_reducible first | exact HB.out | apply below_alloc | apply pw_below_drewN | apply below_drew1) | exact HB.out)) hb); clear HB; have HB := n0_; clear n0_; (try clear hb); (try clear hb2); (try clear hk); (try clear hi)))
                        go_ret
                        exact ⟨by first | rfl | (simp [errW_none, errW_some] <;> rfl) | (simp only [← hji56, ← hji58, ← hji60, ← hji62]; first | rfl | (simp [errW_none, errW_some] <;> rfl)) | (simp [*, errW_none, errW_some] <;> rfl), by repeat (first | (with_reducible first | exact HB.out | apply below_alloc | apply pw_below_drewN | apply below_drew1) | exact HB.out)⟩
                      · rw [if_neg c63] at H
                        have c63b0 : ((decide (a0 < (ji62))) == (t116 == 0)) = false := by simpa using c63
                        (try (have c63b1 : decide ((decide (a0 < (ji62))) = (t116 == 0)) = false := by simpa using c63))
                        (try (have c63b2 : ((decide (a0 < (ji62))) == (t116 == 0)) = false := by simpa using c63))
                        (try (have c63b3 : ¬ ((decide (a0 < (ji62))) = (t116 == 0)) := by simpa using c63))
                        clear c63
                        obtain rfl := Option.some.inj H
                        go_enter Try.func5, Try.ntmps5
                        go_wp2_with (first | ((with_reducible refine gate_callee (f := 15) rfl ?_); refine goesL_ (some 19) rfl rfl Try.func15 (by kernel_rfl) rfl #[.int .u64 a0, .int .i64 (wrap64 (1 + (Int.tmod (wrap64 ((Int.tmod a2 24) + 24)) 24)))] rfl (by (try simp only [List.map_toArray, List.map_cons, List.map_nil]); first | done | rfl | (simp only [List.length_drop, List.length_take]; rfl)) ?_; (with_reducible refine (rate_Down.calls k a0 (wrap64 (1 + (Int.tmod (wrap64 ((Int.tmod a2 24) + 24)) 24))) t114 _ A4.out).mono ?_); rintro e w' ⟨rfl, ⟨nd, rfl⟩⟩; refine ⟨_, rfl, ?_⟩) | ((with_reducible refine gate_callee (f := 15) rfl ?_); refine goesL_ (some 22) rfl rfl Try.func15 (by kernel_rfl) rfl #[.int .u64 a1, .int .i64 (wrap64 (1 + (Int.tmod (wrap64 ((Int.tmod a2 24) + 24)) 24)))] rfl (by (try simp only [List.map_toArray, List.map_cons, List.map_nil]); first | done | rfl | (simp only [List.length_drop, List.length_take]; rfl)) ?_; (with_reducible refine (rate_Down.calls k a1 (wrap64 (1 + (Int.tmod (wrap64 ((Int.tmod a2 24) + 24)) 24))) t115 _ A5.out).mono ?_); rintro e w' ⟨rfl, ⟨nd, rfl⟩⟩; refine ⟨_, rfl, ?_⟩) | ((with_reducible refine gate_callee (f := 16) rfl ?_); refine goesL_ (some 26) rfl rfl Try.func16 (by kernel_rfl) rfl #[.int .u64 a0, .int .i64 (wrap64 (1 + (Int.tmod (wrap64 ((Int.tmod a2 24) + 24)) 24)))] rfl (by (try simp only [List.map_toArray, List.map_cons, List.map_nil]); first | done | rfl | (simp only [List.length_drop, List.length_take]; rfl)) ?_; (with_reducible refine (rate_Pack.calls k a0 (wrap64 (1 + (Int.tmod (wrap64 ((Int.tmod a2 24) + 24)) 24))) t116 t117 _ A6.out).mono ?_); rintro e w' ⟨rfl, ⟨nd, rfl⟩⟩; refine ⟨_, rfl, ?_⟩) | (go_at_call 15; (with_reducible refine (rate_Down.calls k t114 (wrap64 (1 + (Int.tmod (wrap64 ((Int.tmod a2 24) + 24)) 24))) t123 _ A38.out).mono ?_); rintro e w' ⟨rfl, ⟨nd, rfl⟩⟩) | (go_at_call 17; (with_reducible refine (rate_Open.calls k t116 t117 (wrap64 (1 + (Int.tmod (wrap64 ((Int.tmod a2 24) + 24)) 24))) t126 _ A54.out).mono ?_); rintro e w' ⟨rfl, ⟨nd, rfl⟩⟩))
                        go_ret
                        exact ⟨by first | rfl | (simp [errW_none, errW_some] <;> rfl) | (simp only [← hji56, ← hji58, ← hji60, ← hji62]; first | rfl | (simp [errW_none, errW_some] <;> rfl)) | (simp [*, errW_none, errW_some] <;> rfl), by repeat (first | (with_reducible first | exact HB.out | apply below_alloc | apply pw_below_drewN | apply below_drew1) | exact HB.out)⟩
                    · rw [if_neg c61] at H
                      exact absurd H (by simp)
                  · rw [if_neg c59] at H
                    have c59b0 : decide ((IntKind.u64.wrap (a0 - t114)) < (ji58)) = false := decide_eq_false c59
                    clear c59
                    obtain rfl := Option.some.inj H
                    go_enter Try.func5, Try.ntmps5
                    go_wp2_with (first | ((with_reducible refine gate_callee (f := 15) rfl ?_); refine goesL_ (some 19) rfl rfl Try.func15 (by kernel_rfl) rfl #[.int .u64 a0, .int .i64 (wrap64 (1 + (Int.tmod (wrap64 ((Int.tmod a2 24) + 24)) 24)))] rfl (by (try simp only [List.map_toArray, List.map_cons, List.map_nil]); first | done | rfl | (simp only [List.length_drop, List.length_take]; rfl)) ?_; (with_reducible refine (rate_Down.calls k a0 (wrap64 (1 + (Int.tmod (wrap64 ((Int.tmod a2 24) + 24)) 24))) t114 _ A4.out).mono ?_); rintro e w' ⟨rfl, ⟨nd, rfl⟩⟩; refine ⟨_, rfl, ?_⟩) | ((with_reducible refine gate_callee (f := 15) rfl ?_); refine goesL_ (some 22) rfl rfl Try.func15 (by kernel_rfl) rfl #[.int .u64 a1, .int .i64 (wrap64 (1 + (Int.tmod (wrap64 ((Int.tmod a2 24) + 24)) 24)))] rfl (by (try simp only [List.map_toArray, List.map_cons, List.map_nil]); first | done | rfl | (simp only [List.length_drop, List.length_take]; rfl)) ?_; (with_reducible refine (rate_Down.calls k a1 (wrap64 (1 + (Int.tmod (wrap64 ((Int.tmod a2 24) + 24)) 24))) t115 _ A5.out).mono ?_); rintro e w' ⟨rfl, ⟨nd, rfl⟩⟩; refine ⟨_, rfl, ?_⟩) | ((with_reducible refine gate_callee (f := 16) rfl ?_); refine goesL_ (some 26) rfl rfl Try.func16 (by kernel_rfl) rfl #[.int .u64 a0, .int .i64 (wrap64 (1 + (Int.tmod (wrap64 ((Int.tmod a2 24) + 24)) 24)))] rfl (by (try simp only [List.map_toArray, List.map_cons, List.map_nil]); first | done | rfl | (simp only [List.length_drop, List.length_take]; rfl)) ?_; (with_reducible refine (rate_Pack.calls k a0 (wrap64 (1 + (Int.tmod (wrap64 ((Int.tmod a2 24) + 24)) 24))) t116 t117 _ A6.out).mono ?_); rintro e w' ⟨rfl, ⟨nd, rfl⟩⟩; refine ⟨_, rfl, ?_⟩) | (go_at_call 15; (with_reducible refine (rate_Down.calls k t114 (wrap64 (1 + (Int.tmod (wrap64 ((Int.tmod a2 24) + 24)) 24))) t123 _ A38.out).mono ?_); rintro e w' ⟨rfl, ⟨nd, rfl⟩⟩) | (go_at_call 17; (with_reducible refine (rate_Open.calls k t116 t117 (wrap64 (1 + (Int.tmod (wrap64 ((Int.tmod a2 24) + 24)) 24))) t126 _ A54.out).mono ?_); rintro e w' ⟨rfl, ⟨nd, rfl⟩⟩))
                    go_ret
                    exact ⟨by first | rfl | (simp [errW_none, errW_some] <;> rfl) | (simp only [← hji56, ← hji58]; first | rfl | (simp [errW_none, errW_some] <;> rfl)) | (simp [*, errW_none, errW_some] <;> rfl), by repeat (first | (with_reducible first | exact HB.out | apply below_alloc | apply pw_below_drewN | apply below_drew1) | exact HB.out)⟩
                · rw [if_neg c57] at H
                  exact absurd H (by simp)
              · rw [if_neg c55] at H
                have c55b0 : (t126 == t114) = false := beq_eq_false_iff_ne.mpr c55
                have c55b1 : (t126 != t114) = true := bne_iff_ne.mpr c55
                obtain rfl := Option.some.inj H
                go_enter Try.func5, Try.ntmps5
                go_wp2_with (first | ((with_reducible refine gate_callee (f := 15) rfl ?_); refine goesL_ (some 19) rfl rfl Try.func15 (by kernel_rfl) rfl #[.int .u64 a0, .int .i64 (wrap64 (1 + (Int.tmod (wrap64 ((Int.tmod a2 24) + 24)) 24)))] rfl (by (try simp only [List.map_toArray, List.map_cons, List.map_nil]); first | done | rfl | (simp only [List.length_drop, List.length_take]; rfl)) ?_; (with_reducible refine (rate_Down.calls k a0 (wrap64 (1 + (Int.tmod (wrap64 ((Int.tmod a2 24) + 24)) 24))) t114 _ A4.out).mono ?_); rintro e w' ⟨rfl, ⟨nd, rfl⟩⟩; refine ⟨_, rfl, ?_⟩) | ((with_reducible refine gate_callee (f := 15) rfl ?_); refine goesL_ (some 22) rfl rfl Try.func15 (by kernel_rfl) rfl #[.int .u64 a1, .int .i64 (wrap64 (1 + (Int.tmod (wrap64 ((Int.tmod a2 24) + 24)) 24)))] rfl (by (try simp only [List.map_toArray, List.map_cons, List.map_nil]); first | done | rfl | (simp only [List.length_drop, List.length_take]; rfl)) ?_; (with_reducible refine (rate_Down.calls k a1 (wrap64 (1 + (Int.tmod (wrap64 ((Int.tmod a2 24) + 24)) 24))) t115 _ A5.out).mono ?_); rintro e w' ⟨rfl, ⟨nd, rfl⟩⟩; refine ⟨_, rfl, ?_⟩) | ((with_reducible refine gate_callee (f := 16) rfl ?_); refine goesL_ (some 26) rfl rfl Try.func16 (by kernel_rfl) rfl #[.int .u64 a0, .int .i64 (wrap64 (1 + (Int.tmod (wrap64 ((Int.tmod a2 24) + 24)) 24)))] rfl (by (try simp only [List.map_toArray, List.map_cons, List.map_nil]); first | done | rfl | (simp only [List.length_drop, List.length_take]; rfl)) ?_; (with_reducible refine (rate_Pack.calls k a0 (wrap64 (1 + (Int.tmod (wrap64 ((Int.tmod a2 24) + 24)) 24))) t116 t117 _ A6.out).mono ?_); rintro e w' ⟨rfl, ⟨nd, rfl⟩⟩; refine ⟨_, rfl, ?_⟩) | (go_at_call 15; (with_reducible refine (rate_Down.calls k t114 (wrap64 (1 + (Int.tmod (wrap64 ((Int.tmod a2 24) + 24)) 24))) t123 _ A38.out).mono ?_); rintro e w' ⟨rfl, ⟨nd, rfl⟩⟩) | (go_at_call 17; (with_reducible refine (rate_Open.calls k t116 t117 (wrap64 (1 + (Int.tmod (wrap64 ((Int.tmod a2 24) + 24)) 24))) t126 _ A54.out).mono ?_); rintro e w' ⟨rfl, ⟨nd, rfl⟩⟩))
                go_ret
                exact ⟨by first | rfl | (simp [errW_none, errW_some] <;> rfl) | (simp [*, errW_none, errW_some] <;> rfl), by repeat (first | (with_reducible first | exact HB.out | apply below_alloc | apply pw_below_drewN | apply below_drew1) | exact HB.out)⟩
            · rw [if_neg c53] at H
              have c53b0 : decide (t114 ≤ t115) = false := decide_eq_false c53
              clear c53
              obtain rfl := Option.some.inj H
              go_enter Try.func5, Try.ntmps5
              go_wp2_with (first | ((with_reducible refine gate_callee (f := 15) rfl ?_); refine goesL_ (some 19) rfl rfl Try.func15 (by kernel_rfl) rfl #[.int .u64 a0, .int .i64 (wrap64 (1 + (Int.tmod (wrap64 ((Int.tmod a2 24) + 24)) 24)))] rfl (by (try simp only [List.map_toArray, List.map_cons, List.map_nil]); first | done | rfl | (simp only [List.length_drop, List.length_take]; rfl)) ?_; (with_reducible refine (rate_Down.calls k a0 (wrap64 (1 + (Int.tmod (wrap64 ((Int.tmod a2 24) + 24)) 24))) t114 _ A4.out).mono ?_); rintro e w' ⟨rfl, ⟨nd, rfl⟩⟩; refine ⟨_, rfl, ?_⟩) | ((with_reducible refine gate_callee (f := 15) rfl ?_); refine goesL_ (some 22) rfl rfl Try.func15 (by kernel_rfl) rfl #[.int .u64 a1, .int .i64 (wrap64 (1 + (Int.tmod (wrap64 ((Int.tmod a2 24) + 24)) 24)))] rfl (by (try simp only [List.map_toArray, List.map_cons, List.map_nil]); first | done | rfl | (simp only [List.length_drop, List.length_take]; rfl)) ?_; (with_reducible refine (rate_Down.calls k a1 (wrap64 (1 + (Int.tmod (wrap64 ((Int.tmod a2 24) + 24)) 24))) t115 _ A5.out).mono ?_); rintro e w' ⟨rfl, ⟨nd, rfl⟩⟩; refine ⟨_, rfl, ?_⟩) | ((with_reducible refine gate_callee (f := 16) rfl ?_); refine goesL_ (some 26) rfl rfl Try.func16 (by kernel_rfl) rfl #[.int .u64 a0, .int .i64 (wrap64 (1 + (Int.tmod (wrap64 ((Int.tmod a2 24) + 24)) 24)))] rfl (by (try simp only [List.map_toArray, List.map_cons, List.map_nil]); first | done | rfl | (simp only [List.length_drop, List.length_take]; rfl)) ?_; (with_reducible refine (rate_Pack.calls k a0 (wrap64 (1 + (Int.tmod (wrap64 ((Int.tmod a2 24) + 24)) 24))) t116 t117 _ A6.out).mono ?_); rintro e w' ⟨rfl, ⟨nd, rfl⟩⟩; refine ⟨_, rfl, ?_⟩) | (go_at_call 15; (with_reducible refine (rate_Down.calls k t114 (wrap64 (1 + (Int.tmod (wrap64 ((Int.tmod a2 24) + 24)) 24))) t123 _ A38.out).mono ?_); rintro e w' ⟨rfl, ⟨nd, rfl⟩⟩))
              go_ret
              exact ⟨by first | rfl | (simp [errW_none, errW_some] <;> rfl) | (simp [*, errW_none, errW_some] <;> rfl), by repeat (first | (with_reducible first | exact HB.out | apply below_alloc | apply pw_below_drewN | apply below_drew1) | exact HB.out)⟩
        · rw [if_neg c39] at H
          have c39b0 : (t123 == t114) = false := beq_eq_false_iff_ne.mpr c39
          have c39b1 : (t123 != t114) = true := bne_iff_ne.mpr c39
          obtain rfl := Option.some.inj H
          go_enter Try.func5, Try.ntmps5
          go_wp2_with (first | ((with_reducible refine gate_callee (f := 15) rfl ?_); refine goesL_ (some 19) rfl rfl Try.func15 (by kernel_rfl) rfl #[.int .u64 a0, .int .i64 (wrap64 (1 + (Int.tmod (wrap64 ((Int.tmod a2 24) + 24)) 24)))] rfl (by (try simp only [List.map_toArray, List.map_cons, List.map_nil]); first | done | rfl | (simp only [List.length_drop, List.length_take]; rfl)) ?_; (with_reducible refine (rate_Down.calls k a0 (wrap64 (1 + (Int.tmod (wrap64 ((Int.tmod a2 24) + 24)) 24))) t114 _ A4.out).mono ?_); rintro e w' ⟨rfl, ⟨nd, rfl⟩⟩; refine ⟨_, rfl, ?_⟩) | ((with_reducible refine gate_callee (f := 15) rfl ?_); refine goesL_ (some 22) rfl rfl Try.func15 (by kernel_rfl) rfl #[.int .u64 a1, .int .i64 (wrap64 (1 + (Int.tmod (wrap64 ((Int.tmod a2 24) + 24)) 24)))] rfl (by (try simp only [List.map_toArray, List.map_cons, List.map_nil]); first | done | rfl | (simp only [List.length_drop, List.length_take]; rfl)) ?_; (with_reducible refine (rate_Down.calls k a1 (wrap64 (1 + (Int.tmod (wrap64 ((Int.tmod a2 24) + 24)) 24))) t115 _ A5.out).mono ?_); rintro e w' ⟨rfl, ⟨nd, rfl⟩⟩; refine ⟨_, rfl, ?_⟩) | ((with_reducible refine gate_callee (f := 16) rfl ?_); refine goesL_ (some 26) rfl rfl Try.func16 (by kernel_rfl) rfl #[.int .u64 a0, .int .i64 (wrap64 (1 + (Int.tmod (wrap64 ((Int.tmod a2 24) + 24)) 24)))] rfl (by (try simp only [List.map_toArray, List.map_cons, List.map_nil]); first | done | rfl | (simp only [List.length_drop, List.length_take]; rfl)) ?_; (with_reducible refine (rate_Pack.calls k a0 (wrap64 (1 + (Int.tmod (wrap64 ((Int.tmod a2 24) + 24)) 24))) t116 t117 _ A6.out).mono ?_); rintro e w' ⟨rfl, ⟨nd, rfl⟩⟩; refine ⟨_, rfl, ?_⟩) | (go_at_call 15; (with_reducible refine (rate_Down.calls k t114 (wrap64 (1 + (Int.tmod (wrap64 ((Int.tmod a2 24) + 24)) 24))) t123 _ A38.out).mono ?_); rintro e w' ⟨rfl, ⟨nd, rfl⟩⟩))
          go_ret
          exact ⟨by first | rfl | (simp [errW_none, errW_some] <;> rfl) | (simp [*, errW_none, errW_some] <;> rfl), by repeat (first | (with_reducible first | exact HB.out | apply below_alloc | apply pw_below_drewN | apply below_drew1) | exact HB.out)⟩
      · rw [if_neg c37] at H
        have c37b0 : decide ((IntKind.u64.wrap (Int.tdiv a0 2)) < t114) = false := decide_eq_false c37
        clear c37
        obtain rfl := Option.some.inj H
        go_enter Try.func5, Try.ntmps5
        go_wp2_with (first | ((with_reducible refine gate_callee (f := 15) rfl ?_); refine goesL_ (some 19) rfl rfl Try.func15 (by kernel_rfl) rfl #[.int .u64 a0, .int .i64 (wrap64 (1 + (Int.tmod (wrap64 ((Int.tmod a2 24) + 24)) 24)))] rfl (by (try simp only [List.map_toArray, List.map_cons, List.map_nil]); first | done | rfl | (simp only [List.length_drop, List.length_take]; rfl)) ?_; (with_reducible refine (rate_Down.calls k a0 (wrap64 (1 + (Int.tmod (wrap64 ((Int.tmod a2 24) + 24)) 24))) t114 _ A4.out).mono ?_); rintro e w' ⟨rfl, ⟨nd, rfl⟩⟩; refine ⟨_, rfl, ?_⟩) | ((with_reducible refine gate_callee (f := 15) rfl ?_); refine goesL_ (some 22) rfl rfl Try.func15 (by kernel_rfl) rfl #[.int .u64 a1, .int .i64 (wrap64 (1 + (Int.tmod (wrap64 ((Int.tmod a2 24) + 24)) 24)))] rfl (by (try simp only [List.map_toArray, List.map_cons, List.map_nil]); first | done | rfl | (simp only [List.length_drop, List.length_take]; rfl)) ?_; (with_reducible refine (rate_Down.calls k a1 (wrap64 (1 + (Int.tmod (wrap64 ((Int.tmod a2 24) + 24)) 24))) t115 _ A5.out).mono ?_); rintro e w' ⟨rfl, ⟨nd, rfl⟩⟩; refine ⟨_, rfl, ?_⟩) | ((with_reducible refine gate_callee (f := 16) rfl ?_); refine goesL_ (some 26) rfl rfl Try.func16 (by kernel_rfl) rfl #[.int .u64 a0, .int .i64 (wrap64 (1 + (Int.tmod (wrap64 ((Int.tmod a2 24) + 24)) 24)))] rfl (by (try simp only [List.map_toArray, List.map_cons, List.map_nil]); first | done | rfl | (simp only [List.length_drop, List.length_take]; rfl)) ?_; (with_reducible refine (rate_Pack.calls k a0 (wrap64 (1 + (Int.tmod (wrap64 ((Int.tmod a2 24) + 24)) 24))) t116 t117 _ A6.out).mono ?_); rintro e w' ⟨rfl, ⟨nd, rfl⟩⟩; refine ⟨_, rfl, ?_⟩))
        go_ret
        exact ⟨by first | rfl | (simp [errW_none, errW_some] <;> rfl) | (simp [*, errW_none, errW_some] <;> rfl), by repeat (first | (with_reducible first | exact HB.out | apply below_alloc | apply pw_below_drewN | apply below_drew1) | exact HB.out)⟩
  · rw [if_neg c7] at H
    have c7b0 : decide (t114 ≤ a0) = false := decide_eq_false c7
    clear c7
    obtain rfl := Option.some.inj H
    go_enter Try.func5, Try.ntmps5
    go_wp2_with (first | ((with_reducible refine gate_callee (f := 15) rfl ?_); refine goesL_ (some 19) rfl rfl Try.func15 (by kernel_rfl) rfl #[.int .u64 a0, .int .i64 (wrap64 (1 + (Int.tmod (wrap64 ((Int.tmod a2 24) + 24)) 24)))] rfl (by (try simp only [List.map_toArray, List.map_cons, List.map_nil]); first | done | rfl | (simp only [List.length_drop, List.length_take]; rfl)) ?_; (with_reducible refine (rate_Down.calls k a0 (wrap64 (1 + (Int.tmod (wrap64 ((Int.tmod a2 24) + 24)) 24))) t114 _ A4.out).mono ?_); rintro e w' ⟨rfl, ⟨nd, rfl⟩⟩; refine ⟨_, rfl, ?_⟩) | ((with_reducible refine gate_callee (f := 15) rfl ?_); refine goesL_ (some 22) rfl rfl Try.func15 (by kernel_rfl) rfl #[.int .u64 a1, .int .i64 (wrap64 (1 + (Int.tmod (wrap64 ((Int.tmod a2 24) + 24)) 24)))] rfl (by (try simp only [List.map_toArray, List.map_cons, List.map_nil]); first | done | rfl | (simp only [List.length_drop, List.length_take]; rfl)) ?_; (with_reducible refine (rate_Down.calls k a1 (wrap64 (1 + (Int.tmod (wrap64 ((Int.tmod a2 24) + 24)) 24))) t115 _ A5.out).mono ?_); rintro e w' ⟨rfl, ⟨nd, rfl⟩⟩; refine ⟨_, rfl, ?_⟩) | ((with_reducible refine gate_callee (f := 16) rfl ?_); refine goesL_ (some 26) rfl rfl Try.func16 (by kernel_rfl) rfl #[.int .u64 a0, .int .i64 (wrap64 (1 + (Int.tmod (wrap64 ((Int.tmod a2 24) + 24)) 24)))] rfl (by (try simp only [List.map_toArray, List.map_cons, List.map_nil]); first | done | rfl | (simp only [List.length_drop, List.length_take]; rfl)) ?_; (with_reducible refine (rate_Pack.calls k a0 (wrap64 (1 + (Int.tmod (wrap64 ((Int.tmod a2 24) + 24)) 24))) t116 t117 _ A6.out).mono ?_); rintro e w' ⟨rfl, ⟨nd, rfl⟩⟩; refine ⟨_, rfl, ?_⟩))
    go_ret
    exact ⟨by first | rfl | (simp [errW_none, errW_some] <;> rfl) | (simp [*, errW_none, errW_some] <;> rfl), by repeat (first | (with_reducible first | exact HB.out | apply below_alloc | apply pw_below_drewN | apply below_drew1) | exact HB.out)⟩

/-- THE ONE PURE STATEMENT of limelightlaw5_RateDown: yours. -/
def limelightlaw5_RateDown.Pure : Prop := ∀ (a0 : Int) (a1 : Int) (a2 : Int), (Lit.int .u64 a0).wf = true → (Lit.int .u64 a1).wf = true → (Lit.int .i64 a2).wf = true → ∃ k, limelightlaw5_RateDown.f k a0 a1 a2 = some true
theorem limelightlaw5_RateDown.walk (P : limelightlaw5_RateDown.Pure) (a0 : Int) (a1 : Int) (a2 : Int) (w : World) (w0 : (Lit.int .u64 a0).wf = true) (w1 : (Lit.int .u64 a1).wf = true) (w2 : (Lit.int .i64 a2).wf = true) :
    Calls Try.prog 5 #[.int .u64 a0, .int .u64 a1, .int .i64 a2] w fun e w' => e = .returned (.bool true) ∧ Below w.heap.size w w' := by
  obtain ⟨k, h⟩ := P a0 a1 a2 w0 w1 w2
  refine (limelightlaw5_RateDown.calls k a0 a1 a2 true w h).mono ?_
  rintro e w' ⟨rfl, hd⟩
  exact ⟨rfl, hd⟩

end Go.Proofs.Ytlceiaanagijjaa.PRateDown
