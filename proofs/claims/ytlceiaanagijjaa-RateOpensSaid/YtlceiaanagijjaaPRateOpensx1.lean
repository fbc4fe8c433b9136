-- PRINTED BY print.sh 35421559b90ae4d0a3588c463048766b98c2df88dd9212a6774a882060cdf62d: not written by this session
import Derived.Test.YtlceiaanagijjaaPRateOpensx0
namespace Go.Proofs.Ytlceiaanagijjaa.PRateOpens
open Go.RowKit Go.Proofs.YtlceiaanagijjaaW.PrintWords Go.Proofs.YtlceiaanagijjaaW.PrintLast Go.Proofs.YtlceiaanagijjaaW.PrintMore
attribute [local go_sem] max2_int min2_int max_two min_two max_three min_three max_four min_four   -- for this text's walks alone
set_option linter.unusedVariables false
set_option linter.unusedSimpArgs false

/-! ### rate_may: function 39 -/
def rate_may.f (a0 : Int) : Option (Bool) := if a0 ≥ 1 then (some (decide (a0 ≤ 24))) else (some false)
set_option maxHeartbeats 8000000 in
set_option maxRecDepth 100000 in
theorem rate_may.calls (a0 : Int) (r : Bool) (w : World) (h : rate_may.f a0 = some r) :
    Calls Try.prog 39 #[.int .i64 a0] w fun e w' => e = .returned (.bool r) ∧ Drawn0 w w' := by
  have H : (if a0 ≥ 1 then (some (decide (a0 ≤ 24))) else (some false)) = some r := h
  clear h
  by_cases c2 : a0 ≥ 1
  · rw [if_pos c2] at H
    have c2b0 : decide (1 ≤ a0) = true := decide_eq_true c2
    clear c2
    obtain rfl := Option.some.inj H
    go_enter Try.func39, Try.ntmps39
    go_wp2
    go_ret
    exact ⟨by first | rfl | (simp; done) | (simp [*]; done), by repeat (first | exact Drawn0.refl _ | apply Drawn0.step)⟩
  · rw [if_neg c2] at H
    have c2b0 : decide (1 ≤ a0) = false := decide_eq_false c2
    clear c2
    obtain rfl := Option.some.inj H
    go_enter Try.func39, Try.ntmps39
    go_wp2
    go_ret
    exact ⟨by first | rfl | (simp; done) | (simp [*]; done), by repeat (first | exact Drawn0.refl _ | apply Drawn0.step)⟩

/-! ### rate_Pack: function 16 -/
def rate_Pack.l0 : Nat → Int → Int → Int → Option (Int × Int)
  | 0, _, _, _ => none
  | k + 1, x0, x1, x6 => if 0 ≤ x1 then (if (shr .u64 x0 x1) > 0 then (rate_Pack.l0 k (x0 / 2) x1 (wrap64 (x6 + 1))) else (some (x6, (x0) % 4294967296))) else (none)
def rate_Pack.f (k : Nat) (a0 : Int) (a1 : Int) : Option (Int × Int) := (rate_may.f a1).bind fun t101 => (if t101 = true then (rate_Pack.l0 k a0 a1 0) else (some (0, 0)))
theorem rate_Pack.mono_l : ∀ k, (∀ y0 y1 y2, LeO (rate_Pack.l0 k y0 y1 y2) (rate_Pack.l0 (k + 1) y0 y1 y2))
  | 0 => fun _ _ _ r h => by simp [rate_Pack.l0] at h
  | k + 1 => by
    have ih0 := rate_Pack.mono_l k
    · intro y0 y1 y2
      unfold rate_Pack.l0
      repeat' first
      | (with_reducible exact ih0 _ _ _)
      | (with_reducible exact LeO.refl _)
      | (with_reducible exact LeO.none _)
      | (with_reducible refine LeO.ite ?_ ?_)
      | (with_reducible refine LeO.bind ?_ (fun _ => ?_))
      | exact ih0 _ _ _
      | exact LeO.none _
      | refine LeO.ite ?_ ?_
      | refine LeO.bind ?_ (fun _ => ?_)
theorem rate_Pack.mono : ∀ a0 a1 k, LeO (rate_Pack.f k a0 a1) (rate_Pack.f (k + 1) a0 a1) := by
  intro a0 a1 k
  have ih0 := rate_Pack.mono_l k
  unfold rate_Pack.f
  repeat' first
      | (with_reducible exact ih0 _ _ _)
      | (with_reducible exact LeO.refl _)
      | (with_reducible exact LeO.none _)
      | (with_reducible refine LeO.ite ?_ ?_)
      | (with_reducible refine LeO.bind ?_ (fun _ => ?_))
      | exact ih0 _ _ _
      | exact LeO.none _
      | refine LeO.ite ?_ ?_
      | refine LeO.bind ?_ (fun _ => ?_)
set_option maxHeartbeats 8000000 in
set_option maxRecDepth 100000 in
theorem rate_Pack.calls (k : Nat) (a0 : Int) (a1 : Int) (r1 : Int) (r2 : Int) (w : World) (h : rate_Pack.f k a0 a1 = some (r1, r2)) :
    Calls Try.prog 16 #[.int .u64 a0, .int .i64 a1] w fun e w' => e = .returned (.tuple #[.int .i64 r1, .int .u32 r2]) ∧ Drawn0 w w' := by
  have H : ((rate_may.f a1).bind fun t101 => (if t101 = true then (rate_Pack.l0 k a0 a1 0) else (some (0, 0)))) = some (r1, r2) := h
  clear h
  replace H := Option.bind_eq_some_iff.mp H
  obtain ⟨t101, A30, H⟩ := H
  replace H : (if t101 = true then (rate_Pack.l0 k a0 a1 0) else (some (0, 0))) = some (r1, r2) := H
  have A3 := Aside0.mk A30
  clear A30
  by_cases c4 : t101 = true
  · subst c4
    have H1 : (rate_Pack.l0 k a0 a1 0) = some (r1, r2) := by rw [if_pos rfl] at H; exact H
    clear H
    have H := H1
    clear H1
    have H' := Aside0.mk H
    clear H
    go_enter Try.func16, Try.ntmps16
    go_wp2_with (first | ((with_reducible refine gate_callee (f := 39) rfl ?_); refine goesL_ (some 8) rfl rfl Try.func39 (by kernel_rfl) rfl #[.int .i64 a1] rfl (by (try simp only [List.map_toArray, List.map_cons, List.map_nil]); first | done | rfl | (simp only [List.length_drop, List.length_take]; rfl)) ?_; (with_reducible refine (rate_may.calls a1 true _ A3.out).mono ?_); rintro e w' ⟨rfl, ⟨nd, rfl⟩⟩; refine ⟨_, rfl, ?_⟩))
    go_loopg [0, 6] k (fun kq v0 v6 w' => ∃ (x0_1 : Int) (x6_1 : Int), v0 = .int .u64 x0_1 ∧ v6 = .int .i64 x6_1 ∧ Aside0 (rate_Pack.l0 kq x0_1 a1 x6_1 = some (r1, r2)) ∧ Aside0 (kq ≤ k) ∧ Drawn0 w w')
    case atStart => exact ⟨(a0), (0), (by first | rfl | (simp; done) | (simp [*]; done)), (by first | rfl | (simp; done) | (simp [*]; done)), H', ⟨Nat.le_refl _⟩, by repeat (first | exact Drawn0.refl _ | apply Drawn0.step)⟩
    case round =>
      clear H'
      try clear c1
      try clear p2
      try clear c3
      try clear c4
      obtain ⟨x0_1, x6_1, rfl, rfl, HA, HK1, ⟨m1, rfl⟩⟩ := hrel
      cases gk with
      | zero => exact absurd HA.out (by simp [rate_Pack.l0])
      | succ k1 =>
        have H := HA.out
        clear HA
        simp only [rate_Pack.l0] at H
        by_cases c5 : 0 ≤ a1
        · rw [if_pos c5] at H
          have c5b0 := eq_true c5
          have c5b1 : decide (0 ≤ a1) = true := decide_eq_true c5
          clear c5
          obtain ⟨ji6, hji6⟩ : ∃ j_ : Int, (shr .u64 x0_1 a1) = j_ := ⟨_, rfl⟩
          replace H : (if (ji6) > 0 then (rate_Pack.l0 k1 (x0_1 / 2) a1 (wrap64 (x6_1 + 1))) else (some (x6_1, (x0_1) % 4294967296))) = some (r1, r2) := by first | (rw [hji6] at H; exact H) | (simp only [hji6] at H ⊢; exact H)
          have hji6_ : (x0_1 / 2 ^ min a1.toNat 64) = ji6 := hji6
          have hji6z : a1 ≤ 64 → (x0_1 / 2 ^ a1.toNat) = ji6 := shr_small hji6
          by_cases c7 : (ji6) > 0
          · rw [if_pos c7] at H
            have c7b0 : decide (0 < (ji6)) = true := decide_eq_true c7
            clear c7
            have H' := Aside0.mk H
            clear H
            go_wp2
            go_roundg k1
            case measure => have := HK1.out; omega
            case rel => exact ⟨(x0_1 / 2), (wrap64 (x6_1 + 1)), (by first | rfl | (simp; done) | (simp [*]; done)), (by first | rfl | (simp; done) | (simp [*]; done)), H', ⟨by have := HK1.out; omega⟩, by repeat (first | exact Drawn0.refl _ | apply Drawn0.step)⟩
          · rw [if_neg c7] at H
            have c7b0 : decide (0 < (ji6)) = false := decide_eq_false c7
            clear c7
            simp only [Option.some.injEq, Prod.mk.injEq] at H
            obtain ⟨rfl, rfl⟩ := H
            go_wp2
            go_ret2
            exact ⟨by first | rfl | (simp; done) | (simp only [← hji6] <;> (first | rfl | simp)) | (simp [*]; done), by repeat (first | exact Drawn0.refl _ | apply Drawn0.step)⟩
        · rw [if_neg c5] at H
          exact absurd H (by simp)
  · replace c4 := Bool.eq_false_iff.mpr c4
    subst c4
    have H1 : (some (0, 0)) = some (r1, r2) := by rw [if_neg (show ¬ (false = true) by decide)] at H; exact H
    clear H
    have H := H1
    clear H1
    simp only [Option.some.injEq, Prod.mk.injEq] at H
    obtain ⟨rfl, rfl⟩ := H
    go_enter Try.func16, Try.ntmps16
    go_wp2_with (first | ((with_reducible refine gate_callee (f := 39) rfl ?_); refine goesL_ (some 8) rfl rfl Try.func39 (by kernel_rfl) rfl #[.int .i64 a1] rfl (by (try simp only [List.map_toArray, List.map_cons, List.map_nil]); first | done | rfl | (simp only [List.length_drop, List.length_take]; rfl)) ?_; (with_reducible refine (rate_may.calls a1 false _ A3.out).mono ?_); rintro e w' ⟨rfl, ⟨nd, rfl⟩⟩; refine ⟨_, rfl, ?_⟩))
    go_ret2
    exact ⟨by first | rfl | (simp; done) | (simp [*]; done), by repeat (first | exact Drawn0.refl _ | apply Drawn0.step)⟩

/-! ### rate_Open: function 17 -/
def rate_Open.j0 : Nat → Int → Int → Bool → Option (Int)
  | 0, _, _, _ => none
  | k + 1, x0, x1, x24 => if x24 = true then (some 0) else (if 0 ≤ x0 then (if (shr .u64 (shl .u64 (IntKind.u64.wrap (x1)) x0) x0) = (IntKind.u64.wrap (x1)) then (some (shl .u64 (IntKind.u64.wrap (x1)) x0)) else (some 18446744073709551615)) else (none))
def rate_Open.f (k : Nat) (a0 : Int) (a1 : Int) (a2 : Int) : Option (Int) := (rate_may.f a2).bind fun t102 => (if t102 = true then (if a0 < 0 then (rate_Open.j0 k a0 a1 true) else (if a0 > 63 then (rate_Open.j0 k a0 a1 true) else (if 0 ≤ a2 then (rate_Open.j0 k a0 a1 (decide ((shr .u32 a1 a2) > 0))) else (none)))) else (rate_Open.j0 k a0 a1 true))
theorem rate_Open.mono_l : ∀ k, (∀ y0 y1 y2, LeO (rate_Open.j0 k y0 y1 y2) (rate_Open.j0 (k + 1) y0 y1 y2))
  | 0 => fun _ _ _ r h => by simp [rate_Open.j0] at h
  | k + 1 => by
    have ih0 := rate_Open.mono_l k
    · intro y0 y1 y2
      unfold rate_Open.j0
      repeat' first
      | (with_reducible exact ih0 _ _ _)
      | (with_reducible exact LeO.refl _)
      | (with_reducible exact LeO.none _)
      | (with_reducible refine LeO.ite ?_ ?_)
      | (with_reducible refine LeO.bind ?_ (fun _ => ?_))
      | exact ih0 _ _ _
      | exact LeO.none _
      | refine LeO.ite ?_ ?_
      | refine LeO.bind ?_ (fun _ => ?_)
theorem rate_Open.mono : ∀ a0 a1 a2 k, LeO (rate_Open.f k a0 a1 a2) (rate_Open.f (k + 1) a0 a1 a2) := by
  intro a0 a1 a2 k
  have ih0 := rate_Open.mono_l k
  unfold rate_Open.f
  repeat' first
      | (with_reducible exact ih0 _ _ _)
      | (with_reducible exact LeO.refl _)
      | (with_reducible exact LeO.none _)
      | (with_reducible refine LeO.ite ?_ ?_)
      | (with_reducible refine LeO.bind ?_ (fun _ => ?_))
      | exact ih0 _ _ _
      | exact LeO.none _
      | refine LeO.ite ?_ ?_
      | refine LeO.bind ?_ (fun _ => ?_)
set_option maxHeartbeats 8000000 in
set_option maxRecDepth 100000 in
theorem rate_Open.calls (k : Nat) (a0 : Int) (a1 : Int) (a2 : Int) (r : Int) (w : World) (h : rate_Open.f k a0 a1 a2 = some r) :
    Calls Try.prog 17 #[.int .i64 a0, .int .u32 a1, .int .i64 a2] w fun e w' => e = .returned (.int .u64 r) ∧ Drawn0 w w' := by
  have H : ((rate_may.f a2).bind fun t102 => (if t102 = true then (if a0 < 0 then (rate_Open.j0 k a0 a1 true) else (if a0 > 63 then (rate_Open.j0 k a0 a1 true) else (if 0 ≤ a2 then (rate_Open.j0 k a0 a1 (decide ((shr .u32 a1 a2) > 0))) else (none)))) else (rate_Open.j0 k a0 a1 true))) = some r := h
  clear h
  have HC4 := Aside0.mk H
  clear H
  go_enter Try.func17, Try.ntmps17
  go_upto_region 1 with (fail)
  go_cut [24] (fun v24 wc => ∃ (kq : Nat) (x24_3 : Bool), v24 = .bool x24_3 ∧ Aside0 (rate_Open.j0 kq a0 a1 x24_3 = some r) ∧ Aside0 (kq ≤ k) ∧ Drawn0 w wc)
  case first =>
    have H := HC4.out
    clear HC4
    replace H := Option.bind_eq_some_iff.mp H
    obtain ⟨t102, A50, H⟩ := H
    replace H : (if t102 = true then (if a0 < 0 then (rate_Open.j0 k a0 a1 true) else (if a0 > 63 then (rate_Open.j0 k a0 a1 true) else (if 0 ≤ a2 then (rate_Open.j0 k a0 a1 (decide ((shr .u32 a1 a2) > 0))) else (none)))) else (rate_Open.j0 k a0 a1 true)) = some r := H
    have A5 := Aside0.mk A50
    clear A50
    by_cases c6 : t102 = true
    · subst c6
      have H1 : (if a0 < 0 then (rate_Open.j0 k a0 a1 true) else (if a0 > 63 then (rate_Open.j0 k a0 a1 true) else (if 0 ≤ a2 then (rate_Open.j0 k a0 a1 (decide ((shr .u32 a1 a2) > 0))) else (none)))) = some r := by rw [if_pos rfl] at H; exact H
      clear H
      have H := H1
      clear H1
      by_cases c7 : a0 < 0
      · rw [if_pos c7] at H
        have c7b0 : decide (a0 < 0) = true := decide_eq_true c7
        clear c7
        (first | rw [c7b0] | (simp only [i64_w, i32_w]; rw [c7b0]) | skip)
        have H' := Aside0.mk H
        clear H
        go_wp2_with (first | ((with_reducible refine gate_callee (f := 39) rfl ?_); refine goesL_ (some 9) rfl rfl Try.func39 (by kernel_rfl) rfl #[.int .i64 a2] rfl (by (try simp only [List.map_toArray, List.map_cons, List.map_nil]); first | done | rfl | (simp only [List.length_drop, List.length_take]; rfl)) ?_; (with_reducible refine (rate_may.calls a2 true _ A5.out).mono ?_); rintro e w' ⟨rfl, ⟨nd, rfl⟩⟩; refine ⟨_, rfl, ?_⟩))
        go_meet
        case rel => exact ⟨_, (true), (by first | rfl | (simp; done) | (simp [*]; done)), H', ⟨by first | omega | exact Nat.le_refl _⟩, by repeat (first | exact Drawn0.refl _ | apply Drawn0.step)⟩
      · rw [if_neg c7] at H
        have c7b0 : decide (a0 < 0) = false := decide_eq_false c7
        clear c7
        (first | rw [c7b0] | (simp only [i64_w, i32_w]; rw [c7b0]) | skip)
        by_cases c8 : a0 > 63
        · rw [if_pos c8] at H
          have c8b0 : decide (63 < a0) = true := decide_eq_true c8
          clear c8
          have H' := Aside0.mk H
          clear H
          go_wp2_with (first | ((with_reducible refine gate_callee (f := 39) rfl ?_); refine goesL_ (some 9) rfl rfl Try.func39 (by kernel_rfl) rfl #[.int .i64 a2] rfl (by (try simp only [List.map_toArray, List.map_cons, List.map_nil]); first | done | rfl | (simp only [List.length_drop, List.length_take]; rfl)) ?_; (with_reducible refine (rate_may.calls a2 true _ A5.out).mono ?_); rintro e w' ⟨rfl, ⟨nd, rfl⟩⟩; refine ⟨_, rfl, ?_⟩))
          go_meet
          case rel => exact ⟨_, (true), (by first | rfl | (simp; done) | (simp [*]; done)), H', ⟨by first | omega | exact Nat.le_refl _⟩, by repeat (first | exact Drawn0.refl _ | apply Drawn0.step)⟩
        · rw [if_neg c8] at H
          have c8b0 : decide (63 < a0) = false := decide_eq_false c8
          clear c8
          by_cases c9 : 0 ≤ a2
          · rw [if_pos c9] at H
            have c9b0 := eq_true c9
            have c9b1 : decide (0 ≤ a2) = true := decide_eq_true c9
            clear c9
            obtain ⟨ji10, hji10⟩ : ∃ j_ : Int, (shr .u32 a1 a2) = j_ := ⟨_, rfl⟩
            replace H : (rate_Open.j0 k a0 a1 (decide ((ji10) > 0))) = some r := by first | (rw [hji10] at H; exact H) | (simp only [hji10] at H ⊢; exact H)
            (try rw [hji10] at A5)
            have hji10_ : (a1 / 2 ^ min a2.toNat 32) = ji10 := hji10
            have hji10z : a2 ≤ 32 → (a1 / 2 ^ a2.toNat) = ji10 := shr_small hji10
            have H' := Aside0.mk H
            clear H
            go_wp2_with (first | ((with_reducible refine gate_callee (f := 39) rfl ?_); refine goesL_ (some 9) rfl rfl Try.func39 (by kernel_rfl) rfl #[.int .i64 a2] rfl (by (try simp only [List.map_toArray, List.map_cons, List.map_nil]); first | done | rfl | (simp only [List.length_drop, List.length_take]; rfl)) ?_; (with_reducible refine (rate_may.calls a2 true _ A5.out).mono ?_); rintro e w' ⟨rfl, ⟨nd, rfl⟩⟩; refine ⟨_, rfl, ?_⟩))
            go_meet
            case rel => exact ⟨_, (decide ((ji10) > 0)), (by first | rfl | (simp; done) | (simp only [← hji10] <;> (first | rfl | simp)) | (simp [*]; done)), H', ⟨by first | omega | exact Nat.le_refl _⟩, by repeat (first | exact Drawn0.refl _ | apply Drawn0.step)⟩
          · rw [if_neg c9] at H
            exact absurd H (by simp)
    · replace c6 := Bool.eq_false_iff.mpr c6
      subst c6
      have H1 : (rate_Open.j0 k a0 a1 true) = some r := by rw [if_neg (show ¬ (false = true) by decide)] at H; exact H
      clear H
      have H := H1
      clear H1
      have H' := Aside0.mk H
      clear H
      go_wp2_with (first | ((with_reducible refine gate_callee (f := 39) rfl ?_); refine goesL_ (some 9) rfl rfl Try.func39 (by kernel_rfl) rfl #[.int .i64 a2] rfl (by (try simp only [List.map_toArray, List.map_cons, List.map_nil]); first | done | rfl | (simp only [List.length_drop, List.length_take]; rfl)) ?_; (with_reducible refine (rate_may.calls a2 false _ A5.out).mono ?_); rintro e w' ⟨rfl, ⟨nd, rfl⟩⟩; refine ⟨_, rfl, ?_⟩))
      go_meet
      case rel => exact ⟨_, (true), (by first | rfl | (simp; done) | (simp [*]; done)), H', ⟨by first | omega | exact Nat.le_refl _⟩, by repeat (first | exact Drawn0.refl _ | apply Drawn0.step)⟩
  case rest =>
    clear HC4
    try clear c1
    try clear p2
    try clear c3
    try clear c6
    try clear c7
    try clear c7b0
    try clear c8
    try clear c8b0
    try clear c9
    try clear c9b0
    try clear c9b1
    obtain ⟨kq, x24_3, rfl, HA, HJ3, ⟨mc3, rfl⟩⟩ := hcut
    cases kq with
    | zero => exact absurd HA.out (by simp [rate_Open.j0])
    | succ kj3 =>
      have H := HA.out
      clear HA
      simp only [rate_Open.j0] at H
      by_cases c11 : x24_3 = true
      · subst c11
        have H1 : (some 0) = some r := by rw [if_pos rfl] at H; exact H
        clear H
        have H := H1
        clear H1
        obtain rfl := Option.some.inj H
        go_wp2
        go_ret
        exact ⟨by first | rfl | (simp; done) | (simp [*]; done), by repeat (first | exact Drawn0.refl _ | apply Drawn0.step)⟩
      · replace c11 := Bool.eq_false_iff.mpr c11
        subst c11
        have H1 : (if 0 ≤ a0 then (if (shr .u64 (shl .u64 (IntKind.u64.wrap (a1)) a0) a0) = (IntKind.u64.wrap (a1)) then (some (shl .u64 (IntKind.u64.wrap (a1)) a0)) else (some 18446744073709551615)) else (none)) = some r := by rw [if_neg (show ¬ (false = true) by decide)] at H; exact H
        clear H
        have H := H1
        clear H1
        by_cases c12 : 0 ≤ a0
        · rw [if_pos c12] at H
          have c12b0 := eq_true c12
          have c12b1 : decide (0 ≤ a0) = true := decide_eq_true c12
          clear c12
          obtain ⟨ji13, hji13⟩ : ∃ j_ : Int, (shl .u64 (IntKind.u64.wrap (a1)) a0) = j_ := ⟨_, rfl⟩
          replace H : (if (shr .u64 (ji13) a0) = (IntKind.u64.wrap (a1)) then (some ji13) else (some 18446744073709551615)) = some r := by first | (rw [hji13] at H; exact H) | (simp only [hji13] at H ⊢; exact H)
          have hji13_ : (IntKind.u64.wrap ((IntKind.u64.wrap (a1)) * 2 ^ min a0.toNat 64)) = ji13 := hji13
          have hji13z : a0 ≤ 64 → (IntKind.u64.wrap ((IntKind.u64.wrap (a1)) * 2 ^ a0.toNat)) = ji13 := shl_small hji13
          have c14b0 := eq_true (of_decide_eq_true (by first | (with_reducible assumption) | assumption) : 0 ≤ a0)
          obtain ⟨ji15, hji15⟩ : ∃ j_ : Int, (shr .u64 (ji13) a0) = j_ := ⟨_, rfl⟩
          replace H : (if (ji15) = (IntKind.u64.wrap (a1)) then (some ji13) else (some 18446744073709551615)) = some r := by first | (rw [hji15] at H; exact H) | (simp only [hji15] at H ⊢; exact H)
          have hji15_ : ((ji13) / 2 ^ min a0.toNat 64) = ji15 := hji15
          have hji15z : a0 ≤ 64 → ((ji13) / 2 ^ a0.toNat) = ji15 := shr_small hji15
          by_cases c16 : (ji15) = (IntKind.u64.wrap (a1))
          · rw [if_pos c16] at H
            have c16b0 : ((ji15) == (IntKind.u64.wrap (a1))) = true := beq_iff_eq.mpr c16
            have c16b1 : ((ji15) != (IntKind.u64.wrap (a1))) = false := bne_eq_false_iff_eq.mpr c16
            clear c16
            obtain rfl := Option.some.inj H
            go_wp2
            go_ret
            exact ⟨by first | rfl | (simp; done) | (simp only [← hji13, ← hji15] <;> (first | rfl | simp)) | (simp [*]; done), by repeat (first | exact Drawn0.refl _ | apply Drawn0.step)⟩
          · rw [if_neg c16] at H
            have c16b0 : ((ji15) == (IntKind.u64.wrap (a1))) = false := beq_eq_false_iff_ne.mpr c16
            have c16b1 : ((ji15) != (IntKind.u64.wrap (a1))) = true := bne_iff_ne.mpr c16
            obtain rfl := Option.some.inj H
            go_wp2
            go_ret
            exact ⟨by first | rfl | (simp; done) | (simp only [← hji13, ← hji15] <;> (first | rfl | simp)) | (simp [*]; done), by repeat (first | exact Drawn0.refl _ | apply Drawn0.step)⟩
        · rw [if_neg c12] at H
          exact absurd H (by simp)

/-! ### rate_Down: function 15 -/
def rate_Down.f (k : Nat) (a0 : Int) (a1 : Int) : Option (Int) := (rate_Pack.f k a0 a1).bind fun bt103 => ((rate_Open.f k bt103.1 bt103.2 a1).bind fun t105 => (some t105))
theorem rate_Down.mono : ∀ a0 a1 k, LeO (rate_Down.f k a0 a1) (rate_Down.f (k + 1) a0 a1) := by
  intro a0 a1 k
  unfold rate_Down.f
  repeat' first
      | (with_reducible exact rate_Open.mono _ _ _ _)
      | (with_reducible exact rate_Pack.mono _ _ _)
      | (with_reducible exact LeO.refl _)
      | (with_reducible exact LeO.none _)
      | (with_reducible refine LeO.ite ?_ ?_)
      | (with_reducible refine LeO.bind ?_ (fun _ => ?_))
      | exact rate_Open.mono _ _ _ _
      | exact rate_Pack.mono _ _ _
      | exact LeO.none _
      | refine LeO.ite ?_ ?_
      | refine LeO.bind ?_ (fun _ => ?_)
set_option maxHeartbeats 8000000 in
set_option maxRecDepth 100000 in
theorem rate_Down.calls (k : Nat) (a0 : Int) (a1 : Int) (r : Int) (w : World) (h : rate_Down.f k a0 a1 = some r) :
    Calls Try.prog 15 #[.int .u64 a0, .int .i64 a1] w fun e w' => e = .returned (.int .u64 r) ∧ Drawn0 w w' := by
  have H : ((rate_Pack.f k a0 a1).bind fun bt103 => ((rate_Open.f k bt103.1 bt103.2 a1).bind fun t105 => (some t105))) = some r := h
  clear h
  replace H := Option.bind_eq_some_iff.mp H
  obtain ⟨⟨t103, t104⟩, A30, H⟩ := H
  replace H : ((rate_Open.f k t103 t104 a1).bind fun t105 => (some t105)) = some r := H
  have A3 := Aside0.mk A30
  clear A30
  replace H := Option.bind_eq_some_iff.mp H
  obtain ⟨t105, A40, H⟩ := H
  replace H : (some t105) = some r := H
  have A4 := Aside0.mk A40
  clear A40
  obtain rfl := Option.some.inj H
  go_enter Try.func15, Try.ntmps15
  go_wp2_with (first | ((with_reducible refine gate_callee (f := 16) rfl ?_); refine goesL_ (some 10) rfl rfl Try.func16 (by kernel_rfl) rfl #[.int .u64 a0, .int .i64 a1] rfl (by (try simp only [List.map_toArray, List.map_cons, List.map_nil]); first | done | rfl | (simp only [List.length_drop, List.length_take]; rfl)) ?_; (with_reducible refine (rate_Pack.calls k a0 a1 t103 t104 _ A3.out).mono ?_); rintro e w' ⟨rfl, ⟨nd, rfl⟩⟩; refine ⟨_, rfl, ?_⟩) | ((with_reducible refine gate_callee (f := 17) rfl ?_); refine goesL_ (some 16) rfl rfl Try.func17 (by kernel_rfl) rfl #[.int .i64 t103, .int .u32 t104, .int .i64 a1] rfl (by (try simp only [List.map_toArray, List.map_cons, List.map_nil]); first | done | rfl | (simp only [List.length_drop, List.length_take]; rfl)) ?_; (with_reducible refine (rate_Open.calls k t103 t104 a1 t105 _ A4.out).mono ?_); rintro e w' ⟨rfl, ⟨nd, rfl⟩⟩; refine ⟨_, rfl, ?_⟩))
  go_ret
  exact ⟨by first | rfl | (simp; done) | (simp [*]; done), by repeat (first | exact Drawn0.refl _ | apply Drawn0.step)⟩

/-! ### rate_Bytes: function 18 -/
def rate_Bytes.f (a0 : Int) : Option (Int) := some (wrap64 (mn (IntKind.u64.wrap (Int.tdiv a0 8)) 1099511627776))
set_option maxHeartbeats 8000000 in
set_option maxRecDepth 100000 in
theorem rate_Bytes.calls (a0 : Int) (r : Int) (w : World) (h : rate_Bytes.f a0 = some r) :
    Calls Try.prog 18 #[.int .u64 a0] w fun e w' => e = .returned (.int .i64 r) ∧ Below w.heap.size w w' := by
  have HB := Aside0.mk (Below.refl w.heap.size w)
  have H : (some (wrap64 (mn (IntKind.u64.wrap (Int.tdiv a0 8)) 1099511627776))) = some r := h
  clear h
  obtain ⟨ji2, hji2⟩ : ∃ j_ : Int, (mn (IntKind.u64.wrap (Int.tdiv a0 8)) 1099511627776) = j_ := ⟨_, rfl⟩
  replace H : (some (wrap64 (ji2))) = some r := by first | (rw [hji2] at H; exact H) | (simp only [hji2] at H ⊢; exact H)
  (try (have hji2h : ji2 ≤ 1099511627776 := by (rw [← hji2]; unfold mn; (repeat' split) <;> omega)))
  (try (have hji2g : ji2 ≤ 64 := by omega))
  have hji2_ : (if 1099511627776 < (IntKind.u64.wrap (Int.tdiv a0 8)) then 1099511627776 else (IntKind.u64.wrap (Int.tdiv a0 8))) = ji2 := hji2
  obtain rfl := Option.some.inj H
  go_enter Try.func18, Try.ntmps18
  go_wp2
  go_ret
  exact ⟨by first | rfl | (simp [errW_none, errW_some] <;> rfl) | (simp only [← hji2]; first | rfl | (simp [errW_none, errW_some] <;> rfl)) | (simp [*, errW_none, errW_some] <;> rfl), by repeat (first | (with_reducible first | exact HB.out | apply below_alloc | apply pw_below_drewN | apply below_drew1) | exact HB.out)⟩

/-! ### limelightlaw5_known: function 14 -/
def limelightlaw5_known.f (k : Nat)  : Option (Bool) := (rate_Pack.f k 262144 18).bind fun bt106 => (if bt106.1 = 1 then (if bt106.2 = 131072 then ((rate_Open.f k 64 1 18).bind fun t108 => (if t108 = 0 then ((rate_Down.f k 5 2).bind fun t109 => (if t109 = 4 then ((rate_Bytes.f 17).bind fun t110 => (if t110 = 2 then ((rate_Bytes.f 9223372036854775808).bind fun t111 => (if t111 = 1099511627776 then ((rate_Open.f k 63 2 18).bind fun t112 => (if t112 = 18446744073709551615 then ((rate_Open.f k 2 3 2).bind fun t113 => (some (t113 == 12))) else (some false))) else (some false))) else (some false))) else (some false))) else (some false))) else (some false)) else (some false))
theorem limelightlaw5_known.mono : ∀ k, LeO (limelightlaw5_known.f k ) (limelightlaw5_known.f (k + 1) ) := by
  intro  k
  unfold limelightlaw5_known.f
  repeat' first
      | (with_reducible exact rate_Down.mono _ _ _)
      | (with_reducible exact rate_Open.mono _ _ _ _)
      | (with_reducible exact rate_Pack.mono _ _ _)
      | (with_reducible exact LeO.refl _)
      | (with_reducible exact LeO.none _)
      | (with_reducible refine LeO.ite ?_ ?_)
      | (with_reducible refine LeO.bind ?_ (fun _ => ?_))
      | exact rate_Down.mono _ _ _
      | exact rate_Open.mono _ _ _ _
      | exact rate_Pack.mono _ _ _
      | exact LeO.none _
      | refine LeO.ite ?_ ?_
      | refine LeO.bind ?_ (fun _ => ?_)
set_option maxHeartbeats 8000000 in
set_option maxRecDepth 100000 in
theorem limelightlaw5_known.calls (k : Nat)  (r : Bool) (w : World) (h : limelightlaw5_known.f k  = some r) :
    Calls Try.prog 14 #[] w fun e w' => e = .returned (.bool r) ∧ Below w.heap.size w w' := by
  have HB := Aside0.mk (Below.refl w.heap.size w)
  have H : ((rate_Pack.f k 262144 18).bind fun bt106 => (if bt106.1 = 1 then (if bt106.2 = 131072 then ((rate_Open.f k 64 1 18).bind fun t108 => (if t108 = 0 then ((rate_Down.f k 5 2).bind fun t109 => (if t109 = 4 then ((rate_Bytes.f 17).bind fun t110 => (if t110 = 2 then ((rate_Bytes.f 9223372036854775808).bind fun t111 => (if t111 = 1099511627776 then ((rate_Open.f k 63 2 18).bind fun t112 => (if t112 = 18446744073709551615 then ((rate_Open.f k 2 3 2).bind fun t113 => (some (t113 == 12))) else (some false))) else (some false))) else (some false))) else (some false))) else (some false))) else (some false)) else (some false))) = some r := h
  clear h
  replace H := Option.bind_eq_some_iff.mp H
  obtain ⟨⟨t106, t107⟩, A10, H⟩ := H
  replace H : (if t106 = 1 then (if t107 = 131072 then ((rate_Open.f k 64 1 18).bind fun t108 => (if t108 = 0 then ((rate_Down.f k 5 2).bind fun t109 => (if t109 = 4 then ((rate_Bytes.f 17).bind fun t110 => (if t110 = 2 then ((rate_Bytes.f 9223372036854775808).bind fun t111 => (if t111 = 1099511627776 then ((rate_Open.f k 63 2 18).bind fun t112 => (if t112 = 18446744073709551615 then ((rate_Open.f k 2 3 2).bind fun t113 => (some (t113 == 12))) else (some false))) else (some false))) else (some false))) else (some false))) else (some false))) else (some false)) else (some false)) = some r := H
  have A1 := Aside0.mk A10
  clear A10
  by_cases c2 : t106 = 1
  · rw [if_pos c2] at H
    have c2b0 : (t106 == 1) = true := beq_iff_eq.mpr c2
    have c2b1 : (t106 != 1) = false := bne_eq_false_iff_eq.mpr c2
    clear c2
    by_cases c3 : t107 = 131072
    · rw [if_pos c3] at H
      have c3b0 : (t107 == 131072) = true := beq_iff_eq.mpr c3
      have c3b1 : (t107 != 131072) = false := bne_eq_false_iff_eq.mpr c3
      clear c3
      replace H := Option.bind_eq_some_iff.mp H
      obtain ⟨t108, A40, H⟩ := H
      replace H : (if t108 = 0 then ((rate_Down.f k 5 2).bind fun t109 => (if t109 = 4 then ((rate_Bytes.f 17).bind fun t110 => (if t110 = 2 then ((rate_Bytes.f 9223372036854775808).bind fun t111 => (if t111 = 1099511627776 then ((rate_Open.f k 63 2 18).bind fun t112 => (if t112 = 18446744073709551615 then ((rate_Open.f k 2 3 2).bind fun t113 => (some (t113 == 12))) else (some false))) else (some false))) else (some false))) else (some false))) else (some false)) = some r := H
      have A4 := Aside0.mk A40
      clear A40
      by_cases c5 : t108 = 0
      · rw [if_pos c5] at H
        have c5b0 : (t108 == 0) = true := beq_iff_eq.mpr c5
        have c5b1 : (t108 != 0) = false := bne_eq_false_iff_eq.mpr c5
        clear c5
        replace H := Option.bind_eq_some_iff.mp H
        obtain ⟨t109, A60, H⟩ := H
        replace H : (if t109 = 4 then ((rate_Bytes.f 17).bind fun t110 => (if t110 = 2 then ((rate_Bytes.f 9223372036854775808).bind fun t111 => (if t111 = 1099511627776 then ((rate_Open.f k 63 2 18).bind fun t112 => (if t112 = 18446744073709551615 then ((rate_Open.f k 2 3 2).bind fun t113 => (some (t113 == 12))) else (some false))) else (some false))) else (some false))) else (some false)) = some r := H
        have A6 := Aside0.mk A60
        clear A60
        by_cases c7 : t109 = 4
        · rw [if_pos c7] at H
          have c7b0 : (t109 == 4) = true := beq_iff_eq.mpr c7
          have c7b1 : (t109 != 4) = false := bne_eq_false_iff_eq.mpr c7
          clear c7
          replace H := Option.bind_eq_some_iff.mp H
          obtain ⟨t110, A80, H⟩ := H
          replace H : (if t110 = 2 then ((rate_Bytes.f 9223372036854775808).bind fun t111 => (if t111 = 1099511627776 then ((rate_Open.f k 63 2 18).bind fun t112 => (if t112 = 18446744073709551615 then ((rate_Open.f k 2 3 2).bind fun t113 => (some (t113 == 12))) else (some false))) else (some false))) else (some false)) = some r := H
          have A8 := Aside0.mk A80
          clear A80
          by_cases c9 : t110 = 2
          · rw [if_pos c9] at H
            have c9b0 : (t110 == 2) = true := beq_iff_eq.mpr c9
            have c9b1 : (t110 != 2) = false := bne_eq_false_iff_eq.mpr c9
            clear c9
            replace H := Option.bind_eq_some_iff.mp H
            obtain ⟨t111, A100, H⟩ := H
            replace H : (if t111 = 1099511627776 then ((rate_Open.f k 63 2 18).bind fun t112 => (if t112 = 18446744073709551615 then ((rate_Open.f k 2 3 2).bind fun t113 => (some (t113 == 12))) else (some false))) else (some false)) = some r := H
            have A10 := Aside0.mk A100
            clear A100
            by_cases c11 : t111 = 1099511627776
            · rw [if_pos c11] at H
              have c11b0 : (t111 == 1099511627776) = true := beq_iff_eq.mpr c11
              have c11b1 : (t111 != 1099511627776) = false := bne_eq_false_iff_eq.mpr c11
              clear c11
              replace H := Option.bind_eq_some_iff.mp H
              obtain ⟨t112, A120, H⟩ := H
              replace H : (if t112 = 18446744073709551615 then ((rate_Open.f k 2 3 2).bind fun t113 => (some (t113 == 12))) else (some false)) = some r := H
              have A12 := Aside0.mk A120
              clear A120
              by_cases c13 : t112 = 18446744073709551615
              · rw [if_pos c13] at H
                have c13b0 : (t112 == 18446744073709551615) = true := beq_iff_eq.mpr c13
                have c13b1 : (t112 != 18446744073709551615) = false := bne_eq_false_iff_eq.mpr c13
                clear c13
                replace H := Option.bind_eq_some_iff.mp H
                obtain ⟨t113, A140, H⟩ := H
                replace H : (some (t113 == 12)) = some r := H
                have A14 := Aside0.mk A140
                clear A140
                obtain rfl := Option.some.inj H
                go_enter Try.func14, Try.ntmps14
                go_wp2_with (first | ((with_reducible refine gate_callee (f := 16) rfl ?_); refine goesL_ (some 4) rfl rfl Try.func16 (by kernel_rfl) rfl #[.int .u64 262144, .int .i64 18] rfl (by (try simp only [List.map_toArray, List.map_cons, List.map_nil]); first | done | rfl | (simp only [List.length_drop, List.length_take]; rfl)) ?_; (with_reducible refine (rate_Pack.calls k 262144 18 t106 t107 _ A1.out).mono ?_); rintro e w' ⟨rfl, ⟨nd, rfl⟩⟩; refine ⟨_, rfl, ?_⟩) | (go_at_call 17; (with_reducible refine (rate_Open.calls k 64 1 18 t108 _ A4.out).mono ?_); rintro e w' ⟨rfl, ⟨nd, rfl⟩⟩) | (go_at_call 15; (with_reducible refine (rate_Down.calls k 5 2 t109 _ A6.out).mono ?_); rintro e w' ⟨rfl, ⟨nd, rfl⟩⟩) | (go_at_call 18; (with_reducible refine (rate_Bytes.calls 17 t110 _ A8.out).mono ?_); rintro e w15 ⟨rfl, hb⟩; have n0_ := Aside0.mk (below_step (by repeat (first | (with_reducible first | exact HB.out | apply below_alloc | apply pw_below_drewN | apply below_drew1) | exact HB.out)) hb); clear HB; have HB := n0_; clear n0_; (try clear hb); (try clear hb2); (try clear hk); (try clear hi)) | (go_at_call 18; (with_reducible refine (rate_Bytes.calls 9223372036854775808 t111 _ A10.out).mono ?_); rintro e w16 ⟨rfl, hb⟩; have n0_ := Aside0.mk (below_step (by repeat (first | (with_reducible first | exact HB.out | apply below_alloc | apply pw_below_drewN | apply below_drew1) | exact HB.out)) hb); clear HB; have HB := n0_; clear n0_; (try clear hb); (try clear hb2); (try clear hk); (try clear hi)) | (go_at_call 17; (with_reducible refine (rate_Open.calls k 63 2 18 t112 _ A12.out).mono ?_); rintro e w' ⟨rfl, ⟨nd, rfl⟩⟩) | (go_at_call 17; (with_reducible refine (rate_Open.calls k 2 3 2 t113 _ A14.out).mono ?_); rintro e w' ⟨rfl, ⟨nd, rfl⟩⟩))
                go_ret
                exact ⟨by first | rfl | (simp [errW_none, errW_some] <;> rfl) | (simp [*, errW_none, errW_some] <;> rfl), by repeat (first | (with_reducible first | exact HB.out | apply below_alloc | apply pw_below_drewN | apply below_drew1) | exact HB.out)⟩
              · rw [if_neg c13] at H
                have c13b0 : (t112 == 18446744073709551615) = false := beq_eq_false_iff_ne.mpr c13
                have c13b1 : (t112 != 18446744073709551615) = true := bne_iff_ne.mpr c13
                obtain rfl := Option.some.inj H
                go_enter Try.func14, Try.ntmps14
                go_wp2_with (first | ((with_reducible refine gate_callee (f := 16) rfl ?_); refine goesL_ (some 4) rfl rfl Try.func16 (by kernel_rfl) rfl #[.int .u64 262144, .int .i64 18] rfl (by (try simp only [List.map_toArray, List.map_cons, List.map_nil]); first | done | rfl | (simp only [List.length_drop, List.length_take]; rfl)) ?_; (with_reducible refine (rate_Pack.calls k 262144 18 t106 t107 _ A1.out).mono ?_); rintro e w' ⟨rfl, ⟨nd, rfl⟩⟩; refine ⟨_, rfl, ?_⟩) | (go_at_call 17; (with_reducible refine (rate_Open.calls k 64 1 18 t108 _ A4.out).mono ?_); rintro e w' ⟨rfl, ⟨nd, rfl⟩⟩) | (go_at_call 15; (with_reducible refine (rate_Down.calls k 5 2 t109 _ A6.out).mono ?_); rintro e w' ⟨rfl, ⟨nd, rfl⟩⟩) | (go_at_call 18; (with_reducible refine (rate_Bytes.calls 17 t110 _ A8.out).mono ?_); rintro e w17 ⟨rfl, hb⟩; have n0_ := Aside0.mk (below_step (by repeat (first | (with_reducible first | exact HB.out | apply below_alloc | apply pw_below_drewN | apply below_drew1) | exact HB.out)) hb); clear HB; have HB := n0_; clear n0_; (try clear hb); (try clear hb2); (try clear hk); (try clear hi)) | (go_at_call 18; (with_reducible refine (rate_Bytes.calls 9223372036854775808 t111 _ A10.out).mono ?_); rintro e w18 ⟨rfl, hb⟩; have n0_ := Aside0.mk (below_step (by repeat (first | (with_reducible first | exact HB.out | apply below_alloc | apply pw_below_drewN | apply below_drew1) | exact HB.out)) hb); clear HB; have HB := n0_; clear n0_; (try clear hb); (try clear hb2); (try clear hk); (try clear hi)) | (go_at_call 17; (with_reducible refine (rate_Open.calls k 63 2 18 t112 _ A12.out).mono ?_); rintro e w' ⟨rfl, ⟨nd, rfl⟩⟩))
                go_ret
                exact ⟨by first | rfl | (simp [errW_none, errW_some] <;> rfl) | (simp [*, errW_none, errW_some] <;> rfl), by repeat (first | (with_reducible first | exact HB.out | apply below_alloc | apply pw_below_drewN | apply below_drew1) | exact HB.out)⟩
            · rw [if_neg c11] at H
              have c11b0 : (t111 == 1099511627776) = false := beq_eq_false_iff_ne.mpr c11
              have c11b1 : (t111 != 1099511627776) = true := bne_iff_ne.mpr c11
              obtain rfl := Option.some.inj H
              go_enter Try.func14, Try.ntmps14
              go_wp2_with (first | ((with_reducible refine gate_callee (f := 16) rfl ?_); refine goesL_ (some 4) rfl rfl Try.func16 (by kernel_rfl) rfl #[.int .u64 262144, .int .i64 18] rfl (by (try simp only [List.map_toArray, List.map_cons, List.map_nil]); first | done | rfl | (simp only [List.length_drop, List.length_take]; rfl)) ?_; (with_reducible refine (rate_Pack.calls k 262144 18 t106 t107 _ A1.out).mono ?_); rintro e w' ⟨rfl, ⟨nd, rfl⟩⟩; refine ⟨_, rfl, ?_⟩) | (go_at_call 17; (with_reducible refine (rate_Open.calls k 64 1 18 t108 _ A4.out).mono ?_); rintro e w' ⟨rfl, ⟨nd, rfl⟩⟩) | (go_at_call 15; (with_reducible refine (rate_Down.calls k 5 2 t109 _ A6.out).mono ?_); rintro e w' ⟨rfl, ⟨nd, rfl⟩⟩) | (go_at_call 18; (with_reducible refine (rate_Bytes.calls 17 t110 _ A8.out).mono ?_); rintro e w19 ⟨rfl, hb⟩; have n0_ := Aside0.mk (below_step (by repeat (first | (with_reducible first | exact HB.out | apply below_alloc | apply pw_below_drewN | apply below_drew1) | exact HB.out)) hb); clear HB; have HB := n0_; clear n0_; (try clear hb); (try clear hb2); (try clear hk); (try clear hi)) | (go_at_call 18; (with_reducible refine (rate_Bytes.calls 9223372036854775808 t111 _ A10.out).mono ?_); rintro e w20 ⟨rfl, hb⟩; have n0_ := Aside0.mk (below_step (by repeat (first | (with_reducible first | exact HB.out | apply below_alloc | apply pw_below_drewN | apply below_drew1) | exact HB.out)) hb); clear HB; have HB := n0_; clear n0_; (try clear hb); (try clear hb2); (try clear hk); (try clear hi)))
              go_ret
              exact ⟨by first | rfl | (simp [errW_none, errW_some] <;> rfl) | (simp [*, errW_none, errW_some] <;> rfl), by repeat (first | (with_reducible first | exact HB.out | apply below_alloc | apply pw_below_drewN | apply below_drew1) | exact HB.out)⟩
          · rw [if_neg c9] at H
            have c9b0 : (t110 == 2) = false := beq_eq_false_iff_ne.mpr c9
            have c9b1 : (t110 != 2) = true := bne_iff_ne.mpr c9
            obtain rfl := Option.some.inj H
            go_enter Try.func14, Try.ntmps14
            go_wp2_with (first | ((with_reducible refine gate_callee (f := 16) rfl ?_); refine goesL_ (some 4) rfl rfl Try.func16 (by kernel_rfl) rfl #[.int .u64 262144, .int .i64 18] rfl (by (try simp only [List.map_toArray, List.map_cons, List.map_nil]); first | done | rfl | (simp only [List.length_drop, List.length_take]; rfl)) ?_; (with_reducible refine (rate_Pack.calls k 262144 18 t106 t107 _ A1.out).mono ?_); rintro e w' ⟨rfl, ⟨nd, rfl⟩⟩; refine ⟨_, rfl, ?_⟩) | (go_at_call 17; (with_reducible refine (rate_Open.calls k 64 1 18 t108 _ A4.out).mono ?_); rintro e w' ⟨rfl, ⟨nd, rfl⟩⟩) | (go_at_call 15; (with_reducible refine (rate_Down.calls k 5 2 t109 _ A6.out).mono ?_); rintro e w' ⟨rfl, ⟨nd, rfl⟩⟩) | (go_at_call 18; (with_reducible refine (rate_Bytes.calls 17 t110 _ A8.out).mono ?_); rintro e w21 ⟨rfl, hb⟩; have n0_ := Aside0.mk (below_step (by repeat (first | (with_reducible first | exact HB.out | apply below_alloc | apply pw_below_drewN | apply below_drew1) | exact HB.out)) hb); clear HB; have HB := n0_; clear n0_; (try clear hb); (try clear hb2); (try clear hk); (try clear hi)))
            go_ret
            exact ⟨by first | rfl | (simp [errW_none, errW_some] <;> rfl) | (simp [*, errW_none, errW_some] <;> rfl), by repeat (first | (with_reducible first | exact HB.out | apply below_alloc | apply pw_below_drewN | apply below_drew1) | exact HB.out)⟩
        · rw [if_neg c7] at H
          have c7b0 : (t109 == 4) = false := beq_eq_false_iff_ne.mpr c7
          have c7b1 : (t109 != 4) = true := bne_iff_ne.mpr c7
          obtain rfl := Option.some.inj H
          go_enter Try.func14, Try.ntmps14
          go_wp2_with (first | ((with_reducible refine gate_callee (f := 16) rfl ?_); refine goesL_ (some 4) rfl rfl Try.func16 (by kernel_rfl) rfl #[.int .u64 262144, .int .i64 18] rfl (by (try simp only [List.map_toArray, List.map_cons, List.map_nil]); first | done | rfl | (simp only [List.length_drop, List.length_take]; rfl)) ?_; (with_reducible refine (rate_Pack.calls k 262144 18 t106 t107 _ A1.out).mono ?_); rintro e w' ⟨rfl, ⟨nd, rfl⟩⟩; refine ⟨_, rfl, ?_⟩) | (go_at_call 17; (with_reducible refine (rate_Open.calls k 64 1 18 t108 _ A4.out).mono ?_); rintro e w' ⟨rfl, ⟨nd, rfl⟩⟩) | (go_at_call 15; (with_reducible refine (rate_Down.calls k 5 2 t109 _ A6.out).mono ?_); rintro e w' ⟨rfl, ⟨nd, rfl⟩⟩))
          go_ret
          exact ⟨by first | rfl | (simp [errW_none, errW_some] <;> rfl) | (simp [*, errW_none, errW_some] <;> rfl), by repeat (first | (with_reducible first | exact HB.out | apply below_alloc | apply pw_below_drewN | apply below_drew1) | exact HB.out)⟩
      · rw [if_neg c5] at H
        have c5b0 : (t108 == 0) = false := beq_eq_false_iff_ne.mpr c5
        have c5b1 : (t108 != 0) = true := bne_iff_ne.mpr c5
        obtain rfl := Option.some.inj H
        go_enter Try.func14, Try.ntmps14
        go_wp2_with (first | ((with_reducible refine gate_callee (f := 16) rfl ?_); refine goesL_ (some 4) rfl rfl Try.func16 (by kernel_rfl) rfl #[.int .u64 262144, .int .i64 18] rfl (by (try simp only [List.map_toArray, List.map_cons, List.map_nil]); first | done | rfl | (simp only [List.length_drop, List.length_take]; rfl)) ?_; (with_reducible refine (rate_Pack.calls k 262144 18 t106 t107 _ A1.out).mono ?_); rintro e w' ⟨rfl, ⟨nd, rfl⟩⟩; refine ⟨_, rfl, ?_⟩) | (go_at_call 17; (with_reducible refine (rate_Open.calls k 64 1 18 t108 _ A4.out).mono ?_); rintro e w' ⟨rfl, ⟨nd, rfl⟩⟩))
        go_ret
        exact ⟨by first | rfl | (simp [errW_none, errW_some] <;> rfl) | (simp [*, errW_none, errW_some] <;> rfl), by repeat (first | (with_reducible first | exact HB.out | apply below_alloc | apply pw_below_drewN | apply below_drew1) | exact HB.out)⟩
    · rw [if_neg c3] at H
      have c3b0 : (t107 == 131072) = false := beq_eq_false_iff_ne.mpr c3
      have c3b1 : (t107 != 131072) = true := bne_iff_ne.mpr c3
      obtain rfl := Option.some.inj H
      go_enter Try.func14, Try.ntmps14
      go_wp2_with (first | ((with_reducible refine gate_callee (f := 16) rfl ?_); refine goesL_ (some 4) rfl rfl Try.func16 (by kernel_rfl) rfl #[.int .u64 262144, .int .i64 18] rfl (by (try simp only [List.map_toArray, List.map_cons, List.map_nil]); first | done | rfl | (simp only [List.length_drop, List.length_take]; rfl)) ?_; (with_reducible refine (rate_Pack.calls k 262144 18 t106 t107 _ A1.out).mono ?_); rintro e w' ⟨rfl, ⟨nd, rfl⟩⟩; refine ⟨_, rfl, ?_⟩))
      go_ret
      exact ⟨by first | rfl | (simp [errW_none, errW_some] <;> rfl) | (simp [*, errW_none, errW_some] <;> rfl), by repeat (first | (with_reducible first | exact HB.out | apply below_alloc | apply pw_below_drewN | apply below_drew1) | exact HB.out)⟩
  · rw [if_neg c2] at H
    have c2b0 : (t106 == 1) = false := beq_eq_false_iff_ne.mpr c2
    have c2b1 : (t106 != 1) = true := bne_iff_ne.mpr c2
    obtain rfl := Option.some.inj H
    go_enter Try.func14, Try.ntmps14
    go_wp2_with (first | ((with_reducible refine gate_callee (f := 16) rfl ?_); refine goesL_ (some 4) rfl rfl Try.func16 (by kernel_rfl) rfl #[.int .u64 262144, .int .i64 18] rfl (by (try simp only [List.map_toArray, List.map_cons, List.map_nil]); first | done | rfl | (simp only [List.length_drop, List.length_take]; rfl)) ?_; (with_reducible refine (rate_Pack.calls k 262144 18 t106 t107 _ A1.out).mono ?_); rintro e w' ⟨rfl, ⟨nd, rfl⟩⟩; refine ⟨_, rfl, ?_⟩))
    go_ret
    exact ⟨by first | rfl | (simp [errW_none, errW_some] <;> rfl) | (simp [*, errW_none, errW_some] <;> rfl), by repeat (first | (with_reducible first | exact HB.out | apply below_alloc | apply pw_below_drewN | apply below_drew1) | exact HB.out)⟩

/-! ### limelightlaw5_RateOpens: function 6 -/
def limelightlaw5_RateOpens.j0 : Nat → Int → Int → Int → Int → Option (Bool)
  | 0, _, _, _, _ => none
  | k + 1, x5, x6, x7, x8 => (rate_Open.f k (wrap64 (x5 - 1)) x6 18).bind fun t115 => (if x7 = (IntKind.u64.wrap (2 * t115)) then ((rate_Open.f k x5 x6 17).bind fun t116 => (if t116 = x8 then ((rate_Bytes.f x7).bind fun t117 => (if t117 = (wrap64 (mn (IntKind.u64.wrap (Int.tdiv x7 8)) 1099511627776)) then ((rate_Down.f k x7 18).bind fun t118 => (if t118 = x7 then ((limelightlaw5_known.f k).bind fun t119 => (some t119)) else (some false))) else (some false))) else (some false))) else (some false))
def limelightlaw5_RateOpens.f (k : Nat) (a0 : Int) (a1 : Int) : Option (Bool) := (rate_Open.f k (wrap64 (1 + (Go.bits .and .i64 a0 31))) (Go.bits .and .u32 a1 262143) 18).bind fun t114 => (if (Go.bits .and .u32 a1 262143) ≥ 131072 then (limelightlaw5_RateOpens.j0 k (wrap64 (1 + (Go.bits .and .i64 a0 31))) (Go.bits .and .u32 a1 262143) t114 0) else (limelightlaw5_RateOpens.j0 k (wrap64 (1 + (Go.bits .and .i64 a0 31))) (Go.bits .and .u32 a1 262143) t114 t114))
theorem limelightlaw5_RateOpens.mono_l : ∀ k, (∀ y0 y1 y2 y3, LeO (limelightlaw5_RateOpens.j0 k y0 y1 y2 y3) (limelightlaw5_RateOpens.j0 (k + 1) y0 y1 y2 y3))
  | 0 => fun _ _ _ _ r h => by simp [limelightlaw5_RateOpens.j0] at h
  | k + 1 => by
    have ih0 := limelightlaw5_RateOpens.mono_l k
    · intro y0 y1 y2 y3
      unfold limelightlaw5_RateOpens.j0
      repeat' first
      | (with_reducible exact ih0 _ _ _ _)
      | (with_reducible exact limelightlaw5_known.mono _)
      | (with_reducible exact rate_Down.mono _ _ _)
      | (with_reducible exact rate_Open.mono _ _ _ _)
      | (with_reducible exact LeO.refl _)
      | (with_reducible exact LeO.none _)
      | (with_reducible refine LeO.ite ?_ ?_)
      | (with_reducible refine LeO.bind ?_ (fun _ => ?_))
      | exact ih0 _ _ _ _
      | exact limelightlaw5_known.mono _
      | exact rate_Down.mono _ _ _
      | exact rate_Open.mono _ _ _ _
      | exact LeO.none _
      | refine LeO.ite ?_ ?_
      | refine LeO.bind ?_ (fun _ => ?_)
theorem limelightlaw5_RateOpens.mono : ∀ a0 a1 k, LeO (limelightlaw5_RateOpens.f k a0 a1) (limelightlaw5_RateOpens.f (k + 1) a0 a1) := by
  intro a0 a1 k
  have ih0 := limelightlaw5_RateOpens.mono_l k
  unfold limelightlaw5_RateOpens.f
  repeat' first
      | (with_reducible exact ih0 _ _ _ _)
      | (with_reducible exact limelightlaw5_known.mono _)
      | (with_reducible exact rate_Down.mono _ _ _)
      | (with_reducible exact rate_Open.mono _ _ _ _)
      | (with_reducible exact LeO.refl _)
      | (with_reducible exact LeO.none _)
      | (with_reducible refine LeO.ite ?_ ?_)
      | (with_reducible refine LeO.bind ?_ (fun _ => ?_))
      | exact ih0 _ _ _ _
      | exact limelightlaw5_known.mono _
      | exact rate_Down.mono _ _ _
      | exact rate_Open.mono _ _ _ _
      | exact LeO.none _
      | refine LeO.ite ?_ ?_
      | refine LeO.bind ?_ (fun _ => ?_)
set_option maxHeartbeats 8000000 in
set_option maxRecDepth 100000 in
theorem limelightlaw5_RateOpens.calls (k : Nat) (a0 : Int) (a1 : Int) (r : Bool) (w : World) (h : limelightlaw5_RateOpens.f k a0 a1 = some r) :
    Calls Try.prog 6 #[.int .i64 a0, .int .u32 a1] w fun e w' => e = .returned (.bool r) ∧ Below w.heap.size w w' := by
  have HB := Aside0.mk (Below.refl w.heap.size w)
  have H : ((rate_Open.f k (wrap64 (1 + (Go.bits .and .i64 a0 31))) (Go.bits .and .u32 a1 262143) 18).bind fun t114 => (if (Go.bits .and .u32 a1 262143) ≥ 131072 then (limelightlaw5_RateOpens.j0 k (wrap64 (1 + (Go.bits .and .i64 a0 31))) (Go.bits .and .u32 a1 262143) t114 0) else (limelightlaw5_RateOpens.j0 k (wrap64 (1 + (Go.bits .and .i64 a0 31))) (Go.bits .and .u32 a1 262143) t114 t114))) = some r := h
  clear h
  replace H := Option.bind_eq_some_iff.mp H
  obtain ⟨t114, A30, H⟩ := H
  replace H : (if (Go.bits .and .u32 a1 262143) ≥ 131072 then (limelightlaw5_RateOpens.j0 k (wrap64 (1 + (Go.bits .and .i64 a0 31))) (Go.bits .and .u32 a1 262143) t114 0) else (limelightlaw5_RateOpens.j0 k (wrap64 (1 + (Go.bits .and .i64 a0 31))) (Go.bits .and .u32 a1 262143) t114 t114)) = some r := H
  have A3 := Aside0.mk A30
  clear A30
  have HC4 := Aside0.mk H
  clear H
  go_enter Try.func6, Try.ntmps6
  go_upto_if 19 with (first | ((with_reducible refine gate_callee (f := 17) rfl ?_); refine goesL_ (some 16) rfl rfl Try.func17 (by kernel_rfl) rfl #[.int .i64 (wrap64 (1 + (Go.bits .and .i64 a0 31))), .int .u32 (Go.bits .and .u32 a1 262143), .int .i64 18] rfl (by (try simp only [List.map_toArray, List.map_cons, List.map_nil]); first | done | rfl | (simp only [List.length_drop, List.length_take]; rfl)) ?_; (with_reducible refine (rate_Open.calls k (wrap64 (1 + (Go.bits .and .i64 a0 31))) (Go.bits .and .u32 a1 262143) 18 t114 _ A3.out).mono ?_); rintro e w' ⟨rfl, ⟨nd, rfl⟩⟩; refine ⟨_, rfl, ?_⟩))
  (try simp only [Act.put, List.setIfInBounds_toArray, List.set_cons_zero, List.set_cons_succ])
  go_cut [8] (fun v8 wc => ∃ (kq : Nat) (x8_3 : Int), v8 = .int .u64 x8_3 ∧ Aside0 (limelightlaw5_RateOpens.j0 kq (wrap64 (1 + (Go.bits .and .i64 a0 31))) (Go.bits .and .u32 a1 262143) t114 x8_3 = some r) ∧ Aside0 (kq ≤ k) ∧ Aside0 (Below w.heap.size w wc))
  case first =>
    have H := HC4.out
    clear HC4
    by_cases c5 : (Go.bits .and .u32 a1 262143) ≥ 131072
    · rw [if_pos c5] at H
      have c5b0 : decide (131072 ≤ (Go.bits .and .u32 a1 262143)) = true := decide_eq_true c5
      clear c5
      (first | rw [c5b0] | (simp only [i64_w, i32_w]; rw [c5b0]) | skip)
      have H' := Aside0.mk H
      clear H
      go_wp2
      go_meet
      case rel => exact ⟨_, (0), (by first | rfl | (simp; done) | (simp [*]; done)), H', ⟨by first | omega | exact Nat.le_refl _⟩, ⟨by repeat (first | (with_reducible first | exact HB.out | apply below_alloc | apply pw_below_drewN | apply below_drew1) | exact HB.out)⟩⟩
    · rw [if_neg c5] at H
      have c5b0 : decide (131072 ≤ (Go.bits .and .u32 a1 262143)) = false := decide_eq_false c5
      clear c5
      (first | rw [c5b0] | (simp only [i64_w, i32_w]; rw [c5b0]) | skip)
      have H' := Aside0.mk H
      clear H
      go_wp2
      go_meet
      case rel => exact ⟨_, (t114), (by first | rfl | (simp; done) | (simp [*]; done)), H', ⟨by first | omega | exact Nat.le_refl _⟩, ⟨by repeat (first | (with_reducible first | exact HB.out | apply below_alloc | apply pw_below_drewN | apply below_drew1) | exact HB.out)⟩⟩
  case rest =>
    clear HC4
    try clear c1
    try clear p2
    try clear c5
    try clear c5b0
    obtain ⟨kq, x8_3, rfl, HA, HJ3, HB⟩ := hcut
    cases kq with
    | zero => exact absurd HA.out (by simp [limelightlaw5_RateOpens.j0])
    | succ kj3 =>
      have H := HA.out
      clear HA
      simp only [limelightlaw5_RateOpens.j0] at H
      replace H := Option.bind_eq_some_iff.mp H
      obtain ⟨t115, A60, H⟩ := H
      replace H : (if t114 = (IntKind.u64.wrap (2 * t115)) then ((rate_Open.f kj3 (wrap64 (1 + (Go.bits .and .i64 a0 31))) (Go.bits .and .u32 a1 262143) 17).bind fun t116 => (if t116 = x8_3 then ((rate_Bytes.f t114).bind fun t117 => (if t117 = (wrap64 (mn (IntKind.u64.wrap (Int.tdiv t114 8)) 1099511627776)) then ((rate_Down.f kj3 t114 18).bind fun t118 => (if t118 = t114 then ((limelightlaw5_known.f kj3).bind fun t119 => (some t119)) else (some false))) else (some false))) else (some false))) else (some false)) = some r := H
      have A6 := Aside0.mk A60
      clear A60
      by_cases c7 : t114 = (IntKind.u64.wrap (2 * t115))
      · rw [if_pos c7] at H
        have c7b0 : (t114 == (IntKind.u64.wrap (2 * t115))) = true := beq_iff_eq.mpr c7
        have c7b1 : (t114 != (IntKind.u64.wrap (2 * t115))) = false := bne_eq_false_iff_eq.mpr c7
        clear c7
        replace H := Option.bind_eq_some_iff.mp H
        obtain ⟨t116, A80, H⟩ := H
        replace H : (if t116 = x8_3 then ((rate_Bytes.f t114).bind fun t117 => (if t117 = (wrap64 (mn (IntKind.u64.wrap (Int.tdiv t114 8)) 1099511627776)) then ((rate_Down.f kj3 t114 18).bind fun t118 => (if t118 = t114 then ((limelightlaw5_known.f kj3).bind fun t119 => (some t119)) else (some false))) else (some false))) else (some false)) = some r := H
        have A8 := Aside0.mk A80
        clear A80
        by_cases c9 : t116 = x8_3
        · rw [if_pos c9] at H
          have c9b0 : (t116 == x8_3) = true := beq_iff_eq.mpr c9
          have c9b1 : (t116 != x8_3) = false := bne_eq_false_iff_eq.mpr c9
          clear c9
          replace H := Option.bind_eq_some_iff.mp H
          obtain ⟨t117, A100, H⟩ := H
          replace H : (if t117 = (wrap64 (mn (IntKind.u64.wrap (Int.tdiv t114 8)) 1099511627776)) then ((rate_Down.f kj3 t114 18).bind fun t118 => (if t118 = t114 then ((limelightlaw5_known.f kj3).bind fun t119 => (some t119)) else (some false))) else (some false)) = some r := H
          have A10 := Aside0.mk A100
          clear A100
          obtain ⟨ji11, hji11⟩ : ∃ j_ : Int, (mn (IntKind.u64.wrap (Int.tdiv t114 8)) 1099511627776) = j_ := ⟨_, rfl⟩
          replace H : (if t117 = (wrap64 (ji11)) then ((rate_Down.f kj3 t114 18).bind fun t118 => (if t118 = t114 then ((limelightlaw5_known.f kj3).bind fun t119 => (some t119)) else (some false))) else (some false)) = some r := by first | (rw [hji11] at H; exact H) | (simp only [hji11] at H ⊢; exact H)
          (try rw [hji11] at A6)
          (try rw [hji11] at A8)
          (try rw [hji11] at A10)
          have hji11_ : (if 1099511627776 < (IntKind.u64.wrap (Int.tdiv t114 8)) then 1099511627776 else (IntKind.u64.wrap (Int.tdiv t114 8))) = ji11 := hji11
          by_cases c12 : t117 = (wrap64 (ji11))
          · rw [if_pos c12] at H
            have c12b0 : (t117 == (wrap64 (ji11))) = true := beq_iff_eq.mpr c12
            have c12b1 : (t117 != (wrap64 (ji11))) = false := bne_eq_false_iff_eq.mpr c12
            clear c12
            replace H := Option.bind_eq_some_iff.mp H
            obtain ⟨t118, A130, H⟩ := H
            replace H : (if t118 = t114 then ((limelightlaw5_known.f kj3).bind fun t119 => (some t119)) else (some false)) = some r := H
            have A13 := Aside0.mk A130
            clear A130
            by_cases c14 : t118 = t114
            · rw [if_pos c14] at H
              have c14b0 : (t118 == t114) = true := beq_iff_eq.mpr c14
              have c14b1 : (t118 != t114) = false := bne_eq_false_iff_eq.mpr c14
              clear c14
              replace H := Option.bind_eq_some_iff.mp H
              obtain ⟨t119, A150, H⟩ := H
              replace H : (some t119) = some r := H
              have A15 := Aside0.mk A150
              clear A150
              obtain rfl := Option.some.inj H
              go_wp2_with (first | ((with_reducible refine gate_callee (f := 17) rfl ?_); refine goesL_ (some 24) rfl rfl Try.func17 (by kernel_rfl) rfl #[.int .i64 (wrap64 ((wrap64 (1 + (Go.bits .and .i64 a0 31))) - 1)), .int .u32 (Go.bits .and .u32 a1 262143), .int .i64 18] rfl (by (try simp only [List.map_toArray, List.map_cons, List.map_nil]); first | done | rfl | (simp only [List.length_drop, List.length_take]; rfl)) ?_; (with_reducible refine (rate_Open.calls kj3 (wrap64 ((wrap64 (1 + (Go.bits .and .i64 a0 31))) - 1)) (Go.bits .and .u32 a1 262143) 18 t115 _ A6.out).mono ?_); rintro e w' ⟨rfl, ⟨nd, rfl⟩⟩; refine ⟨_, rfl, ?_⟩) | (go_at_call 17; (with_reducible refine (rate_Open.calls kj3 (wrap64 (1 + (Go.bits .and .i64 a0 31))) (Go.bits .and .u32 a1 262143) 17 t116 _ A8.out).mono ?_); rintro e w' ⟨rfl, ⟨nd, rfl⟩⟩) | (go_at_call 18; (with_reducible refine (rate_Bytes.calls t114 t117 _ A10.out).mono ?_); rintro e w16 ⟨rfl, hb⟩; have n0_ := Aside0.mk (below_step (by repeat (first | (with_reducible first | exact HB.out | apply below_alloc | apply pw_below_drewN | apply below_drew1) | exact HB.out)) hb); clear HB; have HB := n0_; clear n0_; (try clear hb); (try clear hb2); (try clear hk); (try clear hi)) | (go_at_call 15; (with_reducible refine (rate_Down.calls kj3 t114 18 t118 _ A13.out).mono ?_); rintro e w' ⟨rfl, ⟨nd, rfl⟩⟩) | (go_at_call 14; (with_reducible refine (limelightlaw5_known.calls kj3  t119 _ A15.out).mono ?_); rintro e w17 ⟨rfl, hb⟩; have n0_ := Aside0.mk (below_step (by repeat (first | (with_reducible first | exact HB.out | apply below_alloc | apply pw_below_drewN | apply below_drew1) | exact HB.out)) hb); clear HB; have HB := n0_; clear n0_; (try clear hb); (try clear hb2); (try clear hk); (try clear hi)))
              go_ret
              exact ⟨by first | rfl | (simp [errW_none, errW_some] <;> rfl) | (simp only [← hji11]; first | rfl | (simp [errW_none, errW_some] <;> rfl)) | (simp [*, errW_none, errW_some] <;> rfl), by repeat (first | (with_reducible first | exact HB.out | apply below_alloc | apply pw_below_drewN | apply below_drew1) | exact HB.out)⟩
            · rw [if_neg c14] at H
              have c14b0 : (t118 == t114) = false := beq_eq_false_iff_ne.mpr c14
              have c14b1 : (t118 != t114) = true := bne_iff_ne.mpr c14
              obtain rfl := Option.some.inj H
              go_wp2_with (first | ((with_reducible refine gate_callee (f := 17) rfl ?_); refine goesL_ (some 24) rfl rfl Try.func17 (by kernel_rfl) rfl #[.int .i64 (wrap64 ((wrap64 (1 + (Go.bits .and .i64 a0 31))) - 1)), .int .u32 (Go.bits .and .u32 a1 262143), .int .i64 18] rfl (by (try simp only [List.map_toArray, List.map_cons, List.map_nil]); first | done | rfl | (simp only [List.length_drop, List.length_take]; rfl)) ?_; (with_reducible refine (rate_Open.calls kj3 (wrap64 ((wrap64 (1 + (Go.bits .and .i64 a0 31))) - 1)) (Go.bits .and .u32 a1 262143) 18 t115 _ A6.out).mono ?_); rintro e w' ⟨rfl, ⟨nd, rfl⟩⟩; refine ⟨_, rfl, ?_⟩) | (go_at_call 17; (with_reducible refine (rate_Open.calls kj3 (wrap64 (1 + (Go.bits .and .i64 a0 31))) (Go.bits .and .u32 a1 262143) 17 t116 _ A8.out).mono ?_); rintro e w' ⟨rfl, ⟨nd, rfl⟩⟩) | (go_at_call 18; (with_reducible refine (rate_Bytes.calls t114 t117 _ A10.out).mono ?_); rintro e w18 ⟨rfl, hb⟩; have n0_ := Aside0.mk (below_step (by repeat (first | (with_reducible first | exact HB.out | apply below_alloc | apply pw_below_drewN | apply below_drew1) | exact HB.out)) hb); clear HB; have HB := n0_; clear n0_; (try clear hb); (try clear hb2); (try clear hk); (try clear hi)) | (go_at_call 15; (with_reducible refine (rate_Down.calls kj3 t114 18 t118 _ A13.out).mono ?_); rintro e w' ⟨rfl, ⟨nd, rfl⟩⟩))
              go_ret
              exact ⟨by first | rfl | (simp [errW_none, errW_some] <;> rfl) | (simp only [← hji11]; first | rfl | (simp [errW_none, errW_some] <;> rfl)) | (simp [*, errW_none, errW_some] <;> rfl), by repeat (first | (with_reducible first | exact HB.out | apply below_alloc | apply pw_below_drewN | apply below_drew1) | exact HB.out)⟩
          · rw [if_neg c12] at H
            have c12b0 : (t117 == (wrap64 (ji11))) = false := beq_eq_false_iff_ne.mpr c12
            have c12b1 : (t117 != (wrap64 (ji11))) = true := bne_iff_ne.mpr c12
            obtain rfl := Option.some.inj H
            go_wp2_with (first | ((with_reducible refine gate_callee (f := 17) rfl ?_); refine goesL_ (some 24) rfl rfl Try.func17 (by kernel_rfl) rfl #[.int .i64 (wrap64 ((wrap64 (1 + (Go.bits .and .i64 a0 31))) - 1)), .int .u32 (Go.bits .and .u32 a1 262143), .int .i64 18] rfl (by (try simp only [List.map_toArray, List.map_cons, List.map_nil]); first | done | rfl | (simp only [List.length_drop, List.length_take]; rfl)) ?_; (with_reducible refine (rate_Open.calls kj3 (wrap64 ((wrap64 (1 + (Go.bits .and .i64 a0 31))) - 1)) (Go.bits .and .u32 a1 262143) 18 t115 _ A6.out).mono ?_); rintro e w' ⟨rfl, ⟨nd, rfl⟩⟩; refine ⟨_, rfl, ?_⟩) | (go_at_call 17; (with_reducible refine (rate_Open.calls kj3 (wrap64 (1 + (Go.bits .and .i64 a0 31))) (Go.bits .and .u32 a1 262143) 17 t116 _ A8.out).mono ?_); rintro e w' ⟨rfl, ⟨nd, rfl⟩⟩) | (go_at_call 18; (with_reducible refine (rate_Bytes.calls t114 t117 _ A10.out).mono ?_); rintro e w19 ⟨rfl, hb⟩; have n0_ := Aside0.mk (below_step (by repeat (first | (with_reducible first | exact HB.out | apply below_alloc | apply pw_below_drewN | apply below_drew1) | exact HB.out)) hb); clear HB; have HB := n0_; clear n0_; (try clear hb); (try clear hb2); (try clear hk); (try clear hi)))
            go_ret
            exact ⟨by first | rfl | (simp [errW_none, errW_some] <;> rfl) | (simp only [← hji11]; first | rfl | (simp [errW_none, errW_some] <;> rfl)) | (simp [*, errW_none, errW_some] <;> rfl), by repeat (first | (with_reducible first | exact HB.out | apply below_alloc | apply pw_below_drewN | apply below_drew1) | exact HB.out)⟩
        · rw [if_neg c9] at H
          have c9b0 : (t116 == x8_3) = false := beq_eq_false_iff_ne.mpr c9
          have c9b1 : (t116 != x8_3) = true := bne_iff_ne.mpr c9
          obtain rfl := Option.some.inj H
          go_wp2_with (first | ((with_reducible refine gate_callee (f := 17) rfl ?_); refine goesL_ (some 24) rfl rfl Try.func17 (by kernel_rfl) rfl #[.int .i64 (wrap64 ((wrap64 (1 + (Go.bits .and .i64 a0 31))) - 1)), .int .u32 (Go.bits .and .u32 a1 262143), .int .i64 18] rfl (by (try simp only [List.map_toArray, List.map_cons, List.map_nil]); first | done | rfl | (simp only [List.length_drop, List.length_take]; rfl)) ?_; (with_reducible refine (rate_Open.calls kj3 (wrap64 ((wrap64 (1 + (Go.bits .and .i64 a0 31))) - 1)) (Go.bits .and .u32 a1 262143) 18 t115 _ A6.out).mono ?_); rintro e w' ⟨rfl, ⟨nd, rfl⟩⟩; refine ⟨_, rfl, ?_⟩) | (go_at_call 17; (with_reducible refine (rate_Open.calls kj3 (wrap64 (1 + (Go.bits .and .i64 a0 31))) (Go.bits .and .u32 a1 262143) 17 t116 _ A8.out).mono ?_); rintro e w' ⟨rfl, ⟨nd, rfl⟩⟩))
          go_ret
          exact ⟨by first | rfl | (simp [errW_none, errW_some] <;> rfl) | (simp [*, errW_none, errW_some] <;> rfl), by repeat (first | (with_reducible first | exact HB.out | apply below_alloc | apply pw_below_drewN | apply below_drew1) | exact HB.out)⟩
      · rw [if_neg c7] at H
        have c7b0 : (t114 == (IntKind.u64.wrap (2 * t115))) = false := beq_eq_false_iff_ne.mpr c7
        have c7b1 : (t114 != (IntKind.u64.wrap (2 * t115))) = true := bne_iff_ne.mpr c7
        obtain rfl := Option.some.inj H
        go_wp2_with (first | ((with_reducible refine gate_callee (f := 17) rfl ?_); refine goesL_ (some 24) rfl rfl Try.func17 (by kernel_rfl) rfl #[.int .i64 (wrap64 ((wrap64 (1 + (Go.bits .and .i64 a0 31))) - 1)), .int .u32 (Go.bits .and .u32 a1 262143), .int .i64 18] rfl (by (try simp only [List.map_toArray, List.map_cons, List.map_nil]); first | done | rfl | (simp only [List.length_drop, List.length_take]; rfl)) ?_; (with_reducible refine (rate_Open.calls kj3 (wrap64 ((wrap64 (1 + (Go.bits .and .i64 a0 31))) - 1)) (Go.bits .and .u32 a1 262143) 18 t115 _ A6.out).mono ?_); rintro e w' ⟨rfl, ⟨nd, rfl⟩⟩; refine ⟨_, rfl, ?_⟩))
        go_ret
        exact ⟨by first | rfl | (simp [errW_none, errW_some] <;> rfl) | (simp [*, errW_none, errW_some] <;> rfl), by repeat (first | (with_reducible first | exact HB.out | apply below_alloc | apply pw_below_drewN | apply below_drew1) | exact HB.out)⟩

/-- THE ONE PURE STATEMENT of limelightlaw5_RateOpens: yours. -/
def limelightlaw5_RateOpens.Pure : Prop := ∀ (a0 : Int) (a1 : Int), (Lit.int .i64 a0).wf = true → (Lit.int .u32 a1).wf = true → ∃ k, limelightlaw5_RateOpens.f k a0 a1 = some true
theorem limelightlaw5_RateOpens.walk (P : limelightlaw5_RateOpens.Pure) (a0 : Int) (a1 : Int) (w : World) (w0 : (Lit.int .i64 a0).wf = true) (w1 : (Lit.int .u32 a1).wf = true) :
    Calls Try.prog 6 #[.int .i64 a0, .int .u32 a1] w fun e w' => e = .returned (.bool true) ∧ Below w.heap.size w w' := by
  obtain ⟨k, h⟩ := P a0 a1 w0 w1
  refine (limelightlaw5_RateOpens.calls k a0 a1 true w h).mono ?_
  rintro e w' ⟨rfl, hd⟩
  exact ⟨rfl, hd⟩

end Go.Proofs.Ytlceiaanagijjaa.PRateOpens
