/- A part of the proof that follows: The runs of chapter 5, and rates next to each power of two, are as the document says: RateNumbers is true. -/
import Derived.Test.YtlceiaanagijjaaMRateNumbers1
/- limelightlaw5: same, known and RateTells are true. -/
namespace Go.Ev.Rate
set_option linter.unusedSimpArgs false
set_option linter.unusedVariables false
open Go.Proofs
variable {h : H} {σ : Stamp}
theorem same_ok (r : Nat) (hr : r < 2 ^ 64) (e m b : Int) (hm : 0 ≤ m) (hm2 : m < 4294967296) : ev G X0 13 σ [.p (.int .u64 r), .p (.int .i64 e), .p (.int .u32 m), .p (.int .i64 b)] h = some ([.v (bV true)], h) := by
  refine ev_cv rfl ?_
  rw [limelightlaw5_same_entry, callO_2 (pack_ok r hr b)]
  simp only [Option.bind_some, extV_tup, List.getElem?_cons_zero, List.getElem?_cons_succ, castI_p]
  rw [callO_2 (refPack_ok r hr b)]
  simp only [Option.bind_some, extV_tup, List.getElem?_cons_zero, List.getElem?_cons_succ, castI_p, beq_self_eq_true, cond_true]
  rw [callO_1 (open_ok e m b hm hm2)]
  simp only [Option.bind_some, castI_p]
  rw [callO_1 (refOpen_ok e m b hm hm2)]
  simp only [Option.bind_some, castI_p, beq_self_eq_true, asB_p, cond_true]
  rw [callO_1 (down_ok r hr b)]
  simp only [Option.bind_some, castI_p]
  rw [callO_1 (refDown_ok r hr b)]
  simp only [Option.bind_some, castI_p, beq_self_eq_true, asB_p, cond_true]
  rw [callO_1 (bytes_ok r)]
  simp only [Option.bind_some, castI_p]
  rw [callO_1 (refRate_ok r)]
  simp only [Option.bind_some, castI_p, beq_self_eq_true, asB_p, cond_true, fin_1 (still_bool _)]
theorem known_ok : ev G X0 14 σ [] h = some ([.v (bV true)], h) := by
  refine ev_cv rfl ?_
  have k1 : packM 262144 18 = (1, 131072) := by decide +kernel
  have k2 : openM 64 1 18 = 0 := by decide +kernel
  have k3 : downM 5 2 = 4 := by decide +kernel
  have k4 : bytesM 17 = 2 := by decide +kernel
  have k5 : bytesM 9223372036854775808 = 1099511627776 := by decide +kernel
  have k6 : openM 63 2 18 = 18446744073709551615 := by decide +kernel
  have k7 : openM 2 3 2 = 12 := by decide +kernel
  have p1 : ∀ (h : H) (σ : Stamp), ev G X0 16 σ [.p (.int .u64 262144), .p (.int .i64 18)] h = some ([.v (iV .i64 (packM 262144 18).1), .v (iV .u32 (packM 262144 18).2)], h) := fun h σ => pack_ok 262144 (by decide) 18
  have p3 : ∀ (h : H) (σ : Stamp), ev G X0 15 σ [.p (.int .u64 5), .p (.int .i64 2)] h = some ([.v (iV .u64 (downM 5 2))], h) := fun h σ => down_ok 5 (by decide) 2
  rw [k1] at p1; rw [k3] at p3
  rw [limelightlaw5_known_entry, callO_2 (p1 _ _)]
  simp only [Option.bind_some, extV_tup, List.getElem?_cons_zero, List.getElem?_cons_succ, castI_p, beq_self_eq_true, cond_true]
  rw [callO_1 (open_ok 64 1 18 (by omega) (by omega)), k2]
  simp only [Option.bind_some, castI_p, beq_self_eq_true, asB_p, cond_true]
  rw [callO_1 (p3 _ _)]
  simp only [Option.bind_some, castI_p, beq_self_eq_true, asB_p, cond_true]
  rw [callO_1 (bytes_ok 17), k4]
  simp only [Option.bind_some, castI_p, beq_self_eq_true, asB_p, cond_true]
  rw [callO_1 (bytes_ok 9223372036854775808), k5]
  simp only [Option.bind_some, castI_p, beq_self_eq_true, asB_p, cond_true]
  rw [callO_1 (open_ok 63 2 18 (by omega) (by omega)), k6]
  simp only [Option.bind_some, castI_p, beq_self_eq_true, asB_p, cond_true]
  rw [callO_1 (open_ok 2 3 2 (by omega) (by omega)), k7]
  simp only [Option.bind_some, castI_p, beq_self_eq_true, asB_p, cond_true, fin_1 (still_bool _)]
theorem tells_ok (n e m b : Int) (hn : 0 ≤ n) (hn2 : n < 18446744073709551616) (hm : 0 ≤ m) (hm2 : m < 4294967296) : ev G X0 4 σ [.p (.int .u64 n), .p (.int .i64 e), .p (.int .u32 m), .p (.int .i64 b)] h = some ([.v (bV true)], h) := by
  refine ev_cv rfl ?_
  obtain ⟨r, rfl⟩ := Int.eq_ofNat_of_zero_le hn
  have hr : r < 2 ^ 64 := by omega
  have m1 : intBits .and .i64 b 63 = b % 2 ^ 6 := and_mask b (by decide) (by decide)
  have m2 : intBits .and .u32 m 262143 = m % 2 ^ 18 := and_mask m (by decide) (by decide)
  have m3 : intBits .and .u32 m 131071 = m % 2 ^ 17 := and_mask m (by decide) (by decide)
  have m4 : intBits .and .u64 (r : Int) 65535 = (r : Int) % 2 ^ 16 := and_mask _ (by decide) (by decide)
  rw [limelightlaw5_RateTells_entry, m1, m2, m3, m4, callO_1 (same_ok r hr e m b hm hm2)]
  simp only [Option.bind_some, asB_p, cond_true]
  obtain ⟨c, hc⟩ := Int.eq_ofNat_of_zero_le (show 0 ≤ b % 2 ^ 6 by omega)
  have hc2 : c < 64 := by omega
  rw [hc, wrapU64_lt (by omega), shr_ok _ _ _ (by show c ≤ 64; omega)]
  simp only [Option.bind_some, castI_p]
  rw [callO_1 (same_ok (r / 2 ^ c) (Nat.lt_of_le_of_lt (Nat.div_le_self _ _) hr) _ _ 18 (by omega) (by omega))]
  simp only [Option.bind_some, asB_p, cond_true]
  rw [callO_1 (same_ok r hr _ _ 17 (by omega) (by omega))]
  simp only [Option.bind_some, asB_p, cond_true]
  rw [show (r : Int) % 2 ^ 16 = ((r % 2 ^ 16 : Nat) : Int) by omega, callO_1 (same_ok (r % 2 ^ 16) (by omega) e m _ hm hm2)]
  simp only [Option.bind_some, asB_p, cond_true]
  rw [callO_1 known_ok]
  simp only [Option.bind_some, asB_p, fin_1 (still_bool _)]
theorem rateTells (n e m b : Int) (hn : 0 ≤ n ∧ n < 18446744073709551616) (he : -9223372036854775808 ≤ e ∧ e < 9223372036854775808) (hm : 0 ≤ m ∧ m < 4294967296) (hb : -9223372036854775808 ≤ b ∧ b < 9223372036854775808) :
    ev G X0 4 [] [.p (.int .u64 n), .p (.int .i64 e), .p (.int .u32 m), .p (.int .i64 b)] [] = some ([.v (bV true)], []) := tells_ok n e m b hn.1 hn.2 hm.1 hm.2
end Go.Ev.Rate
/- limelightlaw5.RateNumbers is true. -/
namespace Go.Ev.Rate
set_option linter.unusedSimpArgs false
set_option linter.unusedVariables false
open Go.Proofs
def bitsL : List Int := [-1, 0, 1, 2, 17, 18, 24, 25]
theorem lit8 : buildSliceV Try.prog 24 8 [(0, .p (.int .i64 (-1))), (1, .p (.int .i64 0)), (2, .p (.int .i64 1)), (3, .p (.int .i64 2)), (4, .p (.int .i64 17)), (5, .p (.int .i64 18)), (6, .p (.int .i64 24)), (7, .p (.int .i64 25))] = some (.fz (ints bitsL) 8 1 true) := by kernel_rfl
theorem same_any (n e m b : Int) (hn : 0 ≤ n) (hn2 : n < 18446744073709551616) (hm : 0 ≤ m) (hm2 : m < 4294967296) (h : H) {σ : Stamp} : ev G X0 13 σ [.p (.int .u64 n), .p (.int .i64 e), .p (.int .u32 m), .p (.int .i64 b)] h = some ([.v (bV true)], h) := by
  obtain ⟨r, rfl⟩ := Int.eq_ofNat_of_zero_le hn
  exact same_ok r (by omega) e m b hm hm2
theorem wrapU64_in (x : Int) : 0 ≤ IntKind.wrap .u64 x ∧ IntKind.wrap .u64 x < 18446744073709551616 := by rw [wrapU64_eq]; omega
theorem wrapU32_in (x : Int) : 0 ≤ IntKind.wrap .u32 x ∧ IntKind.wrap .u32 x < 4294967296 := by rw [wrapU32_eq]; omega
theorem num_in (L : Layer) (i d : Nat) (hi : i < 64) : ∀ (c k : Nat) (σ : Stamp), k + c = 8 →
    cvL G X0 limelightlaw5_RateNumbers_c2 limelightlaw5_RateNumbers_l2 σ (envL [(1, .p (.int .u64 i)), (2, .p (.int .u64 d)), (13, .fz (ints bitsL) 8 1 true), (14, .p (.int .i64 8)), (15, .p (.int .i64 k))]) (L :: []) =
      some (.exit 4, envL [(1, .p (.int .u64 i)), (2, .p (.int .u64 d))], L :: []) := by
  intro c
  induction c with
  | zero =>
    intro k σ hk
    refine cvL_round ?_
    rw [limelightlaw5_RateNumbers_r2]
    have : decide ((k : Int) < 8) = false := by simp; omega
    simp only [this, cond_false]
  | succ c ih =>
    intro k σ hk
    refine cvL_round ?_
    rw [limelightlaw5_RateNumbers_r2]
    have e1 : decide ((k : Int) < 8) = true := by simp; omega
    have hb : IsInts ([] : H) (.fz (ints bitsL) 8 1 true) bitsL := lit_n bitsL 8 rfl []
    have hk8 : k < bitsL.length := by show k < 8; omega
    have hw1 : IntKind.wrap .i64 ((k : Int) + 1) = ((k + 1 : Nat) : Int) := by rw [wrap64 (by omega) (by omega)]; omega
    have hs1 : shiftV .shl .u64 1 (i : Int) = some (.p (.int .u64 (IntKind.wrap .u64 ((1 * 2 ^ i : Nat) : Int)))) := shl_ok .u64 1 i (by show i ≤ 64; omega)
    have hm : Int.tmod (i : Int) 25 = ((i % 25 : Nat) : Int) := by rw [Int.tmod_eq_emod_of_nonneg (by omega)]; omega
    have hs2 : shiftV .shl .u32 1 (Int.tmod (i : Int) 25) = some (.p (.int .u32 (IntKind.wrap .u32 ((1 * 2 ^ (i % 25) : Nat) : Int)))) := by rw [hm]; exact shl_ok .u32 1 (i % 25) (by show i % 25 ≤ 32; omega)
    simp only [e1, cond_true, hb.idx hk8, Option.bind_some, hb.rd hk8 L, castI_p, hs1, hs2]
    rw [callO_1 (same_any _ _ _ _ (wrapU64_in _).1 (wrapU64_in _).2 (wrapU32_in _).1 (wrapU32_in _).2 _)]
    simp only [Option.bind_some, asB_p, Bool.not_true, cond_false]
    rw [callO_1 (same_any _ _ _ _ (wrapU64_in _).1 (wrapU64_in _).2 (by omega) (by omega) _)]
    simp only [Option.bind_some, asB_p, Bool.not_true, cond_false, hw1]
    exact ih (k + 1) (1 :: σ) (by omega)
/-- The middle loop, from d on: it goes through. -/
theorem num_d (L : Layer) (i : Nat) (hi : i < 64) : ∀ (c d : Nat) (σ : Stamp), d + c = 3 →
    cvL G X0 limelightlaw5_RateNumbers_c1 limelightlaw5_RateNumbers_l1 σ (envL [(1, .p (.int .u64 i)), (2, .p (.int .u64 d))]) (L :: []) = some (.exit 2, envL [(1, .p (.int .u64 i))], L :: []) := by
  intro c
  induction c with
  | zero =>
    intro d σ hd
    refine cvL_round ?_
    rw [limelightlaw5_RateNumbers_r1]
    have : decide ((d : Int) < 3) = false := by simp; omega
    simp only [this, cond_false]
  | succ c ih =>
    intro d σ hd
    refine cvL_round ?_
    rw [limelightlaw5_RateNumbers_r1]
    have e1 : decide ((d : Int) < 3) = true := by simp; omega
    have hl : lenO (.fz (ints bitsL) 8 1 true) = some (.p (.int .i64 8)) := (lit_n bitsL 8 rfl []).lenO
    have hin := num_in L i d hi 8 0
    rw [show ((0 : Nat) : Int) = 0 from rfl] at hin
    simp only [e1, cond_true, lit8, Option.bind_some, hl, castI_p]
    rw [hin _ rfl]
    simp only [Option.bind_some]
    rw [limelightlaw5_RateNumbers_a2_4]
    have hw1 : IntKind.wrap .u64 ((d : Int) + 1) = ((d + 1 : Nat) : Int) := by
      have := wrapU64_lt (n := d + 1) (by omega); simpa using this
    rw [hw1]
    exact ih (d + 1) (1 :: σ) (by omega)
theorem num_i (L : Layer) : ∀ (c i : Nat) (σ : Stamp), i + c = 64 →
    cvL G X0 limelightlaw5_RateNumbers_c0 limelightlaw5_RateNumbers_l0 σ (envL [(1, .p (.int .u64 i))]) (L :: []) = some (.exit 0, envL [], L :: []) := by
  intro c
  induction c with
  | zero =>
    intro i σ hi
    refine cvL_round ?_
    rw [limelightlaw5_RateNumbers_r0]
    have : decide ((i : Int) < 64) = false := by simp; omega
    simp only [this, cond_false]
  | succ c ih =>
    intro i σ hi
    refine cvL_round ?_
    rw [limelightlaw5_RateNumbers_r0]
    have e1 : decide ((i : Int) < 64) = true := by simp; omega
    have hd := num_d L i (by omega) 3 0
    rw [show ((0 : Nat) : Int) = 0 from rfl] at hd
    simp only [e1, cond_true]
    rw [hd _ rfl]
    simp only [Option.bind_some]
    rw [limelightlaw5_RateNumbers_a1_2]
    have hw1 : IntKind.wrap .u64 ((i : Int) + 1) = ((i + 1 : Nat) : Int) := by
      have := wrapU64_lt (n := i + 1) (by omega); simpa using this
    rw [hw1]
    exact ih (i + 1) (1 :: σ) (by omega)
theorem numbers_ok : ev G X0 3 [] [] [] = some ([.v (bV true)], []) := by
  refine ev_cv rfl ?_
  rw [limelightlaw5_RateNumbers_entry]
  have hi := num_i (List.replicate 55 []) 64 0
  rw [show ((0 : Nat) : Int) = 0 from rfl] at hi
  rw [hi _ rfl]
  simp only [Option.bind_some]
  rw [limelightlaw5_RateNumbers_a0_0, callO_1 (same_any 18446744073709551615 64 4294967295 24 (by omega) (by omega) (by omega) (by omega) _)]
  simp only [Option.bind_some, asB_p, cond_true]
  rw [callO_1 (same_any 0 (-1) 0 1 (by omega) (by omega) (by omega) (by omega) _)]
  simp only [Option.bind_some, asB_p, cond_true]
  rw [callO_1 known_ok]
  simp only [Option.bind_some, asB_p, fin_1 (still_bool _)]
end Go.Ev.Rate
