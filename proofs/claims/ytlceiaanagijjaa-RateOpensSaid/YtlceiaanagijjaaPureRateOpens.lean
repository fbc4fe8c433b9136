/- RateOpens: an exponent more doubles a rate as long as that may be, its bytes are an eighth, and what was opened is written as it is; for every exponent and mantissa. No conditions. -/
import Derived.Test.YtlceiaanagijjaaPRateOpensx1
import Derived.Test.YtlceiaanagijjaaRateMath
namespace Go.Proofs.Ytlceiaanagijjaa.Pure
open Go.RowKit Go.Proofs.Ytlceiaanagijjaa.PRateOpens Go.Proofs.YtlceiaanagijjaaW.PrintWords Go.Proofs.YtlceiaanagijjaaW.PrintLast
open RateMath Go.Proofs.YtlceiaanagijjaaW.PrintMore
namespace RateOpensFacts

theorem may_ok {b : Int} (h1 : 1 ≤ b) (h2 : b ≤ 24) : rate_may.f b = some true := by
  unfold rate_may.f; rw [if_pos h1]; simp [h2]
theorem u64_id {x : Int} (h0 : 0 ≤ x) (h : x < 18446744073709551616) : IntKind.u64.wrap x = x := by
  have e : (2 : Int) ^ IntKind.u64.bits = 18446744073709551616 := by decide
  have s : IntKind.u64.signed = false := rfl
  unfold IntKind.wrap; simp only [e, s, Bool.false_and, Bool.false_eq_true, if_false]; omega
theorem pow_cast (j : Nat) : ((2 ^ j : Nat) : Int) = (2 : Int) ^ j := by simp
theorem shr_nat (n j : Nat) (h : j ≤ 64) : shr .u64 (n : Int) (j : Int) = ((n / 2 ^ j : Nat) : Int) := by
  unfold shr
  rw [Int.toNat_natCast, show IntKind.bits .u64 = 64 from rfl, Nat.min_eq_left h, Int.natCast_ediv, pow_cast]
theorem shl_nat (n j : Nat) (h : j ≤ 64) (hn : n * 2 ^ j < 18446744073709551616) : shl .u64 (n : Int) (j : Int) = ((n * 2 ^ j : Nat) : Int) := by
  unfold shl
  rw [Int.toNat_natCast, show IntKind.bits .u64 = 64 from rfl, Nat.min_eq_left h, ← pow_cast, ← Int.natCast_mul, u64_id (by omega) (by omega)]
theorem wrap_few {e : Int} (h0 : 0 ≤ e) (h : e < 100000) : wrap64 e = e := by unfold wrap64; omega
theorem p24 {n b : Nat} (hb : b ≤ 24) (h : n < 2 ^ b) : n < 16777216 :=
  Nat.lt_of_lt_of_le h (Nat.pow_le_pow_right (by decide : 0 < 2) hb)

theorem pack_l0 (b : Nat) (hb : b ≤ 24) (d : Nat) : ∀ (k n e : Nat), n < 2 ^ (b + d) → e + d ≤ 900 → d < k →
    ∃ j, j ≤ d ∧ rate_Pack.l0 k (n : Int) (b : Int) (e : Int) = some (((e + j : Nat) : Int), ((n / 2 ^ j : Nat) : Int)) ∧ IsExp b n j := by
  induction d with
  | zero =>
    intro k n e hn he hk
    obtain ⟨k, rfl⟩ : ∃ m, k = m + 1 := ⟨k - 1, by omega⟩
    refine ⟨0, Nat.le_refl _, ?_, by simpa using hn, .inl rfl⟩
    have h24 := p24 hb (by simpa using hn)
    simp only [rate_Pack.l0]
    rw [if_pos (by omega), shr_nat n b (by omega), Nat.div_eq_of_lt (by simpa using hn), if_neg (by simp)]
    simp; omega
  | succ d ih =>
    intro k n e hn he hk
    obtain ⟨k, rfl⟩ : ∃ m, k = m + 1 := ⟨k - 1, by omega⟩
    simp only [rate_Pack.l0]
    rw [if_pos (by omega : (0 : Int) ≤ (b : Int)), shr_nat n b (by omega)]
    by_cases h : 2 ^ b ≤ n
    · have hd : 0 < n / 2 ^ b := Nat.div_pos h (Nat.pow_pos (by decide))
      rw [if_pos (by omega)]
      have h2 : n / 2 < 2 ^ (b + d) := by
        have : 2 ^ (b + (d + 1)) = 2 ^ (b + d) * 2 := by rw [← Nat.pow_succ]; rfl
        omega
      obtain ⟨j, hj, hr, hx⟩ := ih k (n / 2) (e + 1) h2 (by omega) (by omega)
      refine ⟨j + 1, by omega, ?_, ?_, .inr ?_⟩
      · rw [wrap_few (by omega) (by omega), show ((n : Int) / 2) = ((n / 2 : Nat) : Int) by omega, show ((e : Int) + 1) = ((e + 1 : Nat) : Int) by omega, hr, Nat.div_div_eq_div_mul, Nat.pow_succ, Nat.mul_comm 2 (2 ^ j)]
        congr 3; omega
      · have := hx.1; rw [Nat.div_div_eq_div_mul, ← Nat.pow_succ'] at this; exact this
      · rcases hx.2 with h0 | h0
        · subst h0; simpa using h
        · rw [Nat.div_div_eq_div_mul, ← Nat.pow_succ'] at h0
          rcases Nat.eq_zero_or_pos j with z | z
          · subst z; simpa using h
          · rwa [show j + 1 - 1 = j - 1 + 1 by omega]
    · have hn' : n < 2 ^ b := by omega
      rw [Nat.div_eq_of_lt hn', if_neg (by simp)]
      have h24 := p24 hb hn'
      refine ⟨0, by omega, ?_, by simpa using hn', .inl rfl⟩
      simp; omega

/-- What Pack answers. -/
theorem pack_f (b n : Nat) (h1 : 1 ≤ b) (hb : b ≤ 24) (hn : n < 18446744073709551616) (k : Nat) (hk : 64 < k) :
    ∃ j : Nat, j ≤ 63 ∧ rate_Pack.f k (n : Int) (b : Int) = some ((j : Int), ((n / 2 ^ j : Nat) : Int)) ∧ IsExp b n j := by
  have hlt : n < 2 ^ (b + 63) := Nat.lt_of_lt_of_le hn (Nat.le_trans (show 18446744073709551616 ≤ 2 ^ 64 by decide) (Nat.pow_le_pow_right (by decide) (by omega)))
  obtain ⟨j, hj, hr, hx⟩ := pack_l0 b hb 63 k n 0 hlt (by omega) (by omega)
  refine ⟨j, hj, ?_, hx⟩
  unfold rate_Pack.f
  rw [may_ok (by omega) (by omega)]
  simp only [Option.bind_some, if_true]
  simpa using hr

theorem shr32_zero (m b : Nat) (hb : b ≤ 24) (hm : m < 2 ^ b) : shr .u32 (m : Int) (b : Int) = 0 := by
  unfold shr
  rw [Int.toNat_natCast, show IntKind.bits .u32 = 32 from rfl, Nat.min_eq_left (by omega), ← pow_cast, ← Int.natCast_ediv, Nat.div_eq_of_lt hm]; rfl

/-- What Open answers where nothing runs over. -/
theorem open_f (b m j : Nat) (h1 : 1 ≤ b) (hb : b ≤ 24) (hj : j ≤ 63) (hm : m < 2 ^ b) (hn : m * 2 ^ j < 18446744073709551616) (k : Nat) (hk : 0 < k) :
    rate_Open.f k (j : Int) (m : Int) (b : Int) = some ((m * 2 ^ j : Nat) : Int) := by
  obtain ⟨k, rfl⟩ : ∃ m, k = m + 1 := ⟨k - 1, by omega⟩
  have h24 := p24 hb hm
  unfold rate_Open.f
  rw [may_ok (by omega) (by omega)]
  simp only [Option.bind_some, if_true]
  rw [if_neg (by omega), if_neg (by omega), if_pos (by omega), shr32_zero m b hb hm]
  simp only [rate_Open.j0, gt_iff_lt, Int.lt_irrefl, decide_false, Bool.false_eq_true, if_false]
  rw [if_pos (by omega), u64_id (by omega) (by omega), shl_nat m j (by omega) hn, shr_nat _ j (by omega), Nat.mul_div_cancel _ (Nat.pow_pos (by decide)), if_pos rfl]

theorem down_f (b n : Nat) (h1 : 1 ≤ b) (hb : b ≤ 24) (hn : n < 18446744073709551616) (k : Nat) (hk : 64 < k) {j : Nat} (hj : IsExp b n j) :
    rate_Down.f k (n : Int) (b : Int) = some ((n / 2 ^ j * 2 ^ j : Nat) : Int) := by
  obtain ⟨i, hi, hr, hx⟩ := pack_f b n h1 hb hn k hk
  obtain rfl := hj.uniq hx
  unfold rate_Down.f
  rw [hr]
  simp only [Option.bind_some]
  rw [open_f b _ j h1 hb hi hx.1 (Nat.lt_of_le_of_lt (down_le n j) hn) k (by omega)]
  rfl

theorem known_f (k : Nat) (hk : 64 < k) : limelightlaw5_known.f k = some true := by
  have p := pack_f 18 262144 (by decide) (by decide) (by decide) k hk
  obtain ⟨j, _, hp, hx⟩ := p
  obtain rfl : j = 1 := hx.uniq ⟨by decide, .inr (by decide)⟩
  have d := down_f 2 5 (by decide) (by decide) (by decide) k hk (j := 1) ⟨by decide, .inr (by decide)⟩
  have o := open_f 2 3 2 (by decide) (by decide) (by decide) (by decide) (by decide) k (by omega)
  unfold limelightlaw5_known.f
  have e1 : rate_Pack.f k 262144 18 = some (1, 131072) := by simpa using hp
  have e2 : rate_Down.f k 5 2 = some 4 := by simpa using d
  have e3 : rate_Open.f k 2 3 2 = some 12 := by simpa using o
  have e4 : rate_Open.f k 64 1 18 = some 0 := by
    obtain ⟨k, rfl⟩ : ∃ m, k = m + 1 := ⟨k - 1, by omega⟩
    unfold rate_Open.f; rw [may_ok (by decide) (by decide)]; simp only [Option.bind_some, if_true]
    rw [if_neg (by decide), if_pos (by decide)]; simp [rate_Open.j0]
  have e5 : rate_Open.f k 63 2 18 = some 18446744073709551615 := by
    obtain ⟨k, rfl⟩ : ∃ m, k = m + 1 := ⟨k - 1, by omega⟩
    unfold rate_Open.f; rw [may_ok (by decide) (by decide)]; simp only [Option.bind_some, if_true]
    rw [if_neg (by decide), if_neg (by decide), if_pos (by decide)]
    simp only [rate_Open.j0]
    decide
  have e6 : rate_Bytes.f 17 = some 2 := by decide +kernel
  have e7 : rate_Bytes.f 9223372036854775808 = some 1099511627776 := by decide +kernel
  rw [e1, e2, e3, e4, e5, e6, e7]
  simp
end RateOpensFacts
open RateOpensFacts

theorem and_mask (k : IntKind) (i : Nat) (hi : i < k.bits) (x : Int) : Go.bits .and k x (2 ^ i - 1) = x % 2 ^ i := by
  have hp : (0 : Int) < 2 ^ i := Int.pow_pos (by decide)
  have hpn : 0 < 2 ^ i := Nat.pow_pos (by decide : 0 < 2)
  have e1 : ((BitVec.ofInt k.bits x &&& BitVec.ofInt k.bits (2 ^ i - 1)).toNat : Int) = x % 2 ^ i := by
    rw [BitVec.toNat_and, BitVec.toNat_ofInt, BitVec.toNat_ofInt]
    have hlt : (2 : Nat) ^ i < 2 ^ k.bits := Nat.pow_lt_pow_right (by decide) hi
    have c1 : ((2 ^ k.bits : Nat) : Int) = 2 ^ k.bits := by simp
    have c2 : ((2 ^ i : Nat) : Int) = 2 ^ i := by simp
    have e2 : (((2 : Int) ^ i - 1) % ((2 ^ k.bits : Nat) : Int)).toNat = 2 ^ i - 1 := by
      rw [Int.emod_eq_of_lt (by omega) (by omega)]; omega
    rw [e2, Nat.and_two_pow_sub_one_eq_mod]
    have h0 : 0 ≤ x % ((2 ^ k.bits : Nat) : Int) := Int.emod_nonneg _ (by omega)
    rw [Int.natCast_emod, Int.toNat_of_nonneg h0, c2]
    refine Int.emod_emod_of_dvd x ?_
    rw [c1, ← c2]
    have : k.bits = i + (k.bits - i) := by omega
    rw [this, Int.pow_add, c2]
    exact ⟨_, rfl⟩
  have hm : 0 ≤ x % 2 ^ i ∧ x % 2 ^ i < 2 ^ i := ⟨Int.emod_nonneg _ (by omega), Int.emod_lt_of_pos _ hp⟩
  unfold Go.bits
  show k.wrap ((BitVec.ofInt k.bits x &&& BitVec.ofInt k.bits (2 ^ i - 1)).toNat : Int) = _
  rw [e1]
  have hle : (2 : Int) ^ i ≤ 2 ^ (k.bits - 1) := by
    have h : (2 : Nat) ^ i ≤ 2 ^ (k.bits - 1) := Nat.pow_le_pow_right (by decide) (by omega)
    rw [← pow_cast, ← pow_cast]; omega
  have hlt : (2 : Int) ^ (k.bits - 1) < 2 ^ k.bits := by
    have h : (2 : Nat) ^ (k.bits - 1) < 2 ^ k.bits := Nat.pow_lt_pow_right (by decide) (by omega)
    rw [← pow_cast, ← pow_cast]; omega
  unfold IntKind.wrap
  simp only
  rw [Int.emod_eq_of_lt hm.1 (by omega), if_neg]
  simp; intro _; omega

theorem bytes_f (n : Nat) : rate_Bytes.f (n : Int) = some (wrap64 (mn (IntKind.u64.wrap (Int.tdiv (n : Int) 8)) 1099511627776)) := rfl

theorem RateOpens : limelightlaw5_RateOpens.Pure := by
  intro a0 a1 w0 w1
  have m0 := and_mask .i64 5 (by decide) a0
  have m1 := and_mask .u32 18 (by decide) a1
  rw [show (2 : Int) ^ 5 - 1 = 31 by decide] at m0
  rw [show (2 : Int) ^ 18 - 1 = 262143 by decide] at m1
  have r0 := Int.emod_nonneg a0 (show (2 : Int) ^ 5 ≠ 0 by decide)
  have r1 := Int.emod_lt_of_pos a0 (show (0 : Int) < 2 ^ 5 by decide)
  have q0 := Int.emod_nonneg a1 (show (2 : Int) ^ 18 ≠ 0 by decide)
  have q1 := Int.emod_lt_of_pos a1 (show (0 : Int) < 2 ^ 18 by decide)
  rw [show (2 : Int) ^ 5 = 32 by decide] at r0 r1 m0
  rw [show (2 : Int) ^ 18 = 262144 by decide] at q0 q1 m1
  refine ⟨100, ?_⟩
  unfold limelightlaw5_RateOpens.f
  rw [m0, m1, wrap_few (by omega) (by omega)]
  obtain ⟨m, hm⟩ := Int.eq_ofNat_of_zero_le q0
  obtain ⟨e, he⟩ := Int.eq_ofNat_of_zero_le (show 0 ≤ a0 % 32 by omega)
  rw [hm] at q0 q1 ⊢
  rw [he] at r0 r1 ⊢
  have hm1 : m < 2 ^ 18 := by omega
  have he1 : e < 32 := by omega
  have pe : (2 : Nat) ^ e ≤ 2 ^ 31 := Nat.pow_le_pow_right (by decide) (by omega)
  have pm : m * 2 ^ e ≤ 262144 * 2 ^ 31 := Nat.mul_le_mul (by omega) pe
  have ps : m * 2 ^ (e + 1) = 2 * (m * 2 ^ e) := by rw [Nat.pow_succ, Nat.mul_comm 2 (m * 2 ^ e), Nat.mul_assoc]
  have o1 := open_f 18 m (e + 1) (by decide) (by decide) (by omega) hm1 (by omega) 100 (by decide)
  have o2 := open_f 18 m e (by decide) (by decide) (by omega) hm1 (by omega) 99 (by decide)
  rw [show ((18 : Nat) : Int) = 18 from rfl] at o1 o2
  have hce : (1 : Int) + (e : Int) = ((e + 1 : Nat) : Int) := by omega
  rw [hce, o1]
  have key : ∀ less : Int, (if (m : Int) ≥ 131072 then less = 0 else less = ((m * 2 ^ (e + 1) : Nat) : Int)) → limelightlaw5_RateOpens.j0 100 ((e + 1 : Nat) : Int) (m : Int) ((m * 2 ^ (e + 1) : Nat) : Int) less = some true := by
    intro less hless
    have o3 : rate_Open.f 99 ((e + 1 : Nat) : Int) (m : Int) 17 = some less := by
      by_cases h : m < 2 ^ 17
      · have := open_f 17 m (e + 1) (by decide) (by decide) (by omega) h (by omega) 99 (by decide)
        rw [if_neg (by omega)] at hless
        rw [hless]; exact this
      · rw [if_pos (by omega)] at hless
        subst hless
        unfold rate_Open.f
        rw [may_ok (by decide) (by decide)]
        simp only [Option.bind_some, if_true]
        have hs : shr .u32 (m : Int) 17 > 0 := by
          unfold shr
          rw [show min (Int.toNat 17) (IntKind.bits .u32) = 17 by decide, show (2 : Int) ^ 17 = 131072 by decide]; omega
        rw [if_neg (by omega), if_neg (by omega), if_pos (by decide), decide_eq_true hs]
        simp [rate_Open.j0]
    have d : rate_Down.f 99 ((m * 2 ^ (e + 1) : Nat) : Int) 18 = some ((m * 2 ^ (e + 1) : Nat) : Int) := by
      obtain ⟨j, hj, hp, hx⟩ := pack_f 18 (m * 2 ^ (e + 1)) (by decide) (by decide) (by omega) 99 (by decide)
      have hle : j ≤ e + 1 := hx.le (by rw [Nat.mul_div_cancel _ (Nat.pow_pos (by decide))]; exact hm1)
      have hd := down_f 18 (m * 2 ^ (e + 1)) (by decide) (by decide) (by omega) 99 (by decide) hx
      have hdiv : 2 ^ j ∣ m * 2 ^ (e + 1) := Nat.dvd_trans (Nat.pow_dvd_pow 2 hle) (Nat.dvd_mul_left _ _)
      rwa [Nat.div_mul_cancel hdiv] at hd
    have kn := known_f 99 (by decide)
    simp only [limelightlaw5_RateOpens.j0]
    rw [wrap_few (by omega) (by omega), show ((e + 1 : Nat) : Int) - 1 = (e : Int) by omega, o2]
    simp only [Option.bind_some]
    rw [u64_id (by omega) (by omega), if_pos (by omega), o3]
    simp only [Option.bind_some, if_true]
    rw [bytes_f]
    simp only [Option.bind_some, if_true]
    rw [d]
    simp only [Option.bind_some, if_true, kn]
  simp only [Option.bind_some]
  by_cases h : (m : Int) ≥ 131072
  · rw [if_pos h]; exact key 0 (by rw [if_pos h])
  · rw [if_neg h]; exact key _ (by rw [if_neg h])

end Go.Proofs.Ytlceiaanagijjaa.Pure
