/- RateDown: a rate written in few bits is no more than it was, more than its half, stays when it is written again, and rises with what is written; for every rate and every number of bits. No conditions. -/
import Derived.Test.YtlceiaanagijjaaPRateDownx2
import Derived.Test.YtlceiaanagijjaaRateMath
namespace Go.Proofs.Ytlceiaanagijjaa.Pure
open Go.RowKit Go.Proofs.Ytlceiaanagijjaa.PRateDown Go.Proofs.YtlceiaanagijjaaW.PrintWords Go.Proofs.YtlceiaanagijjaaW.PrintLast
open RateMath Go.Proofs.YtlceiaanagijjaaW.PrintMore
namespace RateDownFacts

theorem may_ok {b : Int} (h1 : 1 ≤ b) (h2 : b ≤ 24) : rate_may.f b = some true := by
  unfold rate_may.f; rw [if_pos h1]; simp [h2]
theorem u64_id {x : Int} (h0 : 0 ≤ x) (h : x < 18446744073709551616) : IntKind.u64.wrap x = x := by
  have e : (2 : Int) ^ IntKind.u64.bits = 18446744073709551616 := by decide
  have s : IntKind.u64.signed = false := rfl
  unfold IntKind.wrap; simp only [e, s, Bool.false_and, Bool.false_eq_true, if_false]; omega
theorem pow_cast (j : Nat) : ((2 ^ j : Nat) : Int) = (2 : Int) ^ j := by simp
theorem shr_nat (n j : Nat) (h : j ≤ 64) : shr .u64 (n : Int) (j : Int) = ((n / 2 ^ j : Nat) : Int) := by
  unfold shr
  rw [Int.toNat_natCast, show IntKind.bits .u64 = 64 from rfl, Nat.min_eq_left h, Int.natCast_ediv, pow_cast]
theorem shl_nat (n j : Nat) (h : j ≤ 64) (hn : n * 2 ^ j < 18446744073709551616) : shl .u64 (n : Int) (j : Int) = ((n * 2 ^ j : Nat) : Int) := by
  unfold shl
  rw [Int.toNat_natCast, show IntKind.bits .u64 = 64 from rfl, Nat.min_eq_left h, ← pow_cast, ← Int.natCast_mul, u64_id (by omega) (by omega)]
theorem wrap_few {e : Int} (h0 : 0 ≤ e) (h : e < 100000) : wrap64 e = e := by unfold wrap64; omega
theorem p24 {n b : Nat} (hb : b ≤ 24) (h : n < 2 ^ b) : n < 16777216 :=
  Nat.lt_of_lt_of_le h (Nat.pow_le_pow_right (by decide : 0 < 2) hb)

theorem pack_l0 (b : Nat) (hb : b ≤ 24) (d : Nat) : ∀ (k n e : Nat), n < 2 ^ (b + d) → e + d ≤ 900 → d < k →
    ∃ j, j ≤ d ∧ rate_Pack.l0 k (n : Int) (b : Int) (e : Int) = some (((e + j : Nat) : Int), ((n / 2 ^ j : Nat) : Int)) ∧ IsExp b n j := by
  induction d with
  | zero =>
    intro k n e hn he hk
    obtain ⟨k, rfl⟩ : ∃ m, k = m + 1 := ⟨k - 1, by omega⟩
    refine ⟨0, Nat.le_refl _, ?_, by simpa using hn, .inl rfl⟩
    have h24 := p24 hb (by simpa using hn)
    simp only [rate_Pack.l0]
    rw [if_pos (by omega), shr_nat n b (by omega), Nat.div_eq_of_lt (by simpa using hn), if_neg (by simp)]
    simp; omega
  | succ d ih =>
    intro k n e hn he hk
    obtain ⟨k, rfl⟩ : ∃ m, k = m + 1 := ⟨k - 1, by omega⟩
    simp only [rate_Pack.l0]
    rw [if_pos (by omega : (0 : Int) ≤ (b : Int)), shr_nat n b (by omega)]
    by_cases h : 2 ^ b ≤ n
    · have hd : 0 < n / 2 ^ b := Nat.div_pos h (Nat.pow_pos (by decide))
      rw [if_pos (by omega)]
      have h2 : n / 2 < 2 ^ (b + d) := by
        have : 2 ^ (b + (d + 1)) = 2 ^ (b + d) * 2 := by rw [← Nat.pow_succ]; rfl
        omega
      obtain ⟨j, hj, hr, hx⟩ := ih k (n / 2) (e + 1) h2 (by omega) (by omega)
      refine ⟨j + 1, by omega, ?_, ?_, .inr ?_⟩
      · rw [wrap_few (by omega) (by omega), show ((n : Int) / 2) = ((n / 2 : Nat) : Int) by omega, show ((e : Int) + 1) = ((e + 1 : Nat) : Int) by omega, hr, Nat.div_div_eq_div_mul, Nat.pow_succ, Nat.mul_comm 2 (2 ^ j)]
        congr 3; omega
      · have := hx.1; rw [Nat.div_div_eq_div_mul, ← Nat.pow_succ'] at this; exact this
      · rcases hx.2 with h0 | h0
        · subst h0; simpa using h
        · rw [Nat.div_div_eq_div_mul, ← Nat.pow_succ'] at h0
          rcases Nat.eq_zero_or_pos j with z | z
          · subst z; simpa using h
          · rwa [show j + 1 - 1 = j - 1 + 1 by omega]
    · have hn' : n < 2 ^ b := by omega
      rw [Nat.div_eq_of_lt hn', if_neg (by simp)]
      have h24 := p24 hb hn'
      refine ⟨0, by omega, ?_, by simpa using hn', .inl rfl⟩
      simp; omega

/-- What Pack answers. -/
theorem pack_f (b n : Nat) (h1 : 1 ≤ b) (hb : b ≤ 24) (hn : n < 18446744073709551616) (k : Nat) (hk : 64 < k) :
    ∃ j : Nat, j ≤ 63 ∧ rate_Pack.f k (n : Int) (b : Int) = some ((j : Int), ((n / 2 ^ j : Nat) : Int)) ∧ IsExp b n j := by
  have hlt : n < 2 ^ (b + 63) := Nat.lt_of_lt_of_le hn (Nat.le_trans (show 18446744073709551616 ≤ 2 ^ 64 by decide) (Nat.pow_le_pow_right (by decide) (by omega)))
  obtain ⟨j, hj, hr, hx⟩ := pack_l0 b hb 63 k n 0 hlt (by omega) (by omega)
  refine ⟨j, hj, ?_, hx⟩
  unfold rate_Pack.f
  rw [may_ok (by omega) (by omega)]
  simp only [Option.bind_some, if_true]
  simpa using hr

theorem shr32_zero (m b : Nat) (hb : b ≤ 24) (hm : m < 2 ^ b) : shr .u32 (m : Int) (b : Int) = 0 := by
  unfold shr
  rw [Int.toNat_natCast, show IntKind.bits .u32 = 32 from rfl, Nat.min_eq_left (by omega), ← pow_cast, ← Int.natCast_ediv, Nat.div_eq_of_lt hm]; rfl

/-- What Open answers where nothing runs over. -/
theorem open_f (b m j : Nat) (h1 : 1 ≤ b) (hb : b ≤ 24) (hj : j ≤ 63) (hm : m < 2 ^ b) (hn : m * 2 ^ j < 18446744073709551616) (k : Nat) (hk : 0 < k) :
    rate_Open.f k (j : Int) (m : Int) (b : Int) = some ((m * 2 ^ j : Nat) : Int) := by
  obtain ⟨k, rfl⟩ : ∃ m, k = m + 1 := ⟨k - 1, by omega⟩
  have h24 := p24 hb hm
  unfold rate_Open.f
  rw [may_ok (by omega) (by omega)]
  simp only [Option.bind_some, if_true]
  rw [if_neg (by omega), if_neg (by omega), if_pos (by omega), shr32_zero m b hb hm]
  simp only [rate_Open.j0, gt_iff_lt, Int.lt_irrefl, decide_false, Bool.false_eq_true, if_false]
  rw [if_pos (by omega), u64_id (by omega) (by omega), shl_nat m j (by omega) hn, shr_nat _ j (by omega), Nat.mul_div_cancel _ (Nat.pow_pos (by decide)), if_pos rfl]

theorem down_f (b n : Nat) (h1 : 1 ≤ b) (hb : b ≤ 24) (hn : n < 18446744073709551616) (k : Nat) (hk : 64 < k) {j : Nat} (hj : IsExp b n j) :
    rate_Down.f k (n : Int) (b : Int) = some ((n / 2 ^ j * 2 ^ j : Nat) : Int) := by
  obtain ⟨i, hi, hr, hx⟩ := pack_f b n h1 hb hn k hk
  obtain rfl := hj.uniq hx
  unfold rate_Down.f
  rw [hr]
  simp only [Option.bind_some]
  rw [open_f b _ j h1 hb hi hx.1 (Nat.lt_of_le_of_lt (down_le n j) hn) k (by omega)]
  rfl

theorem known_f (k : Nat) (hk : 64 < k) : limelightlaw5_known.f k = some true := by
  have p := pack_f 18 262144 (by decide) (by decide) (by decide) k hk
  obtain ⟨j, _, hp, hx⟩ := p
  obtain rfl : j = 1 := hx.uniq ⟨by decide, .inr (by decide)⟩
  have d := down_f 2 5 (by decide) (by decide) (by decide) k hk (j := 1) ⟨by decide, .inr (by decide)⟩
  have o := open_f 2 3 2 (by decide) (by decide) (by decide) (by decide) (by decide) k (by omega)
  unfold limelightlaw5_known.f
  have e1 : rate_Pack.f k 262144 18 = some (1, 131072) := by simpa using hp
  have e2 : rate_Down.f k 5 2 = some 4 := by simpa using d
  have e3 : rate_Open.f k 2 3 2 = some 12 := by simpa using o
  have e4 : rate_Open.f k 64 1 18 = some 0 := by
    obtain ⟨k, rfl⟩ : ∃ m, k = m + 1 := ⟨k - 1, by omega⟩
    unfold rate_Open.f; rw [may_ok (by decide) (by decide)]; simp only [Option.bind_some, if_true]
    rw [if_neg (by decide), if_pos (by decide)]; simp [rate_Open.j0]
  have e5 : rate_Open.f k 63 2 18 = some 18446744073709551615 := by
    obtain ⟨k, rfl⟩ : ∃ m, k = m + 1 := ⟨k - 1, by omega⟩
    unfold rate_Open.f; rw [may_ok (by decide) (by decide)]; simp only [Option.bind_some, if_true]
    rw [if_neg (by decide), if_neg (by decide), if_pos (by decide)]
    simp only [rate_Open.j0]
    decide
  have e6 : rate_Bytes.f 17 = some 2 := by decide +kernel
  have e7 : rate_Bytes.f 9223372036854775808 = some 1099511627776 := by decide +kernel
  rw [e1, e2, e3, e4, e5, e6, e7]
  simp
end RateDownFacts
open RateDownFacts

theorem u64_of {a : Int} (h : (Lit.int .u64 a).wf = true) : 0 ≤ a ∧ a < 18446744073709551616 := by
  have e : IntKind.u64.min = 0 := by decide
  have f : IntKind.u64.max = 18446744073709551615 := by decide
  simp only [Lit.wf, e, f, Bool.and_eq_true, decide_eq_true_eq] at h; omega
theorem within (x : Int) : ∃ b : Nat, 1 ≤ b ∧ b ≤ 24 ∧ wrap64 (1 + Int.tmod (wrap64 (Int.tmod x 24 + 24)) 24) = (b : Int) := by
  have e := Int.tmod_eq_emod (a := x) (b := 24)
  have h : -24 < Int.tmod x 24 ∧ Int.tmod x 24 < 24 := by
    rw [e]; split <;> simp <;> omega
  rw [wrap_few (e := Int.tmod x 24 + 24) (by omega) (by omega)]
  have hy : 0 ≤ Int.tmod x 24 + 24 := by omega
  generalize Int.tmod x 24 + 24 = y at *
  rw [Int.tmod_eq_emod_of_nonneg hy]
  refine ⟨(1 + y % 24).toNat, by omega, by omega, ?_⟩
  rw [wrap_few (by omega) (by omega)]; omega

theorem RateDown : limelightlaw5_RateDown.Pure := by
  intro a0 a1 a2 w0 w1 w2
  obtain ⟨ra0, ra1⟩ := u64_of w0
  obtain ⟨rb0, rb1⟩ := u64_of w1
  obtain ⟨b, hb1, hb2, hb⟩ := within a2
  obtain ⟨a, rfl⟩ := Int.eq_ofNat_of_zero_le ra0
  obtain ⟨c, rfl⟩ := Int.eq_ofNat_of_zero_le rb0
  have ha : a < 18446744073709551616 := by omega
  have hc : c < 18446744073709551616 := by omega
  refine ⟨100, ?_⟩
  obtain ⟨j, hj, hp, hx⟩ := pack_f b a hb1 hb2 ha 100 (by decide)
  obtain ⟨i, hi, hq, hy⟩ := pack_f b c hb1 hb2 hc 100 (by decide)
  have d1 := down_f b a hb1 hb2 ha 100 (by decide) hx
  have d2 := down_f b c hb1 hb2 hc 100 (by decide) hy
  have le := down_le a j
  have d3 := down_f b (a / 2 ^ j * 2 ^ j) hb1 hb2 (by omega) 100 (by decide) (hx.down hb1)
  rw [Nat.mul_div_cancel _ (Nat.pow_pos (by decide))] at d3
  have o := open_f b (a / 2 ^ j) j hb1 hb2 hj hx.1 (by omega) 100 (by decide)
  have hr := rest_lt a j
  have hz := hx.zero_iff
  have hh := fun h => hx.half (n := a) hb1 h
  have hm := fun h : a ≤ c => IsExp.downMono hb1 h hx hy
  have kn := known_f 100 (by decide)
  have j64 : (2 : Nat) ^ j ≤ 2 ^ 63 := Nat.pow_le_pow_right (by decide) hj
  have b24 : (2 : Nat) ^ b ≤ 2 ^ 24 := Nat.pow_le_pow_right (by decide) hb2
  have s1 : shl .u64 1 (IntKind.u64.wrap (j : Int)) = ((2 ^ j : Nat) : Int) := by
    rw [u64_id (by omega) (by omega)]; have := shl_nat 1 j (by omega) (by omega); simpa using this
  have s2 : shl .u64 1 (IntKind.u64.wrap (b : Int)) = ((2 ^ b : Nat) : Int) := by
    rw [u64_id (by omega) (by omega)]; have := shl_nat 1 b (by omega) (by omega); simpa using this
  unfold limelightlaw5_RateDown.f
  rw [hb, d1, d2, hp]
  simp only [Option.bind_some, d3, o, kn, s1, s2]
  generalize a / 2 ^ j * 2 ^ j = x at *
  generalize c / 2 ^ i * 2 ^ i = y at *
  have hu : (Int.tdiv (a : Int) 2) = ((a / 2 : Nat) : Int) := rfl
  rw [hu, u64_id (x := ((a / 2 : Nat) : Int)) (by omega) (by omega), u64_id (x := (a : Int) - x) (by omega) (by omega), u64_id (x := (j : Int)) (by omega) (by omega), u64_id (x := (b : Int)) (by omega) (by omega)]
  have hd : (decide ((a : Int) < ((2 ^ b : Nat) : Int)) == ((j : Int) == 0)) = true := by
    by_cases h : a < 2 ^ b
    · have := hz.1 h; subst this
      have h' : (a : Int) < ((2 ^ b : Nat) : Int) := by omega
      rw [decide_eq_true h']; rfl
    · have h1 : j ≠ 0 := fun e => h (hz.2 e)
      have h' : ¬ (a : Int) < ((2 ^ b : Nat) : Int) := by omega
      have h2 : ((j : Int) == 0) = false := by simpa using h1
      rw [decide_eq_false h', h2]; rfl
  rw [hd]
  rw [if_pos (by omega : (x : Int) ≤ a)]
  have f1 : (a : Int) - x < ((2 ^ j : Nat) : Int) := by omega
  have f2 : (0 : Int) ≤ (j : Int) := by omega
  have f3 : (0 : Int) ≤ (b : Int) := by omega
  by_cases hza : (a : Int) = 0
  · rw [if_pos hza]
    by_cases hac : (a : Int) > c
    · rw [if_pos hac]; simp only [if_true, if_pos f1, if_pos f2, if_pos f3]
    · have := hm (by omega)
      rw [if_neg hac, if_pos (by omega : (x : Int) ≤ y)]; simp only [if_true, if_pos f1, if_pos f2, if_pos f3]
  · have := hh (by omega)
    rw [if_neg hza, if_pos (by omega)]
    by_cases hac : (a : Int) > c
    · rw [if_pos hac]; simp only [if_true, if_pos f1, if_pos f2, if_pos f3]
    · have := hm (by omega)
      rw [if_neg hac, if_pos (by omega : (x : Int) ≤ y)]; simp only [if_true, if_pos f1, if_pos f2, if_pos f3]

end Go.Proofs.Ytlceiaanagijjaa.Pure
