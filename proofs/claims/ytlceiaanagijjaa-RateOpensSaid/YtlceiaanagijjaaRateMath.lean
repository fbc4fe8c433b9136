namespace RateMath
/-- 'j' is the least exponent by which n's highest bits fit b bits. -/
def IsExp (b n j : Nat) : Prop := n / 2 ^ j < 2 ^ b ∧ (j = 0 ∨ 2 ^ b ≤ n / 2 ^ (j - 1))

theorem div_anti (n i j : Nat) (h : i ≤ j) : n / 2 ^ j ≤ n / 2 ^ i :=
  Nat.div_le_div_left (Nat.pow_le_pow_right (by decide) h) (Nat.pow_pos (by decide))

theorem IsExp.le {b n i j : Nat} (hi : IsExp b n i) (hj : n / 2 ^ j < 2 ^ b) : i ≤ j := by
  rcases Nat.lt_or_ge j i with h | h
  · rcases hi.2 with h0 | h0
    · omega
    · have := div_anti n j (i - 1) (by omega)
      omega
  · exact h

theorem IsExp.uniq {b n i j : Nat} (hi : IsExp b n i) (hj : IsExp b n j) : i = j :=
  Nat.le_antisymm (hi.le hj.1) (hj.le hi.1)

theorem IsExp.mono {b n m i j : Nat} (h : n ≤ m) (hi : IsExp b n i) (hj : IsExp b m j) : i ≤ j :=
  hi.le (Nat.lt_of_le_of_lt (Nat.div_le_div_right h) hj.1)

theorem split (n j : Nat) : n / 2 ^ j * 2 ^ j + n % 2 ^ j = n := by
  rw [Nat.mul_comm]; exact Nat.div_add_mod n (2 ^ j)

theorem down_le (n j : Nat) : n / 2 ^ j * 2 ^ j ≤ n := by have := split n j; omega
theorem rest_lt (n j : Nat) : n - n / 2 ^ j * 2 ^ j < 2 ^ j := by
  have := split n j
  have := Nat.mod_lt n (show 2 ^ j > 0 from Nat.pow_pos (by decide))
  omega

/-- With an exponent above 0 the mantissa has its highest bit. -/
theorem IsExp.big {b n j : Nat} (hb : 1 ≤ b) (h : IsExp b n j) (hj : 1 ≤ j) : 2 ^ (b - 1) ≤ n / 2 ^ j := by
  have h1 := h.2.resolve_left (by omega)
  have e : n / 2 ^ j = n / 2 ^ (j - 1) / 2 := by
    rw [Nat.div_div_eq_div_mul, ← Nat.pow_succ]; congr 2; omega
  have e2 : 2 ^ b = 2 ^ (b - 1) * 2 := by rw [← Nat.pow_succ]; congr 1; omega
  rw [e]; omega

theorem IsExp.down {b n j : Nat} (hb : 1 ≤ b) (h : IsExp b n j) : IsExp b (n / 2 ^ j * 2 ^ j) j := by
  have hp : 0 < 2 ^ j := Nat.pow_pos (by decide)
  refine ⟨by rw [Nat.mul_div_cancel _ hp]; exact h.1, ?_⟩
  rcases Nat.eq_zero_or_pos j with h0 | h0
  · exact .inl h0
  · right
    have hbig := h.big hb h0
    have e : 2 ^ j = 2 * 2 ^ (j - 1) := by rw [Nat.mul_comm, ← Nat.pow_succ]; congr 1; omega
    have e2 : 2 ^ b = 2 ^ (b - 1) * 2 := by rw [← Nat.pow_succ]; congr 1; omega
    have hp1 : 0 < 2 ^ (j - 1) := Nat.pow_pos (by decide)
    generalize n / 2 ^ j = m at *
    rw [e, show m * (2 * 2 ^ (j - 1)) = (m * 2) * 2 ^ (j - 1) by rw [Nat.mul_assoc], Nat.mul_div_cancel _ hp1, e2]
    omega

theorem IsExp.half {b n j : Nat} (hb : 1 ≤ b) (h : IsExp b n j) (hn : 0 < n) : n / 2 < n / 2 ^ j * 2 ^ j := by
  rcases Nat.eq_zero_or_pos j with h0 | h0
  · subst h0; simp; omega
  · have hbig := h.big hb h0
    have hr := rest_lt n j
    have hp : 0 < 2 ^ j := Nat.pow_pos (by decide)
    have h1 : 1 ≤ n / 2 ^ j := Nat.le_trans (Nat.pow_pos (by decide)) hbig
    have h2 : 2 ^ j ≤ n / 2 ^ j * 2 ^ j := Nat.le_mul_of_pos_left _ h1
    omega

theorem IsExp.downMono {b n m i j : Nat} (hb : 1 ≤ b) (h : n ≤ m) (hi : IsExp b n i) (hj : IsExp b m j) : n / 2 ^ i * 2 ^ i ≤ m / 2 ^ j * 2 ^ j := by
  have hij := hi.mono h hj
  rcases Nat.eq_or_lt_of_le hij with e | hlt
  · subst e; exact Nat.mul_le_mul_right _ (Nat.div_le_div_right h)
  · have hbig := hj.big hb (by omega)
    have h1 : n < 2 ^ b * 2 ^ i := by
      have := Nat.lt_mul_of_div_lt hi.1 (Nat.pow_pos (by decide : 0 < 2))
      rw [Nat.mul_comm] at this; rw [Nat.mul_comm]; omega
    have h2 : 2 ^ b * 2 ^ i ≤ 2 ^ (b - 1) * 2 ^ j := by
      rw [← Nat.pow_add, ← Nat.pow_add]; exact Nat.pow_le_pow_right (by decide) (by omega)
    have h3 : 2 ^ (b - 1) * 2 ^ j ≤ m / 2 ^ j * 2 ^ j := Nat.mul_le_mul_right _ hbig
    have h4 := down_le n i
    omega

theorem IsExp.zero_iff {b n j : Nat} (h : IsExp b n j) : n < 2 ^ b ↔ j = 0 := by
  constructor
  · intro hn
    rcases h.2 with h0 | h0
    · exact h0
    · have := Nat.div_le_self n (2 ^ (j - 1)); omega
  · rintro rfl; simpa using h.1
end RateMath
