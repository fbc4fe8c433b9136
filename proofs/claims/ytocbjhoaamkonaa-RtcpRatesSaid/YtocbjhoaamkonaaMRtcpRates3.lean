/- A part of the proof that follows: A rate that is not written in its shortest form is read as it is. -/
import Derived.Test.YtocbjhoaamkonaaMRtcpRates2
namespace Go.Ev
set_option maxRecDepth 100000
theorem shr_p (k : IntKind) (a b : Nat) (hb : b ≤ k.bits) : shP .shr k (a : Int) (b : Int) = some ((a / 2 ^ b : Nat) : Int) := by
  unfold shP
  rw [if_neg (by omega)]
  have : min (((b : Nat) : Int).toNat) k.bits = b := by rw [Int.toNat_natCast]; omega
  simp only [this, fdiv_nat]
theorem shl_p64 (a b : Nat) (hb : b ≤ 64) : shP .shl .u64 (a : Int) (b : Int) = some ((a * 2 ^ b % 2 ^ 64 : Nat) : Int) := by
  unfold shP
  rw [if_neg (by omega)]
  have : min (((b : Nat) : Int).toNat) IntKind.u64.bits = b := by rw [Int.toNat_natCast]; show min b 64 = b; omega
  simp only [this]
  rw [show ((a : Int) * 2 ^ b) = ((a * 2 ^ b : Nat) : Int) by rw [Int.natCast_mul, Int.natCast_pow]; rfl, wrapU64_nat]
theorem shl_p32 (a b : Nat) (hb : b ≤ 32) : shP .shl .u32 (a : Int) (b : Int) = some ((a * 2 ^ b % 2 ^ 32 : Nat) : Int) := by
  unfold shP
  rw [if_neg (by omega)]
  have : min (((b : Nat) : Int).toNat) IntKind.u32.bits = b := by rw [Int.toNat_natCast]; show min b 32 = b; omega
  simp only [this]
  rw [show ((a : Int) * 2 ^ b) = ((a * 2 ^ b : Nat) : Int) by rw [Int.natCast_mul, Int.natCast_pow]; rfl, wrapU32_nat]
/-- A mantissa and an exponent that fit. -/
structure FR (b e m : Nat) : Prop where
  hm : m < 2 ^ b
  he : e ≤ 63
  hn : m * 2 ^ e < 2 ^ 64
structure NR (b e m : Nat) : Prop extends FR b e m where
  hz : 0 < e → 2 ^ (b - 1) ≤ m
def okRate (b : Nat) (n : Int) : Prop := ∃ e m, NR b e m ∧ n = ((m * 2 ^ e : Nat) : Int)
theorem may_ok {b : Nat} (h1 : 1 ≤ b) (h2 : b ≤ 24) : p_rate_may (b : Int) = some true := by
  unfold p_rate_may
  have d1 : decide ((b : Int) ≥ 1) = true := decide_eq_true (by omega)
  have d2 : decide ((b : Int) ≤ 24) = true := decide_eq_true (by omega)
  rw [d1, d2]; rfl
theorem pow24 {b : Nat} (h2 : b ≤ 24) : 2 ^ b ≤ 16777216 := Nat.pow_le_pow_right (n := 2) (by omega) h2
theorem packN_l0 {β : Type} (kE0 : Int → Int → Option β) {b m : Nat} (h1 : 1 ≤ b) (h2 : b ≤ 24) (hm : m < 2 ^ b) : ∀ (e j c : Nat), (0 < e → 2 ^ (b - 1) ≤ m) → c + e < 1000 →
    p_rate_Pack_l0 (j + e + 1) kE0 ((m * 2 ^ e : Nat) : Int) (b : Int) (c : Int) = kE0 (m : Int) ((c + e : Nat) : Int)
  | 0, j, c, _, _ => by
    rw [p_rate_Pack_l0, shr_p _ _ _ (by show b ≤ 64; omega), Option.bind_some, Nat.pow_zero, Nat.mul_one, Nat.div_eq_of_lt hm]
    rfl
  | e + 1, j, c, hz, hc => by
    rw [show j + (e + 1) + 1 = (j + e + 1) + 1 from rfl, p_rate_Pack_l0, shr_p _ _ _ (by show b ≤ 64; omega), Option.bind_some]
    have hz' := hz (by omega)
    have hp : 2 ^ b = 2 ^ (b - 1) * 2 := by rw [← Nat.pow_succ]; congr 1; omega
    have hge : 2 ^ b ≤ m * 2 ^ (e + 1) := by
      rw [hp, Nat.pow_succ, ← Nat.mul_assoc]
      have : m * 1 ≤ m * 2 ^ e := Nat.mul_le_mul_left _ (Nat.two_pow_pos e)
      omega
    have hpos : 0 < m * 2 ^ (e + 1) / 2 ^ b := Nat.div_pos hge (Nat.two_pow_pos b)
    have d : decide (((m * 2 ^ (e + 1) / 2 ^ b : Nat) : Int) > 0) = true := decide_eq_true (by omega)
    have e1 : Int.fdiv ((m * 2 ^ (e + 1) : Nat) : Int) (2 ^ 1) = ((m * 2 ^ e : Nat) : Int) := by
      rw [fdiv_nat, Nat.pow_succ, ← Nat.mul_assoc, Nat.pow_one, Nat.mul_div_cancel _ (by omega)]
    have e2 : IntKind.wrap .i64 ((c : Int) + 1) = ((c + 1 : Nat) : Int) := by rw [wrap_i64 (by omega) (by omega)]; omega
    rw [d, cond_true, e1, e2, packN_l0 kE0 h1 h2 hm e j (c + 1) (fun _ => hz') (by omega)]
    congr 2
    omega
theorem packN {k b e m : Nat} (hk : 70 ≤ k) (h1 : 1 ≤ b) (h2 : b ≤ 24) (h : NR b e m) : p_rate_Pack k ((m * 2 ^ e : Nat) : Int) (b : Int) = some ((e : Int), (m : Int)) := by
  unfold p_rate_Pack
  rw [may_ok h1 h2, Option.bind_some, Bool.not_true, cond_false]
  have := packN_l0 (fun r12_0 r12_6 => some (r12_6, (IntKind.wrap .u32 r12_0))) h1 h2 h.hm e (k - e - 1) 0 h.hz (by have := h.he; omega)
  rw [show k - e - 1 + e + 1 = k by have := h.he; omega] at this
  refine this.trans ?_
  have hm := h.hm
  have := pow24 h2
  rw [wrap_u32 (by omega) (by omega), Nat.zero_add]
theorem openF {b e m : Nat} (h1 : 1 ≤ b) (h2 : b ≤ 24) (h : FR b e m) : p_rate_Open (e : Int) (m : Int) (b : Int) = some ((m * 2 ^ e : Nat) : Int) := by
  unfold p_rate_Open
  have hm := h.hm
  have hp := pow24 h2
  have he := h.he
  have d1 : decide ((e : Int) < 0) = false := decide_eq_false (by omega)
  have d2 : decide ((e : Int) > 63) = false := decide_eq_false (by omega)
  rw [may_ok h1 h2, Option.bind_some, Bool.not_true, cond_false]
  simp only [d1, d2, cond_false, Option.bind_some, shr_p .u32 m b (by show b ≤ 32; omega), Nat.div_eq_of_lt hm]
  rw [wrap_u64 (by omega) (by omega)]
  simp only [show decide (((0 : Nat) : Int) > 0) = false from rfl, cond_false, shl_p64 m e (by omega), Option.bind_some, Nat.mod_eq_of_lt h.hn, shr_p .u64 (m * 2 ^ e) e (by show e ≤ 64; omega), Nat.mul_div_cancel m (Nat.two_pow_pos e), bne_self_eq_false]
theorem refOpenF {b e m : Nat} (h1 : 1 ≤ b) (h2 : b ≤ 24) (h : FR b e m) : p_limelightref1_Open (e : Int) (m : Int) (b : Int) = some ((m * 2 ^ e : Nat) : Int) := by
  unfold p_limelightref1_Open
  have hm := h.hm
  have hp := pow24 h2
  have he := h.he
  have d0 : decide ((b : Int) < 1) = false := decide_eq_false (by omega)
  have d3 : decide ((b : Int) > 24) = false := decide_eq_false (by omega)
  have d1 : decide ((e : Int) < 0) = false := decide_eq_false (by omega)
  have d2 : decide ((e : Int) > 63) = false := decide_eq_false (by omega)
  have s1 : shP .shl .u32 1 (b : Int) = some ((2 ^ b : Nat) : Int) := by
    have := shl_p32 1 b (by omega)
    rwa [Nat.one_mul, Nat.mod_eq_of_lt (by omega)] at this
  have d4 : decide ((m : Int) ≥ ((2 ^ b : Nat) : Int)) = false := decide_eq_false (by omega)
  have w1 : IntKind.wrap .u64 (b : Int) = (b : Int) := wrap_u64 (by omega) (by omega)
  have w2 : IntKind.wrap .u64 (m : Int) = (m : Int) := wrap_u64 (by omega) (by omega)
  have w3 : IntKind.wrap .u64 (e : Int) = (e : Int) := wrap_u64 (by omega) (by omega)
  simp only [d0, d1, d2, d3, cond_false, Option.bind_some, w1, w2, w3, s1, d4, shl_p64 m e (by omega), Nat.mod_eq_of_lt h.hn, shr_p .u64 (m * 2 ^ e) e (by show e ≤ 64; omega), Nat.mul_div_cancel m (Nat.two_pow_pos e), bne_self_eq_false]
theorem downN {k b : Nat} (hk : 70 ≤ k) (h1 : 1 ≤ b) (h2 : b ≤ 24) {n : Int} (h : okRate b n) : p_rate_Down k n (b : Int) = some n := by
  obtain ⟨e, m, h, rfl⟩ := h
  unfold p_rate_Down
  rw [packN hk h1 h2 h, Option.bind_some, openF h1 h2 h.toFR]
  rfl
theorem refPack_l0 {β : Type} (kE0 : Int → Int → Option β) {b x : Nat} (h1 : 1 ≤ b) (h2 : b ≤ 24) : ∀ (d j c : Nat), x < 2 ^ (b + c + d) → (0 < c → 2 ^ (b - 1) ≤ x / 2 ^ c) → c + d ≤ 63 →
    ∃ e : Nat, p_limelightref1_Pack_l0 (j + d + 1) kE0 (x : Int) (b : Int) (c : Int) = kE0 (x : Int) (e : Int) ∧ e ≤ c + d ∧ x / 2 ^ e < 2 ^ b ∧ (0 < e → 2 ^ (b - 1) ≤ x / 2 ^ e)
  | d, j, c, hx, hz, hc => by
    have hp := pow24 h2
    have w1 : IntKind.wrap .u64 (b : Int) = (b : Int) := wrap_u64 (by omega) (by omega)
    have w2 : IntKind.wrap .u64 (c : Int) = (c : Int) := wrap_u64 (by omega) (by omega)
    have s1 : shP .shl .u64 1 (b : Int) = some ((2 ^ b : Nat) : Int) := by
      have := shl_p64 1 b (by omega)
      rwa [Nat.one_mul, Nat.mod_eq_of_lt (by omega)] at this
    by_cases hl : x / 2 ^ c < 2 ^ b
    · refine ⟨c, ?_, by omega, hl, hz⟩
      have dd : decide (((x / 2 ^ c : Nat) : Int) ≥ ((2 ^ b : Nat) : Int)) = false := decide_eq_false (by omega)
      rw [p_limelightref1_Pack_l0]
      simp only [w1, w2, shr_p .u64 x c (by show c ≤ 64; omega), s1, Option.bind_some, dd, cond_false]
    · cases d with
      | zero =>
        refine absurd ?_ hl
        rw [Nat.div_lt_iff_lt_mul (Nat.two_pow_pos c), ← Nat.pow_add]
        exact hx
      | succ d =>
        have dd : decide (((x / 2 ^ c : Nat) : Int) ≥ ((2 ^ b : Nat) : Int)) = true := decide_eq_true (by omega)
        have hp2 : 2 ^ b = 2 ^ (b - 1) * 2 := by rw [← Nat.pow_succ]; congr 1; omega
        have hdiv : x / 2 ^ (c + 1) = x / 2 ^ c / 2 := by rw [Nat.pow_succ, Nat.div_div_eq_div_mul]
        obtain ⟨e, he, h3, h4, h5⟩ := refPack_l0 kE0 h1 h2 d j (c + 1) (by rw [show b + (c + 1) + d = b + c + (d + 1) by omega]; exact hx) (fun _ => by rw [hdiv]; omega) (by omega)
        have e2 : IntKind.wrap .i64 ((c : Int) + 1) = ((c + 1 : Nat) : Int) := by rw [wrap_i64 (by omega) (by omega)]; omega
        refine ⟨e, ?_, by omega, h4, h5⟩
        rw [show j + (d + 1) + 1 = (j + d + 1) + 1 from rfl, p_limelightref1_Pack_l0]
        simp only [w1, w2, shr_p .u64 x c (by show c ≤ 64; omega), s1, Option.bind_some, dd, cond_true, e2]
        exact he
theorem refDown {k b : Nat} (hk : 70 ≤ k) (h1 : 1 ≤ b) (h2 : b ≤ 24) (x : Nat) (hx : x < 2 ^ 64) : ∃ n, p_limelightref1_Down k (x : Int) (b : Int) = some n ∧ okRate b n := by
  obtain ⟨e, he, h3, h4, h5⟩ := refPack_l0 (fun r13_0 r13_6 => (shP .shr .u64 r13_0 (IntKind.wrap .u64 r13_6)).bind fun n16 => some (r13_6, (IntKind.wrap .u32 n16))) (x := x) h1 h2 63 (k - 64) 0 (by rw [Nat.add_zero]; exact Nat.lt_of_lt_of_le hx (Nat.pow_le_pow_right (by omega) (by omega))) (fun h => absurd h (by omega)) (by omega)
  have hp := pow24 h2
  have hle : x / 2 ^ e * 2 ^ e ≤ x := Nat.div_mul_le_self _ _
  have hN : NR b e (x / 2 ^ e) := ⟨⟨h4, by omega, by omega⟩, h5⟩
  refine ⟨_, ?_, e, x / 2 ^ e, hN, rfl⟩
  unfold p_limelightref1_Down p_limelightref1_Pack
  have d0 : decide ((b : Int) < 1) = false := decide_eq_false (by omega)
  have d3 : decide ((b : Int) > 24) = false := decide_eq_false (by omega)
  rw [show k - 64 + 63 + 1 = k by omega] at he
  rw [show ((0 : Nat) : Int) = 0 from rfl] at he
  simp only [d0, d3, cond_false, Option.bind_some]
  rw [he, wrap_u64 (n := (e : Int)) (by omega) (by omega), shr_p .u64 x e (by show e ≤ 64; omega), Option.bind_some, Option.bind_some]
  have hO := refOpenF h1 h2 hN.toFR
  generalize x / 2 ^ e = m at *
  rw [wrap_u32 (by omega) (by omega), hO]
  rfl
/-- A rate's word. -/
theorem readRate {b e m : Nat} (h1 : 1 ≤ b) (h2 : b ≤ 24) (h : FR b e m) (r : T_rtcp_reader) : p_rtcp_reader_rate r ((e * 2 ^ b + m : Nat) : Int) (b : Int) = some (((m * 2 ^ e : Nat) : Int), ⟨r.b, r.f_at, r.bad⟩) := by
  unfold p_rtcp_reader_rate
  have hm := h.hm
  have hp := pow24 h2
  have he := h.he
  have q1 : (e * 2 ^ b + m) / 2 ^ b = e := by
    rw [Nat.add_comm, Nat.add_mul_div_right _ _ (Nat.two_pow_pos b), Nat.div_eq_of_lt hm, Nat.zero_add]
  have q2 : (e * 2 ^ b + m) % 2 ^ b = m := by
    rw [Nat.add_comm, Nat.add_mul_mod_self_right, Nat.mod_eq_of_lt hm]
  have s1 : shP .shl .u64 1 (b : Int) = some ((2 ^ b : Nat) : Int) := by
    have := shl_p64 1 b (by omega)
    rwa [Nat.one_mul, Nat.mod_eq_of_lt (by omega)] at this
  have hpos := Nat.two_pow_pos b
  have w1 : IntKind.wrap .u64 (((2 ^ b : Nat) : Int) - 1) = ((2 ^ b - 1 : Nat) : Int) := by rw [wrap_u64 (by omega) (by omega)]; omega
  have a1 : intBits .and .u64 ((e * 2 ^ b + m : Nat) : Int) ((2 ^ b - 1 : Nat) : Int) = (m : Int) := by
    rw [and_mask (n := b) _ rfl (by show b < 64; omega)]
    rw [show ((2 : Int) ^ b) = ((2 ^ b : Nat) : Int) by rw [Int.natCast_pow]; rfl, ← Int.natCast_emod, q2]
  have w2 : IntKind.wrap .u32 (m : Int) = (m : Int) := wrap_u32 (by omega) (by omega)
  have w3 : IntKind.wrap .i64 (e : Int) = (e : Int) := wrap_i64 (by omega) (by omega)
  have w4 : IntKind.wrap .u64 (m : Int) = (m : Int) := wrap_u64 (by omega) (by omega)
  rw [shr_p .u64 _ b (by show b ≤ 64; omega), q1, Option.bind_some, s1, Option.bind_some, w1, a1, w2, w3, openF h1 h2 h, Option.bind_some, w4, shr_p .u64 _ e (by show e ≤ 64; omega), Nat.mul_div_cancel m (Nat.two_pow_pos e)]
  cases r.bad <;> simp
/-- A rate's word, written. -/
theorem packedN {k b e m c : Nat} (hk : 70 ≤ k) (h1 : 1 ≤ b) (h2 : b ≤ 24) (h : NR b e m) {low : Nat} (hl : low < 2 ^ c) (hc : c ≤ 9) (hb : b + c ≤ 32) : p_rtcp_packed k ((m * 2 ^ e : Nat) : Int) (b : Int) (c : Int) (low : Int) = some (((e * 2 ^ b + m) * 2 ^ c + low : Nat) : Int) := by
  unfold p_rtcp_packed
  have hm := h.hm
  have hp := pow24 h2
  have he := h.he
  have w1 : IntKind.wrap .u64 (e : Int) = (e : Int) := wrap_u64 (by omega) (by omega)
  have w2 : IntKind.wrap .u64 (m : Int) = (m : Int) := wrap_u64 (by omega) (by omega)
  have w3 : IntKind.wrap .i64 ((b : Int) + (c : Int)) = ((b + c : Nat) : Int) := by rw [wrap_i64 (by omega) (by omega)]; rfl
  have hbc : 2 ^ (b + c) ≤ 4294967296 := Nat.pow_le_pow_right (n := 2) (by omega) hb
  have hbc' : e * 2 ^ (b + c) ≤ 63 * 4294967296 := Nat.mul_le_mul he hbc
  have hmc : m * 2 ^ c + low < 2 ^ (b + c) := by
    rw [Nat.pow_add]
    have : (m + 1) * 2 ^ c ≤ 2 ^ b * 2 ^ c := Nat.mul_le_mul_right _ hm
    rw [Nat.add_mul, Nat.one_mul] at this
    omega
  have s1 := shl_p64 e (b + c) (by omega)
  rw [Nat.mod_eq_of_lt (by omega)] at s1
  have s2 := shl_p64 m c (by omega)
  rw [Nat.mod_eq_of_lt (by omega)] at s2
  have hc9 : 2 ^ c ≤ 2 ^ 9 := Nat.pow_le_pow_right (n := 2) (by omega) hc
  have cst : ∀ j : Nat, ((2 : Int) ^ j) = ((2 ^ j : Nat) : Int) := fun j => by rw [Int.natCast_pow]; rfl
  have hb64 : IntKind.u64.bits = 64 := rfl
  have o1 : intBits .or .u64 ((e * 2 ^ (b + c) : Nat) : Int) ((m * 2 ^ c : Nat) : Int) = (((e * 2 ^ b + m) * 2 ^ c : Nat) : Int) := by
    have := or_add .u64 (j := b + c) (a := (e : Int)) (b := ((m * 2 ^ c : Nat) : Int)) (by omega) (by omega) (by rw [cst]; omega) (by rw [cst, hb64, ← Int.natCast_mul]; omega) (by rw [cst, ← Int.natCast_mul]; exact wrap_u64 (by omega) (by omega))
    rw [cst, ← Int.natCast_mul] at this
    rw [this, ← Int.natCast_add, Nat.add_mul, Nat.mul_assoc, ← Nat.pow_add]
  have hsum : (e * 2 ^ b + m) * 2 ^ c + low = e * 2 ^ (b + c) + (m * 2 ^ c + low) := by rw [Nat.add_mul, Nat.mul_assoc, ← Nat.pow_add]; omega
  have o2 : intBits .or .u64 (((e * 2 ^ b + m) * 2 ^ c : Nat) : Int) (low : Int) = (((e * 2 ^ b + m) * 2 ^ c + low : Nat) : Int) := by
    have := or_add .u64 (j := c) (a := ((e * 2 ^ b + m : Nat) : Int)) (b := (low : Int)) (by omega) (by omega) (by rw [cst]; omega) (by rw [cst, hb64, ← Int.natCast_mul]; omega) (by rw [cst, ← Int.natCast_mul]; exact wrap_u64 (by omega) (by omega))
    rw [cst, ← Int.natCast_mul] at this
    rw [this, ← Int.natCast_add]
  rw [packN hk h1 h2 h, Option.bind_some, w1, w3, s1, Option.bind_some, w2, s2, Option.bind_some, o1, o2]
end Go.Ev
/- Equations, printed by tracer2.py. -/
namespace Go.Ev
open Go.Proofs
set_option linter.unusedVariables false
set_option maxRecDepth 100000
-- 24 limelight/rtcp.Bytes
noncomputable def rtcp_Bytes_c0 : Code := (codeAt (bodyOf Try.f24) [1, 1, 1, 0, 1, 0, 0])
def rtcp_Bytes_l0 : Lv := ⟨17, 12, [(0, 17)]⟩
noncomputable def rtcp_Bytes_k0 (rec : CallF) (loop : LoopV) (σ : Stamp) : Exit → Env → H → Option (List C × H) := (kBlock 0 (kSeq G rec loop (codeAt (bodyOf Try.f24) [1, 1, 1, 1]) ⟨12, 12, []⟩ (1 :: 1 :: 1 :: 0 :: σ) (finC G true Try.f24 (1 :: σ))))
noncomputable def rtcp_Bytes_c1 : Code := (codeAt (bodyOf Try.f24) [1, 1, 1, 1, 0, 1, 0, 0])
def rtcp_Bytes_l1 : Lv := ⟨16, 12, [(2, 16)]⟩
noncomputable def rtcp_Bytes_k1 (rec : CallF) (loop : LoopV) (σ : Stamp) : Exit → Env → H → Option (List C × H) := (kBlock 2 (kSeq G rec loop (codeAt (bodyOf Try.f24) [1, 1, 1, 1, 1]) ⟨12, 12, []⟩ (1 :: 1 :: 1 :: 1 :: 0 :: σ) (finC G true Try.f24 (1 :: σ))))
theorem rtcp_Bytes_entry (rec : CallF) (loop : LoopV) (σ : Stamp) (x0 : V) (h : H) : cvBody G rec loop 24 σ [x0] h =
 (lenO x0).bind fun t1 =>
 (castI .i64 t1).bind fun n2 =>
 bif n2 == 0 then (
 fin true σ (List.replicate 62 [] :: h) [(.p (.slice .none 0 0)), (.p (.int .i64 1))])
 else (
 (lenO x0).bind fun t3 =>
 (castI .i64 t3).bind fun n4 =>
 (loop rtcp_Bytes_c0 rtcp_Bytes_l0 (1 :: 0 :: 1 :: 1 :: 1 :: 0 :: σ) (envL [(0, x0), (4, (.p (.slice .none 0 0))), (16, x0), (17, (.p (.int .i64 n4))), (18, (.p (.int .i64 0)))]) (List.replicate 62 [] :: h)).bind fun r5 => rtcp_Bytes_k0 rec loop σ r5.1 r5.2.1 r5.2.2) := by kernel_rfl
theorem rtcp_Bytes_r0 (rec : CallF) (loop : LoopV) (σ : Stamp) (x0 : V) (x4 : V) (x16 : V) (x17 : Int) (x18 : Int) (h : H) : cvRound G rec loop rtcp_Bytes_c0 rtcp_Bytes_l0 σ (envL [(0, x0), (4, x4), (16, x16), (17, (.p (.int .i64 x17))), (18, (.p (.int .i64 x18)))]) h =
 bif decide (x18 < x17) then (
 (iS 10 x16 x18).bind fun t6 =>
 (ldO true 10 h t6).bind fun t7 =>
 (some (alO [.p (.int .i64 0), .p (.int .u32 0), .p (.int .u32 0), .p (.slice none 0 0), .p (.slice none 0 0), .p (.slice none 0 0), .p (.int .u64 0), .p (.int .i64 0), .p (.int .i64 0), .p (.slice none 0 0)] (2 :: 0 :: 0 :: 1 :: 1 :: 0 :: σ) 6 h)).bind fun q8 =>
 ((stO false 10 (3 :: 0 :: 0 :: 1 :: 1 :: 0 :: σ) q8.2 q8.1 t7).map fun h => (udf, h)).bind fun q9 =>
 (ldO true 10 q9.2 q8.1).bind fun t10 =>
 (callO rec 28 (1 :: 0 :: 1 :: 0 :: 1 :: 1 :: 0 :: σ) [t10] q9.2 (some 23)).bind fun q11 =>
 (castI .i64 q11.1).bind fun n12 =>
 bif n12 != 0 then (
 some (.ret, (envL [(2, (.p (.slice .none 0 0))), (3, (.p (.int .i64 n12)))]), q11.2))
 else (
 loop rtcp_Bytes_c0 rtcp_Bytes_l0 (1 :: σ) (envL [(0, x0), (4, x4), (16, x16), (17, (.p (.int .i64 x17))), (18, (.p (.int .i64 (IntKind.wrap .i64 (x18 + 1)))))]) q11.2))
 else (
 some ((.exit 0), (envL [(0, x0), (4, x4)]), h)) := by kernel_rfl
theorem rtcp_Bytes_a0_0 (rec : CallF) (loop : LoopV) (σ : Stamp) (x0 : V) (x4 : V) (h : H) : rtcp_Bytes_k0 rec loop σ (.exit 0) (envL [(0, x0), (4, x4)]) h =
 (lenO x0).bind fun t13 =>
 (castI .i64 t13).bind fun n14 =>
 (loop rtcp_Bytes_c1 rtcp_Bytes_l1 (1 :: 0 :: 1 :: 1 :: 1 :: 1 :: 0 :: σ) (envL [(4, x4), (28, x0), (29, (.p (.int .i64 n14))), (30, (.p (.int .i64 0)))]) h).bind fun r15 => rtcp_Bytes_k1 rec loop σ r15.1 r15.2.1 r15.2.2 := by kernel_rfl
theorem rtcp_Bytes_a0_ret (rec : CallF) (loop : LoopV) (σ : Stamp) (x2 : V) (x3 : Int) (h : H) : rtcp_Bytes_k0 rec loop σ .ret (envL [(2, x2), (3, (.p (.int .i64 x3)))]) h =
 fin true σ h [x2, (.p (.int .i64 x3))] := by kernel_rfl
theorem rtcp_Bytes_r1 (rec : CallF) (loop : LoopV) (σ : Stamp) (x4 : V) (x28 : V) (x29 : Int) (x30 : Int) (h : H) : cvRound G rec loop rtcp_Bytes_c1 rtcp_Bytes_l1 σ (envL [(4, x4), (28, x28), (29, (.p (.int .i64 x29))), (30, (.p (.int .i64 x30)))]) h =
 bif decide (x30 < x29) then (
 (iS 10 x28 x30).bind fun t16 =>
 (ldO true 10 h t16).bind fun t17 =>
 (some (alO [.p (.int .i64 0), .p (.int .u32 0), .p (.int .u32 0), .p (.slice none 0 0), .p (.slice none 0 0), .p (.slice none 0 0), .p (.int .u64 0), .p (.int .i64 0), .p (.int .i64 0), .p (.slice none 0 0)] (2 :: 0 :: 0 :: 1 :: 1 :: 0 :: σ) 9 h)).bind fun q18 =>
 ((stO false 10 (3 :: 0 :: 0 :: 1 :: 1 :: 0 :: σ) q18.2 q18.1 t17).map fun h => (udf, h)).bind fun q19 =>
 (ldO true 10 q19.2 q18.1).bind fun t20 =>
 (callO rec 56 (1 :: 0 :: 1 :: 0 :: 1 :: 1 :: 0 :: σ) [t20] q19.2 (some 36)).bind fun q21 =>
 (extV q21.1 0).bind fun t22 =>
 (extV q21.1 1).bind fun t23 =>
 (castI .i64 t23).bind fun n24 =>
 (extV q21.1 2).bind fun t25 =>
 (castI .i64 t25).bind fun n26 =>
 (buildSliceV Try.prog 31 2 [(0, (.p (.int .u8 (IntKind.wrap .u8 (intBits .or .i64 128 n26))))), (1, (.p (.int .u8 (IntKind.wrap .u8 n24))))]).bind fun t27 =>
 (apO true 1 1 (7 :: 0 :: 1 :: 1 :: 0 :: 1 :: 1 :: 0 :: σ) 47 q21.2 x4 t27).bind fun q28 =>
 (lenO t22).bind fun t29 =>
 (castI .i64 t29).bind fun n30 =>
 (callO rec 57 (5 :: 0 :: 1 :: 1 :: 1 :: 0 :: 1 :: 1 :: 0 :: σ) [q28.1, (.p (.int .u64 (IntKind.wrap .u64 (IntKind.wrap .i64 (Int.tdiv n30 4))))), (.p (.int .i64 2))] q28.2 (some 53)).bind fun q31 =>
 (apO true 1 1 (7 :: 0 :: 1 :: 1 :: 1 :: 0 :: 1 :: 1 :: 0 :: σ) 55 q31.2 q31.1 t22).bind fun q32 =>
 (lenO q32.1).bind fun t33 =>
 (castI .i64 t33).bind fun n34 =>
 bif decide (n34 > 1500) then (
 some (.ret, (envL [(2, (.p (.slice .none 0 0))), (3, (.p (.int .i64 3)))]), q32.2))
 else (
 loop rtcp_Bytes_c1 rtcp_Bytes_l1 (1 :: σ) (envL [(4, q32.1), (28, x28), (29, (.p (.int .i64 x29))), (30, (.p (.int .i64 (IntKind.wrap .i64 (x30 + 1)))))]) q32.2))
 else (
 some ((.exit 2), (envL [(4, x4)]), h)) := by kernel_rfl
theorem rtcp_Bytes_a1_2 (rec : CallF) (loop : LoopV) (σ : Stamp) (x4 : V) (h : H) : rtcp_Bytes_k1 rec loop σ (.exit 2) (envL [(4, x4)]) h =
 (callO rec 58 (1 :: 0 :: 1 :: 1 :: 1 :: 1 :: 1 :: 0 :: σ) [x4] h (some 61)).bind fun q35 =>
 fin true σ q35.2 [q35.1, (.p (.int .i64 0))] := by kernel_rfl
theorem rtcp_Bytes_a1_ret (rec : CallF) (loop : LoopV) (σ : Stamp) (x2 : V) (x3 : Int) (h : H) : rtcp_Bytes_k1 rec loop σ .ret (envL [(2, x2), (3, (.p (.int .i64 x3)))]) h =
 fin true σ h [x2, (.p (.int .i64 x3))] := by kernel_rfl
end Go.Ev
/- Equations, printed by tracer2.py. -/
namespace Go.Ev
open Go.Proofs
set_option linter.unusedVariables false
set_option maxRecDepth 100000
-- 28 limelight/rtcp.Right
theorem rtcp_Right_entry (rec : CallF) (loop : LoopV) (σ : Stamp) (x0 : V) (h : H) : cvBody G rec loop 28 σ [x0] h =
 (boxO false (0 :: 0 :: 0 :: σ) 1 (List.replicate 20 [] :: h) x0).bind fun q1 =>
 (fA q1.1 0).bind fun t2 =>
 (ldO false 1 q1.2 t2).bind fun t3 =>
 (castI .i64 t3).bind fun n4 =>
 (bif decide (n4 < 1) then (some true) else ((fA q1.1 0).bind fun t5 =>
 (ldO false 1 q1.2 t5).bind fun t6 =>
 (castI .i64 t6).bind fun n7 =>
 some (decide (n7 > 6)))).bind fun b8 =>
 bif b8 then (
 fin false σ q1.2 [(.p (.int .i64 12))])
 else (
 (ldO true 10 q1.2 q1.1).bind fun t9 =>
 (callO rec 61 (1 :: 0 :: 1 :: 0 :: 1 :: 0 :: σ) [t9] q1.2 (some 14)).bind fun q10 =>
 (asB q10.1).bind fun b11 =>
 bif !b11 then (
 fin false σ q10.2 [(.p (.int .i64 1))])
 else (
 (ldO true 10 q10.2 q1.1).bind fun t12 =>
 (callO rec 62 (1 :: 0 :: 1 :: 1 :: 0 :: 1 :: 0 :: σ) [t12] q10.2 (some 18)).bind fun q13 =>
 (asB q13.1).bind fun b14 =>
 bif !b14 then (
 fin false σ q13.2 [(.p (.int .i64 12))])
 else (
 fin false σ q13.2 [(.p (.int .i64 0))]))) := by kernel_rfl
end Go.Ev
/- Equations, printed by tracer2.py. -/
namespace Go.Ev
open Go.Proofs
set_option linter.unusedVariables false
set_option maxRecDepth 100000
-- 62 limelight/rtcp.fields
theorem rtcp_fields_entry (rec : CallF) (loop : LoopV) (σ : Stamp) (x0 : V) (h : H) : cvBody G rec loop 62 σ [x0] h =
 (boxO false (0 :: 0 :: 0 :: σ) 1 (List.replicate 98 [] :: h) x0).bind fun q1 =>
 (fA q1.1 0).bind fun t2 =>
 (ldO false 1 q1.2 t2).bind fun t3 =>
 (castI .i64 t3).bind fun n4 =>
 (bif n4 == 1 then (some true) else ((fA q1.1 0).bind fun t5 =>
 (ldO false 1 q1.2 t5).bind fun t6 =>
 (castI .i64 t6).bind fun n7 =>
 some (n7 == 2))).bind fun b8 =>
 (fA q1.1 0).bind fun t9 =>
 (ldO false 1 q1.2 t9).bind fun t10 =>
 (castI .i64 t10).bind fun n11 =>
 (bif b8 then (some true) else ((fA q1.1 3).bind fun t12 =>
 (ldO false 1 q1.2 t12).bind fun t13 =>
 (lenO t13).bind fun t14 =>
 (castI .i64 t14).bind fun n15 =>
 some (n15 == 0))).bind fun b16 =>
 (bif b16 then ((fA q1.1 0).bind fun t17 =>
 (ldO false 1 q1.2 t17).bind fun t18 =>
 (castI .i64 t18).bind fun n19 =>
 (bif n19 == 3 then (some true) else ((fA q1.1 2).bind fun t20 =>
 (ldO false 1 q1.2 t20).bind fun t21 =>
 (castI .u32 t21).bind fun n22 =>
 some (n22 == 0))).bind fun b23 =>
 some b23) else (some false)).bind fun b24 =>
 (bif b24 then ((fA q1.1 0).bind fun t25 =>
 (ldO false 1 q1.2 t25).bind fun t26 =>
 (castI .i64 t26).bind fun n27 =>
 (bif n27 == 4 then (some true) else ((fA q1.1 5).bind fun t28 =>
 (ldO false 1 q1.2 t28).bind fun t29 =>
 (lenO t29).bind fun t30 =>
 (castI .i64 t30).bind fun n31 =>
 some (n31 == 0))).bind fun b32 =>
 some b32) else (some false)).bind fun b33 =>
 (bif b33 then ((fA q1.1 0).bind fun t34 =>
 (ldO false 1 q1.2 t34).bind fun t35 =>
 (castI .i64 t35).bind fun n36 =>
 (bif n36 == 4 then (some true) else ((fA q1.1 0).bind fun t37 =>
 (ldO false 1 q1.2 t37).bind fun t38 =>
 (castI .i64 t38).bind fun n39 =>
 some (n39 == 5))).bind fun b40 =>
 (bif b40 then (some true) else ((fA q1.1 4).bind fun t41 =>
 (ldO false 1 q1.2 t41).bind fun t42 =>
 (lenO t42).bind fun t43 =>
 (castI .i64 t43).bind fun n44 =>
 some (n44 == 0))).bind fun b45 =>
 some b45) else (some false)).bind fun b46 =>
 (bif b46 then ((fA q1.1 0).bind fun t47 =>
 (ldO false 1 q1.2 t47).bind fun t48 =>
 (castI .i64 t48).bind fun n49 =>
 (bif n49 == 5 then (some true) else ((fA q1.1 6).bind fun t50 =>
 (ldO false 1 q1.2 t50).bind fun t51 =>
 (castI .u64 t51).bind fun n52 =>
 some (n52 == 0))).bind fun b53 =>
 some b53) else (some false)).bind fun b54 =>
 (bif b54 then ((bif n11 == 6 then (some true) else ((fA q1.1 7).bind fun t55 =>
 (ldO false 1 q1.2 t55).bind fun t56 =>
 (castI .i64 t56).bind fun n57 =>
 (bif n57 == 0 then ((fA q1.1 8).bind fun t58 =>
 (ldO false 1 q1.2 t58).bind fun t59 =>
 (castI .i64 t59).bind fun n60 =>
 some (n60 == 0)) else (some false)).bind fun b61 =>
 (bif b61 then ((fA q1.1 9).bind fun t62 =>
 (ldO false 1 q1.2 t62).bind fun t63 =>
 (lenO t63).bind fun t64 =>
 (castI .i64 t64).bind fun n65 =>
 some (n65 == 0)) else (some false)).bind fun b66 =>
 some b66)).bind fun b67 =>
 some b67) else (some false)).bind fun b68 =>
 (bif b68 then ((bif !(n11 == 6) then (some true) else ((fA q1.1 1).bind fun t69 =>
 (ldO false 1 q1.2 t69).bind fun t70 =>
 (castI .u32 t70).bind fun n71 =>
 some (n71 == 0))).bind fun b72 =>
 some b72) else (some false)).bind fun b73 =>
 fin false σ q1.2 [(.p (.bool b73))] := by kernel_rfl
end Go.Ev
/- Lifted by lift.py: rtcp_fields as a plain function. -/
namespace Go.Ev
open Go.Proofs
set_option linter.unusedVariables false
set_option linter.unusedSimpArgs false
set_option maxRecDepth 100000
def p_rtcp_fields (x0 : T_api_Report) : Option (Bool) :=
(bif x0.Kind == 1 then (some true) else (some (x0.Kind == 2))).bind fun b13 =>
(bif b13 then (some true) else (some (((x0.Tuples.length : Int)) == 0))).bind fun b17 =>
(bif b17 then ((bif x0.Kind == 3 then (some true) else (some (x0.About == 0))).bind fun b21 =>
some b21) else (some false)).bind fun b25 =>
(bif b25 then ((bif x0.Kind == 4 then (some true) else (some (((x0.Numbers.length : Int)) == 0))).bind fun b29 =>
some b29) else (some false)).bind fun b33 =>
(bif b33 then ((bif x0.Kind == 4 then (some true) else (some (x0.Kind == 5))).bind fun b37 =>
(bif b37 then (some true) else (some (((x0.Abouts.length : Int)) == 0))).bind fun b41 =>
some b41) else (some false)).bind fun b45 =>
(bif b45 then ((bif x0.Kind == 5 then (some true) else (some (x0.Rate == 0))).bind fun b49 =>
some b49) else (some false)).bind fun b53 =>
(bif b53 then ((bif x0.Kind == 6 then (some true) else ((bif x0.f_Type == 0 then (some (x0.Count == 0)) else (some false)).bind fun b57 =>
(bif b57 then (some (((x0.Body.length : Int)) == 0)) else (some false)).bind fun b61 =>
some b61)).bind fun b65 =>
some b65) else (some false)).bind fun b69 =>
(bif b69 then ((bif !(x0.Kind == 6) then (some true) else (some (x0.From == 0))).bind fun b73 =>
some b73) else (some false)).bind fun b77 =>
some (b77)
theorem rtcp_fields_ok {h : H} {σ : Stamp} (x0 : T_api_Report) {u0 : List V} (hu0 : dT_api_Report.R x0 u0) : Sim (p_rtcp_fields x0) (ev G X0 62 σ [(.agg u0)] h) (fun r s => s = ([.v (.p (.bool r))], h)) := by
  refine Sim.ev rfl (Sim.ext (rtcp_fields_entry _ _ _ _ _) ?_)
  rw [p_rtcp_fields]
  obtain ⟨v1, v3, v5, v7, rfl, h2, h4, h6, h8⟩ := dT_api_Report.inv hu0
  have S0 : Fm 98 h [] [] [] (List.replicate 98 [] :: h) := Fm.start0
  obtain ⟨H9, e10, S11⟩ := S0.box (own := false) (d := 1) (s := (0 :: 0 :: 0 :: σ)) (xs := [(.p (.int .i64 x0.Kind)), (.p (.int .u32 x0.From)), (.p (.int .u32 x0.About)), v1, v3, v5, (.p (.int .u64 x0.Rate)), (.p (.int .i64 x0.f_Type)), (.p (.int .i64 x0.Count)), v7]) (stills_cons (still_int _ _) (stills_cons (still_int _ _) (stills_cons (still_int _ _) (stills_cons h2.still (stills_cons h4.still (stills_cons h6.still (stills_cons (still_int _ _) (stills_cons (still_int _ _) (stills_cons (still_int _ _) (stills_cons h8.still stills_nil)))))))))) (by decide) rfl
  refine Sim.op (e10) ?_
  refine Sim.op (fA_ref _ _ _) ?_
  refine Sim.op ((S11.atG (i := 0) rfl).ld (j := 0) rfl) ?_
  refine Sim.op (castI_p _ _) ?_
  refine Sim.ch (P := fun r y => r = y) ?_ (fun b13 y14 h15 h16 => ?_)
  · refine Sim.cd (fun hc => ?_) (fun hc => ?_)
    · exact Sim.ret rfl rfl
    · refine Sim.op (fA_ref _ _ _) ?_
      refine Sim.op ((S11.atG (i := 0) rfl).ld (j := 0) rfl) ?_
      refine Sim.op (castI_p _ _) ?_
      exact Sim.ret rfl rfl
  subst h16
  refine Sim.op (fA_ref _ _ _) ?_
  refine Sim.op ((S11.atG (i := 0) rfl).ld (j := 0) rfl) ?_
  refine Sim.op (castI_p _ _) ?_
  refine Sim.ch (P := fun r y => r = y) ?_ (fun b17 y18 h19 h20 => ?_)
  · refine Sim.cd (fun hc => ?_) (fun hc => ?_)
    · exact Sim.ret rfl rfl
    · refine Sim.op (fA_ref _ _ _) ?_
      refine Sim.op ((S11.atG (i := 0) rfl).ld (j := 3) rfl) ?_
      refine Sim.op ((h2.h H9).len) ?_
      refine Sim.op (castI_p _ _) ?_
      exact Sim.ret rfl rfl
  subst h20
  refine Sim.ch (P := fun r y => r = y) ?_ (fun b25 y26 h27 h28 => ?_)
  · refine Sim.cd (fun hc => ?_) (fun hc => ?_)
    · refine Sim.op (fA_ref _ _ _) ?_
      refine Sim.op ((S11.atG (i := 0) rfl).ld (j := 0) rfl) ?_
      refine Sim.op (castI_p _ _) ?_
      refine Sim.ch (P := fun r y => r = y) ?_ (fun b21 y22 h23 h24 => ?_)
      · refine Sim.cd (fun hc => ?_) (fun hc => ?_)
        · exact Sim.ret rfl rfl
        · refine Sim.op (fA_ref _ _ _) ?_
          refine Sim.op ((S11.atG (i := 0) rfl).ld (j := 2) rfl) ?_
          refine Sim.op (castI_p _ _) ?_
          exact Sim.ret rfl rfl
      subst h24
      exact Sim.ret rfl rfl
    · exact Sim.ret rfl rfl
  subst h28
  refine Sim.ch (P := fun r y => r = y) ?_ (fun b33 y34 h35 h36 => ?_)
  · refine Sim.cd (fun hc => ?_) (fun hc => ?_)
    · refine Sim.op (fA_ref _ _ _) ?_
      refine Sim.op ((S11.atG (i := 0) rfl).ld (j := 0) rfl) ?_
      refine Sim.op (castI_p _ _) ?_
      refine Sim.ch (P := fun r y => r = y) ?_ (fun b29 y30 h31 h32 => ?_)
      · refine Sim.cd (fun hc => ?_) (fun hc => ?_)
        · exact Sim.ret rfl rfl
        · refine Sim.op (fA_ref _ _ _) ?_
          refine Sim.op ((S11.atG (i := 0) rfl).ld (j := 5) rfl) ?_
          refine Sim.op ((h6.h H9).len) ?_
          refine Sim.op (castI_p _ _) ?_
          exact Sim.ret rfl rfl
      subst h32
      exact Sim.ret rfl rfl
    · exact Sim.ret rfl rfl
  subst h36
  refine Sim.ch (P := fun r y => r = y) ?_ (fun b45 y46 h47 h48 => ?_)
  · refine Sim.cd (fun hc => ?_) (fun hc => ?_)
    · refine Sim.op (fA_ref _ _ _) ?_
      refine Sim.op ((S11.atG (i := 0) rfl).ld (j := 0) rfl) ?_
      refine Sim.op (castI_p _ _) ?_
      refine Sim.ch (P := fun r y => r = y) ?_ (fun b37 y38 h39 h40 => ?_)
      · refine Sim.cd (fun hc => ?_) (fun hc => ?_)
        · exact Sim.ret rfl rfl
        · refine Sim.op (fA_ref _ _ _) ?_
          refine Sim.op ((S11.atG (i := 0) rfl).ld (j := 0) rfl) ?_
          refine Sim.op (castI_p _ _) ?_
          exact Sim.ret rfl rfl
      subst h40
      refine Sim.ch (P := fun r y => r = y) ?_ (fun b41 y42 h43 h44 => ?_)
      · refine Sim.cd (fun hc => ?_) (fun hc => ?_)
        · exact Sim.ret rfl rfl
        · refine Sim.op (fA_ref _ _ _) ?_
          refine Sim.op ((S11.atG (i := 0) rfl).ld (j := 4) rfl) ?_
          refine Sim.op ((h4.h H9).len) ?_
          refine Sim.op (castI_p _ _) ?_
          exact Sim.ret rfl rfl
      subst h44
      exact Sim.ret rfl rfl
    · exact Sim.ret rfl rfl
  subst h48
  refine Sim.ch (P := fun r y => r = y) ?_ (fun b53 y54 h55 h56 => ?_)
  · refine Sim.cd (fun hc => ?_) (fun hc => ?_)
    · refine Sim.op (fA_ref _ _ _) ?_
      refine Sim.op ((S11.atG (i := 0) rfl).ld (j := 0) rfl) ?_
      refine Sim.op (castI_p _ _) ?_
      refine Sim.ch (P := fun r y => r = y) ?_ (fun b49 y50 h51 h52 => ?_)
      · refine Sim.cd (fun hc => ?_) (fun hc => ?_)
        · exact Sim.ret rfl rfl
        · refine Sim.op (fA_ref _ _ _) ?_
          refine Sim.op ((S11.atG (i := 0) rfl).ld (j := 6) rfl) ?_
          refine Sim.op (castI_p _ _) ?_
          exact Sim.ret rfl rfl
      subst h52
      exact Sim.ret rfl rfl
    · exact Sim.ret rfl rfl
  subst h56
  refine Sim.ch (P := fun r y => r = y) ?_ (fun b69 y70 h71 h72 => ?_)
  · refine Sim.cd (fun hc => ?_) (fun hc => ?_)
    · refine Sim.ch (P := fun r y => r = y) ?_ (fun b65 y66 h67 h68 => ?_)
      · refine Sim.cd (fun hc => ?_) (fun hc => ?_)
        · exact Sim.ret rfl rfl
        · refine Sim.op (fA_ref _ _ _) ?_
          refine Sim.op ((S11.atG (i := 0) rfl).ld (j := 7) rfl) ?_
          refine Sim.op (castI_p _ _) ?_
          refine Sim.ch (P := fun r y => r = y) ?_ (fun b57 y58 h59 h60 => ?_)
          · refine Sim.cd (fun hc => ?_) (fun hc => ?_)
            · refine Sim.op (fA_ref _ _ _) ?_
              refine Sim.op ((S11.atG (i := 0) rfl).ld (j := 8) rfl) ?_
              refine Sim.op (castI_p _ _) ?_
              exact Sim.ret rfl rfl
            · exact Sim.ret rfl rfl
          subst h60
          refine Sim.ch (P := fun r y => r = y) ?_ (fun b61 y62 h63 h64 => ?_)
          · refine Sim.cd (fun hc => ?_) (fun hc => ?_)
            · refine Sim.op (fA_ref _ _ _) ?_
              refine Sim.op ((S11.atG (i := 0) rfl).ld (j := 9) rfl) ?_
              refine Sim.op ((h8.h H9).len) ?_
              refine Sim.op (castI_p _ _) ?_
              exact Sim.ret rfl rfl
            · exact Sim.ret rfl rfl
          subst h64
          exact Sim.ret rfl rfl
      subst h68
      exact Sim.ret rfl rfl
    · exact Sim.ret rfl rfl
  subst h72
  refine Sim.ch (P := fun r y => r = y) ?_ (fun b77 y78 h79 h80 => ?_)
  · refine Sim.cd (fun hc => ?_) (fun hc => ?_)
    · refine Sim.ch (P := fun r y => r = y) ?_ (fun b73 y74 h75 h76 => ?_)
      · refine Sim.cd (fun hc => ?_) (fun hc => ?_)
        · exact Sim.ret rfl rfl
        · refine Sim.op (fA_ref _ _ _) ?_
          refine Sim.op ((S11.atG (i := 0) rfl).ld (j := 1) rfl) ?_
          refine Sim.op (castI_p _ _) ?_
          exact Sim.ret rfl rfl
      subst h76
      exact Sim.ret rfl rfl
    · exact Sim.ret rfl rfl
  subst h80
  exact Sim.fin (S11.finN (lv_cons (still_bool _).lv lv_nil)) rfl
end Go.Ev
/- Equations, printed by tracer2.py. -/
namespace Go.Ev
open Go.Proofs
set_option linter.unusedVariables false
set_option maxRecDepth 100000
-- 61 limelight/rtcp.values
theorem rtcp_values_entry (rec : CallF) (loop : LoopV) (σ : Stamp) (x0 : V) (h : H) : cvBody G rec loop 61 σ [x0] h =
 (boxO false (0 :: 0 :: 0 :: σ) 1 (List.replicate 100 [] :: h) x0).bind fun q1 =>
 (fA q1.1 0).bind fun t2 =>
 (ldO false 1 q1.2 t2).bind fun t3 =>
 (castI .i64 t3).bind fun n4 =>
 bif n4 == 1 then (
 bif n4 == 1 then (
 (fA q1.1 3).bind fun t5 =>
 (ldO false 1 q1.2 t5).bind fun t6 =>
 (lenO t6).bind fun t7 =>
 (castI .i64 t7).bind fun n8 =>
 (bif decide (n8 ≤ 6) then ((fA q1.1 3).bind fun t9 =>
 (ldO false 1 q1.2 t9).bind fun t10 =>
 (callO rec 98 (7 :: 0 :: 1 :: 1 :: 0 :: 1 :: 0 :: σ) [t10, (.clo 99 [])] q1.2 (some 15)).bind fun q11 =>
 (asB q11.1).bind fun b12 =>
 some ((.p (.bool (!b12))), q11.2)) else (some ((.p (.bool false)), q1.2))).bind fun q13 =>
 (asB q13.1).bind fun b14 =>
 fin false σ q13.2 [(.p (.bool b14))])
 else (
 bif n4 == 4 then (
 (fA q1.1 5).bind fun t15 =>
 (ldO false 1 q1.2 t15).bind fun t16 =>
 (lenO t16).bind fun t17 =>
 (castI .i64 t17).bind fun n18 =>
 (fA q1.1 4).bind fun t19 =>
 (ldO false 1 q1.2 t19).bind fun t20 =>
 (lenO t20).bind fun t21 =>
 (castI .i64 t21).bind fun n22 =>
 (bif n18 == n22 then ((fA q1.1 4).bind fun t23 =>
 (ldO false 1 q1.2 t23).bind fun t24 =>
 (lenO t24).bind fun t25 =>
 (castI .i64 t25).bind fun n26 =>
 some (decide (n26 ≥ 1))) else (some false)).bind fun b27 =>
 (bif b27 then ((fA q1.1 4).bind fun t28 =>
 (ldO false 1 q1.2 t28).bind fun t29 =>
 (lenO t29).bind fun t30 =>
 (castI .i64 t30).bind fun n31 =>
 some (decide (n31 ≤ 16))) else (some false)).bind fun b32 =>
 (bif b32 then ((fA q1.1 5).bind fun t33 =>
 (ldO false 1 q1.2 t33).bind fun t34 =>
 (callO rec 101 (22 :: 0 :: 1 :: 1 :: 1 :: 0 :: 1 :: 0 :: σ) [t34, (.clo 102 [])] q1.2 (some 42)).bind fun q35 =>
 (asB q35.1).bind fun b36 =>
 some ((.p (.bool (!b36))), q35.2)) else (some ((.p (.bool false)), q1.2))).bind fun q37 =>
 (asB q37.1).bind fun b38 =>
 fin false σ q37.2 [(.p (.bool b38))])
 else (
 bif n4 == 5 then (
 (fA q1.1 4).bind fun t39 =>
 (ldO false 1 q1.2 t39).bind fun t40 =>
 (lenO t40).bind fun t41 =>
 (castI .i64 t41).bind fun n42 =>
 (bif decide (n42 ≤ 16) then ((fA q1.1 6).bind fun t43 =>
 (ldO false 1 q1.2 t43).bind fun t44 =>
 (castI .u64 t44).bind fun n45 =>
 (fA q1.1 6).bind fun t46 =>
 (ldO false 1 q1.2 t46).bind fun t47 =>
 (castI .u64 t47).bind fun n48 =>
 (callO rec 100 (7 :: 0 :: 1 :: 1 :: 1 :: 1 :: 0 :: 1 :: 0 :: σ) [(.p (.int .u64 n45)), (.p (.int .i64 18))] q1.2 (some 54)).bind fun q49 =>
 (castI .u64 q49.1).bind fun n50 =>
 need (ldO false 1 q49.2 t46 = some (.p (.int .u64 n48))) (
 some ((.p (.bool (n50 == n48))), q49.2))) else (some ((.p (.bool false)), q1.2))).bind fun q51 =>
 (asB q51.1).bind fun b52 =>
 fin false σ q51.2 [(.p (.bool b52))])
 else (
 bif n4 == 6 then (
 (fA q1.1 7).bind fun t53 =>
 (ldO false 1 q1.2 t53).bind fun t54 =>
 (castI .i64 t54).bind fun n55 =>
 (bif decide (n55 ≥ 192) then ((fA q1.1 7).bind fun t56 =>
 (ldO false 1 q1.2 t56).bind fun t57 =>
 (castI .i64 t57).bind fun n58 =>
 some (decide (n58 ≤ 223))) else (some false)).bind fun b59 =>
 (bif b59 then ((fA q1.1 8).bind fun t60 =>
 (ldO false 1 q1.2 t60).bind fun t61 =>
 (castI .i64 t61).bind fun n62 =>
 some (decide (n62 ≥ 0))) else (some false)).bind fun b63 =>
 (bif b63 then ((fA q1.1 8).bind fun t64 =>
 (ldO false 1 q1.2 t64).bind fun t65 =>
 (castI .i64 t65).bind fun n66 =>
 some (decide (n66 ≤ 31))) else (some false)).bind fun b67 =>
 (bif b67 then ((fA q1.1 9).bind fun t68 =>
 (ldO false 1 q1.2 t68).bind fun t69 =>
 (lenO t69).bind fun t70 =>
 (castI .i64 t70).bind fun n71 =>
 some ((Int.tmod n71 4) == 0)) else (some false)).bind fun b72 =>
 (bif b72 then ((fA q1.1 9).bind fun t73 =>
 (ldO false 1 q1.2 t73).bind fun t74 =>
 (lenO t74).bind fun t75 =>
 (castI .i64 t75).bind fun n76 =>
 some (decide (n76 ≤ 262140))) else (some false)).bind fun b77 =>
 (bif b77 then ((fA q1.1 7).bind fun t78 =>
 (ldO false 1 q1.2 t78).bind fun t79 =>
 (castI .i64 t79).bind fun n80 =>
 (fA q1.1 8).bind fun t81 =>
 (ldO false 1 q1.2 t81).bind fun t82 =>
 (castI .i64 t82).bind fun n83 =>
 (callO rec 103 (36 :: 0 :: 1 :: 1 :: 1 :: 1 :: 1 :: 0 :: 1 :: 0 :: σ) [(.p (.int .i64 n80)), (.p (.int .i64 n83))] q1.2 (some 97)).bind fun q84 =>
 (castI .i64 q84.1).bind fun n85 =>
 some ((.p (.bool (n85 == 6))), q84.2)) else (some ((.p (.bool false)), q1.2))).bind fun q86 =>
 (asB q86.1).bind fun b87 =>
 fin false σ q86.2 [(.p (.bool b87))])
 else (
 fin false σ q1.2 [(.p (.bool true))])))))
 else (
 bif n4 == 2 then (
 (fA q1.1 3).bind fun t88 =>
 (ldO false 1 q1.2 t88).bind fun t89 =>
 (lenO t89).bind fun t90 =>
 (castI .i64 t90).bind fun n91 =>
 (bif decide (n91 ≤ 6) then ((fA q1.1 3).bind fun t92 =>
 (ldO false 1 q1.2 t92).bind fun t93 =>
 (callO rec 98 (7 :: 0 :: 1 :: 1 :: 0 :: 1 :: 0 :: σ) [t93, (.clo 99 [])] q1.2 (some 15)).bind fun q94 =>
 (asB q94.1).bind fun b95 =>
 some ((.p (.bool (!b95))), q94.2)) else (some ((.p (.bool false)), q1.2))).bind fun q96 =>
 (asB q96.1).bind fun b97 =>
 fin false σ q96.2 [(.p (.bool b97))])
 else (
 bif n4 == 4 then (
 (fA q1.1 5).bind fun t98 =>
 (ldO false 1 q1.2 t98).bind fun t99 =>
 (lenO t99).bind fun t100 =>
 (castI .i64 t100).bind fun n101 =>
 (fA q1.1 4).bind fun t102 =>
 (ldO false 1 q1.2 t102).bind fun t103 =>
 (lenO t103).bind fun t104 =>
 (castI .i64 t104).bind fun n105 =>
 (bif n101 == n105 then ((fA q1.1 4).bind fun t106 =>
 (ldO false 1 q1.2 t106).bind fun t107 =>
 (lenO t107).bind fun t108 =>
 (castI .i64 t108).bind fun n109 =>
 some (decide (n109 ≥ 1))) else (some false)).bind fun b110 =>
 (bif b110 then ((fA q1.1 4).bind fun t111 =>
 (ldO false 1 q1.2 t111).bind fun t112 =>
 (lenO t112).bind fun t113 =>
 (castI .i64 t113).bind fun n114 =>
 some (decide (n114 ≤ 16))) else (some false)).bind fun b115 =>
 (bif b115 then ((fA q1.1 5).bind fun t116 =>
 (ldO false 1 q1.2 t116).bind fun t117 =>
 (callO rec 101 (22 :: 0 :: 1 :: 1 :: 1 :: 0 :: 1 :: 0 :: σ) [t117, (.clo 102 [])] q1.2 (some 42)).bind fun q118 =>
 (asB q118.1).bind fun b119 =>
 some ((.p (.bool (!b119))), q118.2)) else (some ((.p (.bool false)), q1.2))).bind fun q120 =>
 (asB q120.1).bind fun b121 =>
 fin false σ q120.2 [(.p (.bool b121))])
 else (
 bif n4 == 5 then (
 (fA q1.1 4).bind fun t122 =>
 (ldO false 1 q1.2 t122).bind fun t123 =>
 (lenO t123).bind fun t124 =>
 (castI .i64 t124).bind fun n125 =>
 (bif decide (n125 ≤ 16) then ((fA q1.1 6).bind fun t126 =>
 (ldO false 1 q1.2 t126).bind fun t127 =>
 (castI .u64 t127).bind fun n128 =>
 (fA q1.1 6).bind fun t129 =>
 (ldO false 1 q1.2 t129).bind fun t130 =>
 (castI .u64 t130).bind fun n131 =>
 (callO rec 100 (7 :: 0 :: 1 :: 1 :: 1 :: 1 :: 0 :: 1 :: 0 :: σ) [(.p (.int .u64 n128)), (.p (.int .i64 18))] q1.2 (some 54)).bind fun q132 =>
 (castI .u64 q132.1).bind fun n133 =>
 need (ldO false 1 q132.2 t129 = some (.p (.int .u64 n131))) (
 some ((.p (.bool (n133 == n131))), q132.2))) else (some ((.p (.bool false)), q1.2))).bind fun q134 =>
 (asB q134.1).bind fun b135 =>
 fin false σ q134.2 [(.p (.bool b135))])
 else (
 bif n4 == 6 then (
 (fA q1.1 7).bind fun t136 =>
 (ldO false 1 q1.2 t136).bind fun t137 =>
 (castI .i64 t137).bind fun n138 =>
 (bif decide (n138 ≥ 192) then ((fA q1.1 7).bind fun t139 =>
 (ldO false 1 q1.2 t139).bind fun t140 =>
 (castI .i64 t140).bind fun n141 =>
 some (decide (n141 ≤ 223))) else (some false)).bind fun b142 =>
 (bif b142 then ((fA q1.1 8).bind fun t143 =>
 (ldO false 1 q1.2 t143).bind fun t144 =>
 (castI .i64 t144).bind fun n145 =>
 some (decide (n145 ≥ 0))) else (some false)).bind fun b146 =>
 (bif b146 then ((fA q1.1 8).bind fun t147 =>
 (ldO false 1 q1.2 t147).bind fun t148 =>
 (castI .i64 t148).bind fun n149 =>
 some (decide (n149 ≤ 31))) else (some false)).bind fun b150 =>
 (bif b150 then ((fA q1.1 9).bind fun t151 =>
 (ldO false 1 q1.2 t151).bind fun t152 =>
 (lenO t152).bind fun t153 =>
 (castI .i64 t153).bind fun n154 =>
 some ((Int.tmod n154 4) == 0)) else (some false)).bind fun b155 =>
 (bif b155 then ((fA q1.1 9).bind fun t156 =>
 (ldO false 1 q1.2 t156).bind fun t157 =>
 (lenO t157).bind fun t158 =>
 (castI .i64 t158).bind fun n159 =>
 some (decide (n159 ≤ 262140))) else (some false)).bind fun b160 =>
 (bif b160 then ((fA q1.1 7).bind fun t161 =>
 (ldO false 1 q1.2 t161).bind fun t162 =>
 (castI .i64 t162).bind fun n163 =>
 (fA q1.1 8).bind fun t164 =>
 (ldO false 1 q1.2 t164).bind fun t165 =>
 (castI .i64 t165).bind fun n166 =>
 (callO rec 103 (36 :: 0 :: 1 :: 1 :: 1 :: 1 :: 1 :: 0 :: 1 :: 0 :: σ) [(.p (.int .i64 n163)), (.p (.int .i64 n166))] q1.2 (some 97)).bind fun q167 =>
 (castI .i64 q167.1).bind fun n168 =>
 some ((.p (.bool (n168 == 6))), q167.2)) else (some ((.p (.bool false)), q1.2))).bind fun q169 =>
 (asB q169.1).bind fun b170 =>
 fin false σ q169.2 [(.p (.bool b170))])
 else (
 fin false σ q1.2 [(.p (.bool true))]))))) := by kernel_rfl
end Go.Ev
/- Equations, printed by tracer2.py. -/
namespace Go.Ev
open Go.Proofs
set_option linter.unusedVariables false
set_option maxRecDepth 100000
-- 103 limelight/rtcp.kind
theorem rtcp_kind_entry (rec : CallF) (loop : LoopV) (σ : Stamp) (x0 : Int) (x1 : Int) (h : H) : cvBody G rec loop 103 σ [(.p (.int .i64 x0)), (.p (.int .i64 x1))] h =
 (bif x0 == 205 then (some (x1 == 3)) else (some false)).bind fun b1 =>
 bif b1 then (
 fin false σ (List.replicate 40 [] :: h) [(.p (.int .i64 1))])
 else (
 (bif x0 == 205 then (some (x1 == 4)) else (some false)).bind fun b2 =>
 bif b2 then (
 fin false σ (List.replicate 40 [] :: h) [(.p (.int .i64 2))])
 else (
 (bif x0 == 206 then (some (x1 == 1)) else (some false)).bind fun b3 =>
 bif b3 then (
 fin false σ (List.replicate 40 [] :: h) [(.p (.int .i64 3))])
 else (
 (bif x0 == 206 then (some (x1 == 4)) else (some false)).bind fun b4 =>
 bif b4 then (
 fin false σ (List.replicate 40 [] :: h) [(.p (.int .i64 4))])
 else (
 (bif x0 == 206 then (some (x1 == 15)) else (some false)).bind fun b5 =>
 bif b5 then (
 fin false σ (List.replicate 40 [] :: h) [(.p (.int .i64 5))])
 else (
 fin false σ (List.replicate 40 [] :: h) [(.p (.int .i64 6))]))))) := by kernel_rfl
end Go.Ev
/- Lifted by lift.py: rtcp_kind as a plain function. -/
namespace Go.Ev
open Go.Proofs
set_option linter.unusedVariables false
set_option linter.unusedSimpArgs false
set_option maxRecDepth 100000
def p_rtcp_kind (x0 : Int) (x1 : Int) : Option (Int) :=
(bif x0 == 205 then (some (x1 == 3)) else (some false)).bind fun b1 =>
bif b1 then (
some (1))
else (
(bif x0 == 205 then (some (x1 == 4)) else (some false)).bind fun b5 =>
bif b5 then (
some (2))
else (
(bif x0 == 206 then (some (x1 == 1)) else (some false)).bind fun b9 =>
bif b9 then (
some (3))
else (
(bif x0 == 206 then (some (x1 == 4)) else (some false)).bind fun b13 =>
bif b13 then (
some (4))
else (
(bif x0 == 206 then (some (x1 == 15)) else (some false)).bind fun b17 =>
bif b17 then (
some (5))
else (
some (6))))))
theorem rtcp_kind_ok {h : H} {σ : Stamp} (x0 : Int) (x1 : Int) : Sim (p_rtcp_kind x0 x1) (ev G X0 103 σ [(.p (.int .i64 x0)), (.p (.int .i64 x1))] h) (fun r s => s = ([.v (.p (.int .i64 r))], h)) := by
  refine Sim.ev rfl (Sim.ext (rtcp_kind_entry _ _ _ _ _ _) ?_)
  rw [p_rtcp_kind]
  have S0 : Fm 40 h [] [] [] (List.replicate 40 [] :: h) := Fm.start0
  refine Sim.ch (P := fun r y => r = y) ?_ (fun b1 y2 h3 h4 => ?_)
  · refine Sim.cd (fun hc => ?_) (fun hc => ?_)
    · exact Sim.ret rfl rfl
    · exact Sim.ret rfl rfl
  subst h4
  refine Sim.cd (fun hc => ?_) (fun hc => ?_)
  · exact Sim.fin (S0.finN (lv_cons (still_int _ _).lv lv_nil)) rfl
  · refine Sim.ch (P := fun r y => r = y) ?_ (fun b5 y6 h7 h8 => ?_)
    · refine Sim.cd (fun hc => ?_) (fun hc => ?_)
      · exact Sim.ret rfl rfl
      · exact Sim.ret rfl rfl
    subst h8
    refine Sim.cd (fun hc => ?_) (fun hc => ?_)
    · exact Sim.fin (S0.finN (lv_cons (still_int _ _).lv lv_nil)) rfl
    · refine Sim.ch (P := fun r y => r = y) ?_ (fun b9 y10 h11 h12 => ?_)
      · refine Sim.cd (fun hc => ?_) (fun hc => ?_)
        · exact Sim.ret rfl rfl
        · exact Sim.ret rfl rfl
      subst h12
      refine Sim.cd (fun hc => ?_) (fun hc => ?_)
      · exact Sim.fin (S0.finN (lv_cons (still_int _ _).lv lv_nil)) rfl
      · refine Sim.ch (P := fun r y => r = y) ?_ (fun b13 y14 h15 h16 => ?_)
        · refine Sim.cd (fun hc => ?_) (fun hc => ?_)
          · exact Sim.ret rfl rfl
          · exact Sim.ret rfl rfl
        subst h16
        refine Sim.cd (fun hc => ?_) (fun hc => ?_)
        · exact Sim.fin (S0.finN (lv_cons (still_int _ _).lv lv_nil)) rfl
        · refine Sim.ch (P := fun r y => r = y) ?_ (fun b17 y18 h19 h20 => ?_)
          · refine Sim.cd (fun hc => ?_) (fun hc => ?_)
            · exact Sim.ret rfl rfl
            · exact Sim.ret rfl rfl
          subst h20
          refine Sim.cd (fun hc => ?_) (fun hc => ?_)
          · exact Sim.fin (S0.finN (lv_cons (still_int _ _).lv lv_nil)) rfl
          · exact Sim.fin (S0.finN (lv_cons (still_int _ _).lv lv_nil)) rfl
end Go.Ev
/- Equations, printed by tracer2.py. -/
namespace Go.Ev
open Go.Proofs
set_option linter.unusedVariables false
set_option maxRecDepth 100000
-- 98 slices.ContainsFunc[[]limelight/api.Tuple,limelight/api.Tuple]
theorem slices_ContainsFunc_Lapi_Tuple_api_Tuple_entry (rec : CallF) (loop : LoopV) (σ : Stamp) (x0 : V) (x1 : V) (h : H) : cvBody G rec loop 98 σ [x0, x1] h =
 (callO rec 120 (2 :: 0 :: 1 :: 0 :: σ) [x0, x1] (List.replicate 9 [] :: h) (some 7)).bind fun q1 =>
 (castI .i64 q1.1).bind fun n2 =>
 fin false σ q1.2 [(.p (.bool (decide (n2 ≥ 0))))] := by kernel_rfl
end Go.Ev
/- Equations, printed by tracer2.py. -/
namespace Go.Ev
open Go.Proofs
set_option linter.unusedVariables false
set_option maxRecDepth 100000
-- 120 slices.IndexFunc[[]limelight/api.Tuple,limelight/api.Tuple]
noncomputable def slices_IndexFunc_Lapi_Tuple_api_Tuple_c0 : Code := (codeAt (bodyOf Try.f120) [1, 0, 1, 0, 0])
def slices_IndexFunc_Lapi_Tuple_api_Tuple_l0 : Lv := ⟨0, 16, [(0, 0)]⟩
noncomputable def slices_IndexFunc_Lapi_Tuple_api_Tuple_k0 (rec : CallF) (loop : LoopV) (σ : Stamp) : Exit → Env → H → Option (List C × H) := (kBlock 0 (kSeq G rec loop (codeAt (bodyOf Try.f120) [1, 1]) ⟨16, 16, []⟩ (1 :: 0 :: σ) (finC G false Try.f120 (1 :: σ))))
theorem slices_IndexFunc_Lapi_Tuple_api_Tuple_entry (rec : CallF) (loop : LoopV) (σ : Stamp) (x0 : V) (x1 : V) (h : H) : cvBody G rec loop 120 σ [x0, x1] h =
 (lenO x0).bind fun t1 =>
 (castI .i64 t1).bind fun n2 =>
 (loop slices_IndexFunc_Lapi_Tuple_api_Tuple_c0 slices_IndexFunc_Lapi_Tuple_api_Tuple_l0 (1 :: 0 :: 1 :: 0 :: σ) (envL [(0, x0), (1, x1), (7, (.p (.int .i64 n2))), (8, (.p (.int .i64 0)))]) (List.replicate 19 [] :: h)).bind fun r3 => slices_IndexFunc_Lapi_Tuple_api_Tuple_k0 rec loop σ r3.1 r3.2.1 r3.2.2 := by kernel_rfl
theorem slices_IndexFunc_Lapi_Tuple_api_Tuple_r0 (rec : CallF) (loop : LoopV) (σ : Stamp) (x0 : V) (x1 : V) (x7 : Int) (x8 : Int) (h : H) : cvRound G rec loop slices_IndexFunc_Lapi_Tuple_api_Tuple_c0 slices_IndexFunc_Lapi_Tuple_api_Tuple_l0 σ (envL [(0, x0), (1, x1), (7, (.p (.int .i64 x7))), (8, (.p (.int .i64 x8)))]) h =
 bif decide (x8 < x7) then (
 (iS 3 x0 x8).bind fun t4 =>
 (ldO true 3 h t4).bind fun t5 =>
 (cloO rec x1 (5 :: 0 :: 1 :: 0 :: 1 :: 1 :: 0 :: σ) [t5] h (some 16)).bind fun q6 =>
 (asB q6.1).bind fun b7 =>
 bif b7 then (
 some (.ret, (envL [(4, (.p (.int .i64 x8)))]), q6.2))
 else (
 loop slices_IndexFunc_Lapi_Tuple_api_Tuple_c0 slices_IndexFunc_Lapi_Tuple_api_Tuple_l0 (1 :: σ) (envL [(0, x0), (1, x1), (7, (.p (.int .i64 x7))), (8, (.p (.int .i64 (IntKind.wrap .i64 (x8 + 1)))))]) q6.2))
 else (
 some ((.exit 0), (envL []), h)) := by kernel_rfl
theorem slices_IndexFunc_Lapi_Tuple_api_Tuple_a0_0 (rec : CallF) (loop : LoopV) (σ : Stamp)  (h : H) : slices_IndexFunc_Lapi_Tuple_api_Tuple_k0 rec loop σ (.exit 0) (envL []) h =
 fin false σ h [(.p (.int .i64 (-1)))] := by kernel_rfl
theorem slices_IndexFunc_Lapi_Tuple_api_Tuple_a0_ret (rec : CallF) (loop : LoopV) (σ : Stamp) (x4 : Int) (h : H) : slices_IndexFunc_Lapi_Tuple_api_Tuple_k0 rec loop σ .ret (envL [(4, (.p (.int .i64 x4)))]) h =
 fin false σ h [(.p (.int .i64 x4))] := by kernel_rfl
end Go.Ev
/- Equations, printed by tracer2.py. -/
namespace Go.Ev
open Go.Proofs
set_option linter.unusedVariables false
set_option maxRecDepth 100000
-- 99 limelight/rtcp.values$1
theorem rtcp_values_1_entry (rec : CallF) (loop : LoopV) (σ : Stamp) (x0 : V) (h : H) : cvBody G rec loop 99 σ [x0] h =
 (boxO false (0 :: 0 :: 0 :: σ) 1 (List.replicate 19 [] :: h) x0).bind fun q1 =>
 (fA q1.1 2).bind fun t2 =>
 (ldO false 1 q1.2 t2).bind fun t3 =>
 (castI .i64 t3).bind fun n4 =>
 (bif decide (n4 < 0) then (some true) else ((fA q1.1 2).bind fun t5 =>
 (ldO false 1 q1.2 t5).bind fun t6 =>
 (castI .i64 t6).bind fun n7 =>
 some (decide (n7 > 511)))).bind fun b8 =>
 (bif b8 then (some ((.p (.bool true)), q1.2)) else ((fA q1.1 1).bind fun t9 =>
 (ldO false 1 q1.2 t9).bind fun t10 =>
 (castI .u64 t10).bind fun n11 =>
 (fA q1.1 1).bind fun t12 =>
 (ldO false 1 q1.2 t12).bind fun t13 =>
 (castI .u64 t13).bind fun n14 =>
 (callO rec 100 (11 :: 0 :: 1 :: 0 :: σ) [(.p (.int .u64 n11)), (.p (.int .i64 17))] q1.2 (some 14)).bind fun q15 =>
 (castI .u64 q15.1).bind fun n16 =>
 need (ldO false 1 q15.2 t12 = some (.p (.int .u64 n14))) (
 some ((.p (.bool (n16 != n14))), q15.2)))).bind fun q17 =>
 (asB q17.1).bind fun b18 =>
 fin false σ q17.2 [(.p (.bool b18))] := by kernel_rfl
end Go.Ev
/- Lifted by lift.py: rtcp_values_1 as a plain function. -/
namespace Go.Ev
open Go.Proofs
set_option linter.unusedVariables false
set_option linter.unusedSimpArgs false
set_option maxRecDepth 100000
def p_rtcp_values_1 (k : Nat) (x0 : T_api_Tuple) : Option (Bool) :=
(bif decide (x0.Over < 0) then (some true) else (some (decide (x0.Over > 511)))).bind fun b5 =>
(bif b5 then (some true) else ((p_rate_Down k x0.Rate 17).bind fun r9 =>
some (r9 != x0.Rate))).bind fun b14 =>
some (b14)
theorem rtcp_values_1_ok (k : Nat) {h : H} {σ : Stamp} (x0 : T_api_Tuple) {u0 : List V} (hu0 : dT_api_Tuple.R x0 u0) : Sim (p_rtcp_values_1 k x0) (ev G X0 99 σ [(.agg u0)] h) (fun r s => s = ([.v (.p (.bool r))], h)) := by
  refine Sim.ev rfl (Sim.ext (rtcp_values_1_entry _ _ _ _ _) ?_)
  rw [p_rtcp_values_1]
  obtain rfl := dT_api_Tuple.inv hu0
  have S0 : Fm 19 h [] [] [] (List.replicate 19 [] :: h) := Fm.start0
  obtain ⟨H1, e2, S3⟩ := S0.box (own := false) (d := 1) (s := (0 :: 0 :: 0 :: σ)) (xs := [(.p (.int .u32 x0.Owner)), (.p (.int .u64 x0.Rate)), (.p (.int .i64 x0.Over))]) (stills_cons (still_int _ _) (stills_cons (still_int _ _) (stills_cons (still_int _ _) stills_nil))) (by decide) rfl
  refine Sim.op (e2) ?_
  refine Sim.op (fA_ref _ _ _) ?_
  refine Sim.op ((S3.atG (i := 0) rfl).ld (j := 2) rfl) ?_
  refine Sim.op (castI_p _ _) ?_
  refine Sim.ch (P := fun r y => r = y) ?_ (fun b5 y6 h7 h8 => ?_)
  · refine Sim.cd (fun hc => ?_) (fun hc => ?_)
    · exact Sim.ret rfl rfl
    · refine Sim.op (fA_ref _ _ _) ?_
      refine Sim.op ((S3.atG (i := 0) rfl).ld (j := 2) rfl) ?_
      refine Sim.op (castI_p _ _) ?_
      exact Sim.ret rfl rfl
  subst h8
  refine Sim.ch (P := fun r y => (.p (.bool r), H1) = y) ?_ (fun b14 y15 h16 h17 => ?_)
  · refine Sim.cd (fun hc => ?_) (fun hc => ?_)
    · exact Sim.ret rfl rfl
    · refine Sim.op (fA_ref _ _ _) ?_
      refine Sim.op ((S3.atG (i := 0) rfl).ld (j := 1) rfl) ?_
      refine Sim.op (castI_p _ _) ?_
      refine Sim.op (fA_ref _ _ _) ?_
      refine Sim.op ((S3.atG (i := 0) rfl).ld (j := 1) rfl) ?_
      refine Sim.op (castI_p _ _) ?_
      refine Sim.call (rate_Down_ok k x0.Rate 17) fun r9 cs10 H11 h12 q13 => ?_
      cases q13
      refine Sim.op (castI_p _ _) ?_
      refine Sim.nd ((S3.atG (i := 0) rfl).ld (j := 1) rfl) ?_
      exact Sim.ret rfl rfl
  subst h17
  refine Sim.op (asB_p _) ?_
  exact Sim.fin (S3.finN (lv_cons (still_bool _).lv lv_nil)) rfl
end Go.Ev
/- Lifted by lift.py: slices_IndexFunc_Lapi_Tuple_api_Tuple as a plain function. -/
namespace Go.Ev
open Go.Proofs
set_option linter.unusedVariables false
set_option linter.unusedSimpArgs false
set_option maxRecDepth 100000
def p_slices_IndexFunc_Lapi_Tuple_api_Tuple_rtcp_values_1_l0 {β : Type} (k : Nat) (kE0 : Unit → Option β) (kE1 : Int → Option β) (x0 : (List T_api_Tuple)) (x7 : Int) (x8 : Int) : Option β := match k with
| 0 => none
| k + 1 =>
bif decide (x8 < x7) then (
(ix x0 x8).bind fun a5 =>
(p_rtcp_values_1 k a5).bind fun r10 =>
bif r10 then (
kE1 x8)
else (
p_slices_IndexFunc_Lapi_Tuple_api_Tuple_rtcp_values_1_l0 k kE0 kE1 x0 x7 (IntKind.wrap .i64 (x8 + 1))))
else (
kE0 ())
def p_slices_IndexFunc_Lapi_Tuple_api_Tuple_rtcp_values_1 (k : Nat) (x0 : (List T_api_Tuple)) : Option (Int) :=
p_slices_IndexFunc_Lapi_Tuple_api_Tuple_rtcp_values_1_l0 k (fun (_ : Unit) =>
some ((-1))) (fun r22_4 =>
some (r22_4)) x0 ((x0.length : Int)) 0
theorem slices_IndexFunc_Lapi_Tuple_api_Tuple_rtcp_values_1_l0_ok {h : H}  {β α : Type} {Q : β → α → Prop} {K : Exit × Env × H → Option α} {kE0 : Unit → Option β} {kE1 : Int → Option β} (hE0 : ∀ (_u : Unit) (H15 : Go.Ev.H) (_ : Fm 19 h [] [] [] H15), Sim (kE0 ()) (K ((.exit 0), (envL []), H15)) Q) (hE1 : ∀ (q4 : Int) (H17 : Go.Ev.H) (_ : Fm 19 h [] [] [] H17), Sim (kE1 q4) (K (.ret, (envL [(4, (.p (.int .i64 q4)))]), H17)) Q) (k : Nat) : ∀ (x0 : (List T_api_Tuple)) (x7 : Int) (x8 : Int) (v3 : V) (h4 : SlH h dT_api_Tuple x0 v3) (H1 : Go.Ev.H) (_ : Fm 19 h [] [] [] H1) {σ : Stamp}, Sim (p_slices_IndexFunc_Lapi_Tuple_api_Tuple_rtcp_values_1_l0 k kE0 kE1 x0 x7 x8) ((cvL G X0 slices_IndexFunc_Lapi_Tuple_api_Tuple_c0 slices_IndexFunc_Lapi_Tuple_api_Tuple_l0 σ (envL [(0, v3), (1, (.clo 99 [])), (7, (.p (.int .i64 x7))), (8, (.p (.int .i64 x8)))]) H1).bind K) Q := by
  induction k with
  | zero => intros; exact Sim.no
  | succ k ih =>
    intro x0 x7 x8 v3 h4 H1 S2 σ
    rw [p_slices_IndexFunc_Lapi_Tuple_api_Tuple_rtcp_values_1_l0]
    refine Sim.round (Sim.ext (slices_IndexFunc_Lapi_Tuple_api_Tuple_r0 _ _ _ _ _ _ _ _) ?_)
    refine Sim.cd (fun hc => ?_) (fun hc => ?_)
    · refine Sim.bd fun a5 h6 => ?_
      refine Sim.op ((S2.low h4).iS h6 rfl) ?_
      obtain ⟨w8, h9, hE7⟩ := (S2.low h4).el h6 rfl
      obtain rfl := dT_api_Tuple.inv h9
      refine Sim.op (hE7.all (by simp)) ?_
      refine Sim.clo ?_
      refine Sim.call (rtcp_values_1_ok k a5 (show dT_api_Tuple.R a5 [.p (.int .u32 a5.Owner), .p (.int .u64 a5.Rate), .p (.int .i64 a5.Over)] from (dT_api_Tuple.mk))) fun r10 cs11 H12 h13 q14 => ?_
      cases q14
      refine Sim.op (asB_p _) ?_
      refine Sim.cd (fun hc => ?_) (fun hc => ?_)
      · exact hE1 x8 H1 (S2.wk2 all_nil all_nil)
      · exact ih x0 x7 (IntKind.wrap .i64 (x8 + 1)) v3 h4 H1 (S2.wk2 all_nil all_nil)
    · exact hE0 () H1 (S2.wk2 all_nil all_nil)
theorem slices_IndexFunc_Lapi_Tuple_api_Tuple_rtcp_values_1_ok (k : Nat) {h : H} {σ : Stamp} (x0 : List T_api_Tuple) {u0 : V} (hu0 : SlH h dT_api_Tuple x0 u0) : Sim (p_slices_IndexFunc_Lapi_Tuple_api_Tuple_rtcp_values_1 k x0) (ev G X0 120 σ [u0, (.clo 99 [])] h) (fun r s => s = ([.v (.p (.int .i64 r))], h)) := by
  refine Sim.ev rfl (Sim.ext (slices_IndexFunc_Lapi_Tuple_api_Tuple_entry _ _ _ _ _ _) ?_)
  rw [p_slices_IndexFunc_Lapi_Tuple_api_Tuple_rtcp_values_1]
  have S0 : Fm 19 h [] [] [] (List.replicate 19 [] :: h) := Fm.start0
  refine Sim.op ((S0.low hu0).len) ?_
  refine Sim.op (castI_p _ _) ?_
  refine Sim.as (slices_IndexFunc_Lapi_Tuple_api_Tuple_rtcp_values_1_l0_ok ?_ ?_ k x0 ((x0.length : Int)) 0 u0 hu0 (List.replicate 19 [] :: h) (S0.wk2 all_nil all_nil)) 
  · intro _u H20 S21
    refine Sim.ext (slices_IndexFunc_Lapi_Tuple_api_Tuple_a0_0 _ _ _ _) ?_
    exact Sim.fin (S21.finN (lv_cons (still_int _ _).lv lv_nil)) rfl
  · intro r22_4 H23 S24
    refine Sim.ext (slices_IndexFunc_Lapi_Tuple_api_Tuple_a0_ret _ _ _ _ _) ?_
    exact Sim.fin (S24.finN (lv_cons (still_int _ _).lv lv_nil)) rfl
end Go.Ev
/- Lifted by lift.py: slices_ContainsFunc_Lapi_Tuple_api_Tuple as a plain function. -/
namespace Go.Ev
open Go.Proofs
set_option linter.unusedVariables false
set_option linter.unusedSimpArgs false
set_option maxRecDepth 100000
def p_slices_ContainsFunc_Lapi_Tuple_api_Tuple_rtcp_values_1 (k : Nat) (x0 : (List T_api_Tuple)) : Option (Bool) :=
(p_slices_IndexFunc_Lapi_Tuple_api_Tuple_rtcp_values_1 k x0).bind fun r1 =>
some ((decide (r1 ≥ 0)))
theorem slices_ContainsFunc_Lapi_Tuple_api_Tuple_rtcp_values_1_ok (k : Nat) {h : H} {σ : Stamp} (x0 : List T_api_Tuple) {u0 : V} (hu0 : SlH h dT_api_Tuple x0 u0) : Sim (p_slices_ContainsFunc_Lapi_Tuple_api_Tuple_rtcp_values_1 k x0) (ev G X0 98 σ [u0, (.clo 99 [])] h) (fun r s => s = ([.v (.p (.bool r))], h)) := by
  refine Sim.ev rfl (Sim.ext (slices_ContainsFunc_Lapi_Tuple_api_Tuple_entry _ _ _ _ _ _) ?_)
  rw [p_slices_ContainsFunc_Lapi_Tuple_api_Tuple_rtcp_values_1]
  have S0 : Fm 9 h [] [] [] (List.replicate 9 [] :: h) := Fm.start0
  refine Sim.call (slices_IndexFunc_Lapi_Tuple_api_Tuple_rtcp_values_1_ok k x0 (S0.low hu0)) fun r1 cs2 H3 h4 q5 => ?_
  cases q5
  refine Sim.op (castI_p _ _) ?_
  exact Sim.fin (S0.finN (lv_cons (still_bool _).lv lv_nil)) rfl
end Go.Ev
/- Equations, printed by tracer2.py. -/
namespace Go.Ev
open Go.Proofs
set_option linter.unusedVariables false
set_option maxRecDepth 100000
-- 101 slices.ContainsFunc[[]int,int]
theorem slices_ContainsFunc_Lint_int_entry (rec : CallF) (loop : LoopV) (σ : Stamp) (x0 : V) (x1 : V) (h : H) : cvBody G rec loop 101 σ [x0, x1] h =
 (callO rec 136 (2 :: 0 :: 1 :: 0 :: σ) [x0, x1] (List.replicate 9 [] :: h) (some 7)).bind fun q1 =>
 (castI .i64 q1.1).bind fun n2 =>
 fin false σ q1.2 [(.p (.bool (decide (n2 ≥ 0))))] := by kernel_rfl
end Go.Ev
/- Equations, printed by tracer2.py. -/
namespace Go.Ev
open Go.Proofs
set_option linter.unusedVariables false
set_option maxRecDepth 100000
-- 136 slices.IndexFunc[[]int,int]
noncomputable def slices_IndexFunc_Lint_int_c0 : Code := (codeAt (bodyOf Try.f136) [1, 0, 1, 0, 0])
def slices_IndexFunc_Lint_int_l0 : Lv := ⟨0, 16, [(0, 0)]⟩
noncomputable def slices_IndexFunc_Lint_int_k0 (rec : CallF) (loop : LoopV) (σ : Stamp) : Exit → Env → H → Option (List C × H) := (kBlock 0 (kSeq G rec loop (codeAt (bodyOf Try.f136) [1, 1]) ⟨16, 16, []⟩ (1 :: 0 :: σ) (finC G false Try.f136 (1 :: σ))))
theorem slices_IndexFunc_Lint_int_entry (rec : CallF) (loop : LoopV) (σ : Stamp) (x0 : V) (x1 : V) (h : H) : cvBody G rec loop 136 σ [x0, x1] h =
 (lenO x0).bind fun t1 =>
 (castI .i64 t1).bind fun n2 =>
 (loop slices_IndexFunc_Lint_int_c0 slices_IndexFunc_Lint_int_l0 (1 :: 0 :: 1 :: 0 :: σ) (envL [(0, x0), (1, x1), (7, (.p (.int .i64 n2))), (8, (.p (.int .i64 0)))]) (List.replicate 19 [] :: h)).bind fun r3 => slices_IndexFunc_Lint_int_k0 rec loop σ r3.1 r3.2.1 r3.2.2 := by kernel_rfl
theorem slices_IndexFunc_Lint_int_r0 (rec : CallF) (loop : LoopV) (σ : Stamp) (x0 : V) (x1 : V) (x7 : Int) (x8 : Int) (h : H) : cvRound G rec loop slices_IndexFunc_Lint_int_c0 slices_IndexFunc_Lint_int_l0 σ (envL [(0, x0), (1, x1), (7, (.p (.int .i64 x7))), (8, (.p (.int .i64 x8)))]) h =
 bif decide (x8 < x7) then (
 (iS 1 x0 x8).bind fun t4 =>
 (ldO false 1 h t4).bind fun t5 =>
 (castI .i64 t5).bind fun n6 =>
 (cloO rec x1 (5 :: 0 :: 1 :: 0 :: 1 :: 1 :: 0 :: σ) [(.p (.int .i64 n6))] h (some 16)).bind fun q7 =>
 (asB q7.1).bind fun b8 =>
 bif b8 then (
 some (.ret, (envL [(4, (.p (.int .i64 x8)))]), q7.2))
 else (
 loop slices_IndexFunc_Lint_int_c0 slices_IndexFunc_Lint_int_l0 (1 :: σ) (envL [(0, x0), (1, x1), (7, (.p (.int .i64 x7))), (8, (.p (.int .i64 (IntKind.wrap .i64 (x8 + 1)))))]) q7.2))
 else (
 some ((.exit 0), (envL []), h)) := by kernel_rfl
theorem slices_IndexFunc_Lint_int_a0_0 (rec : CallF) (loop : LoopV) (σ : Stamp)  (h : H) : slices_IndexFunc_Lint_int_k0 rec loop σ (.exit 0) (envL []) h =
 fin false σ h [(.p (.int .i64 (-1)))] := by kernel_rfl
theorem slices_IndexFunc_Lint_int_a0_ret (rec : CallF) (loop : LoopV) (σ : Stamp) (x4 : Int) (h : H) : slices_IndexFunc_Lint_int_k0 rec loop σ .ret (envL [(4, (.p (.int .i64 x4)))]) h =
 fin false σ h [(.p (.int .i64 x4))] := by kernel_rfl
end Go.Ev
/- Equations, printed by tracer2.py. -/
namespace Go.Ev
open Go.Proofs
set_option linter.unusedVariables false
set_option maxRecDepth 100000
-- 102 limelight/rtcp.values$2
theorem rtcp_values_2_entry (rec : CallF) (loop : LoopV) (σ : Stamp) (x0 : Int) (h : H) : cvBody G rec loop 102 σ [(.p (.int .i64 x0))] h =
 (bif decide (x0 < 0) then (some true) else (some (decide (x0 > 255)))).bind fun b1 =>
 fin false σ (List.replicate 9 [] :: h) [(.p (.bool b1))] := by kernel_rfl
end Go.Ev
/- Lifted by lift.py: rtcp_values_2 as a plain function. -/
namespace Go.Ev
open Go.Proofs
set_option linter.unusedVariables false
set_option linter.unusedSimpArgs false
set_option maxRecDepth 100000
def p_rtcp_values_2 (x0 : Int) : Option (Bool) :=
(bif decide (x0 < 0) then (some true) else (some (decide (x0 > 255)))).bind fun b1 =>
some (b1)
theorem rtcp_values_2_ok {h : H} {σ : Stamp} (x0 : Int) : Sim (p_rtcp_values_2 x0) (ev G X0 102 σ [(.p (.int .i64 x0))] h) (fun r s => s = ([.v (.p (.bool r))], h)) := by
  refine Sim.ev rfl (Sim.ext (rtcp_values_2_entry _ _ _ _ _) ?_)
  rw [p_rtcp_values_2]
  have S0 : Fm 9 h [] [] [] (List.replicate 9 [] :: h) := Fm.start0
  refine Sim.ch (P := fun r y => r = y) ?_ (fun b1 y2 h3 h4 => ?_)
  · refine Sim.cd (fun hc => ?_) (fun hc => ?_)
    · exact Sim.ret rfl rfl
    · exact Sim.ret rfl rfl
  subst h4
  exact Sim.fin (S0.finN (lv_cons (still_bool _).lv lv_nil)) rfl
end Go.Ev
/- Lifted by lift.py: slices_IndexFunc_Lint_int as a plain function. -/
namespace Go.Ev
open Go.Proofs
set_option linter.unusedVariables false
set_option linter.unusedSimpArgs false
set_option maxRecDepth 100000
def p_slices_IndexFunc_Lint_int_rtcp_values_2_l0 {β : Type} (k : Nat) (kE0 : Unit → Option β) (kE1 : Int → Option β) (x0 : (List Int)) (x7 : Int) (x8 : Int) : Option β := match k with
| 0 => none
| k + 1 =>
bif decide (x8 < x7) then (
(ix x0 x8).bind fun a5 =>
(p_rtcp_values_2 a5).bind fun r8 =>
bif r8 then (
kE1 x8)
else (
p_slices_IndexFunc_Lint_int_rtcp_values_2_l0 k kE0 kE1 x0 x7 (IntKind.wrap .i64 (x8 + 1))))
else (
kE0 ())
def p_slices_IndexFunc_Lint_int_rtcp_values_2 (k : Nat) (x0 : (List Int)) : Option (Int) :=
p_slices_IndexFunc_Lint_int_rtcp_values_2_l0 k (fun (_ : Unit) =>
some ((-1))) (fun r20_4 =>
some (r20_4)) x0 ((x0.length : Int)) 0
theorem slices_IndexFunc_Lint_int_rtcp_values_2_l0_ok {h : H}  {β α : Type} {Q : β → α → Prop} {K : Exit × Env × H → Option α} {kE0 : Unit → Option β} {kE1 : Int → Option β} (hE0 : ∀ (_u : Unit) (H13 : Go.Ev.H) (_ : Fm 19 h [] [] [] H13), Sim (kE0 ()) (K ((.exit 0), (envL []), H13)) Q) (hE1 : ∀ (q4 : Int) (H15 : Go.Ev.H) (_ : Fm 19 h [] [] [] H15), Sim (kE1 q4) (K (.ret, (envL [(4, (.p (.int .i64 q4)))]), H15)) Q) (k : Nat) : ∀ (x0 : (List Int)) (x7 : Int) (x8 : Int) (v3 : V) (h4 : SlH h (dI .i64) x0 v3) (H1 : Go.Ev.H) (_ : Fm 19 h [] [] [] H1) {σ : Stamp}, Sim (p_slices_IndexFunc_Lint_int_rtcp_values_2_l0 k kE0 kE1 x0 x7 x8) ((cvL G X0 slices_IndexFunc_Lint_int_c0 slices_IndexFunc_Lint_int_l0 σ (envL [(0, v3), (1, (.clo 102 [])), (7, (.p (.int .i64 x7))), (8, (.p (.int .i64 x8)))]) H1).bind K) Q := by
  induction k with
  | zero => intros; exact Sim.no
  | succ k ih =>
    intro x0 x7 x8 v3 h4 H1 S2 σ
    rw [p_slices_IndexFunc_Lint_int_rtcp_values_2_l0]
    refine Sim.round (Sim.ext (slices_IndexFunc_Lint_int_r0 _ _ _ _ _ _ _ _) ?_)
    refine Sim.cd (fun hc => ?_) (fun hc => ?_)
    · refine Sim.bd fun a5 h6 => ?_
      refine Sim.op ((S2.low h4).iS h6 rfl) ?_
      obtain ⟨_, rfl, hE7⟩ := (S2.low h4).el h6 rfl
      refine Sim.op (hE7.ld (j := 0) rfl) ?_
      refine Sim.op (castI_p _ _) ?_
      refine Sim.clo ?_
      refine Sim.call (rtcp_values_2_ok a5) fun r8 cs9 H10 h11 q12 => ?_
      cases q12
      refine Sim.op (asB_p _) ?_
      refine Sim.cd (fun hc => ?_) (fun hc => ?_)
      · exact hE1 x8 H1 (S2.wk2 all_nil all_nil)
      · exact ih x0 x7 (IntKind.wrap .i64 (x8 + 1)) v3 h4 H1 (S2.wk2 all_nil all_nil)
    · exact hE0 () H1 (S2.wk2 all_nil all_nil)
theorem slices_IndexFunc_Lint_int_rtcp_values_2_ok (k : Nat) {h : H} {σ : Stamp} (x0 : List Int) {u0 : V} (hu0 : SlH h (dI .i64) x0 u0) : Sim (p_slices_IndexFunc_Lint_int_rtcp_values_2 k x0) (ev G X0 136 σ [u0, (.clo 102 [])] h) (fun r s => s = ([.v (.p (.int .i64 r))], h)) := by
  refine Sim.ev rfl (Sim.ext (slices_IndexFunc_Lint_int_entry _ _ _ _ _ _) ?_)
  rw [p_slices_IndexFunc_Lint_int_rtcp_values_2]
  have S0 : Fm 19 h [] [] [] (List.replicate 19 [] :: h) := Fm.start0
  refine Sim.op ((S0.low hu0).len) ?_
  refine Sim.op (castI_p _ _) ?_
  refine Sim.as (slices_IndexFunc_Lint_int_rtcp_values_2_l0_ok ?_ ?_ k x0 ((x0.length : Int)) 0 u0 hu0 (List.replicate 19 [] :: h) (S0.wk2 all_nil all_nil)) 
  · intro _u H18 S19
    refine Sim.ext (slices_IndexFunc_Lint_int_a0_0 _ _ _ _) ?_
    exact Sim.fin (S19.finN (lv_cons (still_int _ _).lv lv_nil)) rfl
  · intro r20_4 H21 S22
    refine Sim.ext (slices_IndexFunc_Lint_int_a0_ret _ _ _ _ _) ?_
    exact Sim.fin (S22.finN (lv_cons (still_int _ _).lv lv_nil)) rfl
end Go.Ev
/- Lifted by lift.py: slices_ContainsFunc_Lint_int as a plain function. -/
namespace Go.Ev
open Go.Proofs
set_option linter.unusedVariables false
set_option linter.unusedSimpArgs false
set_option maxRecDepth 100000
def p_slices_ContainsFunc_Lint_int_rtcp_values_2 (k : Nat) (x0 : (List Int)) : Option (Bool) :=
(p_slices_IndexFunc_Lint_int_rtcp_values_2 k x0).bind fun r1 =>
some ((decide (r1 ≥ 0)))
theorem slices_ContainsFunc_Lint_int_rtcp_values_2_ok (k : Nat) {h : H} {σ : Stamp} (x0 : List Int) {u0 : V} (hu0 : SlH h (dI .i64) x0 u0) : Sim (p_slices_ContainsFunc_Lint_int_rtcp_values_2 k x0) (ev G X0 101 σ [u0, (.clo 102 [])] h) (fun r s => s = ([.v (.p (.bool r))], h)) := by
  refine Sim.ev rfl (Sim.ext (slices_ContainsFunc_Lint_int_entry _ _ _ _ _ _) ?_)
  rw [p_slices_ContainsFunc_Lint_int_rtcp_values_2]
  have S0 : Fm 9 h [] [] [] (List.replicate 9 [] :: h) := Fm.start0
  refine Sim.call (slices_IndexFunc_Lint_int_rtcp_values_2_ok k x0 (S0.low hu0)) fun r1 cs2 H3 h4 q5 => ?_
  cases q5
  refine Sim.op (castI_p _ _) ?_
  exact Sim.fin (S0.finN (lv_cons (still_bool _).lv lv_nil)) rfl
end Go.Ev
/- Lifted by lift.py: rtcp_values as a plain function. -/
namespace Go.Ev
open Go.Proofs
set_option linter.unusedVariables false
set_option linter.unusedSimpArgs false
set_option maxRecDepth 100000
def p_rtcp_values (k : Nat) (x0 : T_api_Report) : Option (Bool) :=
bif x0.Kind == 1 then (
bif x0.Kind == 1 then (
(bif decide (((x0.Tuples.length : Int)) ≤ 6) then ((p_slices_ContainsFunc_Lapi_Tuple_api_Tuple_rtcp_values_1 k x0.Tuples).bind fun r13 =>
some (!r13)) else (some false)).bind fun b18 =>
some (b18))
else (
bif x0.Kind == 4 then (
(bif ((x0.Numbers.length : Int)) == ((x0.Abouts.length : Int)) then (some (decide (((x0.Abouts.length : Int)) ≥ 1))) else (some false)).bind fun b22 =>
(bif b22 then (some (decide (((x0.Abouts.length : Int)) ≤ 16))) else (some false)).bind fun b26 =>
(bif b26 then ((p_slices_ContainsFunc_Lint_int_rtcp_values_2 k x0.Numbers).bind fun r30 =>
some (!r30)) else (some false)).bind fun b35 =>
some (b35))
else (
bif x0.Kind == 5 then (
(bif decide (((x0.Abouts.length : Int)) ≤ 16) then ((p_rate_Down k x0.Rate 18).bind fun r39 =>
some (r39 == x0.Rate)) else (some false)).bind fun b44 =>
some (b44))
else (
bif x0.Kind == 6 then (
(bif decide (x0.f_Type ≥ 192) then (some (decide (x0.f_Type ≤ 223))) else (some false)).bind fun b48 =>
(bif b48 then (some (decide (x0.Count ≥ 0))) else (some false)).bind fun b52 =>
(bif b52 then (some (decide (x0.Count ≤ 31))) else (some false)).bind fun b56 =>
(bif b56 then (some ((Int.tmod ((x0.Body.length : Int)) 4) == 0)) else (some false)).bind fun b60 =>
(bif b60 then (some (decide (((x0.Body.length : Int)) ≤ 262140))) else (some false)).bind fun b64 =>
(bif b64 then ((p_rtcp_kind x0.f_Type x0.Count).bind fun r68 =>
some (r68 == 6)) else (some false)).bind fun b73 =>
some (b73))
else (
some (true))))))
else (
bif x0.Kind == 2 then (
(bif decide (((x0.Tuples.length : Int)) ≤ 6) then ((p_slices_ContainsFunc_Lapi_Tuple_api_Tuple_rtcp_values_1 k x0.Tuples).bind fun r77 =>
some (!r77)) else (some false)).bind fun b82 =>
some (b82))
else (
bif x0.Kind == 4 then (
(bif ((x0.Numbers.length : Int)) == ((x0.Abouts.length : Int)) then (some (decide (((x0.Abouts.length : Int)) ≥ 1))) else (some false)).bind fun b86 =>
(bif b86 then (some (decide (((x0.Abouts.length : Int)) ≤ 16))) else (some false)).bind fun b90 =>
(bif b90 then ((p_slices_ContainsFunc_Lint_int_rtcp_values_2 k x0.Numbers).bind fun r94 =>
some (!r94)) else (some false)).bind fun b99 =>
some (b99))
else (
bif x0.Kind == 5 then (
(bif decide (((x0.Abouts.length : Int)) ≤ 16) then ((p_rate_Down k x0.Rate 18).bind fun r103 =>
some (r103 == x0.Rate)) else (some false)).bind fun b108 =>
some (b108))
else (
bif x0.Kind == 6 then (
(bif decide (x0.f_Type ≥ 192) then (some (decide (x0.f_Type ≤ 223))) else (some false)).bind fun b112 =>
(bif b112 then (some (decide (x0.Count ≥ 0))) else (some false)).bind fun b116 =>
(bif b116 then (some (decide (x0.Count ≤ 31))) else (some false)).bind fun b120 =>
(bif b120 then (some ((Int.tmod ((x0.Body.length : Int)) 4) == 0)) else (some false)).bind fun b124 =>
(bif b124 then (some (decide (((x0.Body.length : Int)) ≤ 262140))) else (some false)).bind fun b128 =>
(bif b128 then ((p_rtcp_kind x0.f_Type x0.Count).bind fun r132 =>
some (r132 == 6)) else (some false)).bind fun b137 =>
some (b137))
else (
some (true))))))
theorem rtcp_values_ok (k : Nat) {h : H} {σ : Stamp} (x0 : T_api_Report) {u0 : List V} (hu0 : dT_api_Report.R x0 u0) : Sim (p_rtcp_values k x0) (ev G X0 61 σ [(.agg u0)] h) (fun r s => s = ([.v (.p (.bool r))], h)) := by
  refine Sim.ev rfl (Sim.ext (rtcp_values_entry _ _ _ _ _) ?_)
  rw [p_rtcp_values]
  obtain ⟨v1, v3, v5, v7, rfl, h2, h4, h6, h8⟩ := dT_api_Report.inv hu0
  have S0 : Fm 100 h [] [] [] (List.replicate 100 [] :: h) := Fm.start0
  obtain ⟨H9, e10, S11⟩ := S0.box (own := false) (d := 1) (s := (0 :: 0 :: 0 :: σ)) (xs := [(.p (.int .i64 x0.Kind)), (.p (.int .u32 x0.From)), (.p (.int .u32 x0.About)), v1, v3, v5, (.p (.int .u64 x0.Rate)), (.p (.int .i64 x0.f_Type)), (.p (.int .i64 x0.Count)), v7]) (stills_cons (still_int _ _) (stills_cons (still_int _ _) (stills_cons (still_int _ _) (stills_cons h2.still (stills_cons h4.still (stills_cons h6.still (stills_cons (still_int _ _) (stills_cons (still_int _ _) (stills_cons (still_int _ _) (stills_cons h8.still stills_nil)))))))))) (by decide) rfl
  refine Sim.op (e10) ?_
  refine Sim.op (fA_ref _ _ _) ?_
  refine Sim.op ((S11.atG (i := 0) rfl).ld (j := 0) rfl) ?_
  refine Sim.op (castI_p _ _) ?_
  refine Sim.cd (fun hc => ?_) (fun hc => ?_)
  · refine Sim.cd (fun hc => ?_) (fun hc => ?_)
    · refine Sim.op (fA_ref _ _ _) ?_
      refine Sim.op ((S11.atG (i := 0) rfl).ld (j := 3) rfl) ?_
      refine Sim.op ((h2.h H9).len) ?_
      refine Sim.op (castI_p _ _) ?_
      refine Sim.ch (P := fun r y => (.p (.bool r), H9) = y) ?_ (fun b18 y19 h20 h21 => ?_)
      · refine Sim.cd (fun hc => ?_) (fun hc => ?_)
        · refine Sim.op (fA_ref _ _ _) ?_
          refine Sim.op ((S11.atG (i := 0) rfl).ld (j := 3) rfl) ?_
          refine Sim.call (slices_ContainsFunc_Lapi_Tuple_api_Tuple_rtcp_values_1_ok k x0.Tuples (h2.h H9)) fun r13 cs14 H15 h16 q17 => ?_
          cases q17
          refine Sim.op (asB_p _) ?_
          exact Sim.ret rfl rfl
        · exact Sim.ret rfl rfl
      subst h21
      refine Sim.op (asB_p _) ?_
      exact Sim.fin (S11.finN (lv_cons (still_bool _).lv lv_nil)) rfl
    · refine Sim.cd (fun hc => ?_) (fun hc => ?_)
      · refine Sim.op (fA_ref _ _ _) ?_
        refine Sim.op ((S11.atG (i := 0) rfl).ld (j := 5) rfl) ?_
        refine Sim.op ((h6.h H9).len) ?_
        refine Sim.op (castI_p _ _) ?_
        refine Sim.op (fA_ref _ _ _) ?_
        refine Sim.op ((S11.atG (i := 0) rfl).ld (j := 4) rfl) ?_
        refine Sim.op ((h4.h H9).len) ?_
        refine Sim.op (castI_p _ _) ?_
        refine Sim.ch (P := fun r y => r = y) ?_ (fun b22 y23 h24 h25 => ?_)
        · refine Sim.cd (fun hc => ?_) (fun hc => ?_)
          · refine Sim.op (fA_ref _ _ _) ?_
            refine Sim.op ((S11.atG (i := 0) rfl).ld (j := 4) rfl) ?_
            refine Sim.op ((h4.h H9).len) ?_
            refine Sim.op (castI_p _ _) ?_
            exact Sim.ret rfl rfl
          · exact Sim.ret rfl rfl
        subst h25
        refine Sim.ch (P := fun r y => r = y) ?_ (fun b26 y27 h28 h29 => ?_)
        · refine Sim.cd (fun hc => ?_) (fun hc => ?_)
          · refine Sim.op (fA_ref _ _ _) ?_
            refine Sim.op ((S11.atG (i := 0) rfl).ld (j := 4) rfl) ?_
            refine Sim.op ((h4.h H9).len) ?_
            refine Sim.op (castI_p _ _) ?_
            exact Sim.ret rfl rfl
          · exact Sim.ret rfl rfl
        subst h29
        refine Sim.ch (P := fun r y => (.p (.bool r), H9) = y) ?_ (fun b35 y36 h37 h38 => ?_)
        · refine Sim.cd (fun hc => ?_) (fun hc => ?_)
          · refine Sim.op (fA_ref _ _ _) ?_
            refine Sim.op ((S11.atG (i := 0) rfl).ld (j := 5) rfl) ?_
            refine Sim.call (slices_ContainsFunc_Lint_int_rtcp_values_2_ok k x0.Numbers (h6.h H9)) fun r30 cs31 H32 h33 q34 => ?_
            cases q34
            refine Sim.op (asB_p _) ?_
            exact Sim.ret rfl rfl
          · exact Sim.ret rfl rfl
        subst h38
        refine Sim.op (asB_p _) ?_
        exact Sim.fin (S11.finN (lv_cons (still_bool _).lv lv_nil)) rfl
      · refine Sim.cd (fun hc => ?_) (fun hc => ?_)
        · refine Sim.op (fA_ref _ _ _) ?_
          refine Sim.op ((S11.atG (i := 0) rfl).ld (j := 4) rfl) ?_
          refine Sim.op ((h4.h H9).len) ?_
          refine Sim.op (castI_p _ _) ?_
          refine Sim.ch (P := fun r y => (.p (.bool r), H9) = y) ?_ (fun b44 y45 h46 h47 => ?_)
          · refine Sim.cd (fun hc => ?_) (fun hc => ?_)
            · refine Sim.op (fA_ref _ _ _) ?_
              refine Sim.op ((S11.atG (i := 0) rfl).ld (j := 6) rfl) ?_
              refine Sim.op (castI_p _ _) ?_
              refine Sim.op (fA_ref _ _ _) ?_
              refine Sim.op ((S11.atG (i := 0) rfl).ld (j := 6) rfl) ?_
              refine Sim.op (castI_p _ _) ?_
              refine Sim.call (rate_Down_ok k x0.Rate 18) fun r39 cs40 H41 h42 q43 => ?_
              cases q43
              refine Sim.op (castI_p _ _) ?_
              refine Sim.nd ((S11.atG (i := 0) rfl).ld (j := 6) rfl) ?_
              exact Sim.ret rfl rfl
            · exact Sim.ret rfl rfl
          subst h47
          refine Sim.op (asB_p _) ?_
          exact Sim.fin (S11.finN (lv_cons (still_bool _).lv lv_nil)) rfl
        · refine Sim.cd (fun hc => ?_) (fun hc => ?_)
          · refine Sim.op (fA_ref _ _ _) ?_
            refine Sim.op ((S11.atG (i := 0) rfl).ld (j := 7) rfl) ?_
            refine Sim.op (castI_p _ _) ?_
            refine Sim.ch (P := fun r y => r = y) ?_ (fun b48 y49 h50 h51 => ?_)
            · refine Sim.cd (fun hc => ?_) (fun hc => ?_)
              · refine Sim.op (fA_ref _ _ _) ?_
                refine Sim.op ((S11.atG (i := 0) rfl).ld (j := 7) rfl) ?_
                refine Sim.op (castI_p _ _) ?_
                exact Sim.ret rfl rfl
              · exact Sim.ret rfl rfl
            subst h51
            refine Sim.ch (P := fun r y => r = y) ?_ (fun b52 y53 h54 h55 => ?_)
            · refine Sim.cd (fun hc => ?_) (fun hc => ?_)
              · refine Sim.op (fA_ref _ _ _) ?_
                refine Sim.op ((S11.atG (i := 0) rfl).ld (j := 8) rfl) ?_
                refine Sim.op (castI_p _ _) ?_
                exact Sim.ret rfl rfl
              · exact Sim.ret rfl rfl
            subst h55
            refine Sim.ch (P := fun r y => r = y) ?_ (fun b56 y57 h58 h59 => ?_)
            · refine Sim.cd (fun hc => ?_) (fun hc => ?_)
              · refine Sim.op (fA_ref _ _ _) ?_
                refine Sim.op ((S11.atG (i := 0) rfl).ld (j := 8) rfl) ?_
                refine Sim.op (castI_p _ _) ?_
                exact Sim.ret rfl rfl
              · exact Sim.ret rfl rfl
            subst h59
            refine Sim.ch (P := fun r y => r = y) ?_ (fun b60 y61 h62 h63 => ?_)
            · refine Sim.cd (fun hc => ?_) (fun hc => ?_)
              · refine Sim.op (fA_ref _ _ _) ?_
                refine Sim.op ((S11.atG (i := 0) rfl).ld (j := 9) rfl) ?_
                refine Sim.op ((h8.h H9).len) ?_
                refine Sim.op (castI_p _ _) ?_
                exact Sim.ret rfl rfl
              · exact Sim.ret rfl rfl
            subst h63
            refine Sim.ch (P := fun r y => r = y) ?_ (fun b64 y65 h66 h67 => ?_)
            · refine Sim.cd (fun hc => ?_) (fun hc => ?_)
              · refine Sim.op (fA_ref _ _ _) ?_
                refine Sim.op ((S11.atG (i := 0) rfl).ld (j := 9) rfl) ?_
                refine Sim.op ((h8.h H9).len) ?_
                refine Sim.op (castI_p _ _) ?_
                exact Sim.ret rfl rfl
              · exact Sim.ret rfl rfl
            subst h67
            refine Sim.ch (P := fun r y => (.p (.bool r), H9) = y) ?_ (fun b73 y74 h75 h76 => ?_)
            · refine Sim.cd (fun hc => ?_) (fun hc => ?_)
              · refine Sim.op (fA_ref _ _ _) ?_
                refine Sim.op ((S11.atG (i := 0) rfl).ld (j := 7) rfl) ?_
                refine Sim.op (castI_p _ _) ?_
                refine Sim.op (fA_ref _ _ _) ?_
                refine Sim.op ((S11.atG (i := 0) rfl).ld (j := 8) rfl) ?_
                refine Sim.op (castI_p _ _) ?_
                refine Sim.call (rtcp_kind_ok x0.f_Type x0.Count) fun r68 cs69 H70 h71 q72 => ?_
                cases q72
                refine Sim.op (castI_p _ _) ?_
                exact Sim.ret rfl rfl
              · exact Sim.ret rfl rfl
            subst h76
            refine Sim.op (asB_p _) ?_
            exact Sim.fin (S11.finN (lv_cons (still_bool _).lv lv_nil)) rfl
          · exact Sim.fin (S11.finN (lv_cons (still_bool _).lv lv_nil)) rfl
  · refine Sim.cd (fun hc => ?_) (fun hc => ?_)
    · refine Sim.op (fA_ref _ _ _) ?_
      refine Sim.op ((S11.atG (i := 0) rfl).ld (j := 3) rfl) ?_
      refine Sim.op ((h2.h H9).len) ?_
      refine Sim.op (castI_p _ _) ?_
      refine Sim.ch (P := fun r y => (.p (.bool r), H9) = y) ?_ (fun b82 y83 h84 h85 => ?_)
      · refine Sim.cd (fun hc => ?_) (fun hc => ?_)
        · refine Sim.op (fA_ref _ _ _) ?_
          refine Sim.op ((S11.atG (i := 0) rfl).ld (j := 3) rfl) ?_
          refine Sim.call (slices_ContainsFunc_Lapi_Tuple_api_Tuple_rtcp_values_1_ok k x0.Tuples (h2.h H9)) fun r77 cs78 H79 h80 q81 => ?_
          cases q81
          refine Sim.op (asB_p _) ?_
          exact Sim.ret rfl rfl
        · exact Sim.ret rfl rfl
      subst h85
      refine Sim.op (asB_p _) ?_
      exact Sim.fin (S11.finN (lv_cons (still_bool _).lv lv_nil)) rfl
    · refine Sim.cd (fun hc => ?_) (fun hc => ?_)
      · refine Sim.op (fA_ref _ _ _) ?_
        refine Sim.op ((S11.atG (i := 0) rfl).ld (j := 5) rfl) ?_
        refine Sim.op ((h6.h H9).len) ?_
        refine Sim.op (castI_p _ _) ?_
        refine Sim.op (fA_ref _ _ _) ?_
        refine Sim.op ((S11.atG (i := 0) rfl).ld (j := 4) rfl) ?_
        refine Sim.op ((h4.h H9).len) ?_
        refine Sim.op (castI_p _ _) ?_
        refine Sim.ch (P := fun r y => r = y) ?_ (fun b86 y87 h88 h89 => ?_)
        · refine Sim.cd (fun hc => ?_) (fun hc => ?_)
          · refine Sim.op (fA_ref _ _ _) ?_
            refine Sim.op ((S11.atG (i := 0) rfl).ld (j := 4) rfl) ?_
            refine Sim.op ((h4.h H9).len) ?_
            refine Sim.op (castI_p _ _) ?_
            exact Sim.ret rfl rfl
          · exact Sim.ret rfl rfl
        subst h89
        refine Sim.ch (P := fun r y => r = y) ?_ (fun b90 y91 h92 h93 => ?_)
        · refine Sim.cd (fun hc => ?_) (fun hc => ?_)
          · refine Sim.op (fA_ref _ _ _) ?_
            refine Sim.op ((S11.atG (i := 0) rfl).ld (j := 4) rfl) ?_
            refine Sim.op ((h4.h H9).len) ?_
            refine Sim.op (castI_p _ _) ?_
            exact Sim.ret rfl rfl
          · exact Sim.ret rfl rfl
        subst h93
        refine Sim.ch (P := fun r y => (.p (.bool r), H9) = y) ?_ (fun b99 y100 h101 h102 => ?_)
        · refine Sim.cd (fun hc => ?_) (fun hc => ?_)
          · refine Sim.op (fA_ref _ _ _) ?_
            refine Sim.op ((S11.atG (i := 0) rfl).ld (j := 5) rfl) ?_
            refine Sim.call (slices_ContainsFunc_Lint_int_rtcp_values_2_ok k x0.Numbers (h6.h H9)) fun r94 cs95 H96 h97 q98 => ?_
            cases q98
            refine Sim.op (asB_p _) ?_
            exact Sim.ret rfl rfl
          · exact Sim.ret rfl rfl
        subst h102
        refine Sim.op (asB_p _) ?_
        exact Sim.fin (S11.finN (lv_cons (still_bool _).lv lv_nil)) rfl
      · refine Sim.cd (fun hc => ?_) (fun hc => ?_)
        · refine Sim.op (fA_ref _ _ _) ?_
          refine Sim.op ((S11.atG (i := 0) rfl).ld (j := 4) rfl) ?_
          refine Sim.op ((h4.h H9).len) ?_
          refine Sim.op (castI_p _ _) ?_
          refine Sim.ch (P := fun r y => (.p (.bool r), H9) = y) ?_ (fun b108 y109 h110 h111 => ?_)
          · refine Sim.cd (fun hc => ?_) (fun hc => ?_)
            · refine Sim.op (fA_ref _ _ _) ?_
              refine Sim.op ((S11.atG (i := 0) rfl).ld (j := 6) rfl) ?_
              refine Sim.op (castI_p _ _) ?_
              refine Sim.op (fA_ref _ _ _) ?_
              refine Sim.op ((S11.atG (i := 0) rfl).ld (j := 6) rfl) ?_
              refine Sim.op (castI_p _ _) ?_
              refine Sim.call (rate_Down_ok k x0.Rate 18) fun r103 cs104 H105 h106 q107 => ?_
              cases q107
              refine Sim.op (castI_p _ _) ?_
              refine Sim.nd ((S11.atG (i := 0) rfl).ld (j := 6) rfl) ?_
              exact Sim.ret rfl rfl
            · exact Sim.ret rfl rfl
          subst h111
          refine Sim.op (asB_p _) ?_
          exact Sim.fin (S11.finN (lv_cons (still_bool _).lv lv_nil)) rfl
        · refine Sim.cd (fun hc => ?_) (fun hc => ?_)
          · refine Sim.op (fA_ref _ _ _) ?_
            refine Sim.op ((S11.atG (i := 0) rfl).ld (j := 7) rfl) ?_
            refine Sim.op (castI_p _ _) ?_
            refine Sim.ch (P := fun r y => r = y) ?_ (fun b112 y113 h114 h115 => ?_)
            · refine Sim.cd (fun hc => ?_) (fun hc => ?_)
              · refine Sim.op (fA_ref _ _ _) ?_
                refine Sim.op ((S11.atG (i := 0) rfl).ld (j := 7) rfl) ?_
                refine Sim.op (castI_p _ _) ?_
                exact Sim.ret rfl rfl
              · exact Sim.ret rfl rfl
            subst h115
            refine Sim.ch (P := fun r y => r = y) ?_ (fun b116 y117 h118 h119 => ?_)
            · refine Sim.cd (fun hc => ?_) (fun hc => ?_)
              · refine Sim.op (fA_ref _ _ _) ?_
                refine Sim.op ((S11.atG (i := 0) rfl).ld (j := 8) rfl) ?_
                refine Sim.op (castI_p _ _) ?_
                exact Sim.ret rfl rfl
              · exact Sim.ret rfl rfl
            subst h119
            refine Sim.ch (P := fun r y => r = y) ?_ (fun b120 y121 h122 h123 => ?_)
            · refine Sim.cd (fun hc => ?_) (fun hc => ?_)
              · refine Sim.op (fA_ref _ _ _) ?_
                refine Sim.op ((S11.atG (i := 0) rfl).ld (j := 8) rfl) ?_
                refine Sim.op (castI_p _ _) ?_
                exact Sim.ret rfl rfl
              · exact Sim.ret rfl rfl
            subst h123
            refine Sim.ch (P := fun r y => r = y) ?_ (fun b124 y125 h126 h127 => ?_)
            · refine Sim.cd (fun hc => ?_) (fun hc => ?_)
              · refine Sim.op (fA_ref _ _ _) ?_
                refine Sim.op ((S11.atG (i := 0) rfl).ld (j := 9) rfl) ?_
                refine Sim.op ((h8.h H9).len) ?_
                refine Sim.op (castI_p _ _) ?_
                exact Sim.ret rfl rfl
              · exact Sim.ret rfl rfl
            subst h127
            refine Sim.ch (P := fun r y => r = y) ?_ (fun b128 y129 h130 h131 => ?_)
            · refine Sim.cd (fun hc => ?_) (fun hc => ?_)
              · refine Sim.op (fA_ref _ _ _) ?_
                refine Sim.op ((S11.atG (i := 0) rfl).ld (j := 9) rfl) ?_
                refine Sim.op ((h8.h H9).len) ?_
                refine Sim.op (castI_p _ _) ?_
                exact Sim.ret rfl rfl
              · exact Sim.ret rfl rfl
            subst h131
            refine Sim.ch (P := fun r y => (.p (.bool r), H9) = y) ?_ (fun b137 y138 h139 h140 => ?_)
            · refine Sim.cd (fun hc => ?_) (fun hc => ?_)
              · refine Sim.op (fA_ref _ _ _) ?_
                refine Sim.op ((S11.atG (i := 0) rfl).ld (j := 7) rfl) ?_
                refine Sim.op (castI_p _ _) ?_
                refine Sim.op (fA_ref _ _ _) ?_
                refine Sim.op ((S11.atG (i := 0) rfl).ld (j := 8) rfl) ?_
                refine Sim.op (castI_p _ _) ?_
                refine Sim.call (rtcp_kind_ok x0.f_Type x0.Count) fun r132 cs133 H134 h135 q136 => ?_
                cases q136
                refine Sim.op (castI_p _ _) ?_
                exact Sim.ret rfl rfl
              · exact Sim.ret rfl rfl
            subst h140
            refine Sim.op (asB_p _) ?_
            exact Sim.fin (S11.finN (lv_cons (still_bool _).lv lv_nil)) rfl
          · exact Sim.fin (S11.finN (lv_cons (still_bool _).lv lv_nil)) rfl
end Go.Ev
/- Lifted by lift.py: rtcp_Right as a plain function. -/
namespace Go.Ev
open Go.Proofs
set_option linter.unusedVariables false
set_option linter.unusedSimpArgs false
set_option maxRecDepth 100000
def p_rtcp_Right (k : Nat) (x0 : T_api_Report) : Option (Int) :=
(bif decide (x0.Kind < 1) then (some true) else (some (decide (x0.Kind > 6)))).bind fun b13 =>
bif b13 then (
some (12))
else (
(p_rtcp_values k ((⟨x0.Kind, x0.From, x0.About, x0.Tuples, x0.Abouts, x0.Numbers, x0.Rate, x0.f_Type, x0.Count, x0.Body⟩ : T_api_Report))).bind fun r17 =>
bif !r17 then (
some (1))
else (
(p_rtcp_fields ((⟨x0.Kind, x0.From, x0.About, x0.Tuples, x0.Abouts, x0.Numbers, x0.Rate, x0.f_Type, x0.Count, x0.Body⟩ : T_api_Report))).bind fun r22 =>
bif !r22 then (
some (12))
else (
some (0))))
theorem rtcp_Right_ok (k : Nat) {h : H} {σ : Stamp} (x0 : T_api_Report) {u0 : List V} (hu0 : dT_api_Report.R x0 u0) : Sim (p_rtcp_Right k x0) (ev G X0 28 σ [(.agg u0)] h) (fun r s => s = ([.v (.p (.int .i64 r))], h)) := by
  refine Sim.ev rfl (Sim.ext (rtcp_Right_entry _ _ _ _ _) ?_)
  rw [p_rtcp_Right]
  obtain ⟨v1, v3, v5, v7, rfl, h2, h4, h6, h8⟩ := dT_api_Report.inv hu0
  have S0 : Fm 20 h [] [] [] (List.replicate 20 [] :: h) := Fm.start0
  obtain ⟨H9, e10, S11⟩ := S0.box (own := false) (d := 1) (s := (0 :: 0 :: 0 :: σ)) (xs := [(.p (.int .i64 x0.Kind)), (.p (.int .u32 x0.From)), (.p (.int .u32 x0.About)), v1, v3, v5, (.p (.int .u64 x0.Rate)), (.p (.int .i64 x0.f_Type)), (.p (.int .i64 x0.Count)), v7]) (stills_cons (still_int _ _) (stills_cons (still_int _ _) (stills_cons (still_int _ _) (stills_cons h2.still (stills_cons h4.still (stills_cons h6.still (stills_cons (still_int _ _) (stills_cons (still_int _ _) (stills_cons (still_int _ _) (stills_cons h8.still stills_nil)))))))))) (by decide) rfl
  refine Sim.op (e10) ?_
  refine Sim.op (fA_ref _ _ _) ?_
  refine Sim.op ((S11.atG (i := 0) rfl).ld (j := 0) rfl) ?_
  refine Sim.op (castI_p _ _) ?_
  refine Sim.ch (P := fun r y => r = y) ?_ (fun b13 y14 h15 h16 => ?_)
  · refine Sim.cd (fun hc => ?_) (fun hc => ?_)
    · exact Sim.ret rfl rfl
    · refine Sim.op (fA_ref _ _ _) ?_
      refine Sim.op ((S11.atG (i := 0) rfl).ld (j := 0) rfl) ?_
      refine Sim.op (castI_p _ _) ?_
      exact Sim.ret rfl rfl
  subst h16
  refine Sim.cd (fun hc => ?_) (fun hc => ?_)
  · exact Sim.fin (S11.finN (lv_cons (still_int _ _).lv lv_nil)) rfl
  · refine Sim.op ((S11.atG (i := 0) rfl).ldVs (j := 0) (xs := [.p (.int .i64 x0.Kind), .p (.int .u32 x0.From), .p (.int .u32 x0.About), v1, v3, v5, .p (.int .u64 x0.Rate), .p (.int .i64 x0.f_Type), .p (.int .i64 x0.Count), v7]) rfl rfl (by decide)) ?_
    refine Sim.call (rtcp_values_ok k ((⟨x0.Kind, x0.From, x0.About, x0.Tuples, x0.Abouts, x0.Numbers, x0.Rate, x0.f_Type, x0.Count, x0.Body⟩ : T_api_Report)) (show dT_api_Report.R ((⟨x0.Kind, x0.From, x0.About, x0.Tuples, x0.Abouts, x0.Numbers, x0.Rate, x0.f_Type, x0.Count, x0.Body⟩ : T_api_Report)) [.p (.int .i64 x0.Kind), .p (.int .u32 x0.From), .p (.int .u32 x0.About), v1, v3, v5, .p (.int .u64 x0.Rate), .p (.int .i64 x0.f_Type), .p (.int .i64 x0.Count), v7] from (dT_api_Report.mk h2 h4 h6 h8))) fun r17 cs18 H19 h20 q21 => ?_
    cases q21
    refine Sim.op (asB_p _) ?_
    refine Sim.cd (fun hc => ?_) (fun hc => ?_)
    · exact Sim.fin (S11.finN (lv_cons (still_int _ _).lv lv_nil)) rfl
    · refine Sim.op ((S11.atG (i := 0) rfl).ldVs (j := 0) (xs := [.p (.int .i64 x0.Kind), .p (.int .u32 x0.From), .p (.int .u32 x0.About), v1, v3, v5, .p (.int .u64 x0.Rate), .p (.int .i64 x0.f_Type), .p (.int .i64 x0.Count), v7]) rfl rfl (by decide)) ?_
      refine Sim.call (rtcp_fields_ok ((⟨x0.Kind, x0.From, x0.About, x0.Tuples, x0.Abouts, x0.Numbers, x0.Rate, x0.f_Type, x0.Count, x0.Body⟩ : T_api_Report)) (show dT_api_Report.R ((⟨x0.Kind, x0.From, x0.About, x0.Tuples, x0.Abouts, x0.Numbers, x0.Rate, x0.f_Type, x0.Count, x0.Body⟩ : T_api_Report)) [.p (.int .i64 x0.Kind), .p (.int .u32 x0.From), .p (.int .u32 x0.About), v1, v3, v5, .p (.int .u64 x0.Rate), .p (.int .i64 x0.f_Type), .p (.int .i64 x0.Count), v7] from (dT_api_Report.mk h2 h4 h6 h8))) fun r22 cs23 H24 h25 q26 => ?_
      cases q26
      refine Sim.op (asB_p _) ?_
      refine Sim.cd (fun hc => ?_) (fun hc => ?_)
      · exact Sim.fin (S11.finN (lv_cons (still_int _ _).lv lv_nil)) rfl
      · exact Sim.fin (S11.finN (lv_cons (still_int _ _).lv lv_nil)) rfl
end Go.Ev
/- Equations, printed by tracer2.py. -/
namespace Go.Ev
open Go.Proofs
set_option linter.unusedVariables false
set_option maxRecDepth 100000
-- 56 limelight/rtcp.body
noncomputable def rtcp_body_c0 : Code := (codeAt (bodyOf Try.f56) [1, 1, 1, 0, 1, 0, 1, 0, 0, 1, 0, 0])
def rtcp_body_l0 : Lv := ⟨6, 28, [(1, 6), (0, 2)]⟩
noncomputable def rtcp_body_k0 (rec : CallF) (loop : LoopV) (σ : Stamp) : Exit → Env → H → Option (List C × H) := (kBlock 1 (kSeq G rec loop (codeAt (bodyOf Try.f56) [1, 1, 1, 0, 1, 0, 1, 0, 1]) ⟨2, 28, [(0, 2)]⟩ (1 :: 1 :: 0 :: 1 :: 1 :: 1 :: 0 :: σ) (kBlock 0 (kSeq G rec loop (codeAt (bodyOf Try.f56) [1, 1, 1, 1]) ⟨28, 28, []⟩ (1 :: 1 :: 1 :: 0 :: σ) (finC G true Try.f56 (1 :: σ))))))
noncomputable def rtcp_body_c1 : Code := (codeAt (bodyOf Try.f56) [1, 1, 1, 0, 1, 0, 1, 1, 1, 1, 1, 0, 0, 1, 0, 0])
def rtcp_body_l1 : Lv := ⟨4, 28, [(3, 4), (0, 2)]⟩
noncomputable def rtcp_body_k1 (rec : CallF) (loop : LoopV) (σ : Stamp) : Exit → Env → H → Option (List C × H) := (kBlock 3 (kSeq G rec loop (codeAt (bodyOf Try.f56) [1, 1, 1, 0, 1, 0, 1, 1, 1, 1, 1, 0, 1]) ⟨2, 28, [(0, 2)]⟩ (1 :: 1 :: 1 :: 1 :: 0 :: 1 :: 1 :: 1 :: 0 :: σ) (kBlock 0 (kSeq G rec loop (codeAt (bodyOf Try.f56) [1, 1, 1, 1]) ⟨28, 28, []⟩ (1 :: 1 :: 1 :: 0 :: σ) (finC G true Try.f56 (1 :: σ))))))
noncomputable def rtcp_body_c2 : Code := (codeAt (bodyOf Try.f56) [1, 1, 1, 0, 1, 0, 1, 1, 1, 1, 1, 1, 1, 0, 1, 1, 0, 1, 0, 0])
def rtcp_body_l2 : Lv := ⟨4, 28, [(5, 4), (0, 2)]⟩
noncomputable def rtcp_body_k2 (rec : CallF) (loop : LoopV) (σ : Stamp) : Exit → Env → H → Option (List C × H) := (kBlock 5 (kSeq G rec loop (codeAt (bodyOf Try.f56) [1, 1, 1, 0, 1, 0, 1, 1, 1, 1, 1, 1, 1, 0, 1, 1, 1]) ⟨2, 28, [(0, 2)]⟩ (1 :: 1 :: 1 :: 1 :: 1 :: 1 :: 1 :: 0 :: 1 :: 1 :: 1 :: 0 :: σ) (kBlock 0 (kSeq G rec loop (codeAt (bodyOf Try.f56) [1, 1, 1, 1]) ⟨28, 28, []⟩ (1 :: 1 :: 1 :: 0 :: σ) (finC G true Try.f56 (1 :: σ))))))
theorem rtcp_body_entry (rec : CallF) (loop : LoopV) (σ : Stamp) (x0 : V) (h : H) : cvBody G rec loop 56 σ [x0] h =
 (boxO false (0 :: 0 :: 0 :: σ) 1 (List.replicate 120 [] :: h) x0).bind fun q1 =>
 (fA q1.1 1).bind fun t2 =>
 (ldO false 1 q1.2 t2).bind fun t3 =>
 (castI .u32 t3).bind fun n4 =>
 (callO rec 57 (3 :: 0 :: 1 :: 0 :: σ) [(.p (.slice .none 0 0)), (.p (.int .u64 (IntKind.wrap .u64 n4))), (.p (.int .i64 4))] q1.2 (some 14)).bind fun q5 =>
 (fA q1.1 0).bind fun t6 =>
 (ldO false 1 q5.2 t6).bind fun t7 =>
 (castI .i64 t7).bind fun n8 =>
 (bif n8 != 3 then ((fA q1.1 0).bind fun t9 =>
 (ldO false 1 q5.2 t9).bind fun t10 =>
 (castI .i64 t10).bind fun n11 =>
 some (n11 != 6)) else (some false)).bind fun b12 =>
 bif b12 then (
 (callO rec 57 (1 :: 1 :: 0 :: 1 :: 1 :: 0 :: σ) [q5.1, (.p (.int .u64 0)), (.p (.int .i64 4))] q5.2 (some 24)).bind fun q13 =>
 (fA q1.1 0).bind fun t14 =>
 (ldO false 1 q13.2 t14).bind fun t15 =>
 (castI .i64 t15).bind fun n16 =>
 bif n16 == 1 then (
 bif n16 == 1 then (
 (fA q1.1 3).bind fun t17 =>
 (ldO false 1 q13.2 t17).bind fun t18 =>
 (lenO t18).bind fun t19 =>
 (castI .i64 t19).bind fun n20 =>
 (loop rtcp_body_c0 rtcp_body_l0 (1 :: 0 :: 1 :: 1 :: 0 :: 1 :: 1 :: 1 :: 0 :: σ) (envL [(1, q1.1), (2, q13.1), (31, t18), (32, (.p (.int .i64 n20))), (33, (.p (.int .i64 0)))]) q13.2).bind fun r21 => rtcp_body_k0 rec loop σ r21.1 r21.2.1 r21.2.2)
 else (
 bif n16 == 3 then (
 (fA q1.1 2).bind fun t22 =>
 (ldO false 1 q13.2 t22).bind fun t23 =>
 (castI .u32 t23).bind fun n24 =>
 (callO rec 57 (4 :: 0 :: 1 :: 1 :: 1 :: 0 :: 1 :: 1 :: 1 :: 0 :: σ) [q13.1, (.p (.int .u64 (IntKind.wrap .u64 n24))), (.p (.int .i64 4))] q13.2 (some 61)).bind fun q25 =>
 fin true σ q25.2 [q25.1, (.p (.int .i64 206)), (.p (.int .i64 1))])
 else (
 bif n16 == 4 then (
 (fA q1.1 4).bind fun t26 =>
 (ldO false 1 q13.2 t26).bind fun t27 =>
 (lenO t27).bind fun t28 =>
 (castI .i64 t28).bind fun n29 =>
 (loop rtcp_body_c1 rtcp_body_l1 (1 :: 0 :: 1 :: 1 :: 1 :: 1 :: 0 :: 1 :: 1 :: 1 :: 0 :: σ) (envL [(1, q1.1), (2, q13.1), (65, t27), (66, (.p (.int .i64 n29))), (67, (.p (.int .i64 0)))]) q13.2).bind fun r30 => rtcp_body_k1 rec loop σ r30.1 r30.2.1 r30.2.2)
 else (
 bif n16 == 5 then (
 (fA q1.1 4).bind fun t31 =>
 (ldO false 1 q13.2 t31).bind fun t32 =>
 (lenO t32).bind fun t33 =>
 (castI .i64 t33).bind fun n34 =>
 (apO true 1 1 (1 :: 0 :: 1 :: 1 :: 1 :: 1 :: 1 :: 0 :: 1 :: 1 :: 1 :: 0 :: σ) 89 q13.2 q13.1 (.p (.string ((⟨#[82, 69, 77, 66]⟩ : ByteArray))))).bind fun q35 =>
 need ((some (.p (.int .u64 (IntKind.wrap .u64 n34))) : Option V) = some (.p (.int .u64 (IntKind.wrap .u64 n34)))) (
 need (ldO false 1 q35.2 t31 = some t32) (
 (callO rec 57 (6 :: 0 :: 1 :: 1 :: 1 :: 1 :: 1 :: 0 :: 1 :: 1 :: 1 :: 0 :: σ) [q35.1, (.p (.int .u64 (IntKind.wrap .u64 n34))), (.p (.int .i64 1))] q35.2 (some 94)).bind fun q36 =>
 (fA q1.1 6).bind fun t37 =>
 (ldO false 1 q36.2 t37).bind fun t38 =>
 (castI .u64 t38).bind fun n39 =>
 (callO rec 94 (3 :: 0 :: 1 :: 1 :: 1 :: 1 :: 1 :: 1 :: 0 :: 1 :: 1 :: 1 :: 0 :: σ) [(.p (.int .u64 n39)), (.p (.int .i64 18)), (.p (.int .i64 0)), (.p (.int .u64 0))] q36.2 (some 98)).bind fun q40 =>
 (castI .u64 q40.1).bind fun n41 =>
 (callO rec 57 (4 :: 0 :: 1 :: 1 :: 1 :: 1 :: 1 :: 1 :: 0 :: 1 :: 1 :: 1 :: 0 :: σ) [q36.1, (.p (.int .u64 n41)), (.p (.int .i64 3))] q40.2 (some 99)).bind fun q42 =>
 (fA q1.1 4).bind fun t43 =>
 (ldO false 1 q42.2 t43).bind fun t44 =>
 (lenO t44).bind fun t45 =>
 (castI .i64 t45).bind fun n46 =>
 (loop rtcp_body_c2 rtcp_body_l2 (1 :: 0 :: 1 :: 1 :: 1 :: 1 :: 1 :: 1 :: 1 :: 0 :: 1 :: 1 :: 1 :: 0 :: σ) (envL [(2, q42.1), (101, t44), (102, (.p (.int .i64 n46))), (103, (.p (.int .i64 0)))]) q42.2).bind fun r47 => rtcp_body_k2 rec loop σ r47.1 r47.2.1 r47.2.2)))
 else (
 (fA q1.1 9).bind fun t48 =>
 (ldO false 1 q13.2 t48).bind fun t49 =>
 (fA q1.1 7).bind fun t50 =>
 (ldO false 1 q13.2 t50).bind fun t51 =>
 (castI .i64 t51).bind fun n52 =>
 (fA q1.1 8).bind fun t53 =>
 (ldO false 1 q13.2 t53).bind fun t54 =>
 (castI .i64 t54).bind fun n55 =>
 (callO rec 95 (2 :: 0 :: 1 :: 1 :: 1 :: 1 :: 0 :: σ) [t49] q13.2 (some 115)).bind fun q56 =>
 need (ldO false 1 q56.2 t53 = some (.p (.int .i64 n55))) (
 need (ldO false 1 q56.2 t50 = some (.p (.int .i64 n52))) (
 fin true σ q56.2 [q56.1, (.p (.int .i64 n52)), (.p (.int .i64 n55))])))))))
 else (
 bif n16 == 2 then (
 (fA q1.1 3).bind fun t57 =>
 (ldO false 1 q13.2 t57).bind fun t58 =>
 (lenO t58).bind fun t59 =>
 (castI .i64 t59).bind fun n60 =>
 (loop rtcp_body_c0 rtcp_body_l0 (1 :: 0 :: 1 :: 1 :: 0 :: 1 :: 1 :: 1 :: 0 :: σ) (envL [(1, q1.1), (2, q13.1), (31, t58), (32, (.p (.int .i64 n60))), (33, (.p (.int .i64 0)))]) q13.2).bind fun r61 => rtcp_body_k0 rec loop σ r61.1 r61.2.1 r61.2.2)
 else (
 bif n16 == 3 then (
 (fA q1.1 2).bind fun t62 =>
 (ldO false 1 q13.2 t62).bind fun t63 =>
 (castI .u32 t63).bind fun n64 =>
 (callO rec 57 (4 :: 0 :: 1 :: 1 :: 1 :: 0 :: 1 :: 1 :: 1 :: 0 :: σ) [q13.1, (.p (.int .u64 (IntKind.wrap .u64 n64))), (.p (.int .i64 4))] q13.2 (some 61)).bind fun q65 =>
 fin true σ q65.2 [q65.1, (.p (.int .i64 206)), (.p (.int .i64 1))])
 else (
 bif n16 == 4 then (
 (fA q1.1 4).bind fun t66 =>
 (ldO false 1 q13.2 t66).bind fun t67 =>
 (lenO t67).bind fun t68 =>
 (castI .i64 t68).bind fun n69 =>
 (loop rtcp_body_c1 rtcp_body_l1 (1 :: 0 :: 1 :: 1 :: 1 :: 1 :: 0 :: 1 :: 1 :: 1 :: 0 :: σ) (envL [(1, q1.1), (2, q13.1), (65, t67), (66, (.p (.int .i64 n69))), (67, (.p (.int .i64 0)))]) q13.2).bind fun r70 => rtcp_body_k1 rec loop σ r70.1 r70.2.1 r70.2.2)
 else (
 bif n16 == 5 then (
 (fA q1.1 4).bind fun t71 =>
 (ldO false 1 q13.2 t71).bind fun t72 =>
 (lenO t72).bind fun t73 =>
 (castI .i64 t73).bind fun n74 =>
 (apO true 1 1 (1 :: 0 :: 1 :: 1 :: 1 :: 1 :: 1 :: 0 :: 1 :: 1 :: 1 :: 0 :: σ) 89 q13.2 q13.1 (.p (.string ((⟨#[82, 69, 77, 66]⟩ : ByteArray))))).bind fun q75 =>
 need ((some (.p (.int .u64 (IntKind.wrap .u64 n74))) : Option V) = some (.p (.int .u64 (IntKind.wrap .u64 n74)))) (
 need (ldO false 1 q75.2 t71 = some t72) (
 (callO rec 57 (6 :: 0 :: 1 :: 1 :: 1 :: 1 :: 1 :: 0 :: 1 :: 1 :: 1 :: 0 :: σ) [q75.1, (.p (.int .u64 (IntKind.wrap .u64 n74))), (.p (.int .i64 1))] q75.2 (some 94)).bind fun q76 =>
 (fA q1.1 6).bind fun t77 =>
 (ldO false 1 q76.2 t77).bind fun t78 =>
 (castI .u64 t78).bind fun n79 =>
 (callO rec 94 (3 :: 0 :: 1 :: 1 :: 1 :: 1 :: 1 :: 1 :: 0 :: 1 :: 1 :: 1 :: 0 :: σ) [(.p (.int .u64 n79)), (.p (.int .i64 18)), (.p (.int .i64 0)), (.p (.int .u64 0))] q76.2 (some 98)).bind fun q80 =>
 (castI .u64 q80.1).bind fun n81 =>
 (callO rec 57 (4 :: 0 :: 1 :: 1 :: 1 :: 1 :: 1 :: 1 :: 0 :: 1 :: 1 :: 1 :: 0 :: σ) [q76.1, (.p (.int .u64 n81)), (.p (.int .i64 3))] q80.2 (some 99)).bind fun q82 =>
 (fA q1.1 4).bind fun t83 =>
 (ldO false 1 q82.2 t83).bind fun t84 =>
 (lenO t84).bind fun t85 =>
 (castI .i64 t85).bind fun n86 =>
 (loop rtcp_body_c2 rtcp_body_l2 (1 :: 0 :: 1 :: 1 :: 1 :: 1 :: 1 :: 1 :: 1 :: 0 :: 1 :: 1 :: 1 :: 0 :: σ) (envL [(2, q82.1), (101, t84), (102, (.p (.int .i64 n86))), (103, (.p (.int .i64 0)))]) q82.2).bind fun r87 => rtcp_body_k2 rec loop σ r87.1 r87.2.1 r87.2.2)))
 else (
 (fA q1.1 9).bind fun t88 =>
 (ldO false 1 q13.2 t88).bind fun t89 =>
 (fA q1.1 7).bind fun t90 =>
 (ldO false 1 q13.2 t90).bind fun t91 =>
 (castI .i64 t91).bind fun n92 =>
 (fA q1.1 8).bind fun t93 =>
 (ldO false 1 q13.2 t93).bind fun t94 =>
 (castI .i64 t94).bind fun n95 =>
 (callO rec 95 (2 :: 0 :: 1 :: 1 :: 1 :: 1 :: 0 :: σ) [t89] q13.2 (some 115)).bind fun q96 =>
 need (ldO false 1 q96.2 t93 = some (.p (.int .i64 n95))) (
 need (ldO false 1 q96.2 t90 = some (.p (.int .i64 n92))) (
 fin true σ q96.2 [q96.1, (.p (.int .i64 n92)), (.p (.int .i64 n95))]))))))))
 else (
 (fA q1.1 0).bind fun t97 =>
 (ldO false 1 q5.2 t97).bind fun t98 =>
 (castI .i64 t98).bind fun n99 =>
 bif n99 == 1 then (
 bif n99 == 1 then (
 (fA q1.1 3).bind fun t100 =>
 (ldO false 1 q5.2 t100).bind fun t101 =>
 (lenO t101).bind fun t102 =>
 (castI .i64 t102).bind fun n103 =>
 (loop rtcp_body_c0 rtcp_body_l0 (1 :: 0 :: 1 :: 1 :: 0 :: 1 :: 1 :: 1 :: 0 :: σ) (envL [(1, q1.1), (2, q5.1), (31, t101), (32, (.p (.int .i64 n103))), (33, (.p (.int .i64 0)))]) q5.2).bind fun r104 => rtcp_body_k0 rec loop σ r104.1 r104.2.1 r104.2.2)
 else (
 bif n99 == 3 then (
 (fA q1.1 2).bind fun t105 =>
 (ldO false 1 q5.2 t105).bind fun t106 =>
 (castI .u32 t106).bind fun n107 =>
 (callO rec 57 (4 :: 0 :: 1 :: 1 :: 1 :: 0 :: 1 :: 1 :: 1 :: 0 :: σ) [q5.1, (.p (.int .u64 (IntKind.wrap .u64 n107))), (.p (.int .i64 4))] q5.2 (some 61)).bind fun q108 =>
 fin true σ q108.2 [q108.1, (.p (.int .i64 206)), (.p (.int .i64 1))])
 else (
 bif n99 == 4 then (
 (fA q1.1 4).bind fun t109 =>
 (ldO false 1 q5.2 t109).bind fun t110 =>
 (lenO t110).bind fun t111 =>
 (castI .i64 t111).bind fun n112 =>
 (loop rtcp_body_c1 rtcp_body_l1 (1 :: 0 :: 1 :: 1 :: 1 :: 1 :: 0 :: 1 :: 1 :: 1 :: 0 :: σ) (envL [(1, q1.1), (2, q5.1), (65, t110), (66, (.p (.int .i64 n112))), (67, (.p (.int .i64 0)))]) q5.2).bind fun r113 => rtcp_body_k1 rec loop σ r113.1 r113.2.1 r113.2.2)
 else (
 bif n99 == 5 then (
 (fA q1.1 4).bind fun t114 =>
 (ldO false 1 q5.2 t114).bind fun t115 =>
 (lenO t115).bind fun t116 =>
 (castI .i64 t116).bind fun n117 =>
 (apO true 1 1 (1 :: 0 :: 1 :: 1 :: 1 :: 1 :: 1 :: 0 :: 1 :: 1 :: 1 :: 0 :: σ) 89 q5.2 q5.1 (.p (.string ((⟨#[82, 69, 77, 66]⟩ : ByteArray))))).bind fun q118 =>
 need ((some (.p (.int .u64 (IntKind.wrap .u64 n117))) : Option V) = some (.p (.int .u64 (IntKind.wrap .u64 n117)))) (
 need (ldO false 1 q118.2 t114 = some t115) (
 (callO rec 57 (6 :: 0 :: 1 :: 1 :: 1 :: 1 :: 1 :: 0 :: 1 :: 1 :: 1 :: 0 :: σ) [q118.1, (.p (.int .u64 (IntKind.wrap .u64 n117))), (.p (.int .i64 1))] q118.2 (some 94)).bind fun q119 =>
 (fA q1.1 6).bind fun t120 =>
 (ldO false 1 q119.2 t120).bind fun t121 =>
 (castI .u64 t121).bind fun n122 =>
 (callO rec 94 (3 :: 0 :: 1 :: 1 :: 1 :: 1 :: 1 :: 1 :: 0 :: 1 :: 1 :: 1 :: 0 :: σ) [(.p (.int .u64 n122)), (.p (.int .i64 18)), (.p (.int .i64 0)), (.p (.int .u64 0))] q119.2 (some 98)).bind fun q123 =>
 (castI .u64 q123.1).bind fun n124 =>
 (callO rec 57 (4 :: 0 :: 1 :: 1 :: 1 :: 1 :: 1 :: 1 :: 0 :: 1 :: 1 :: 1 :: 0 :: σ) [q119.1, (.p (.int .u64 n124)), (.p (.int .i64 3))] q123.2 (some 99)).bind fun q125 =>
 (fA q1.1 4).bind fun t126 =>
 (ldO false 1 q125.2 t126).bind fun t127 =>
 (lenO t127).bind fun t128 =>
 (castI .i64 t128).bind fun n129 =>
 (loop rtcp_body_c2 rtcp_body_l2 (1 :: 0 :: 1 :: 1 :: 1 :: 1 :: 1 :: 1 :: 1 :: 0 :: 1 :: 1 :: 1 :: 0 :: σ) (envL [(2, q125.1), (101, t127), (102, (.p (.int .i64 n129))), (103, (.p (.int .i64 0)))]) q125.2).bind fun r130 => rtcp_body_k2 rec loop σ r130.1 r130.2.1 r130.2.2)))
 else (
 (fA q1.1 9).bind fun t131 =>
 (ldO false 1 q5.2 t131).bind fun t132 =>
 (fA q1.1 7).bind fun t133 =>
 (ldO false 1 q5.2 t133).bind fun t134 =>
 (castI .i64 t134).bind fun n135 =>
 (fA q1.1 8).bind fun t136 =>
 (ldO false 1 q5.2 t136).bind fun t137 =>
 (castI .i64 t137).bind fun n138 =>
 (callO rec 95 (2 :: 0 :: 1 :: 1 :: 1 :: 1 :: 0 :: σ) [t132] q5.2 (some 115)).bind fun q139 =>
 need (ldO false 1 q139.2 t136 = some (.p (.int .i64 n138))) (
 need (ldO false 1 q139.2 t133 = some (.p (.int .i64 n135))) (
 fin true σ q139.2 [q139.1, (.p (.int .i64 n135)), (.p (.int .i64 n138))])))))))
 else (
 bif n99 == 2 then (
 (fA q1.1 3).bind fun t140 =>
 (ldO false 1 q5.2 t140).bind fun t141 =>
 (lenO t141).bind fun t142 =>
 (castI .i64 t142).bind fun n143 =>
 (loop rtcp_body_c0 rtcp_body_l0 (1 :: 0 :: 1 :: 1 :: 0 :: 1 :: 1 :: 1 :: 0 :: σ) (envL [(1, q1.1), (2, q5.1), (31, t141), (32, (.p (.int .i64 n143))), (33, (.p (.int .i64 0)))]) q5.2).bind fun r144 => rtcp_body_k0 rec loop σ r144.1 r144.2.1 r144.2.2)
 else (
 bif n99 == 3 then (
 (fA q1.1 2).bind fun t145 =>
 (ldO false 1 q5.2 t145).bind fun t146 =>
 (castI .u32 t146).bind fun n147 =>
 (callO rec 57 (4 :: 0 :: 1 :: 1 :: 1 :: 0 :: 1 :: 1 :: 1 :: 0 :: σ) [q5.1, (.p (.int .u64 (IntKind.wrap .u64 n147))), (.p (.int .i64 4))] q5.2 (some 61)).bind fun q148 =>
 fin true σ q148.2 [q148.1, (.p (.int .i64 206)), (.p (.int .i64 1))])
 else (
 bif n99 == 4 then (
 (fA q1.1 4).bind fun t149 =>
 (ldO false 1 q5.2 t149).bind fun t150 =>
 (lenO t150).bind fun t151 =>
 (castI .i64 t151).bind fun n152 =>
 (loop rtcp_body_c1 rtcp_body_l1 (1 :: 0 :: 1 :: 1 :: 1 :: 1 :: 0 :: 1 :: 1 :: 1 :: 0 :: σ) (envL [(1, q1.1), (2, q5.1), (65, t150), (66, (.p (.int .i64 n152))), (67, (.p (.int .i64 0)))]) q5.2).bind fun r153 => rtcp_body_k1 rec loop σ r153.1 r153.2.1 r153.2.2)
 else (
 bif n99 == 5 then (
 (fA q1.1 4).bind fun t154 =>
 (ldO false 1 q5.2 t154).bind fun t155 =>
 (lenO t155).bind fun t156 =>
 (castI .i64 t156).bind fun n157 =>
 (apO true 1 1 (1 :: 0 :: 1 :: 1 :: 1 :: 1 :: 1 :: 0 :: 1 :: 1 :: 1 :: 0 :: σ) 89 q5.2 q5.1 (.p (.string ((⟨#[82, 69, 77, 66]⟩ : ByteArray))))).bind fun q158 =>
 need ((some (.p (.int .u64 (IntKind.wrap .u64 n157))) : Option V) = some (.p (.int .u64 (IntKind.wrap .u64 n157)))) (
 need (ldO false 1 q158.2 t154 = some t155) (
 (callO rec 57 (6 :: 0 :: 1 :: 1 :: 1 :: 1 :: 1 :: 0 :: 1 :: 1 :: 1 :: 0 :: σ) [q158.1, (.p (.int .u64 (IntKind.wrap .u64 n157))), (.p (.int .i64 1))] q158.2 (some 94)).bind fun q159 =>
 (fA q1.1 6).bind fun t160 =>
 (ldO false 1 q159.2 t160).bind fun t161 =>
 (castI .u64 t161).bind fun n162 =>
 (callO rec 94 (3 :: 0 :: 1 :: 1 :: 1 :: 1 :: 1 :: 1 :: 0 :: 1 :: 1 :: 1 :: 0 :: σ) [(.p (.int .u64 n162)), (.p (.int .i64 18)), (.p (.int .i64 0)), (.p (.int .u64 0))] q159.2 (some 98)).bind fun q163 =>
 (castI .u64 q163.1).bind fun n164 =>
 (callO rec 57 (4 :: 0 :: 1 :: 1 :: 1 :: 1 :: 1 :: 1 :: 0 :: 1 :: 1 :: 1 :: 0 :: σ) [q159.1, (.p (.int .u64 n164)), (.p (.int .i64 3))] q163.2 (some 99)).bind fun q165 =>
 (fA q1.1 4).bind fun t166 =>
 (ldO false 1 q165.2 t166).bind fun t167 =>
 (lenO t167).bind fun t168 =>
 (castI .i64 t168).bind fun n169 =>
 (loop rtcp_body_c2 rtcp_body_l2 (1 :: 0 :: 1 :: 1 :: 1 :: 1 :: 1 :: 1 :: 1 :: 0 :: 1 :: 1 :: 1 :: 0 :: σ) (envL [(2, q165.1), (101, t167), (102, (.p (.int .i64 n169))), (103, (.p (.int .i64 0)))]) q165.2).bind fun r170 => rtcp_body_k2 rec loop σ r170.1 r170.2.1 r170.2.2)))
 else (
 (fA q1.1 9).bind fun t171 =>
 (ldO false 1 q5.2 t171).bind fun t172 =>
 (fA q1.1 7).bind fun t173 =>
 (ldO false 1 q5.2 t173).bind fun t174 =>
 (castI .i64 t174).bind fun n175 =>
 (fA q1.1 8).bind fun t176 =>
 (ldO false 1 q5.2 t176).bind fun t177 =>
 (castI .i64 t177).bind fun n178 =>
 (callO rec 95 (2 :: 0 :: 1 :: 1 :: 1 :: 1 :: 0 :: σ) [t172] q5.2 (some 115)).bind fun q179 =>
 need (ldO false 1 q179.2 t176 = some (.p (.int .i64 n178))) (
 need (ldO false 1 q179.2 t173 = some (.p (.int .i64 n175))) (
 fin true σ q179.2 [q179.1, (.p (.int .i64 n175)), (.p (.int .i64 n178))])))))))) := by kernel_rfl
theorem rtcp_body_r0 (rec : CallF) (loop : LoopV) (σ : Stamp) (x1 : V) (x2 : V) (x31 : V) (x32 : Int) (x33 : Int) (h : H) : cvRound G rec loop rtcp_body_c0 rtcp_body_l0 σ (envL [(1, x1), (2, x2), (31, x31), (32, (.p (.int .i64 x32))), (33, (.p (.int .i64 x33)))]) h =
 bif decide (x33 < x32) then (
 (iS 3 x31 x33).bind fun t180 =>
 (ldO true 3 h t180).bind fun t181 =>
 (some (alO [.p (.int .u32 0), .p (.int .u64 0), .p (.int .i64 0)] (2 :: 0 :: 0 :: 1 :: 1 :: 0 :: σ) 6 h)).bind fun q182 =>
 ((stO false 3 (3 :: 0 :: 0 :: 1 :: 1 :: 0 :: σ) q182.2 q182.1 t181).map fun h => (udf, h)).bind fun q183 =>
 (fA q182.1 0).bind fun t184 =>
 (ldO false 1 q183.2 t184).bind fun t185 =>
 (castI .u32 t185).bind fun n186 =>
 (fA q182.1 1).bind fun t187 =>
 (ldO false 1 q183.2 t187).bind fun t188 =>
 (castI .u64 t188).bind fun n189 =>
 (fA q182.1 2).bind fun t190 =>
 (ldO false 1 q183.2 t190).bind fun t191 =>
 (castI .i64 t191).bind fun n192 =>
 (callO rec 57 (4 :: 1 :: 0 :: 1 :: 1 :: 0 :: σ) [x2, (.p (.int .u64 (IntKind.wrap .u64 n186))), (.p (.int .i64 4))] q183.2 (some 41)).bind fun q193 =>
 need ((some (.p (.int .u64 (IntKind.wrap .u64 n192))) : Option V) = some (.p (.int .u64 (IntKind.wrap .u64 n192)))) (
 need (ldO false 1 q193.2 t190 = some (.p (.int .i64 n192))) (
 need (ldO false 1 q193.2 t187 = some (.p (.int .u64 n189))) (
 (callO rec 94 (10 :: 1 :: 0 :: 1 :: 1 :: 0 :: σ) [(.p (.int .u64 n189)), (.p (.int .i64 17)), (.p (.int .i64 9)), (.p (.int .u64 (IntKind.wrap .u64 n192)))] q193.2 (some 47)).bind fun q194 =>
 (castI .u64 q194.1).bind fun n195 =>
 (callO rec 57 (11 :: 1 :: 0 :: 1 :: 1 :: 0 :: σ) [q193.1, (.p (.int .u64 n195)), (.p (.int .i64 4))] q194.2 (some 48)).bind fun q196 =>
 loop rtcp_body_c0 rtcp_body_l0 (1 :: σ) (envL [(1, x1), (2, q196.1), (31, x31), (32, (.p (.int .i64 x32))), (33, (.p (.int .i64 (IntKind.wrap .i64 (x33 + 1)))))]) q196.2))))
 else (
 some ((.exit 1), (envL [(1, x1), (2, x2)]), h)) := by kernel_rfl
theorem rtcp_body_a0_1 (rec : CallF) (loop : LoopV) (σ : Stamp) (x1 : V) (x2 : V) (h : H) : rtcp_body_k0 rec loop σ (.exit 1) (envL [(1, x1), (2, x2)]) h =
 (fA x1 0).bind fun t197 =>
 (ldO false 1 h t197).bind fun t198 =>
 (castI .i64 t198).bind fun n199 =>
 fin true σ h [x2, (.p (.int .i64 205)), (.p (.int .i64 (IntKind.wrap .i64 ((IntKind.wrap .i64 (3 + n199)) - 1))))] := by kernel_rfl
theorem rtcp_body_r1 (rec : CallF) (loop : LoopV) (σ : Stamp) (x1 : V) (x2 : V) (x65 : V) (x66 : Int) (x67 : Int) (h : H) : cvRound G rec loop rtcp_body_c1 rtcp_body_l1 σ (envL [(1, x1), (2, x2), (65, x65), (66, (.p (.int .i64 x66))), (67, (.p (.int .i64 x67)))]) h =
 bif decide (x67 < x66) then (
 (iS 1 x65 x67).bind fun t200 =>
 (ldO false 1 h t200).bind fun t201 =>
 (castI .u32 t201).bind fun n202 =>
 (fA x1 5).bind fun t203 =>
 (ldO false 1 h t203).bind fun t204 =>
 (iS 1 t204 x67).bind fun t205 =>
 (ldO false 1 h t205).bind fun t206 =>
 (castI .i64 t206).bind fun n207 =>
 (callO rec 57 (3 :: 1 :: 0 :: 1 :: 1 :: 0 :: σ) [x2, (.p (.int .u64 (IntKind.wrap .u64 n202))), (.p (.int .i64 4))] h (some 75)).bind fun q208 =>
 need ((some (.p (.int .u64 (IntKind.wrap .u64 n207))) : Option V) = some (.p (.int .u64 (IntKind.wrap .u64 n207)))) (
 need (ldO false 1 q208.2 t205 = some (.p (.int .i64 n207))) (
 need (ldO false 1 q208.2 t203 = some t204) (
 (callO rec 57 (10 :: 1 :: 0 :: 1 :: 1 :: 0 :: σ) [q208.1, (.p (.int .u64 (IntKind.wrap .u64 n207))), (.p (.int .i64 1))] q208.2 (some 82)).bind fun q209 =>
 (callO rec 57 (11 :: 1 :: 0 :: 1 :: 1 :: 0 :: σ) [q209.1, (.p (.int .u64 0)), (.p (.int .i64 3))] q209.2 (some 83)).bind fun q210 =>
 loop rtcp_body_c1 rtcp_body_l1 (1 :: σ) (envL [(1, x1), (2, q210.1), (65, x65), (66, (.p (.int .i64 x66))), (67, (.p (.int .i64 (IntKind.wrap .i64 (x67 + 1)))))]) q210.2))))
 else (
 some ((.exit 3), (envL [(2, x2)]), h)) := by kernel_rfl
theorem rtcp_body_a1_3 (rec : CallF) (loop : LoopV) (σ : Stamp) (x2 : V) (h : H) : rtcp_body_k1 rec loop σ (.exit 3) (envL [(2, x2)]) h =
 fin true σ h [x2, (.p (.int .i64 206)), (.p (.int .i64 4))] := by kernel_rfl
theorem rtcp_body_r2 (rec : CallF) (loop : LoopV) (σ : Stamp) (x2 : V) (x101 : V) (x102 : Int) (x103 : Int) (h : H) : cvRound G rec loop rtcp_body_c2 rtcp_body_l2 σ (envL [(2, x2), (101, x101), (102, (.p (.int .i64 x102))), (103, (.p (.int .i64 x103)))]) h =
 bif decide (x103 < x102) then (
 (iS 1 x101 x103).bind fun t211 =>
 (ldO false 1 h t211).bind fun t212 =>
 (castI .u32 t212).bind fun n213 =>
 (callO rec 57 (3 :: 1 :: 0 :: 1 :: 1 :: 0 :: σ) [x2, (.p (.int .u64 (IntKind.wrap .u64 n213))), (.p (.int .i64 4))] h (some 110)).bind fun q214 =>
 loop rtcp_body_c2 rtcp_body_l2 (1 :: σ) (envL [(2, q214.1), (101, x101), (102, (.p (.int .i64 x102))), (103, (.p (.int .i64 (IntKind.wrap .i64 (x103 + 1)))))]) q214.2)
 else (
 some ((.exit 5), (envL [(2, x2)]), h)) := by kernel_rfl
theorem rtcp_body_a2_5 (rec : CallF) (loop : LoopV) (σ : Stamp) (x2 : V) (h : H) : rtcp_body_k2 rec loop σ (.exit 5) (envL [(2, x2)]) h =
 fin true σ h [x2, (.p (.int .i64 206)), (.p (.int .i64 15))] := by kernel_rfl
end Go.Ev
/- Lifted by lift.py: rtcp_body as a plain function. -/
namespace Go.Ev
open Go.Proofs
set_option linter.unusedVariables false
set_option linter.unusedSimpArgs false
set_option maxRecDepth 100000
def p_rtcp_body_l0 {β : Type} (k : Nat) (kE0 : (List Int) → T_api_Report → Option β) (x2 : (List Int)) (x31 : (List T_api_Tuple)) (x32 : Int) (x33 : Int) (yg12 : T_api_Report) : Option β := match k with
| 0 => none
| k + 1 =>
bif decide (x33 < x32) then (
(ix x31 x33).bind fun a61 =>
(p_octet_Put k x2 (IntKind.wrap .u64 a61.Owner) 4).bind fun r73 =>
(p_rtcp_packed k a61.Rate 17 9 (IntKind.wrap .u64 a61.Over)).bind fun r87 =>
(p_octet_Put k r73 r87 4).bind fun r92 =>
p_rtcp_body_l0 k kE0 r92 x31 x32 (IntKind.wrap .i64 (x33 + 1)) ((⟨yg12.Kind, yg12.From, yg12.About, yg12.Tuples, yg12.Abouts, yg12.Numbers, yg12.Rate, yg12.f_Type, yg12.Count, yg12.Body⟩ : T_api_Report)))
else (
kE0 x2 ((⟨yg12.Kind, yg12.From, yg12.About, yg12.Tuples, yg12.Abouts, yg12.Numbers, yg12.Rate, yg12.f_Type, yg12.Count, yg12.Body⟩ : T_api_Report)))
def p_rtcp_body_l1 {β : Type} (k : Nat) (kE0 : (List Int) → Option β) (x2 : (List Int)) (x65 : (List Int)) (x66 : Int) (x67 : Int) (yg12 : T_api_Report) : Option β := match k with
| 0 => none
| k + 1 =>
bif decide (x67 < x66) then (
(ix x65 x67).bind fun a178 =>
(ix yg12.Numbers x67).bind fun a181 =>
(p_octet_Put k x2 (IntKind.wrap .u64 a178) 4).bind fun r184 =>
(p_octet_Put k r184 (IntKind.wrap .u64 a181) 1).bind fun r199 =>
(p_octet_Put k r199 0 3).bind fun r213 =>
p_rtcp_body_l1 k kE0 r213 x65 x66 (IntKind.wrap .i64 (x67 + 1)) ((⟨yg12.Kind, yg12.From, yg12.About, yg12.Tuples, yg12.Abouts, yg12.Numbers, yg12.Rate, yg12.f_Type, yg12.Count, yg12.Body⟩ : T_api_Report)))
else (
kE0 x2)
def p_rtcp_body_l2 {β : Type} (k : Nat) (kE0 : (List Int) → Option β) (x2 : (List Int)) (x101 : (List Int)) (x102 : Int) (x103 : Int) : Option β := match k with
| 0 => none
| k + 1 =>
bif decide (x103 < x102) then (
(ix x101 x103).bind fun a288 =>
(p_octet_Put k x2 (IntKind.wrap .u64 a288) 4).bind fun r291 =>
p_rtcp_body_l2 k kE0 r291 x101 x102 (IntKind.wrap .i64 (x103 + 1)))
else (
kE0 x2)
def p_rtcp_body (k : Nat) (x0 : T_api_Report) : Option ((List Int) × Int × Int) :=
(p_octet_Put k (([] : List Int)) (IntKind.wrap .u64 x0.From) 4).bind fun r13 =>
(bif x0.Kind != 3 then (some (x0.Kind != 6)) else (some false)).bind fun b27 =>
bif b27 then (
(p_octet_Put k r13 0 4).bind fun r31 =>
bif x0.Kind == 1 then (
bif x0.Kind == 1 then (
p_rtcp_body_l0 k (fun r121_2 yg60 =>
some (r121_2, 205, (IntKind.wrap .i64 ((IntKind.wrap .i64 (3 + yg60.Kind)) - 1)))) r31 x0.Tuples ((x0.Tuples.length : Int)) 0 ((⟨x0.Kind, x0.From, x0.About, x0.Tuples, x0.Abouts, x0.Numbers, x0.Rate, x0.f_Type, x0.Count, x0.Body⟩ : T_api_Report)))
else (
bif x0.Kind == 3 then (
(p_octet_Put k r31 (IntKind.wrap .u64 x0.About) 4).bind fun r142 =>
some (r142, 206, 1))
else (
bif x0.Kind == 4 then (
p_rtcp_body_l1 k (fun r232_2 =>
some (r232_2, 206, 4)) r31 x0.Abouts ((x0.Abouts.length : Int)) 0 ((⟨x0.Kind, x0.From, x0.About, x0.Tuples, x0.Abouts, x0.Numbers, x0.Rate, x0.f_Type, x0.Count, x0.Body⟩ : T_api_Report)))
else (
bif x0.Kind == 5 then (
(ap 1 r31 (bytesS ((⟨#[82, 69, 77, 66]⟩ : ByteArray)))).bind fun a243 =>
(p_octet_Put k a243 (IntKind.wrap .u64 ((x0.Abouts.length : Int))) 1).bind fun r249 =>
(p_rtcp_packed k x0.Rate 18 0 0).bind fun r263 =>
(p_octet_Put k r249 r263 3).bind fun r268 =>
p_rtcp_body_l2 k (fun r310_2 =>
some (r310_2, 206, 15)) r268 x0.Abouts ((x0.Abouts.length : Int)) 0)
else (
(p_clone 1 x0.Body).bind fun r321 =>
some (r321, x0.f_Type, x0.Count))))))
else (
bif x0.Kind == 2 then (
p_rtcp_body_l0 k (fun r341_2 yg60 =>
some (r341_2, 205, (IntKind.wrap .i64 ((IntKind.wrap .i64 (3 + yg60.Kind)) - 1)))) r31 x0.Tuples ((x0.Tuples.length : Int)) 0 ((⟨x0.Kind, x0.From, x0.About, x0.Tuples, x0.Abouts, x0.Numbers, x0.Rate, x0.f_Type, x0.Count, x0.Body⟩ : T_api_Report)))
else (
bif x0.Kind == 3 then (
(p_octet_Put k r31 (IntKind.wrap .u64 x0.About) 4).bind fun r362 =>
some (r362, 206, 1))
else (
bif x0.Kind == 4 then (
p_rtcp_body_l1 k (fun r382_2 =>
some (r382_2, 206, 4)) r31 x0.Abouts ((x0.Abouts.length : Int)) 0 ((⟨x0.Kind, x0.From, x0.About, x0.Tuples, x0.Abouts, x0.Numbers, x0.Rate, x0.f_Type, x0.Count, x0.Body⟩ : T_api_Report)))
else (
bif x0.Kind == 5 then (
(ap 1 r31 (bytesS ((⟨#[82, 69, 77, 66]⟩ : ByteArray)))).bind fun a393 =>
(p_octet_Put k a393 (IntKind.wrap .u64 ((x0.Abouts.length : Int))) 1).bind fun r399 =>
(p_rtcp_packed k x0.Rate 18 0 0).bind fun r413 =>
(p_octet_Put k r399 r413 3).bind fun r418 =>
p_rtcp_body_l2 k (fun r432_2 =>
some (r432_2, 206, 15)) r418 x0.Abouts ((x0.Abouts.length : Int)) 0)
else (
(p_clone 1 x0.Body).bind fun r443 =>
some (r443, x0.f_Type, x0.Count)))))))
else (
bif x0.Kind == 1 then (
bif x0.Kind == 1 then (
p_rtcp_body_l0 k (fun r463_2 yg60 =>
some (r463_2, 205, (IntKind.wrap .i64 ((IntKind.wrap .i64 (3 + yg60.Kind)) - 1)))) r13 x0.Tuples ((x0.Tuples.length : Int)) 0 ((⟨x0.Kind, x0.From, x0.About, x0.Tuples, x0.Abouts, x0.Numbers, x0.Rate, x0.f_Type, x0.Count, x0.Body⟩ : T_api_Report)))
else (
bif x0.Kind == 3 then (
(p_octet_Put k r13 (IntKind.wrap .u64 x0.About) 4).bind fun r484 =>
some (r484, 206, 1))
else (
bif x0.Kind == 4 then (
p_rtcp_body_l1 k (fun r504_2 =>
some (r504_2, 206, 4)) r13 x0.Abouts ((x0.Abouts.length : Int)) 0 ((⟨x0.Kind, x0.From, x0.About, x0.Tuples, x0.Abouts, x0.Numbers, x0.Rate, x0.f_Type, x0.Count, x0.Body⟩ : T_api_Report)))
else (
bif x0.Kind == 5 then (
(ap 1 r13 (bytesS ((⟨#[82, 69, 77, 66]⟩ : ByteArray)))).bind fun a515 =>
(p_octet_Put k a515 (IntKind.wrap .u64 ((x0.Abouts.length : Int))) 1).bind fun r521 =>
(p_rtcp_packed k x0.Rate 18 0 0).bind fun r535 =>
(p_octet_Put k r521 r535 3).bind fun r540 =>
p_rtcp_body_l2 k (fun r554_2 =>
some (r554_2, 206, 15)) r540 x0.Abouts ((x0.Abouts.length : Int)) 0)
else (
(p_clone 1 x0.Body).bind fun r565 =>
some (r565, x0.f_Type, x0.Count))))))
else (
bif x0.Kind == 2 then (
p_rtcp_body_l0 k (fun r585_2 yg60 =>
some (r585_2, 205, (IntKind.wrap .i64 ((IntKind.wrap .i64 (3 + yg60.Kind)) - 1)))) r13 x0.Tuples ((x0.Tuples.length : Int)) 0 ((⟨x0.Kind, x0.From, x0.About, x0.Tuples, x0.Abouts, x0.Numbers, x0.Rate, x0.f_Type, x0.Count, x0.Body⟩ : T_api_Report)))
else (
bif x0.Kind == 3 then (
(p_octet_Put k r13 (IntKind.wrap .u64 x0.About) 4).bind fun r606 =>
some (r606, 206, 1))
else (
bif x0.Kind == 4 then (
p_rtcp_body_l1 k (fun r626_2 =>
some (r626_2, 206, 4)) r13 x0.Abouts ((x0.Abouts.length : Int)) 0 ((⟨x0.Kind, x0.From, x0.About, x0.Tuples, x0.Abouts, x0.Numbers, x0.Rate, x0.f_Type, x0.Count, x0.Body⟩ : T_api_Report)))
else (
bif x0.Kind == 5 then (
(ap 1 r13 (bytesS ((⟨#[82, 69, 77, 66]⟩ : ByteArray)))).bind fun a637 =>
(p_octet_Put k a637 (IntKind.wrap .u64 ((x0.Abouts.length : Int))) 1).bind fun r643 =>
(p_rtcp_packed k x0.Rate 18 0 0).bind fun r657 =>
(p_octet_Put k r643 r657 3).bind fun r662 =>
p_rtcp_body_l2 k (fun r676_2 =>
some (r676_2, 206, 15)) r662 x0.Abouts ((x0.Abouts.length : Int)) 0)
else (
(p_clone 1 x0.Body).bind fun r687 =>
some (r687, x0.f_Type, x0.Count)))))))
theorem rtcp_body_l0_ok {h : H}  {β α : Type} {Q : β → α → Prop} {K : Exit × Env × H → Option α} {kE0 : (List Int) → T_api_Report → Option β} (hE0 : ∀ (q2 : (List Int)) (yg60 : T_api_Report) (v109 : V) (v111 : V) (h112 : SlF dT_api_Tuple yg60.Tuples v111) (v113 : V) (h114 : SlF (dI .u32) yg60.Abouts v113) (v115 : V) (h116 : SlF (dI .i64) yg60.Numbers v115) (v117 : V) (h118 : SlF (dI .u8) yg60.Body v117) (s119 : Stamp) (H107 : Go.Ev.H) (_ : Fm 120 h [] [(1, s119, List.map C.v [(.p (.int .i64 yg60.Kind)), (.p (.int .u32 yg60.From)), (.p (.int .u32 yg60.About)), v111, v113, v115, (.p (.int .u64 yg60.Rate)), (.p (.int .i64 yg60.f_Type)), (.p (.int .i64 yg60.Count)), v117])] [⟨[14, 24, 48], v109, (dI .u8), q2⟩] H107), Sim (kE0 q2 yg60) (K ((.exit 1), (envL [(1, (.ref ⟨h.length, 1, 0, s119, []⟩ 0)), (2, v109)]), H107)) Q) (k : Nat) : ∀ (x2 : (List Int)) (x31 : (List T_api_Tuple)) (x32 : Int) (x33 : Int) (yg12 : T_api_Report) (v47 : V) (v49 : V) (h50 : SlF dT_api_Tuple x31 v49) (v51 : V) (h52 : SlF dT_api_Tuple yg12.Tuples v51) (v53 : V) (h54 : SlF (dI .u32) yg12.Abouts v53) (v55 : V) (h56 : SlF (dI .i64) yg12.Numbers v55) (v57 : V) (h58 : SlF (dI .u8) yg12.Body v57) (s59 : Stamp) (H45 : Go.Ev.H) (_ : Fm 120 h [] [(1, s59, List.map C.v [(.p (.int .i64 yg12.Kind)), (.p (.int .u32 yg12.From)), (.p (.int .u32 yg12.About)), v51, v53, v55, (.p (.int .u64 yg12.Rate)), (.p (.int .i64 yg12.f_Type)), (.p (.int .i64 yg12.Count)), v57])] [⟨[14, 24, 48], v47, (dI .u8), x2⟩] H45) {σ : Stamp}, Sim (p_rtcp_body_l0 k kE0 x2 x31 x32 x33 yg12) ((cvL G X0 rtcp_body_c0 rtcp_body_l0 σ (envL [(1, (.ref ⟨h.length, 1, 0, s59, []⟩ 0)), (2, v47), (31, v49), (32, (.p (.int .i64 x32))), (33, (.p (.int .i64 x33)))]) H45).bind K) Q := by
  induction k with
  | zero => intros; exact Sim.no
  | succ k ih =>
    intro x2 x31 x32 x33 yg12 v47 v49 h50 v51 h52 v53 h54 v55 h56 v57 h58 s59 H45 S46 σ
    rw [p_rtcp_body_l0]
    refine Sim.round (Sim.ext (rtcp_body_r0 _ _ _ _ _ _ _ _ _) ?_)
    refine Sim.cd (fun hc => ?_) (fun hc => ?_)
    · refine Sim.bd fun a61 h62 => ?_
      refine Sim.op ((h50.h H45).iS h62 rfl) ?_
      obtain ⟨w64, h65, hE63⟩ := (h50.h H45).el h62 rfl
      obtain rfl := dT_api_Tuple.inv h65
      refine Sim.op (hE63.all (by simp)) ?_
      obtain ⟨H66, e67, S68⟩ := S46.al (d := 6) (s := (2 :: 0 :: 0 :: 1 :: 1 :: 0 :: σ)) (z := [(.p (.int .u32 0)), (.p (.int .u64 0)), (.p (.int .i64 0))]) (by decide) rfl
      refine Sim.op (congrArg some e67) ?_
      obtain ⟨H70, e71, S72⟩ := S68.stGv (i := 0) (j := 0) (own := false) (σ := (3 :: 0 :: 0 :: 1 :: 1 :: 0 :: σ)) (xs := [.p (.int .u32 a61.Owner), .p (.int .u64 a61.Rate), .p (.int .i64 a61.Over)]) rfl rfl (stills_cons (still_int _ _) (stills_cons (still_int _ _) (stills_cons (still_int _ _) stills_nil))) rfl rfl
      refine Sim.op (st_map e71) ?_
      refine Sim.op (fA_ref _ _ _) ?_
      refine Sim.op ((S72.atG (i := 0) rfl).ld (j := 0) rfl) ?_
      refine Sim.op (castI_p _ _) ?_
      refine Sim.op (fA_ref _ _ _) ?_
      refine Sim.op ((S72.atG (i := 0) rfl).ld (j := 1) rfl) ?_
      refine Sim.op (castI_p _ _) ?_
      refine Sim.op (fA_ref _ _ _) ?_
      refine Sim.op ((S72.atG (i := 0) rfl).ld (j := 2) rfl) ?_
      refine Sim.op (castI_p _ _) ?_
      refine Sim.call (octet_Put_ok k x2 (S72.sl (i := 0) rfl) (IntKind.wrap .u64 a61.Owner) 4) fun r73 cs74 H75 h76 q77 => ?_
      obtain ⟨c78, cs79, h80, h81, q77⟩ := q77
      cases q77
      obtain ⟨v82, H83, e84, S85⟩ := S72.land (dt := (dI .u8)) (d := 41) (e := 0) (n := 0) h80 h81 (by decide) rfl
      erw [e84]
      refine Sim.nd (rfl) ?_
      refine Sim.nd ((S85.atG (i := 0) rfl).ld (j := 2) rfl) ?_
      refine Sim.nd ((S85.atG (i := 0) rfl).ld (j := 1) rfl) ?_
      refine Sim.call (rtcp_packed_ok k a61.Rate 17 9 (IntKind.wrap .u64 a61.Over)) fun r87 cs88 H89 h90 q91 => ?_
      cases q91
      refine Sim.op (castI_p _ _) ?_
      refine Sim.call (octet_Put_ok k r73 (S85.sl (i := 0) rfl) r87 4) fun r92 cs93 H94 h95 q96 => ?_
      obtain ⟨c97, cs98, h99, h100, q96⟩ := q96
      cases q96
      have S101 := Fm.wk S85 (all_cons (at_mem 0 rfl) (all_cons (at_mem 1 rfl) all_nil)) (all_cons (at_mem 0 rfl) all_nil)
      obtain ⟨v102, H103, e104, S105⟩ := S101.land (dt := (dI .u8)) (d := 48) (e := 0) (n := 0) h99 h100 (by decide) rfl
      erw [e104]
      exact ih r92 x31 x32 (IntKind.wrap .i64 (x33 + 1)) ((⟨yg12.Kind, yg12.From, yg12.About, yg12.Tuples, yg12.Abouts, yg12.Numbers, yg12.Rate, yg12.f_Type, yg12.Count, yg12.Body⟩ : T_api_Report)) v102 v49 h50 v51 h52 v53 h54 v55 h56 v57 h58 s59 H103 (S105.wk2 (all_cons (at_mem 1 rfl) all_nil) (all_cons ⟨[48], by simp, at_mem 0 rfl⟩ all_nil))
    · exact hE0 x2 ((⟨yg12.Kind, yg12.From, yg12.About, yg12.Tuples, yg12.Abouts, yg12.Numbers, yg12.Rate, yg12.f_Type, yg12.Count, yg12.Body⟩ : T_api_Report)) v47 v51 h52 v53 h54 v55 h56 v57 h58 s59 H45 (S46.wk2 (all_cons (at_mem 0 rfl) all_nil) (all_cons ⟨[14, 24, 48], by simp, at_mem 0 rfl⟩ all_nil))
theorem rtcp_body_l1_ok {h : H}  {β α : Type} {Q : β → α → Prop} {K : Exit × Env × H → Option α} {kE0 : (List Int) → Option β} (hE0 : ∀ (q2 : (List Int)) (v230 : V) (H228 : Go.Ev.H) (_ : Fm 120 h [] [] [⟨[14, 24, 83], v230, (dI .u8), q2⟩] H228), Sim (kE0 q2) (K ((.exit 3), (envL [(2, v230)]), H228)) Q) (k : Nat) : ∀ (x2 : (List Int)) (x65 : (List Int)) (x66 : Int) (x67 : Int) (yg12 : T_api_Report) (v164 : V) (v166 : V) (h167 : SlF (dI .u32) x65 v166) (v168 : V) (h169 : SlF dT_api_Tuple yg12.Tuples v168) (v170 : V) (h171 : SlF (dI .u32) yg12.Abouts v170) (v172 : V) (h173 : SlF (dI .i64) yg12.Numbers v172) (v174 : V) (h175 : SlF (dI .u8) yg12.Body v174) (s176 : Stamp) (H162 : Go.Ev.H) (_ : Fm 120 h [] [(1, s176, List.map C.v [(.p (.int .i64 yg12.Kind)), (.p (.int .u32 yg12.From)), (.p (.int .u32 yg12.About)), v168, v170, v172, (.p (.int .u64 yg12.Rate)), (.p (.int .i64 yg12.f_Type)), (.p (.int .i64 yg12.Count)), v174])] [⟨[14, 24, 83], v164, (dI .u8), x2⟩] H162) {σ : Stamp}, Sim (p_rtcp_body_l1 k kE0 x2 x65 x66 x67 yg12) ((cvL G X0 rtcp_body_c1 rtcp_body_l1 σ (envL [(1, (.ref ⟨h.length, 1, 0, s176, []⟩ 0)), (2, v164), (65, v166), (66, (.p (.int .i64 x66))), (67, (.p (.int .i64 x67)))]) H162).bind K) Q := by
  induction k with
  | zero => intros; exact Sim.no
  | succ k ih =>
    intro x2 x65 x66 x67 yg12 v164 v166 h167 v168 h169 v170 h171 v172 h173 v174 h175 s176 H162 S163 σ
    rw [p_rtcp_body_l1]
    refine Sim.round (Sim.ext (rtcp_body_r1 _ _ _ _ _ _ _ _ _) ?_)
    refine Sim.cd (fun hc => ?_) (fun hc => ?_)
    · refine Sim.bd fun a178 h179 => ?_
      refine Sim.op ((h167.h H162).iS h179 rfl) ?_
      obtain ⟨_, rfl, hE180⟩ := (h167.h H162).el h179 rfl
      refine Sim.op (hE180.ld (j := 0) rfl) ?_
      refine Sim.op (castI_p _ _) ?_
      refine Sim.op (fA_ref _ _ _) ?_
      refine Sim.op ((S163.atG (i := 0) rfl).ld (j := 5) rfl) ?_
      refine Sim.bd fun a181 h182 => ?_
      refine Sim.op ((h173.h H162).iS h182 rfl) ?_
      obtain ⟨_, rfl, hE183⟩ := (h173.h H162).el h182 rfl
      refine Sim.op (hE183.ld (j := 0) rfl) ?_
      refine Sim.op (castI_p _ _) ?_
      refine Sim.call (octet_Put_ok k x2 (S163.sl (i := 0) rfl) (IntKind.wrap .u64 a178) 4) fun r184 cs185 H186 h187 q188 => ?_
      obtain ⟨c189, cs190, h191, h192, q188⟩ := q188
      cases q188
      obtain ⟨v193, H194, e195, S196⟩ := S163.land (dt := (dI .u8)) (d := 75) (e := 0) (n := 0) h191 h192 (by decide) rfl
      erw [e195]
      refine Sim.nd (rfl) ?_
      obtain ⟨_, rfl, hE198⟩ := (h173.h H194).el h182 rfl
      refine Sim.nd (hE198.ld (j := 0) rfl) ?_
      refine Sim.nd ((S196.atG (i := 0) rfl).ld (j := 5) rfl) ?_
      refine Sim.call (octet_Put_ok k r184 (S196.sl (i := 0) rfl) (IntKind.wrap .u64 a181) 1) fun r199 cs200 H201 h202 q203 => ?_
      obtain ⟨c204, cs205, h206, h207, q203⟩ := q203
      cases q203
      obtain ⟨v208, H209, e210, S211⟩ := S196.land (dt := (dI .u8)) (d := 82) (e := 0) (n := 0) h206 h207 (by decide) rfl
      erw [e210]
      refine Sim.call (octet_Put_ok k r199 (S211.sl (i := 0) rfl) 0 3) fun r213 cs214 H215 h216 q217 => ?_
      obtain ⟨c218, cs219, h220, h221, q217⟩ := q217
      cases q217
      have S222 := Fm.wk S211 (all_cons (at_mem 0 rfl) all_nil) (all_cons (at_mem 0 rfl) (all_cons (at_mem 1 rfl) all_nil))
      obtain ⟨v223, H224, e225, S226⟩ := S222.land (dt := (dI .u8)) (d := 83) (e := 0) (n := 0) h220 h221 (by decide) rfl
      erw [e225]
      exact ih r213 x65 x66 (IntKind.wrap .i64 (x67 + 1)) ((⟨yg12.Kind, yg12.From, yg12.About, yg12.Tuples, yg12.Abouts, yg12.Numbers, yg12.Rate, yg12.f_Type, yg12.Count, yg12.Body⟩ : T_api_Report)) v223 v166 h167 v168 h169 v170 h171 v172 h173 v174 h175 s176 H224 (S226.wk2 (all_cons (at_mem 0 rfl) all_nil) (all_cons ⟨[83], by simp, at_mem 0 rfl⟩ all_nil))
    · exact hE0 x2 v164 H162 (S163.wk2 all_nil (all_cons ⟨[14, 24, 83], by simp, at_mem 0 rfl⟩ all_nil))
theorem rtcp_body_l2_ok {h : H}  {β α : Type} {Q : β → α → Prop} {K : Exit × Env × H → Option α} {kE0 : (List Int) → Option β} (hE0 : ∀ (q2 : (List Int)) (v308 : V) (H306 : Go.Ev.H) (_ : Fm 120 h [] [] [⟨[99, 110], v308, (dI .u8), q2⟩] H306), Sim (kE0 q2) (K ((.exit 5), (envL [(2, v308)]), H306)) Q) (k : Nat) : ∀ (x2 : (List Int)) (x101 : (List Int)) (x102 : Int) (x103 : Int) (v284 : V) (v286 : V) (h287 : SlF (dI .u32) x101 v286) (H282 : Go.Ev.H) (_ : Fm 120 h [] [] [⟨[99, 110], v284, (dI .u8), x2⟩] H282) {σ : Stamp}, Sim (p_rtcp_body_l2 k kE0 x2 x101 x102 x103) ((cvL G X0 rtcp_body_c2 rtcp_body_l2 σ (envL [(2, v284), (101, v286), (102, (.p (.int .i64 x102))), (103, (.p (.int .i64 x103)))]) H282).bind K) Q := by
  induction k with
  | zero => intros; exact Sim.no
  | succ k ih =>
    intro x2 x101 x102 x103 v284 v286 h287 H282 S283 σ
    rw [p_rtcp_body_l2]
    refine Sim.round (Sim.ext (rtcp_body_r2 _ _ _ _ _ _ _ _) ?_)
    refine Sim.cd (fun hc => ?_) (fun hc => ?_)
    · refine Sim.bd fun a288 h289 => ?_
      refine Sim.op ((h287.h H282).iS h289 rfl) ?_
      obtain ⟨_, rfl, hE290⟩ := (h287.h H282).el h289 rfl
      refine Sim.op (hE290.ld (j := 0) rfl) ?_
      refine Sim.op (castI_p _ _) ?_
      refine Sim.call (octet_Put_ok k x2 (S283.sl (i := 0) rfl) (IntKind.wrap .u64 a288) 4) fun r291 cs292 H293 h294 q295 => ?_
      obtain ⟨c296, cs297, h298, h299, q295⟩ := q295
      cases q295
      have S300 := Fm.wk S283 all_nil all_nil
      obtain ⟨v301, H302, e303, S304⟩ := S300.land (dt := (dI .u8)) (d := 110) (e := 0) (n := 0) h298 h299 (by decide) rfl
      erw [e303]
      exact ih r291 x101 x102 (IntKind.wrap .i64 (x103 + 1)) v301 v286 h287 H302 (S304.wk2 all_nil (all_cons ⟨[110], by simp, at_mem 0 rfl⟩ all_nil))
    · exact hE0 x2 v284 H282 (S283.wk2 all_nil (all_cons ⟨[99, 110], by simp, at_mem 0 rfl⟩ all_nil))
theorem rtcp_body_ok (k : Nat) {h : H} {σ : Stamp} (x0 : T_api_Report) {u0 : List V} (hu0 : dT_api_Report.R x0 u0) : Sim (p_rtcp_body k x0) (ev G X0 56 σ [(.agg u0)] h) (fun r s => ∃ (v0 : V), SlF (dI .u8) r.1 v0 ∧ s = ([.v v0, .v (.p (.int .i64 r.2.1)), .v (.p (.int .i64 r.2.2))], h)) := by
  refine Sim.ev rfl (Sim.ext (rtcp_body_entry _ _ _ _ _) ?_)
  rw [p_rtcp_body]
  obtain ⟨v1, v3, v5, v7, rfl, h2, h4, h6, h8⟩ := dT_api_Report.inv hu0
  have S0 : Fm 120 h [] [] [] (List.replicate 120 [] :: h) := Fm.start0
  obtain ⟨H9, e10, S11⟩ := S0.box (own := false) (d := 1) (s := (0 :: 0 :: 0 :: σ)) (xs := [(.p (.int .i64 x0.Kind)), (.p (.int .u32 x0.From)), (.p (.int .u32 x0.About)), v1, v3, v5, (.p (.int .u64 x0.Rate)), (.p (.int .i64 x0.f_Type)), (.p (.int .i64 x0.Count)), v7]) (stills_cons (still_int _ _) (stills_cons (still_int _ _) (stills_cons (still_int _ _) (stills_cons h2.still (stills_cons h4.still (stills_cons h6.still (stills_cons (still_int _ _) (stills_cons (still_int _ _) (stills_cons (still_int _ _) (stills_cons h8.still stills_nil)))))))))) (by decide) rfl
  refine Sim.op (e10) ?_
  refine Sim.op (fA_ref _ _ _) ?_
  refine Sim.op ((S11.atG (i := 0) rfl).ld (j := 1) rfl) ?_
  refine Sim.op (castI_p _ _) ?_
  refine Sim.call (octet_Put_ok k (([] : List Int)) ((SlF.nil (dI .u8)).h H9) (IntKind.wrap .u64 x0.From) 4) fun r13 cs14 H15 h16 q17 => ?_
  obtain ⟨c18, cs19, h20, h21, q17⟩ := q17
  cases q17
  obtain ⟨v22, H23, e24, S25⟩ := S11.land (dt := (dI .u8)) (d := 14) (e := 0) (n := 0) h20 h21 (by decide) rfl
  erw [e24]
  refine Sim.op (fA_ref _ _ _) ?_
  refine Sim.op ((S25.atG (i := 0) rfl).ld (j := 0) rfl) ?_
  refine Sim.op (castI_p _ _) ?_
  refine Sim.ch (P := fun r y => r = y) ?_ (fun b27 y28 h29 h30 => ?_)
  · refine Sim.cd (fun hc => ?_) (fun hc => ?_)
    · refine Sim.op (fA_ref _ _ _) ?_
      refine Sim.op ((S25.atG (i := 0) rfl).ld (j := 0) rfl) ?_
      refine Sim.op (castI_p _ _) ?_
      exact Sim.ret rfl rfl
    · exact Sim.ret rfl rfl
  subst h30
  refine Sim.cd (fun hc => ?_) (fun hc => ?_)
  · refine Sim.call (octet_Put_ok k r13 (S25.sl (i := 0) rfl) 0 4) fun r31 cs32 H33 h34 q35 => ?_
    obtain ⟨c36, cs37, h38, h39, q35⟩ := q35
    cases q35
    obtain ⟨v40, H41, e42, S43⟩ := S25.land (dt := (dI .u8)) (d := 24) (e := 0) (n := 0) h38 h39 (by decide) rfl
    erw [e42]
    refine Sim.op (fA_ref _ _ _) ?_
    refine Sim.op ((S43.atG (i := 0) rfl).ld (j := 0) rfl) ?_
    refine Sim.op (castI_p _ _) ?_
    refine Sim.cd (fun hc => ?_) (fun hc => ?_)
    · refine Sim.cd (fun hc => ?_) (fun hc => ?_)
      · refine Sim.op (fA_ref _ _ _) ?_
        refine Sim.op ((S43.atG (i := 0) rfl).ld (j := 3) rfl) ?_
        refine Sim.op ((h2.h H41).len) ?_
        refine Sim.op (castI_p _ _) ?_
        refine Sim.as (rtcp_body_l0_ok ?_ k r31 x0.Tuples ((x0.Tuples.length : Int)) 0 ((⟨x0.Kind, x0.From, x0.About, x0.Tuples, x0.Abouts, x0.Numbers, x0.Rate, x0.f_Type, x0.Count, x0.Body⟩ : T_api_Report)) v40 v1 h2 v1 h2 v3 h4 v5 h6 v7 h8 (0 :: 0 :: 0 :: σ) H41 (S43.wk2 (all_cons (at_mem 0 rfl) all_nil) (all_cons ⟨[24], by simp, at_mem 0 rfl⟩ all_nil))) 
        · intro r121_2 yg60 v124 v126 h127 v128 h129 v130 h131 v132 h133 s134 H122 S123
          refine Sim.ext (rtcp_body_a0_1 _ _ _ _ _ _) ?_
          refine Sim.op (fA_ref _ _ _) ?_
          refine Sim.op ((S123.atG (i := 0) rfl).ld (j := 0) rfl) ?_
          refine Sim.op (castI_p _ _) ?_
          obtain ⟨v141, H136, e137, h139, S138⟩ := S123.expFrz (i := 0) (τ := 0 :: 1 :: σ) rfl rfl
          exact Sim.fin (S138.finE (Ex.st e137 (Ex.pl (still_int _ _).lv (Ex.pl (still_int _ _).lv Ex.nil)))) ⟨v141, h139, rfl⟩
      · refine Sim.cd (fun hc => ?_) (fun hc => ?_)
        · refine Sim.op (fA_ref _ _ _) ?_
          refine Sim.op ((S43.atG (i := 0) rfl).ld (j := 2) rfl) ?_
          refine Sim.op (castI_p _ _) ?_
          refine Sim.call (octet_Put_ok k r31 (S43.sl (i := 0) rfl) (IntKind.wrap .u64 x0.About) 4) fun r142 cs143 H144 h145 q146 => ?_
          obtain ⟨c147, cs148, h149, h150, q146⟩ := q146
          cases q146
          obtain ⟨v151, H152, e153, S154⟩ := S43.land (dt := (dI .u8)) (d := 61) (e := 0) (n := 0) h149 h150 (by decide) rfl
          erw [e153]
          obtain ⟨v161, H156, e157, h159, S158⟩ := S154.expFrz (i := 0) (τ := 0 :: 1 :: σ) rfl rfl
          exact Sim.fin (S158.finE (Ex.st e157 (Ex.pl (still_int _ _).lv (Ex.pl (still_int _ _).lv Ex.nil)))) ⟨v161, h159, rfl⟩
        · refine Sim.cd (fun hc => ?_) (fun hc => ?_)
          · refine Sim.op (fA_ref _ _ _) ?_
            refine Sim.op ((S43.atG (i := 0) rfl).ld (j := 4) rfl) ?_
            refine Sim.op ((h4.h H41).len) ?_
            refine Sim.op (castI_p _ _) ?_
            refine Sim.as (rtcp_body_l1_ok ?_ k r31 x0.Abouts ((x0.Abouts.length : Int)) 0 ((⟨x0.Kind, x0.From, x0.About, x0.Tuples, x0.Abouts, x0.Numbers, x0.Rate, x0.f_Type, x0.Count, x0.Body⟩ : T_api_Report)) v40 v3 h4 v1 h2 v3 h4 v5 h6 v7 h8 (0 :: 0 :: 0 :: σ) H41 (S43.wk2 (all_cons (at_mem 0 rfl) all_nil) (all_cons ⟨[24], by simp, at_mem 0 rfl⟩ all_nil))) 
            · intro r232_2 v235 H233 S234
              refine Sim.ext (rtcp_body_a1_3 _ _ _ _ _) ?_
              obtain ⟨v242, H237, e238, h240, S239⟩ := S234.expFrz (i := 0) (τ := 0 :: 1 :: σ) rfl rfl
              exact Sim.fin (S239.finE (Ex.st e238 (Ex.pl (still_int _ _).lv (Ex.pl (still_int _ _).lv Ex.nil)))) ⟨v242, h240, rfl⟩
          · refine Sim.cd (fun hc => ?_) (fun hc => ?_)
            · refine Sim.op (fA_ref _ _ _) ?_
              refine Sim.op ((S43.atG (i := 0) rfl).ld (j := 4) rfl) ?_
              refine Sim.op ((h4.h H41).len) ?_
              refine Sim.op (castI_p _ _) ?_
              refine Sim.bd fun a243 h244 => ?_
              obtain ⟨v245, H246, e247, S248⟩ := S43.app (i := 0) (d := 89) (e := 1) (own := true) (σ := (1 :: 0 :: 1 :: 1 :: 1 :: 1 :: 1 :: 0 :: 1 :: 1 :: 1 :: 0 :: σ)) rfl (ysS H41 ((⟨#[82, 69, 77, 66]⟩ : ByteArray))) h244 rfl (by decide) (by decide) rfl
              refine Sim.op (e247) ?_
              refine Sim.nd (rfl) ?_
              refine Sim.nd ((S248.atG (i := 0) rfl).ld (j := 4) rfl) ?_
              refine Sim.call (octet_Put_ok k a243 (S248.sl (i := 0) rfl) (IntKind.wrap .u64 ((x0.Abouts.length : Int))) 1) fun r249 cs250 H251 h252 q253 => ?_
              obtain ⟨c254, cs255, h256, h257, q253⟩ := q253
              cases q253
              obtain ⟨v258, H259, e260, S261⟩ := S248.land (dt := (dI .u8)) (d := 94) (e := 0) (n := 0) h256 h257 (by decide) rfl
              erw [e260]
              refine Sim.op (fA_ref _ _ _) ?_
              refine Sim.op ((S261.atG (i := 0) rfl).ld (j := 6) rfl) ?_
              refine Sim.op (castI_p _ _) ?_
              refine Sim.call (rtcp_packed_ok k x0.Rate 18 0 0) fun r263 cs264 H265 h266 q267 => ?_
              cases q267
              refine Sim.op (castI_p _ _) ?_
              refine Sim.call (octet_Put_ok k r249 (S261.sl (i := 0) rfl) r263 3) fun r268 cs269 H270 h271 q272 => ?_
              obtain ⟨c273, cs274, h275, h276, q272⟩ := q272
              cases q272
              obtain ⟨v277, H278, e279, S280⟩ := S261.land (dt := (dI .u8)) (d := 99) (e := 0) (n := 0) h275 h276 (by decide) rfl
              erw [e279]
              refine Sim.op (fA_ref _ _ _) ?_
              refine Sim.op ((S280.atG (i := 0) rfl).ld (j := 4) rfl) ?_
              refine Sim.op ((h4.h H278).len) ?_
              refine Sim.op (castI_p _ _) ?_
              refine Sim.as (rtcp_body_l2_ok ?_ k r268 x0.Abouts ((x0.Abouts.length : Int)) 0 v277 v3 h4 H278 (S280.wk2 all_nil (all_cons ⟨[99], by simp, at_mem 0 rfl⟩ all_nil))) 
              · intro r310_2 v313 H311 S312
                refine Sim.ext (rtcp_body_a2_5 _ _ _ _ _) ?_
                obtain ⟨v320, H315, e316, h318, S317⟩ := S312.expFrz (i := 0) (τ := 0 :: 1 :: σ) rfl rfl
                exact Sim.fin (S317.finE (Ex.st e316 (Ex.pl (still_int _ _).lv (Ex.pl (still_int _ _).lv Ex.nil)))) ⟨v320, h318, rfl⟩
            · refine Sim.op (fA_ref _ _ _) ?_
              refine Sim.op ((S43.atG (i := 0) rfl).ld (j := 9) rfl) ?_
              refine Sim.op (fA_ref _ _ _) ?_
              refine Sim.op ((S43.atG (i := 0) rfl).ld (j := 7) rfl) ?_
              refine Sim.op (castI_p _ _) ?_
              refine Sim.op (fA_ref _ _ _) ?_
              refine Sim.op ((S43.atG (i := 0) rfl).ld (j := 8) rfl) ?_
              refine Sim.op (castI_p _ _) ?_
              refine Sim.call (clone_ok (b := 1) (f := 95) (tt := 5) (e := 1) (τ := fun σ => _ :: _ :: _ :: _ :: _ :: σ) (fun x h => slices_Clone_Lbyte_byte_entry _ _ _ x h) (h8.h H41) rfl (by decide) (by decide) (by decide) (by kernel_rfl) (by kernel_rfl) rfl) fun r321 cs322 H323 h324 q325 => ?_
              obtain ⟨c326, cs327, h328, h329, q325⟩ := q325
              cases q325
              obtain ⟨v330, H331, e332, S333⟩ := S43.land (dt := (dI .u8)) (d := 115) (e := 0) (n := 0) h328 h329 (by decide) rfl
              erw [e332]
              refine Sim.nd ((S333.atG (i := 0) rfl).ld (j := 8) rfl) ?_
              refine Sim.nd ((S333.atG (i := 0) rfl).ld (j := 7) rfl) ?_
              obtain ⟨v340, H335, e336, h338, S337⟩ := S333.expFrz (i := 0) (τ := 0 :: 1 :: σ) rfl rfl
              exact Sim.fin (S337.finE (Ex.st e336 (Ex.pl (still_int _ _).lv (Ex.pl (still_int _ _).lv Ex.nil)))) ⟨v340, h338, rfl⟩
    · refine Sim.cd (fun hc => ?_) (fun hc => ?_)
      · refine Sim.op (fA_ref _ _ _) ?_
        refine Sim.op ((S43.atG (i := 0) rfl).ld (j := 3) rfl) ?_
        refine Sim.op ((h2.h H41).len) ?_
        refine Sim.op (castI_p _ _) ?_
        refine Sim.as (rtcp_body_l0_ok ?_ k r31 x0.Tuples ((x0.Tuples.length : Int)) 0 ((⟨x0.Kind, x0.From, x0.About, x0.Tuples, x0.Abouts, x0.Numbers, x0.Rate, x0.f_Type, x0.Count, x0.Body⟩ : T_api_Report)) v40 v1 h2 v1 h2 v3 h4 v5 h6 v7 h8 (0 :: 0 :: 0 :: σ) H41 (S43.wk2 (all_cons (at_mem 0 rfl) all_nil) (all_cons ⟨[24], by simp, at_mem 0 rfl⟩ all_nil))) 
        · intro r341_2 yg60 v344 v346 h347 v348 h349 v350 h351 v352 h353 s354 H342 S343
          refine Sim.ext (rtcp_body_a0_1 _ _ _ _ _ _) ?_
          refine Sim.op (fA_ref _ _ _) ?_
          refine Sim.op ((S343.atG (i := 0) rfl).ld (j := 0) rfl) ?_
          refine Sim.op (castI_p _ _) ?_
          obtain ⟨v361, H356, e357, h359, S358⟩ := S343.expFrz (i := 0) (τ := 0 :: 1 :: σ) rfl rfl
          exact Sim.fin (S358.finE (Ex.st e357 (Ex.pl (still_int _ _).lv (Ex.pl (still_int _ _).lv Ex.nil)))) ⟨v361, h359, rfl⟩
      · refine Sim.cd (fun hc => ?_) (fun hc => ?_)
        · refine Sim.op (fA_ref _ _ _) ?_
          refine Sim.op ((S43.atG (i := 0) rfl).ld (j := 2) rfl) ?_
          refine Sim.op (castI_p _ _) ?_
          refine Sim.call (octet_Put_ok k r31 (S43.sl (i := 0) rfl) (IntKind.wrap .u64 x0.About) 4) fun r362 cs363 H364 h365 q366 => ?_
          obtain ⟨c367, cs368, h369, h370, q366⟩ := q366
          cases q366
          obtain ⟨v371, H372, e373, S374⟩ := S43.land (dt := (dI .u8)) (d := 61) (e := 0) (n := 0) h369 h370 (by decide) rfl
          erw [e373]
          obtain ⟨v381, H376, e377, h379, S378⟩ := S374.expFrz (i := 0) (τ := 0 :: 1 :: σ) rfl rfl
          exact Sim.fin (S378.finE (Ex.st e377 (Ex.pl (still_int _ _).lv (Ex.pl (still_int _ _).lv Ex.nil)))) ⟨v381, h379, rfl⟩
        · refine Sim.cd (fun hc => ?_) (fun hc => ?_)
          · refine Sim.op (fA_ref _ _ _) ?_
            refine Sim.op ((S43.atG (i := 0) rfl).ld (j := 4) rfl) ?_
            refine Sim.op ((h4.h H41).len) ?_
            refine Sim.op (castI_p _ _) ?_
            refine Sim.as (rtcp_body_l1_ok ?_ k r31 x0.Abouts ((x0.Abouts.length : Int)) 0 ((⟨x0.Kind, x0.From, x0.About, x0.Tuples, x0.Abouts, x0.Numbers, x0.Rate, x0.f_Type, x0.Count, x0.Body⟩ : T_api_Report)) v40 v3 h4 v1 h2 v3 h4 v5 h6 v7 h8 (0 :: 0 :: 0 :: σ) H41 (S43.wk2 (all_cons (at_mem 0 rfl) all_nil) (all_cons ⟨[24], by simp, at_mem 0 rfl⟩ all_nil))) 
            · intro r382_2 v385 H383 S384
              refine Sim.ext (rtcp_body_a1_3 _ _ _ _ _) ?_
              obtain ⟨v392, H387, e388, h390, S389⟩ := S384.expFrz (i := 0) (τ := 0 :: 1 :: σ) rfl rfl
              exact Sim.fin (S389.finE (Ex.st e388 (Ex.pl (still_int _ _).lv (Ex.pl (still_int _ _).lv Ex.nil)))) ⟨v392, h390, rfl⟩
          · refine Sim.cd (fun hc => ?_) (fun hc => ?_)
            · refine Sim.op (fA_ref _ _ _) ?_
              refine Sim.op ((S43.atG (i := 0) rfl).ld (j := 4) rfl) ?_
              refine Sim.op ((h4.h H41).len) ?_
              refine Sim.op (castI_p _ _) ?_
              refine Sim.bd fun a393 h394 => ?_
              obtain ⟨v395, H396, e397, S398⟩ := S43.app (i := 0) (d := 89) (e := 1) (own := true) (σ := (1 :: 0 :: 1 :: 1 :: 1 :: 1 :: 1 :: 0 :: 1 :: 1 :: 1 :: 0 :: σ)) rfl (ysS H41 ((⟨#[82, 69, 77, 66]⟩ : ByteArray))) h394 rfl (by decide) (by decide) rfl
              refine Sim.op (e397) ?_
              refine Sim.nd (rfl) ?_
              refine Sim.nd ((S398.atG (i := 0) rfl).ld (j := 4) rfl) ?_
              refine Sim.call (octet_Put_ok k a393 (S398.sl (i := 0) rfl) (IntKind.wrap .u64 ((x0.Abouts.length : Int))) 1) fun r399 cs400 H401 h402 q403 => ?_
              obtain ⟨c404, cs405, h406, h407, q403⟩ := q403
              cases q403
              obtain ⟨v408, H409, e410, S411⟩ := S398.land (dt := (dI .u8)) (d := 94) (e := 0) (n := 0) h406 h407 (by decide) rfl
              erw [e410]
              refine Sim.op (fA_ref _ _ _) ?_
              refine Sim.op ((S411.atG (i := 0) rfl).ld (j := 6) rfl) ?_
              refine Sim.op (castI_p _ _) ?_
              refine Sim.call (rtcp_packed_ok k x0.Rate 18 0 0) fun r413 cs414 H415 h416 q417 => ?_
              cases q417
              refine Sim.op (castI_p _ _) ?_
              refine Sim.call (octet_Put_ok k r399 (S411.sl (i := 0) rfl) r413 3) fun r418 cs419 H420 h421 q422 => ?_
              obtain ⟨c423, cs424, h425, h426, q422⟩ := q422
              cases q422
              obtain ⟨v427, H428, e429, S430⟩ := S411.land (dt := (dI .u8)) (d := 99) (e := 0) (n := 0) h425 h426 (by decide) rfl
              erw [e429]
              refine Sim.op (fA_ref _ _ _) ?_
              refine Sim.op ((S430.atG (i := 0) rfl).ld (j := 4) rfl) ?_
              refine Sim.op ((h4.h H428).len) ?_
              refine Sim.op (castI_p _ _) ?_
              refine Sim.as (rtcp_body_l2_ok ?_ k r418 x0.Abouts ((x0.Abouts.length : Int)) 0 v427 v3 h4 H428 (S430.wk2 all_nil (all_cons ⟨[99], by simp, at_mem 0 rfl⟩ all_nil))) 
              · intro r432_2 v435 H433 S434
                refine Sim.ext (rtcp_body_a2_5 _ _ _ _ _) ?_
                obtain ⟨v442, H437, e438, h440, S439⟩ := S434.expFrz (i := 0) (τ := 0 :: 1 :: σ) rfl rfl
                exact Sim.fin (S439.finE (Ex.st e438 (Ex.pl (still_int _ _).lv (Ex.pl (still_int _ _).lv Ex.nil)))) ⟨v442, h440, rfl⟩
            · refine Sim.op (fA_ref _ _ _) ?_
              refine Sim.op ((S43.atG (i := 0) rfl).ld (j := 9) rfl) ?_
              refine Sim.op (fA_ref _ _ _) ?_
              refine Sim.op ((S43.atG (i := 0) rfl).ld (j := 7) rfl) ?_
              refine Sim.op (castI_p _ _) ?_
              refine Sim.op (fA_ref _ _ _) ?_
              refine Sim.op ((S43.atG (i := 0) rfl).ld (j := 8) rfl) ?_
              refine Sim.op (castI_p _ _) ?_
              refine Sim.call (clone_ok (b := 1) (f := 95) (tt := 5) (e := 1) (τ := fun σ => _ :: _ :: _ :: _ :: _ :: σ) (fun x h => slices_Clone_Lbyte_byte_entry _ _ _ x h) (h8.h H41) rfl (by decide) (by decide) (by decide) (by kernel_rfl) (by kernel_rfl) rfl) fun r443 cs444 H445 h446 q447 => ?_
              obtain ⟨c448, cs449, h450, h451, q447⟩ := q447
              cases q447
              obtain ⟨v452, H453, e454, S455⟩ := S43.land (dt := (dI .u8)) (d := 115) (e := 0) (n := 0) h450 h451 (by decide) rfl
              erw [e454]
              refine Sim.nd ((S455.atG (i := 0) rfl).ld (j := 8) rfl) ?_
              refine Sim.nd ((S455.atG (i := 0) rfl).ld (j := 7) rfl) ?_
              obtain ⟨v462, H457, e458, h460, S459⟩ := S455.expFrz (i := 0) (τ := 0 :: 1 :: σ) rfl rfl
              exact Sim.fin (S459.finE (Ex.st e458 (Ex.pl (still_int _ _).lv (Ex.pl (still_int _ _).lv Ex.nil)))) ⟨v462, h460, rfl⟩
  · refine Sim.op (fA_ref _ _ _) ?_
    refine Sim.op ((S25.atG (i := 0) rfl).ld (j := 0) rfl) ?_
    refine Sim.op (castI_p _ _) ?_
    refine Sim.cd (fun hc => ?_) (fun hc => ?_)
    · refine Sim.cd (fun hc => ?_) (fun hc => ?_)
      · refine Sim.op (fA_ref _ _ _) ?_
        refine Sim.op ((S25.atG (i := 0) rfl).ld (j := 3) rfl) ?_
        refine Sim.op ((h2.h H23).len) ?_
        refine Sim.op (castI_p _ _) ?_
        refine Sim.as (rtcp_body_l0_ok ?_ k r13 x0.Tuples ((x0.Tuples.length : Int)) 0 ((⟨x0.Kind, x0.From, x0.About, x0.Tuples, x0.Abouts, x0.Numbers, x0.Rate, x0.f_Type, x0.Count, x0.Body⟩ : T_api_Report)) v22 v1 h2 v1 h2 v3 h4 v5 h6 v7 h8 (0 :: 0 :: 0 :: σ) H23 (S25.wk2 (all_cons (at_mem 0 rfl) all_nil) (all_cons ⟨[14], by simp, at_mem 0 rfl⟩ all_nil))) 
        · intro r463_2 yg60 v466 v468 h469 v470 h471 v472 h473 v474 h475 s476 H464 S465
          refine Sim.ext (rtcp_body_a0_1 _ _ _ _ _ _) ?_
          refine Sim.op (fA_ref _ _ _) ?_
          refine Sim.op ((S465.atG (i := 0) rfl).ld (j := 0) rfl) ?_
          refine Sim.op (castI_p _ _) ?_
          obtain ⟨v483, H478, e479, h481, S480⟩ := S465.expFrz (i := 0) (τ := 0 :: 1 :: σ) rfl rfl
          exact Sim.fin (S480.finE (Ex.st e479 (Ex.pl (still_int _ _).lv (Ex.pl (still_int _ _).lv Ex.nil)))) ⟨v483, h481, rfl⟩
      · refine Sim.cd (fun hc => ?_) (fun hc => ?_)
        · refine Sim.op (fA_ref _ _ _) ?_
          refine Sim.op ((S25.atG (i := 0) rfl).ld (j := 2) rfl) ?_
          refine Sim.op (castI_p _ _) ?_
          refine Sim.call (octet_Put_ok k r13 (S25.sl (i := 0) rfl) (IntKind.wrap .u64 x0.About) 4) fun r484 cs485 H486 h487 q488 => ?_
          obtain ⟨c489, cs490, h491, h492, q488⟩ := q488
          cases q488
          obtain ⟨v493, H494, e495, S496⟩ := S25.land (dt := (dI .u8)) (d := 61) (e := 0) (n := 0) h491 h492 (by decide) rfl
          erw [e495]
          obtain ⟨v503, H498, e499, h501, S500⟩ := S496.expFrz (i := 0) (τ := 0 :: 1 :: σ) rfl rfl
          exact Sim.fin (S500.finE (Ex.st e499 (Ex.pl (still_int _ _).lv (Ex.pl (still_int _ _).lv Ex.nil)))) ⟨v503, h501, rfl⟩
        · refine Sim.cd (fun hc => ?_) (fun hc => ?_)
          · refine Sim.op (fA_ref _ _ _) ?_
            refine Sim.op ((S25.atG (i := 0) rfl).ld (j := 4) rfl) ?_
            refine Sim.op ((h4.h H23).len) ?_
            refine Sim.op (castI_p _ _) ?_
            refine Sim.as (rtcp_body_l1_ok ?_ k r13 x0.Abouts ((x0.Abouts.length : Int)) 0 ((⟨x0.Kind, x0.From, x0.About, x0.Tuples, x0.Abouts, x0.Numbers, x0.Rate, x0.f_Type, x0.Count, x0.Body⟩ : T_api_Report)) v22 v3 h4 v1 h2 v3 h4 v5 h6 v7 h8 (0 :: 0 :: 0 :: σ) H23 (S25.wk2 (all_cons (at_mem 0 rfl) all_nil) (all_cons ⟨[14], by simp, at_mem 0 rfl⟩ all_nil))) 
            · intro r504_2 v507 H505 S506
              refine Sim.ext (rtcp_body_a1_3 _ _ _ _ _) ?_
              obtain ⟨v514, H509, e510, h512, S511⟩ := S506.expFrz (i := 0) (τ := 0 :: 1 :: σ) rfl rfl
              exact Sim.fin (S511.finE (Ex.st e510 (Ex.pl (still_int _ _).lv (Ex.pl (still_int _ _).lv Ex.nil)))) ⟨v514, h512, rfl⟩
          · refine Sim.cd (fun hc => ?_) (fun hc => ?_)
            · refine Sim.op (fA_ref _ _ _) ?_
              refine Sim.op ((S25.atG (i := 0) rfl).ld (j := 4) rfl) ?_
              refine Sim.op ((h4.h H23).len) ?_
              refine Sim.op (castI_p _ _) ?_
              refine Sim.bd fun a515 h516 => ?_
              obtain ⟨v517, H518, e519, S520⟩ := S25.app (i := 0) (d := 89) (e := 1) (own := true) (σ := (1 :: 0 :: 1 :: 1 :: 1 :: 1 :: 1 :: 0 :: 1 :: 1 :: 1 :: 0 :: σ)) rfl (ysS H23 ((⟨#[82, 69, 77, 66]⟩ : ByteArray))) h516 rfl (by decide) (by decide) rfl
              refine Sim.op (e519) ?_
              refine Sim.nd (rfl) ?_
              refine Sim.nd ((S520.atG (i := 0) rfl).ld (j := 4) rfl) ?_
              refine Sim.call (octet_Put_ok k a515 (S520.sl (i := 0) rfl) (IntKind.wrap .u64 ((x0.Abouts.length : Int))) 1) fun r521 cs522 H523 h524 q525 => ?_
              obtain ⟨c526, cs527, h528, h529, q525⟩ := q525
              cases q525
              obtain ⟨v530, H531, e532, S533⟩ := S520.land (dt := (dI .u8)) (d := 94) (e := 0) (n := 0) h528 h529 (by decide) rfl
              erw [e532]
              refine Sim.op (fA_ref _ _ _) ?_
              refine Sim.op ((S533.atG (i := 0) rfl).ld (j := 6) rfl) ?_
              refine Sim.op (castI_p _ _) ?_
              refine Sim.call (rtcp_packed_ok k x0.Rate 18 0 0) fun r535 cs536 H537 h538 q539 => ?_
              cases q539
              refine Sim.op (castI_p _ _) ?_
              refine Sim.call (octet_Put_ok k r521 (S533.sl (i := 0) rfl) r535 3) fun r540 cs541 H542 h543 q544 => ?_
              obtain ⟨c545, cs546, h547, h548, q544⟩ := q544
              cases q544
              obtain ⟨v549, H550, e551, S552⟩ := S533.land (dt := (dI .u8)) (d := 99) (e := 0) (n := 0) h547 h548 (by decide) rfl
              erw [e551]
              refine Sim.op (fA_ref _ _ _) ?_
              refine Sim.op ((S552.atG (i := 0) rfl).ld (j := 4) rfl) ?_
              refine Sim.op ((h4.h H550).len) ?_
              refine Sim.op (castI_p _ _) ?_
              refine Sim.as (rtcp_body_l2_ok ?_ k r540 x0.Abouts ((x0.Abouts.length : Int)) 0 v549 v3 h4 H550 (S552.wk2 all_nil (all_cons ⟨[99], by simp, at_mem 0 rfl⟩ all_nil))) 
              · intro r554_2 v557 H555 S556
                refine Sim.ext (rtcp_body_a2_5 _ _ _ _ _) ?_
                obtain ⟨v564, H559, e560, h562, S561⟩ := S556.expFrz (i := 0) (τ := 0 :: 1 :: σ) rfl rfl
                exact Sim.fin (S561.finE (Ex.st e560 (Ex.pl (still_int _ _).lv (Ex.pl (still_int _ _).lv Ex.nil)))) ⟨v564, h562, rfl⟩
            · refine Sim.op (fA_ref _ _ _) ?_
              refine Sim.op ((S25.atG (i := 0) rfl).ld (j := 9) rfl) ?_
              refine Sim.op (fA_ref _ _ _) ?_
              refine Sim.op ((S25.atG (i := 0) rfl).ld (j := 7) rfl) ?_
              refine Sim.op (castI_p _ _) ?_
              refine Sim.op (fA_ref _ _ _) ?_
              refine Sim.op ((S25.atG (i := 0) rfl).ld (j := 8) rfl) ?_
              refine Sim.op (castI_p _ _) ?_
              refine Sim.call (clone_ok (b := 1) (f := 95) (tt := 5) (e := 1) (τ := fun σ => _ :: _ :: _ :: _ :: _ :: σ) (fun x h => slices_Clone_Lbyte_byte_entry _ _ _ x h) (h8.h H23) rfl (by decide) (by decide) (by decide) (by kernel_rfl) (by kernel_rfl) rfl) fun r565 cs566 H567 h568 q569 => ?_
              obtain ⟨c570, cs571, h572, h573, q569⟩ := q569
              cases q569
              obtain ⟨v574, H575, e576, S577⟩ := S25.land (dt := (dI .u8)) (d := 115) (e := 0) (n := 0) h572 h573 (by decide) rfl
              erw [e576]
              refine Sim.nd ((S577.atG (i := 0) rfl).ld (j := 8) rfl) ?_
              refine Sim.nd ((S577.atG (i := 0) rfl).ld (j := 7) rfl) ?_
              obtain ⟨v584, H579, e580, h582, S581⟩ := S577.expFrz (i := 0) (τ := 0 :: 1 :: σ) rfl rfl
              exact Sim.fin (S581.finE (Ex.st e580 (Ex.pl (still_int _ _).lv (Ex.pl (still_int _ _).lv Ex.nil)))) ⟨v584, h582, rfl⟩
    · refine Sim.cd (fun hc => ?_) (fun hc => ?_)
      · refine Sim.op (fA_ref _ _ _) ?_
        refine Sim.op ((S25.atG (i := 0) rfl).ld (j := 3) rfl) ?_
        refine Sim.op ((h2.h H23).len) ?_
        refine Sim.op (castI_p _ _) ?_
        refine Sim.as (rtcp_body_l0_ok ?_ k r13 x0.Tuples ((x0.Tuples.length : Int)) 0 ((⟨x0.Kind, x0.From, x0.About, x0.Tuples, x0.Abouts, x0.Numbers, x0.Rate, x0.f_Type, x0.Count, x0.Body⟩ : T_api_Report)) v22 v1 h2 v1 h2 v3 h4 v5 h6 v7 h8 (0 :: 0 :: 0 :: σ) H23 (S25.wk2 (all_cons (at_mem 0 rfl) all_nil) (all_cons ⟨[14], by simp, at_mem 0 rfl⟩ all_nil))) 
        · intro r585_2 yg60 v588 v590 h591 v592 h593 v594 h595 v596 h597 s598 H586 S587
          refine Sim.ext (rtcp_body_a0_1 _ _ _ _ _ _) ?_
          refine Sim.op (fA_ref _ _ _) ?_
          refine Sim.op ((S587.atG (i := 0) rfl).ld (j := 0) rfl) ?_
          refine Sim.op (castI_p _ _) ?_
          obtain ⟨v605, H600, e601, h603, S602⟩ := S587.expFrz (i := 0) (τ := 0 :: 1 :: σ) rfl rfl
          exact Sim.fin (S602.finE (Ex.st e601 (Ex.pl (still_int _ _).lv (Ex.pl (still_int _ _).lv Ex.nil)))) ⟨v605, h603, rfl⟩
      · refine Sim.cd (fun hc => ?_) (fun hc => ?_)
        · refine Sim.op (fA_ref _ _ _) ?_
          refine Sim.op ((S25.atG (i := 0) rfl).ld (j := 2) rfl) ?_
          refine Sim.op (castI_p _ _) ?_
          refine Sim.call (octet_Put_ok k r13 (S25.sl (i := 0) rfl) (IntKind.wrap .u64 x0.About) 4) fun r606 cs607 H608 h609 q610 => ?_
          obtain ⟨c611, cs612, h613, h614, q610⟩ := q610
          cases q610
          obtain ⟨v615, H616, e617, S618⟩ := S25.land (dt := (dI .u8)) (d := 61) (e := 0) (n := 0) h613 h614 (by decide) rfl
          erw [e617]
          obtain ⟨v625, H620, e621, h623, S622⟩ := S618.expFrz (i := 0) (τ := 0 :: 1 :: σ) rfl rfl
          exact Sim.fin (S622.finE (Ex.st e621 (Ex.pl (still_int _ _).lv (Ex.pl (still_int _ _).lv Ex.nil)))) ⟨v625, h623, rfl⟩
        · refine Sim.cd (fun hc => ?_) (fun hc => ?_)
          · refine Sim.op (fA_ref _ _ _) ?_
            refine Sim.op ((S25.atG (i := 0) rfl).ld (j := 4) rfl) ?_
            refine Sim.op ((h4.h H23).len) ?_
            refine Sim.op (castI_p _ _) ?_
            refine Sim.as (rtcp_body_l1_ok ?_ k r13 x0.Abouts ((x0.Abouts.length : Int)) 0 ((⟨x0.Kind, x0.From, x0.About, x0.Tuples, x0.Abouts, x0.Numbers, x0.Rate, x0.f_Type, x0.Count, x0.Body⟩ : T_api_Report)) v22 v3 h4 v1 h2 v3 h4 v5 h6 v7 h8 (0 :: 0 :: 0 :: σ) H23 (S25.wk2 (all_cons (at_mem 0 rfl) all_nil) (all_cons ⟨[14], by simp, at_mem 0 rfl⟩ all_nil))) 
            · intro r626_2 v629 H627 S628
              refine Sim.ext (rtcp_body_a1_3 _ _ _ _ _) ?_
              obtain ⟨v636, H631, e632, h634, S633⟩ := S628.expFrz (i := 0) (τ := 0 :: 1 :: σ) rfl rfl
              exact Sim.fin (S633.finE (Ex.st e632 (Ex.pl (still_int _ _).lv (Ex.pl (still_int _ _).lv Ex.nil)))) ⟨v636, h634, rfl⟩
          · refine Sim.cd (fun hc => ?_) (fun hc => ?_)
            · refine Sim.op (fA_ref _ _ _) ?_
              refine Sim.op ((S25.atG (i := 0) rfl).ld (j := 4) rfl) ?_
              refine Sim.op ((h4.h H23).len) ?_
              refine Sim.op (castI_p _ _) ?_
              refine Sim.bd fun a637 h638 => ?_
              obtain ⟨v639, H640, e641, S642⟩ := S25.app (i := 0) (d := 89) (e := 1) (own := true) (σ := (1 :: 0 :: 1 :: 1 :: 1 :: 1 :: 1 :: 0 :: 1 :: 1 :: 1 :: 0 :: σ)) rfl (ysS H23 ((⟨#[82, 69, 77, 66]⟩ : ByteArray))) h638 rfl (by decide) (by decide) rfl
              refine Sim.op (e641) ?_
              refine Sim.nd (rfl) ?_
              refine Sim.nd ((S642.atG (i := 0) rfl).ld (j := 4) rfl) ?_
              refine Sim.call (octet_Put_ok k a637 (S642.sl (i := 0) rfl) (IntKind.wrap .u64 ((x0.Abouts.length : Int))) 1) fun r643 cs644 H645 h646 q647 => ?_
              obtain ⟨c648, cs649, h650, h651, q647⟩ := q647
              cases q647
              obtain ⟨v652, H653, e654, S655⟩ := S642.land (dt := (dI .u8)) (d := 94) (e := 0) (n := 0) h650 h651 (by decide) rfl
              erw [e654]
              refine Sim.op (fA_ref _ _ _) ?_
              refine Sim.op ((S655.atG (i := 0) rfl).ld (j := 6) rfl) ?_
              refine Sim.op (castI_p _ _) ?_
              refine Sim.call (rtcp_packed_ok k x0.Rate 18 0 0) fun r657 cs658 H659 h660 q661 => ?_
              cases q661
              refine Sim.op (castI_p _ _) ?_
              refine Sim.call (octet_Put_ok k r643 (S655.sl (i := 0) rfl) r657 3) fun r662 cs663 H664 h665 q666 => ?_
              obtain ⟨c667, cs668, h669, h670, q666⟩ := q666
              cases q666
              obtain ⟨v671, H672, e673, S674⟩ := S655.land (dt := (dI .u8)) (d := 99) (e := 0) (n := 0) h669 h670 (by decide) rfl
              erw [e673]
              refine Sim.op (fA_ref _ _ _) ?_
              refine Sim.op ((S674.atG (i := 0) rfl).ld (j := 4) rfl) ?_
              refine Sim.op ((h4.h H672).len) ?_
              refine Sim.op (castI_p _ _) ?_
              refine Sim.as (rtcp_body_l2_ok ?_ k r662 x0.Abouts ((x0.Abouts.length : Int)) 0 v671 v3 h4 H672 (S674.wk2 all_nil (all_cons ⟨[99], by simp, at_mem 0 rfl⟩ all_nil))) 
              · intro r676_2 v679 H677 S678
                refine Sim.ext (rtcp_body_a2_5 _ _ _ _ _) ?_
                obtain ⟨v686, H681, e682, h684, S683⟩ := S678.expFrz (i := 0) (τ := 0 :: 1 :: σ) rfl rfl
                exact Sim.fin (S683.finE (Ex.st e682 (Ex.pl (still_int _ _).lv (Ex.pl (still_int _ _).lv Ex.nil)))) ⟨v686, h684, rfl⟩
            · refine Sim.op (fA_ref _ _ _) ?_
              refine Sim.op ((S25.atG (i := 0) rfl).ld (j := 9) rfl) ?_
              refine Sim.op (fA_ref _ _ _) ?_
              refine Sim.op ((S25.atG (i := 0) rfl).ld (j := 7) rfl) ?_
              refine Sim.op (castI_p _ _) ?_
              refine Sim.op (fA_ref _ _ _) ?_
              refine Sim.op ((S25.atG (i := 0) rfl).ld (j := 8) rfl) ?_
              refine Sim.op (castI_p _ _) ?_
              refine Sim.call (clone_ok (b := 1) (f := 95) (tt := 5) (e := 1) (τ := fun σ => _ :: _ :: _ :: _ :: _ :: σ) (fun x h => slices_Clone_Lbyte_byte_entry _ _ _ x h) (h8.h H23) rfl (by decide) (by decide) (by decide) (by kernel_rfl) (by kernel_rfl) rfl) fun r687 cs688 H689 h690 q691 => ?_
              obtain ⟨c692, cs693, h694, h695, q691⟩ := q691
              cases q691
              obtain ⟨v696, H697, e698, S699⟩ := S25.land (dt := (dI .u8)) (d := 115) (e := 0) (n := 0) h694 h695 (by decide) rfl
              erw [e698]
              refine Sim.nd ((S699.atG (i := 0) rfl).ld (j := 8) rfl) ?_
              refine Sim.nd ((S699.atG (i := 0) rfl).ld (j := 7) rfl) ?_
              obtain ⟨v706, H701, e702, h704, S703⟩ := S699.expFrz (i := 0) (τ := 0 :: 1 :: σ) rfl rfl
              exact Sim.fin (S703.finE (Ex.st e702 (Ex.pl (still_int _ _).lv (Ex.pl (still_int _ _).lv Ex.nil)))) ⟨v706, h704, rfl⟩
end Go.Ev
/- Lifted by lift.py: rtcp_Bytes as a plain function. -/
namespace Go.Ev
open Go.Proofs
set_option linter.unusedVariables false
set_option linter.unusedSimpArgs false
set_option maxRecDepth 100000
def p_rtcp_Bytes_l0 {β : Type} (k : Nat) (kE0 : (List T_api_Report) → Option β) (kE1 : Int → Option β) (x0 : (List T_api_Report)) (x16 : (List T_api_Report)) (x17 : Int) (x18 : Int) : Option β := match k with
| 0 => none
| k + 1 =>
bif decide (x18 < x17) then (
(ix x16 x18).bind fun a7 =>
(p_rtcp_Right k ((⟨a7.Kind, a7.From, a7.About, a7.Tuples, a7.Abouts, a7.Numbers, a7.Rate, a7.f_Type, a7.Count, a7.Body⟩ : T_api_Report))).bind fun r27 =>
bif r27 != 0 then (
kE1 r27)
else (
p_rtcp_Bytes_l0 k kE0 kE1 x0 x16 x17 (IntKind.wrap .i64 (x18 + 1))))
else (
kE0 x0)
def p_rtcp_Bytes_l1 {β : Type} (k : Nat) (kE0 : (List Int) → Option β) (kE1 : Int → Option β) (x4 : (List Int)) (x28 : (List T_api_Report)) (x29 : Int) (x30 : Int) : Option β := match k with
| 0 => none
| k + 1 =>
bif decide (x30 < x29) then (
(ix x28 x30).bind fun a51 =>
(p_rtcp_body k ((⟨a51.Kind, a51.From, a51.About, a51.Tuples, a51.Abouts, a51.Numbers, a51.Rate, a51.f_Type, a51.Count, a51.Body⟩ : T_api_Report))).bind fun r71 =>
(ap 1 x4 ([(IntKind.wrap .u8 (intBits .or .i64 128 r71.2.2)), (IntKind.wrap .u8 r71.2.1)])).bind fun a79 =>
(p_octet_Put k a79 (IntKind.wrap .u64 (IntKind.wrap .i64 (Int.tdiv ((r71.1.length : Int)) 4))) 2).bind fun r85 =>
(ap 1 r85 r71.1).bind fun a100 =>
bif decide (((a100.length : Int)) > 1500) then (
kE1 3)
else (
p_rtcp_Bytes_l1 k kE0 kE1 a100 x28 x29 (IntKind.wrap .i64 (x30 + 1))))
else (
kE0 x4)
def p_rtcp_Bytes (k : Nat) (x0 : (List T_api_Report)) : Option ((List Int) × Int) :=
bif ((x0.length : Int)) == 0 then (
some ((([] : List Int)), 1))
else (
p_rtcp_Bytes_l0 k (fun r38_0 =>
p_rtcp_Bytes_l1 k (fun r114_4 =>
some (r114_4, 0)) (fun r128_3 =>
some ((([] : List Int)), r128_3)) (([] : List Int)) r38_0 ((r38_0.length : Int)) 0) (fun r131_3 =>
some ((([] : List Int)), r131_3)) x0 x0 ((x0.length : Int)) 0)
theorem rtcp_Bytes_l0_ok {h : H}  {β α : Type} {Q : β → α → Prop} {K : Exit × Env × H → Option α} {kE0 : (List T_api_Report) → Option β} {kE1 : Int → Option β} (hE0 : ∀ (q0 : (List T_api_Report)) (v34 : V) (h35 : SlH h dT_api_Report q0 v34) (H32 : Go.Ev.H) (_ : Fm 62 h [] [] [] H32), Sim (kE0 q0) (K ((.exit 0), (envL [(0, v34), (4, (.p (.slice none 0 0)))]), H32)) Q) (hE1 : ∀ (q3 : Int) (H36 : Go.Ev.H) (_ : Fm 62 h [] [] [] H36), Sim (kE1 q3) (K (.ret, (envL [(2, (.p (.slice none 0 0))), (3, (.p (.int .i64 q3)))]), H36)) Q) (k : Nat) : ∀ (x0 : (List T_api_Report)) (x16 : (List T_api_Report)) (x17 : Int) (x18 : Int) (v3 : V) (h4 : SlH h dT_api_Report x0 v3) (v5 : V) (h6 : SlH h dT_api_Report x16 v5) (H1 : Go.Ev.H) (_ : Fm 62 h [] [] [] H1) {σ : Stamp}, Sim (p_rtcp_Bytes_l0 k kE0 kE1 x0 x16 x17 x18) ((cvL G X0 rtcp_Bytes_c0 rtcp_Bytes_l0 σ (envL [(0, v3), (4, (.p (.slice none 0 0))), (16, v5), (17, (.p (.int .i64 x17))), (18, (.p (.int .i64 x18)))]) H1).bind K) Q := by
  induction k with
  | zero => intros; exact Sim.no
  | succ k ih =>
    intro x0 x16 x17 x18 v3 h4 v5 h6 H1 S2 σ
    rw [p_rtcp_Bytes_l0]
    refine Sim.round (Sim.ext (rtcp_Bytes_r0 _ _ _ _ _ _ _ _ _) ?_)
    refine Sim.cd (fun hc => ?_) (fun hc => ?_)
    · refine Sim.bd fun a7 h8 => ?_
      refine Sim.op ((S2.low h6).iS h8 rfl) ?_
      obtain ⟨w10, h11, hE9⟩ := (S2.low h6).el h8 rfl
      obtain ⟨v12, v14, v16, v18, rfl, h13, h15, h17, h19⟩ := dT_api_Report.inv h11
      refine Sim.op (hE9.all (by simp)) ?_
      obtain ⟨H20, e21, S22⟩ := S2.al (d := 6) (s := (2 :: 0 :: 0 :: 1 :: 1 :: 0 :: σ)) (z := [(.p (.int .i64 0)), (.p (.int .u32 0)), (.p (.int .u32 0)), (.p (.slice none 0 0)), (.p (.slice none 0 0)), (.p (.slice none 0 0)), (.p (.int .u64 0)), (.p (.int .i64 0)), (.p (.int .i64 0)), (.p (.slice none 0 0))]) (by decide) rfl
      refine Sim.op (congrArg some e21) ?_
      obtain ⟨H24, e25, S26⟩ := S22.stGv (i := 0) (j := 0) (own := false) (σ := (3 :: 0 :: 0 :: 1 :: 1 :: 0 :: σ)) (xs := [.p (.int .i64 a7.Kind), .p (.int .u32 a7.From), .p (.int .u32 a7.About), v12, v14, v16, .p (.int .u64 a7.Rate), .p (.int .i64 a7.f_Type), .p (.int .i64 a7.Count), v18]) rfl rfl (stills_cons (still_int _ _) (stills_cons (still_int _ _) (stills_cons (still_int _ _) (stills_cons h13.still (stills_cons h15.still (stills_cons h17.still (stills_cons (still_int _ _) (stills_cons (still_int _ _) (stills_cons (still_int _ _) (stills_cons h19.still stills_nil)))))))))) rfl rfl
      refine Sim.op (st_map e25) ?_
      refine Sim.op ((S26.atG (i := 0) rfl).ldVs (j := 0) (xs := [.p (.int .i64 a7.Kind), .p (.int .u32 a7.From), .p (.int .u32 a7.About), v12, v14, v16, .p (.int .u64 a7.Rate), .p (.int .i64 a7.f_Type), .p (.int .i64 a7.Count), v18]) rfl rfl (by decide)) ?_
      refine Sim.call (rtcp_Right_ok k ((⟨a7.Kind, a7.From, a7.About, a7.Tuples, a7.Abouts, a7.Numbers, a7.Rate, a7.f_Type, a7.Count, a7.Body⟩ : T_api_Report)) (show dT_api_Report.R ((⟨a7.Kind, a7.From, a7.About, a7.Tuples, a7.Abouts, a7.Numbers, a7.Rate, a7.f_Type, a7.Count, a7.Body⟩ : T_api_Report)) [.p (.int .i64 a7.Kind), .p (.int .u32 a7.From), .p (.int .u32 a7.About), v12, v14, v16, .p (.int .u64 a7.Rate), .p (.int .i64 a7.f_Type), .p (.int .i64 a7.Count), v18] from (dT_api_Report.mk h13 h15 h17 h19))) fun r27 cs28 H29 h30 q31 => ?_
      cases q31
      refine Sim.op (castI_p _ _) ?_
      refine Sim.cd (fun hc => ?_) (fun hc => ?_)
      · exact hE1 r27 H24 (S26.wk2 all_nil all_nil)
      · exact ih x0 x16 x17 (IntKind.wrap .i64 (x18 + 1)) v3 h4 v5 h6 H24 (S26.wk2 all_nil all_nil)
    · exact hE0 x0 v3 h4 H1 (S2.wk2 all_nil all_nil)
theorem rtcp_Bytes_l1_ok {h : H}  {β α : Type} {Q : β → α → Prop} {K : Exit × Env × H → Option α} {kE0 : (List Int) → Option β} {kE1 : Int → Option β} (hE0 : ∀ (q4 : (List Int)) (v108 : V) (H106 : Go.Ev.H) (_ : Fm 62 h [] [] [⟨[53, 55], v108, (dI .u8), q4⟩] H106), Sim (kE0 q4) (K ((.exit 2), (envL [(4, v108)]), H106)) Q) (hE1 : ∀ (q3 : Int) (H110 : Go.Ev.H) (_ : Fm 62 h [] [] [] H110), Sim (kE1 q3) (K (.ret, (envL [(2, (.p (.slice none 0 0))), (3, (.p (.int .i64 q3)))]), H110)) Q) (k : Nat) : ∀ (x4 : (List Int)) (x28 : (List T_api_Report)) (x29 : Int) (x30 : Int) (v47 : V) (v49 : V) (h50 : SlH h dT_api_Report x28 v49) (H45 : Go.Ev.H) (_ : Fm 62 h [] [] [⟨[53, 55], v47, (dI .u8), x4⟩] H45) {σ : Stamp}, Sim (p_rtcp_Bytes_l1 k kE0 kE1 x4 x28 x29 x30) ((cvL G X0 rtcp_Bytes_c1 rtcp_Bytes_l1 σ (envL [(4, v47), (28, v49), (29, (.p (.int .i64 x29))), (30, (.p (.int .i64 x30)))]) H45).bind K) Q := by
  induction k with
  | zero => intros; exact Sim.no
  | succ k ih =>
    intro x4 x28 x29 x30 v47 v49 h50 H45 S46 σ
    rw [p_rtcp_Bytes_l1]
    refine Sim.round (Sim.ext (rtcp_Bytes_r1 _ _ _ _ _ _ _ _) ?_)
    refine Sim.cd (fun hc => ?_) (fun hc => ?_)
    · refine Sim.bd fun a51 h52 => ?_
      refine Sim.op ((S46.low h50).iS h52 rfl) ?_
      obtain ⟨w54, h55, hE53⟩ := (S46.low h50).el h52 rfl
      obtain ⟨v56, v58, v60, v62, rfl, h57, h59, h61, h63⟩ := dT_api_Report.inv h55
      refine Sim.op (hE53.all (by simp)) ?_
      obtain ⟨H64, e65, S66⟩ := S46.al (d := 9) (s := (2 :: 0 :: 0 :: 1 :: 1 :: 0 :: σ)) (z := [(.p (.int .i64 0)), (.p (.int .u32 0)), (.p (.int .u32 0)), (.p (.slice none 0 0)), (.p (.slice none 0 0)), (.p (.slice none 0 0)), (.p (.int .u64 0)), (.p (.int .i64 0)), (.p (.int .i64 0)), (.p (.slice none 0 0))]) (by decide) rfl
      refine Sim.op (congrArg some e65) ?_
      obtain ⟨H68, e69, S70⟩ := S66.stGv (i := 0) (j := 0) (own := false) (σ := (3 :: 0 :: 0 :: 1 :: 1 :: 0 :: σ)) (xs := [.p (.int .i64 a51.Kind), .p (.int .u32 a51.From), .p (.int .u32 a51.About), v56, v58, v60, .p (.int .u64 a51.Rate), .p (.int .i64 a51.f_Type), .p (.int .i64 a51.Count), v62]) rfl rfl (stills_cons (still_int _ _) (stills_cons (still_int _ _) (stills_cons (still_int _ _) (stills_cons h57.still (stills_cons h59.still (stills_cons h61.still (stills_cons (still_int _ _) (stills_cons (still_int _ _) (stills_cons (still_int _ _) (stills_cons h63.still stills_nil)))))))))) rfl rfl
      refine Sim.op (st_map e69) ?_
      refine Sim.op ((S70.atG (i := 0) rfl).ldVs (j := 0) (xs := [.p (.int .i64 a51.Kind), .p (.int .u32 a51.From), .p (.int .u32 a51.About), v56, v58, v60, .p (.int .u64 a51.Rate), .p (.int .i64 a51.f_Type), .p (.int .i64 a51.Count), v62]) rfl rfl (by decide)) ?_
      refine Sim.call (rtcp_body_ok k ((⟨a51.Kind, a51.From, a51.About, a51.Tuples, a51.Abouts, a51.Numbers, a51.Rate, a51.f_Type, a51.Count, a51.Body⟩ : T_api_Report)) (show dT_api_Report.R ((⟨a51.Kind, a51.From, a51.About, a51.Tuples, a51.Abouts, a51.Numbers, a51.Rate, a51.f_Type, a51.Count, a51.Body⟩ : T_api_Report)) [.p (.int .i64 a51.Kind), .p (.int .u32 a51.From), .p (.int .u32 a51.About), v56, v58, v60, .p (.int .u64 a51.Rate), .p (.int .i64 a51.f_Type), .p (.int .i64 a51.Count), v62] from (dT_api_Report.mk h57 h59 h61 h63))) fun r71 cs72 H73 h74 q75 => ?_
      obtain ⟨v76, h77, q75⟩ := q75
      cases q75
      refine Sim.op (rfl) ?_
      refine Sim.op (rfl) ?_
      refine Sim.op (castI_p _ _) ?_
      refine Sim.op (rfl) ?_
      refine Sim.op (castI_p _ _) ?_
      have h78 : SlF (dI .u8) [(IntKind.wrap .u8 (intBits .or .i64 128 r71.2.2)), (IntKind.wrap .u8 r71.2.1)] (.fz [(.p (.int .u8 (IntKind.wrap .u8 (intBits .or .i64 128 r71.2.2)))), (.p (.int .u8 (IntKind.wrap .u8 r71.2.1)))] 2 1 true) := SlF.lit (cs := [(.p (.int .u8 (IntKind.wrap .u8 (intBits .or .i64 128 r71.2.2)))), (.p (.int .u8 (IntKind.wrap .u8 r71.2.1)))]) (RL.cons (show (dI .u8).R (IntKind.wrap .u8 (intBits .or .i64 128 r71.2.2)) [(.p (.int .u8 (IntKind.wrap .u8 (intBits .or .i64 128 r71.2.2))))] from rfl) (RL.cons (show (dI .u8).R (IntKind.wrap .u8 r71.2.1) [(.p (.int .u8 (IntKind.wrap .u8 r71.2.1)))] from rfl) RL.nil)) rfl rfl true
      refine Sim.op (bldS (pt_cons rfl (pt_cons rfl pt_nil)) (by kernel_rfl : _ = some (.fz [(.p (.int .u8 (IntKind.wrap .u8 (intBits .or .i64 128 r71.2.2)))), (.p (.int .u8 (IntKind.wrap .u8 r71.2.1)))] 2 1 true))) ?_
      refine Sim.bd fun a79 h80 => ?_
      obtain ⟨v81, H82, e83, S84⟩ := S70.app (i := 0) (d := 47) (e := 1) (own := true) (σ := (7 :: 0 :: 1 :: 1 :: 0 :: 1 :: 1 :: 0 :: σ)) rfl (h78.h H68).y h80 rfl (by decide) (by decide) rfl
      refine Sim.op (e83) ?_
      refine Sim.op ((h77.h H82).len) ?_
      refine Sim.op (castI_p _ _) ?_
      refine Sim.call (octet_Put_ok k a79 (S84.sl (i := 0) rfl) (IntKind.wrap .u64 (IntKind.wrap .i64 (Int.tdiv ((r71.1.length : Int)) 4))) 2) fun r85 cs86 H87 h88 q89 => ?_
      obtain ⟨c90, cs91, h92, h93, q89⟩ := q89
      cases q89
      have S94 := Fm.wk S84 (all_cons (at_mem 0 rfl) all_nil) all_nil
      obtain ⟨v95, H96, e97, S98⟩ := S94.land (dt := (dI .u8)) (d := 53) (e := 0) (n := 0) h92 h93 (by decide) rfl
      erw [e97]
      refine Sim.bd fun a100 h101 => ?_
      obtain ⟨v102, H103, e104, S105⟩ := S98.app (i := 0) (d := 55) (e := 1) (own := true) (σ := (7 :: 0 :: 1 :: 1 :: 1 :: 0 :: 1 :: 1 :: 0 :: σ)) rfl (h77.h H96).y h101 rfl (by decide) (by decide) rfl
      refine Sim.op (e104) ?_
      refine Sim.op ((S105.sl (i := 0) rfl).len) ?_
      refine Sim.op (castI_p _ _) ?_
      refine Sim.cd (fun hc => ?_) (fun hc => ?_)
      · exact hE1 3 H103 (S105.wk2 all_nil all_nil)
      · exact ih a100 x28 x29 (IntKind.wrap .i64 (x30 + 1)) v102 v49 h50 H103 (S105.wk2 all_nil (all_cons ⟨[55, 53], by simp, at_mem 0 rfl⟩ all_nil))
    · exact hE0 x4 v47 H45 (S46.wk2 all_nil (all_cons ⟨[53, 55], by simp, at_mem 0 rfl⟩ all_nil))
theorem rtcp_Bytes_ok (k : Nat) {h : H} {σ : Stamp} (x0 : List T_api_Report) {u0 : V} (hu0 : SlH h dT_api_Report x0 u0) : Sim (p_rtcp_Bytes k x0) (ev G X0 24 σ [u0] h) (fun r s => ∃ (v0 : V), SlF (dI .u8) r.1 v0 ∧ s = ([.v v0, .v (.p (.int .i64 r.2))], h)) := by
  refine Sim.ev rfl (Sim.ext (rtcp_Bytes_entry _ _ _ _ _) ?_)
  rw [p_rtcp_Bytes]
  have S0 : Fm 62 h [] [] [] (List.replicate 62 [] :: h) := Fm.start0
  refine Sim.op ((S0.low hu0).len) ?_
  refine Sim.op (castI_p _ _) ?_
  refine Sim.cd (fun hc => ?_) (fun hc => ?_)
  · exact Sim.fin (S0.finN (lv_cons (SlF.nil (dI .u8)).still.lv (lv_cons (still_int _ _).lv lv_nil))) ⟨(.p (.slice none 0 0)), (SlF.nil (dI .u8)), rfl⟩
  · refine Sim.op ((S0.low hu0).len) ?_
    refine Sim.op (castI_p _ _) ?_
    refine Sim.as (rtcp_Bytes_l0_ok ?_ ?_ k x0 x0 ((x0.length : Int)) 0 u0 hu0 u0 hu0 (List.replicate 62 [] :: h) (S0.wk2 all_nil all_nil)) 
    · intro r38_0 v41 h42 H39 S40
      refine Sim.ext (rtcp_Bytes_a0_0 _ _ _ _ _ _) ?_
      refine Sim.op ((S40.low h42).len) ?_
      refine Sim.op (castI_p _ _) ?_
      have S113 := S40.nil (dI .u8) []
      refine Sim.as (rtcp_Bytes_l1_ok ?_ ?_ k (([] : List Int)) r38_0 ((r38_0.length : Int)) 0 (.p (.slice none 0 0)) v41 h42 H39 (S113.wk2 all_nil (all_cons ⟨[], by simp, at_mem 0 rfl⟩ all_nil))) 
      · intro r114_4 v117 H115 S116
        refine Sim.ext (rtcp_Bytes_a1_2 _ _ _ _ _) ?_
        obtain ⟨v119, e120, S121⟩ := clip_D (G := G) (X := X0) (i := 0) (f := 58) (fun x h => slices_Clip_Lbyte_byte_entry _ _ _ x h) S116 rfl rfl rfl
        refine Sim.op (e120) ?_
        obtain ⟨v127, H122, e123, h125, S124⟩ := S121.expFrz (i := 0) (τ := 0 :: 1 :: σ) rfl rfl
        exact Sim.fin (S124.finE (Ex.st e123 (Ex.pl (still_int _ _).lv Ex.nil))) ⟨v127, h125, rfl⟩
      · intro r128_3 H129 S130
        refine Sim.ext (rtcp_Bytes_a1_ret _ _ _ _ _ _) ?_
        exact Sim.fin (S130.finN (lv_cons (SlF.nil (dI .u8)).still.lv (lv_cons (still_int _ _).lv lv_nil))) ⟨(.p (.slice none 0 0)), (SlF.nil (dI .u8)), rfl⟩
    · intro r131_3 H132 S133
      refine Sim.ext (rtcp_Bytes_a0_ret _ _ _ _ _ _) ?_
      exact Sim.fin (S133.finN (lv_cons (SlF.nil (dI .u8)).still.lv (lv_cons (still_int _ _).lv lv_nil))) ⟨(.p (.slice none 0 0)), (SlF.nil (dI .u8)), rfl⟩
end Go.Ev
namespace Go.Ev
set_option maxRecDepth 100000
set_option linter.unusedSimpArgs false
/-! ### Reports, told by small numbers -/
structure ST where
  o : Nat
  e : Nat
  m : Nat
  v : Nat
structure ST.ok (s : ST) : Prop where
  ho : s.o < 2 ^ 32
  hr : FR 17 s.e s.m
  hv : s.v < 512
def ST.t (s : ST) : T_api_Tuple := ⟨(s.o : Int), ((s.m * 2 ^ s.e : Nat) : Int), (s.v : Int)⟩
def ST.w (s : ST) : Nat := (s.e * 2 ^ 17 + s.m) * 2 ^ 9 + s.v
def encT (s : ST) : List Int := putB (s.o : Int) 4 ++ putB (s.w : Int) 4
def encA (p : Nat × Nat) : List Int := putB (p.1 : Int) 4 ++ (putB (p.2 : Int) 1 ++ putB 0 3)
inductive SR
  | tmm (K f : Nat) (l : List ST)
  | pli (f a : Nat)
  | fir (f : Nat) (l : List (Nat × Nat))
  | remb (f e m : Nat) (l : List Nat)
  | other (t c : Nat) (b : List Int)
def rep : SR → T_api_Report
  | .tmm K f l => ⟨(K : Int), (f : Int), 0, l.map ST.t, [], [], 0, 0, 0, []⟩
  | .pli f a => ⟨3, (f : Int), (a : Int), [], [], [], 0, 0, 0, []⟩
  | .fir f l => ⟨4, (f : Int), 0, [], l.map (fun p => (p.1 : Int)), l.map (fun p => (p.2 : Int)), 0, 0, 0, []⟩
  | .remb f e m l => ⟨5, (f : Int), 0, [], l.map (fun n : Nat => (n : Int)), [], ((m * 2 ^ e : Nat) : Int), 0, 0, []⟩
  | .other t c b => ⟨6, 0, 0, [], [], [], 0, (t : Int), (c : Int), b⟩
def typ : SR → Nat
  | .tmm .. => 205
  | .other t _ _ => t
  | _ => 206
def cnt : SR → Nat
  | .tmm K _ _ => K + 2
  | .pli .. => 1
  | .fir .. => 4
  | .remb .. => 15
  | .other _ c _ => c
def mark : List Int := [82, 69, 77, 66]
def bodyS : SR → List Int
  | .tmm _ f l => putB (f : Int) 4 ++ (putB 0 4 ++ l.flatMap encT)
  | .pli f a => putB (f : Int) 4 ++ putB (a : Int) 4
  | .fir f l => putB (f : Int) 4 ++ (putB 0 4 ++ l.flatMap encA)
  | .remb f e m l => putB (f : Int) 4 ++ (putB 0 4 ++ (mark ++ (putB (l.length : Int) 1 ++ (putB ((e * 2 ^ 18 + m : Nat) : Int) 3 ++ l.flatMap fun n : Nat => putB (n : Int) 4))))
  | .other _ _ b => b
def okS : SR → Prop
  | .tmm K f l => (K = 1 ∨ K = 2) ∧ f < 2 ^ 32 ∧ l.length ≤ 6 ∧ ∀ s ∈ l, s.ok
  | .pli f a => f < 2 ^ 32 ∧ a < 2 ^ 32
  | .fir f l => f < 2 ^ 32 ∧ (1 ≤ l.length ∧ l.length ≤ 16) ∧ ∀ p ∈ l, p.1 < 2 ^ 32 ∧ p.2 < 256
  | .remb f e m l => f < 2 ^ 32 ∧ FR 18 e m ∧ l.length ≤ 16 ∧ ∀ n ∈ l, n < 2 ^ 32
  | .other t c b => (192 ≤ t ∧ t ≤ 223) ∧ c ≤ 31 ∧ b.length % 4 = 0 ∧ b.length ≤ 100 ∧ isB b ∧ p_rtcp_kind (t : Int) (c : Int) = some 6
/-- In their shortest form. -/
def okW : SR → Prop
  | .tmm _ _ l => ∀ s ∈ l, NR 17 s.e s.m
  | .remb _ e m _ => NR 18 e m
  | _ => True
def bytS (s : SR) : List Int := [((128 + cnt s : Nat) : Int), (typ s : Int)] ++ (putB (((bodyS s).length / 4 : Nat) : Int) 2 ++ bodyS s)
theorem encT_len (s : ST) : (encT s).length = 8 := by rw [encT, List.length_append, putB_len, putB_len]
theorem encA_len (s : Nat × Nat) : (encA s).length = 8 := by rw [encA, List.length_append, List.length_append, putB_len, putB_len, putB_len]
theorem flat_len {α : Type} {f : α → List Int} {n : Nat} (h : ∀ a, (f a).length = n) : ∀ l : List α, (l.flatMap f).length = n * l.length
  | [] => by simp
  | a :: l => by rw [List.flatMap_cons, List.length_append, h, flat_len h l, List.length_cons, Nat.mul_succ]; omega
theorem flat_isB {α : Type} {f : α → List Int} (h : ∀ a, isB (f a)) (l : List α) : isB (l.flatMap f) := fun x hx => by
  obtain ⟨a, _, h2⟩ := List.mem_flatMap.1 hx
  exact h a x h2
theorem isB_app {a b : List Int} (ha : isB a) (hb : isB b) : isB (a ++ b) := fun x hx => (List.mem_append.1 hx).elim (ha x) (hb x)
theorem encT_isB (s : ST) : isB (encT s) := isB_app (putB_isB _ _) (putB_isB _ _)
theorem encA_isB (s : Nat × Nat) : isB (encA s) := isB_app (putB_isB _ _) (isB_app (putB_isB _ _) (putB_isB _ _))
theorem mark_isB : isB mark := fun x hx => by simp [mark] at hx; omega
theorem body_isB {s : SR} (h : okS s) : isB (bodyS s) := by
  cases s with
  | tmm K f l => exact isB_app (putB_isB _ _) (isB_app (putB_isB _ _) (flat_isB encT_isB l))
  | pli f a => exact isB_app (putB_isB _ _) (putB_isB _ _)
  | fir f l => exact isB_app (putB_isB _ _) (isB_app (putB_isB _ _) (flat_isB encA_isB l))
  | remb f e m l => exact isB_app (putB_isB _ _) (isB_app (putB_isB _ _) (isB_app mark_isB (isB_app (putB_isB _ _) (isB_app (putB_isB _ _) (flat_isB (fun _ => putB_isB _ _) l)))))
  | other t c b => exact h.2.2.2.2.1
theorem bodyLen {s : SR} (h : okS s) : (bodyS s).length % 4 = 0 ∧ (bodyS s).length ≤ 200 := by
  cases s with
  | tmm K f l => rw [bodyS, List.length_append, List.length_append, putB_len, putB_len, flat_len encT_len]; have := h.2.2.1; omega
  | pli f a => rw [bodyS, List.length_append, putB_len, putB_len]; omega
  | fir f l => rw [bodyS, List.length_append, List.length_append, putB_len, putB_len, flat_len encA_len]; have := h.2.1; omega
  | remb f e m l => rw [bodyS, List.length_append, List.length_append, List.length_append, List.length_append, List.length_append, putB_len, putB_len, putB_len, putB_len, flat_len (fun _ => putB_len _ _)]; have := h.2.2.1; simp only [mark, List.length_cons, List.length_nil]; omega
  | other t c b => have := h.2.2.1; have := h.2.2.2.1; rw [bodyS]; omega
theorem bytS_len (s : SR) : (bytS s).length = 4 + (bodyS s).length := by
  rw [bytS, List.length_append, List.length_append, putB_len]; simp only [List.length_cons, List.length_nil]; omega
theorem cnt_le {s : SR} (h : okS s) : cnt s ≤ 31 := by
  cases s with
  | tmm K f l => rcases h.1 with h | h <;> simp only [cnt] <;> omega
  | other t c b => exact h.2.1
  | _ => simp only [cnt]; omega
theorem typ_le {s : SR} (h : okS s) : 192 ≤ typ s ∧ typ s ≤ 223 := by
  cases s with
  | other t c b => exact h.1
  | _ => simp only [typ]; omega
/-! ### What is right -/
theorem idxT_l0 {β : Type} (kE0 : Unit → Option β) (kE1 : Int → Option β) (L : List ST) (hL : ∀ s ∈ L, s.ok ∧ NR 17 s.e s.m) (hn : L.length ≤ 6) : ∀ (rest pre : List ST) (j : Nat), L = pre ++ rest → 70 ≤ j →
    p_slices_IndexFunc_Lapi_Tuple_api_Tuple_rtcp_values_1_l0 (j + rest.length + 1) kE0 kE1 (L.map ST.t) (L.length : Int) (pre.length : Int) = kE0 ()
  | [], pre, j, h, _ => by
    rw [p_slices_IndexFunc_Lapi_Tuple_api_Tuple_rtcp_values_1_l0]
    have h1 : decide ((pre.length : Int) < (L.length : Int)) = false := by subst h; simp
    rw [h1, cond_false]
  | a :: rest, pre, j, h, hj => by
    have hplen : pre.length + 1 ≤ L.length := by rw [h, List.length_append, List.length_cons]; omega
    rw [List.length_cons, show j + (rest.length + 1) + 1 = (j + rest.length + 1) + 1 from rfl, p_slices_IndexFunc_Lapi_Tuple_api_Tuple_rtcp_values_1_l0]
    have h1 : decide ((pre.length : Int) < (L.length : Int)) = true := decide_eq_true (by omega)
    have h2 : ix (L.map ST.t) (pre.length : Int) = some a.t := ix_mid' (xs := pre.map ST.t) (ys := rest.map ST.t) (by rw [h, List.map_append, List.map_cons]) (by rw [List.length_map])
    have h4 : IntKind.wrap .i64 ((pre.length : Int) + 1) = (((pre ++ [a]).length : Nat) : Int) := by rw [wrap_i64 (by omega) (by omega)]; simp
    obtain ⟨ha, hN⟩ := hL a (by rw [h]; simp)
    have hv : p_rtcp_values_1 (j + rest.length + 1) a.t = some false := by
      unfold p_rtcp_values_1
      have d1 : decide (a.t.Over < 0) = false := decide_eq_false (by simp only [ST.t]; omega)
      have d2 : decide (a.t.Over > 511) = false := decide_eq_false (by have := ha.hv; simp only [ST.t]; omega)
      have dn : p_rate_Down (j + rest.length + 1) a.t.Rate 17 = some a.t.Rate := downN (b := 17) (by omega) (by decide) (by decide) ⟨_, _, hN, rfl⟩
      simp only [d1, d2, cond_false, Option.bind_some, dn, bne_self_eq_false]
    rw [h1, cond_true, h2, Option.bind_some, hv, Option.bind_some, cond_false, h4]
    exact idxT_l0 kE0 kE1 L hL hn rest (pre ++ [a]) j (by rw [h]; simp) hj
theorem containsT {k : Nat} (hk : 90 ≤ k) {L : List ST} (hL : ∀ s ∈ L, s.ok ∧ NR 17 s.e s.m) (hn : L.length ≤ 6) : p_slices_ContainsFunc_Lapi_Tuple_api_Tuple_rtcp_values_1 k (L.map ST.t) = some false := by
  unfold p_slices_ContainsFunc_Lapi_Tuple_api_Tuple_rtcp_values_1 p_slices_IndexFunc_Lapi_Tuple_api_Tuple_rtcp_values_1
  have := idxT_l0 (fun (_ : Unit) => some (-1 : Int)) (fun r => some r) L hL hn L [] (k - L.length - 1) rfl (by omega)
  rw [show k - L.length - 1 + L.length + 1 = k by omega] at this
  rw [List.length_map]
  refine (congrArg (fun o => Option.bind o _) this).trans rfl
theorem idxI_l0 {β : Type} (kE0 : Unit → Option β) (kE1 : Int → Option β) (L : List Int) (hL : ∀ n ∈ L, 0 ≤ n ∧ n < 256) (hn : L.length ≤ 16) : ∀ (rest pre : List Int) (j : Nat), L = pre ++ rest →
    p_slices_IndexFunc_Lint_int_rtcp_values_2_l0 (j + rest.length + 1) kE0 kE1 L (L.length : Int) (pre.length : Int) = kE0 ()
  | [], pre, j, h => by
    rw [p_slices_IndexFunc_Lint_int_rtcp_values_2_l0]
    have h1 : decide ((pre.length : Int) < (L.length : Int)) = false := by subst h; simp
    rw [h1, cond_false]
  | a :: rest, pre, j, h => by
    have hplen : pre.length + 1 ≤ L.length := by rw [h, List.length_append, List.length_cons]; omega
    rw [List.length_cons, show j + (rest.length + 1) + 1 = (j + rest.length + 1) + 1 from rfl, p_slices_IndexFunc_Lint_int_rtcp_values_2_l0]
    have h1 : decide ((pre.length : Int) < (L.length : Int)) = true := decide_eq_true (by omega)
    have h2 : ix L (pre.length : Int) = some a := ix_mid' h rfl
    have h4 : IntKind.wrap .i64 ((pre.length : Int) + 1) = (((pre ++ [a]).length : Nat) : Int) := by rw [wrap_i64 (by omega) (by omega)]; simp
    have ha := hL a (by rw [h]; simp)
    have hv : p_rtcp_values_2 a = some false := by
      unfold p_rtcp_values_2
      have d1 : decide (a < 0) = false := decide_eq_false (by omega)
      have d2 : decide (a > 255) = false := decide_eq_false (by omega)
      rw [d1, d2]; rfl
    rw [h1, cond_true, h2, Option.bind_some, hv, Option.bind_some, cond_false, h4]
    exact idxI_l0 kE0 kE1 L hL hn rest (pre ++ [a]) j (by rw [h]; simp)
theorem containsI {k : Nat} (hk : 90 ≤ k) {L : List Int} (hL : ∀ n ∈ L, 0 ≤ n ∧ n < 256) (hn : L.length ≤ 16) : p_slices_ContainsFunc_Lint_int_rtcp_values_2 k L = some false := by
  unfold p_slices_ContainsFunc_Lint_int_rtcp_values_2 p_slices_IndexFunc_Lint_int_rtcp_values_2
  have := idxI_l0 (fun (_ : Unit) => some (-1 : Int)) (fun r => some r) L hL hn L [] (k - L.length - 1) rfl
  rw [show k - L.length - 1 + L.length + 1 = k by omega] at this
  refine (congrArg (fun o => Option.bind o _) this).trans rfl
theorem values_ok {k : Nat} (hk : 90 ≤ k) {s : SR} (h : okS s) (hw : okW s) : p_rtcp_values k (rep s) = some true := by
  cases s with
  | tmm K f l =>
    have d : decide (((l.map ST.t).length : Int) ≤ 6) = true := decide_eq_true (by rw [List.length_map]; have := h.2.2.1; omega)
    have c := containsT hk (L := l) (fun s hs => ⟨h.2.2.2 s hs, hw s hs⟩) h.2.2.1
    rcases h.1 with rfl | rfl
    · show p_rtcp_values k (⟨1, (f : Int), 0, l.map ST.t, [], [], 0, 0, 0, []⟩ : T_api_Report) = some true
      unfold p_rtcp_values
      simp only [show ((1 : Int) == 1) = true from rfl, cond_true, d, c, Option.bind_some, Bool.not_false]
    · show p_rtcp_values k (⟨2, (f : Int), 0, l.map ST.t, [], [], 0, 0, 0, []⟩ : T_api_Report) = some true
      unfold p_rtcp_values
      simp only [show ((2 : Int) == 1) = false from rfl, show ((2 : Int) == 2) = true from rfl, cond_true, cond_false, d, c, Option.bind_some, Bool.not_false]
  | pli f a => rfl
  | fir f l =>
    have c := containsI hk (L := l.map (fun p => (p.2 : Int))) (fun n hn => by
      obtain ⟨p, hp, rfl⟩ := List.mem_map.1 hn
      have := (h.2.2 p hp).2
      omega) (by rw [List.length_map]; exact h.2.1.2)
    have d1 : decide (((l.map (fun p => (p.1 : Int))).length : Int) ≥ 1) = true := decide_eq_true (by rw [List.length_map]; have := h.2.1.1; omega)
    have d2 : decide (((l.map (fun p => (p.1 : Int))).length : Int) ≤ 16) = true := decide_eq_true (by rw [List.length_map]; have := h.2.1.2; omega)
    have d3 : (((l.map (fun p => (p.2 : Int))).length : Int) == ((l.map (fun p => (p.1 : Int))).length : Int)) = true := by simp
    show p_rtcp_values k (⟨4, (f : Int), 0, [], l.map (fun p => (p.1 : Int)), l.map (fun p => (p.2 : Int)), 0, 0, 0, []⟩ : T_api_Report) = some true
    unfold p_rtcp_values
    simp only [show ((4 : Int) == 1) = false from rfl, show ((4 : Int) == 2) = false from rfl, show ((4 : Int) == 4) = true from rfl, cond_false, cond_true, d1, d2, d3, c, Option.bind_some, Bool.not_false]
  | remb f e m l =>
    have d : decide (((l.map (fun n : Nat => (n : Int))).length : Int) ≤ 16) = true := decide_eq_true (by rw [List.length_map]; have := h.2.2.1; omega)
    have c : p_rate_Down k ((m * 2 ^ e : Nat) : Int) 18 = some ((m * 2 ^ e : Nat) : Int) := downN (b := 18) (by omega) (by decide) (by decide) ⟨_, _, hw, rfl⟩
    show p_rtcp_values k (⟨5, (f : Int), 0, [], l.map (fun n : Nat => (n : Int)), [], ((m * 2 ^ e : Nat) : Int), 0, 0, []⟩ : T_api_Report) = some true
    unfold p_rtcp_values
    simp only [show ((5 : Int) == 1) = false from rfl, show ((5 : Int) == 2) = false from rfl, show ((5 : Int) == 4) = false from rfl, show ((5 : Int) == 5) = true from rfl, cond_false, cond_true, d, c, Option.bind_some, beq_self_eq_true]
  | other t c b =>
    obtain ⟨⟨h1, h2⟩, h3, h4, h5, h6, h7⟩ := h
    have d1 : decide ((t : Int) ≥ 192) = true := decide_eq_true (by omega)
    have d2 : decide ((t : Int) ≤ 223) = true := decide_eq_true (by omega)
    have d3 : decide ((c : Int) ≥ 0) = true := decide_eq_true (by omega)
    have d4 : decide ((c : Int) ≤ 31) = true := decide_eq_true (by omega)
    have d5 : (Int.tmod (b.length : Int) 4 == 0) = true := by rw [show Int.tmod (b.length : Int) 4 = ((b.length % 4 : Nat) : Int) from rfl, h4]; rfl
    have d6 : decide ((b.length : Int) ≤ 262140) = true := decide_eq_true (by omega)
    show p_rtcp_values k (⟨6, 0, 0, [], [], [], 0, (t : Int), (c : Int), b⟩ : T_api_Report) = some true
    unfold p_rtcp_values
    simp only [show ((6 : Int) == 1) = false from rfl, show ((6 : Int) == 2) = false from rfl, show ((6 : Int) == 4) = false from rfl, show ((6 : Int) == 5) = false from rfl, show ((6 : Int) == 6) = true from rfl, cond_false, cond_true, d1, d2, d3, d4, d5, d6, h7, Option.bind_some]
theorem fields_okR {s : SR} (h : okS s) : p_rtcp_fields (rep s) = some true := by
  unfold p_rtcp_fields
  cases s with
  | tmm K f l => rcases h.1 with rfl | rfl <;> rfl
  | other t c b => rfl
  | _ => rfl
theorem right_okR {k : Nat} (hk : 90 ≤ k) {s : SR} (h : okS s) (hw : okW s) : p_rtcp_Right k (rep s) = some 0 := by
  unfold p_rtcp_Right
  have v : p_rtcp_values k (⟨(rep s).Kind, (rep s).From, (rep s).About, (rep s).Tuples, (rep s).Abouts, (rep s).Numbers, (rep s).Rate, (rep s).f_Type, (rep s).Count, (rep s).Body⟩ : T_api_Report) = some true := values_ok hk h hw
  have f : p_rtcp_fields (⟨(rep s).Kind, (rep s).From, (rep s).About, (rep s).Tuples, (rep s).Abouts, (rep s).Numbers, (rep s).Rate, (rep s).f_Type, (rep s).Count, (rep s).Body⟩ : T_api_Report) = some true := fields_okR h
  have hK : 1 ≤ (rep s).Kind ∧ (rep s).Kind ≤ 6 := by
    cases s with
    | tmm K f l => rcases h.1 with rfl | rfl <;> simp [rep]
    | _ => simp [rep]
  have d1 : decide ((rep s).Kind < 1) = false := decide_eq_false (by omega)
  have d2 : decide ((rep s).Kind > 6) = false := decide_eq_false (by omega)
  simp only [d1, d2, cond_false, Option.bind_some, v, f, Bool.not_true]
end Go.Ev
/- Equations, printed by tracer2.py. -/
namespace Go.Ev
open Go.Proofs
set_option linter.unusedVariables false
set_option maxRecDepth 100000
-- 25 limelight/rtcp.Read
noncomputable def rtcp_Read_c0 : Code := (codeAt (bodyOf Try.f25) [1, 1, 1, 0, 1, 0, 0])
def rtcp_Read_l0 : Lv := ⟨16, 12, [(1, 16)]⟩
noncomputable def rtcp_Read_k0 (rec : CallF) (loop : LoopV) (σ : Stamp) : Exit → Env → H → Option (List C × H) := (kBlock 1 (kSeq G rec loop (codeAt (bodyOf Try.f25) [1, 1, 1, 1]) ⟨12, 12, []⟩ (1 :: 1 :: 1 :: 0 :: σ) (finC G true Try.f25 (1 :: σ))))
theorem rtcp_Read_entry (rec : CallF) (loop : LoopV) (σ : Stamp) (x0 : V) (h : H) : cvBody G rec loop 25 σ [x0] h =
 (lenO x0).bind fun t1 =>
 (castI .i64 t1).bind fun n2 =>
 bif decide (n2 > 1500) then (
 fin true σ (List.replicate 41 [] :: h) [(.p (.slice .none 0 0)), (.p (.int .i64 3))])
 else (
 (lenO x0).bind fun t3 =>
 (castI .i64 t3).bind fun n4 =>
 bif n4 == 0 then (
 fin true σ (List.replicate 41 [] :: h) [(.p (.slice .none 0 0)), (.p (.int .i64 13))])
 else (
 (loop rtcp_Read_c0 rtcp_Read_l0 (1 :: 0 :: 1 :: 1 :: 1 :: 0 :: σ) (envL [(0, x0), (4, (.p (.slice .none 0 0))), (5, (.p (.int .i64 0)))]) (List.replicate 41 [] :: h)).bind fun r5 => rtcp_Read_k0 rec loop σ r5.1 r5.2.1 r5.2.2)) := by kernel_rfl
theorem rtcp_Read_r0 (rec : CallF) (loop : LoopV) (σ : Stamp) (x0 : V) (x4 : V) (x5 : Int) (h : H) : cvRound G rec loop rtcp_Read_c0 rtcp_Read_l0 σ (envL [(0, x0), (4, x4), (5, (.p (.int .i64 x5)))]) h =
 (lenO x0).bind fun t6 =>
 (castI .i64 t6).bind fun n7 =>
 bif decide (x5 < n7) then (
 (slS 1 x0 (some x5) none none).bind fun t8 =>
 (callO rec 59 (3 :: 0 :: 1 :: 0 :: σ) [t8] h (some 25)).bind fun q9 =>
 (extV q9.1 0).bind fun t10 =>
 (extV q9.1 1).bind fun t11 =>
 (castI .i64 t11).bind fun n12 =>
 (extV q9.1 2).bind fun t13 =>
 (castI .i64 t13).bind fun n14 =>
 (some (alO [.p (.int .i64 0), .p (.int .u32 0), .p (.int .u32 0), .p (.slice none 0 0), .p (.slice none 0 0), .p (.slice none 0 0), .p (.int .u64 0), .p (.int .i64 0), .p (.int .i64 0), .p (.slice none 0 0)] (8 :: 0 :: 1 :: 0 :: σ) 6 q9.2)).bind fun q15 =>
 ((stO false 10 (9 :: 0 :: 1 :: 0 :: σ) q15.2 q15.1 t10).map fun h => (udf, h)).bind fun q16 =>
 bif n14 != 0 then (
 some (.ret, (envL [(2, (.p (.slice .none 0 0))), (3, (.p (.int .i64 n14)))]), q16.2))
 else (
 (ldO true 10 q16.2 q15.1).bind fun t17 =>
 (buildSliceV Try.prog 36 1 [(0, t17)]).bind fun t18 =>
 (apO false 10 136 (3 :: 0 :: 1 :: 1 :: 1 :: 0 :: σ) 35 q16.2 x4 t18).bind fun q19 =>
 loop rtcp_Read_c0 rtcp_Read_l0 (1 :: σ) (envL [(0, x0), (4, q19.1), (5, (.p (.int .i64 (IntKind.wrap .i64 (x5 + n12)))))]) q19.2))
 else (
 some ((.exit 1), (envL [(4, x4)]), h)) := by kernel_rfl
theorem rtcp_Read_a0_1 (rec : CallF) (loop : LoopV) (σ : Stamp) (x4 : V) (h : H) : rtcp_Read_k0 rec loop σ (.exit 1) (envL [(4, x4)]) h =
 (callO rec 60 (1 :: 0 :: 1 :: 1 :: 1 :: 1 :: 0 :: σ) [x4] h (some 40)).bind fun q20 =>
 fin true σ q20.2 [q20.1, (.p (.int .i64 0))] := by kernel_rfl
theorem rtcp_Read_a0_ret (rec : CallF) (loop : LoopV) (σ : Stamp) (x2 : V) (x3 : Int) (h : H) : rtcp_Read_k0 rec loop σ .ret (envL [(2, x2), (3, (.p (.int .i64 x3)))]) h =
 fin true σ h [x2, (.p (.int .i64 x3))] := by kernel_rfl
end Go.Ev
/- Equations, printed by tracer2.py. -/
namespace Go.Ev
open Go.Proofs
set_option linter.unusedVariables false
set_option maxRecDepth 100000
-- 60 slices.Clip[[]limelight/api.Report,limelight/api.Report]
theorem slices_Clip_Lapi_Report_api_Report_entry (rec : CallF) (loop : LoopV) (σ : Stamp) (x0 : V) (h : H) : cvBody G rec loop 60 σ [x0] h =
 (lenO x0).bind fun t1 =>
 (castI .i64 t1).bind fun n2 =>
 (lenO x0).bind fun t3 =>
 (castI .i64 t3).bind fun n4 =>
 (slS 10 x0 none (some n2) (some n4)).bind fun t5 =>
 fin false σ (List.replicate 9 [] :: h) [t5] := by kernel_rfl
end Go.Ev
/- Equations, printed by tracer2.py. -/
namespace Go.Ev
open Go.Proofs
set_option linter.unusedVariables false
set_option maxRecDepth 100000
-- 59 limelight/rtcp.one
theorem rtcp_one_entry (rec : CallF) (loop : LoopV) (σ : Stamp) (x0 : V) (h : H) : cvBody G rec loop 59 σ [x0] h =
 (some (alO [.p (.int .i64 0), .p (.int .u32 0), .p (.int .u32 0), .p (.slice none 0 0), .p (.slice none 0 0), .p (.slice none 0 0), .p (.int .u64 0), .p (.int .i64 0), .p (.int .i64 0), .p (.slice none 0 0)] (0 :: 0 :: 0 :: σ) 2 (List.replicate 76 [] :: h))).bind fun q1 =>
 (lenO x0).bind fun t2 =>
 (castI .i64 t2).bind fun n3 =>
 bif decide (n3 < 4) then (
 (buildV Try.prog 33 []).bind fun t4 =>
 ((stO false 10 (1 :: 0 :: 1 :: 0 :: 1 :: 0 :: σ) q1.2 q1.1 t4).map fun h => (udf, h)).bind fun q5 =>
 ((ldO true 10 q5.2 q1.1).bind fun t6 => (((some []).map ((.p (.int .i64 13)) :: ·)).map ((.p (.int .i64 0)) :: ·)).map (t6 :: ·)).bind fun t7 => fin false σ q5.2 t7)
 else (
 (callO rec 96 (1 :: 0 :: 1 :: 1 :: 0 :: σ) [x0, (.p (.int .i64 2)), (.p (.int .i64 2))] q1.2 (some 16)).bind fun q8 =>
 (extV q8.1 0).bind fun t9 =>
 (castI .u64 t9).bind fun n10 =>
 (extV q8.1 1).bind fun t11 =>
 (asB t11).bind fun b12 =>
 (lenO x0).bind fun t13 =>
 (castI .i64 t13).bind fun n14 =>
 bif decide ((IntKind.wrap .i64 (4 + (IntKind.wrap .i64 (4 * (IntKind.wrap .i64 n10))))) > n14) then (
 (buildV Try.prog 33 []).bind fun t15 =>
 ((stO false 10 (1 :: 0 :: 1 :: 0 :: 1 :: 1 :: 1 :: 1 :: 0 :: σ) q8.2 q1.1 t15).map fun h => (udf, h)).bind fun q16 =>
 ((ldO true 10 q16.2 q1.1).bind fun t17 => (((some []).map ((.p (.int .i64 13)) :: ·)).map ((.p (.int .i64 0)) :: ·)).map (t17 :: ·)).bind fun t18 => fin false σ q16.2 t18)
 else (
 (iS 1 x0 0).bind fun t19 =>
 (ldO false 1 q8.2 t19).bind fun t20 =>
 (castI .u8 t20).bind fun n21 =>
 (bif (intBits .and .u8 n21 192) != 128 then (some true) else ((iS 1 x0 0).bind fun t22 =>
 (ldO false 1 q8.2 t22).bind fun t23 =>
 (castI .u8 t23).bind fun n24 =>
 some ((intBits .and .u8 n24 32) != 0))).bind fun b25 =>
 (bif b25 then (some true) else ((iS 1 x0 1).bind fun t26 =>
 (ldO false 1 q8.2 t26).bind fun t27 =>
 (castI .u8 t27).bind fun n28 =>
 some (decide (n28 < 192)))).bind fun b29 =>
 (bif b29 then (some true) else ((iS 1 x0 1).bind fun t30 =>
 (ldO false 1 q8.2 t30).bind fun t31 =>
 (castI .u8 t31).bind fun n32 =>
 some (decide (n32 > 223)))).bind fun b33 =>
 bif b33 then (
 (buildV Try.prog 33 []).bind fun t34 =>
 ((stO false 10 (1 :: 0 :: 1 :: 1 :: 0 :: 1 :: 1 :: 1 :: 1 :: 0 :: σ) q8.2 q1.1 t34).map fun h => (udf, h)).bind fun q35 =>
 ((ldO true 10 q35.2 q1.1).bind fun t36 => (((some []).map ((.p (.int .i64 12)) :: ·)).map ((.p (.int .i64 0)) :: ·)).map (t36 :: ·)).bind fun t37 => fin false σ q35.2 t37)
 else (
 need (∃ z, tzero Try.prog 33 = some z ∧ slotOf (alO [.p (.int .i64 0), .p (.int .u32 0), .p (.int .u32 0), .p (.slice none 0 0), .p (.slice none 0 0), .p (.slice none 0 0), .p (.int .u64 0), .p (.int .i64 0), .p (.int .i64 0), .p (.slice none 0 0)] (16 :: 0 :: 1 :: 1 :: 1 :: 1 :: 1 :: 0 :: σ) 8 q8.2).2 8 = some [.own (16 :: 0 :: 1 :: 1 :: 1 :: 1 :: 1 :: 0 :: σ) (z.map .v)]) (
 (iS 1 x0 1).bind fun t38 =>
 (ldO false 1 (alO [.p (.int .i64 0), .p (.int .u32 0), .p (.int .u32 0), .p (.slice none 0 0), .p (.slice none 0 0), .p (.slice none 0 0), .p (.int .u64 0), .p (.int .i64 0), .p (.int .i64 0), .p (.slice none 0 0)] (16 :: 0 :: 1 :: 1 :: 1 :: 1 :: 1 :: 0 :: σ) 8 q8.2).2 t38).bind fun t39 =>
 (castI .u8 t39).bind fun n40 =>
 (iS 1 x0 0).bind fun t41 =>
 (ldO false 1 (alO [.p (.int .i64 0), .p (.int .u32 0), .p (.int .u32 0), .p (.slice none 0 0), .p (.slice none 0 0), .p (.slice none 0 0), .p (.int .u64 0), .p (.int .i64 0), .p (.int .i64 0), .p (.slice none 0 0)] (16 :: 0 :: 1 :: 1 :: 1 :: 1 :: 1 :: 0 :: σ) 8 q8.2).2 t41).bind fun t42 =>
 (castI .u8 t42).bind fun n43 =>
 (slS 1 x0 (some 4) (some (IntKind.wrap .i64 (4 + (IntKind.wrap .i64 (4 * (IntKind.wrap .i64 n10)))))) none).bind fun t44 =>
 (callO rec 97 (12 :: 0 :: 1 :: 1 :: 1 :: 1 :: 1 :: 0 :: σ) [(.p (.int .i64 (IntKind.wrap .i64 n40))), (.p (.int .i64 (IntKind.wrap .i64 (intBits .and .u8 n43 31)))), t44] (alO [.p (.int .i64 0), .p (.int .u32 0), .p (.int .u32 0), .p (.slice none 0 0), .p (.slice none 0 0), .p (.slice none 0 0), .p (.int .u64 0), .p (.int .i64 0), .p (.int .i64 0), .p (.slice none 0 0)] (16 :: 0 :: 1 :: 1 :: 1 :: 1 :: 1 :: 0 :: σ) 8 q8.2).2 (some 68)).bind fun q45 =>
 need (∃ z, tzero Try.prog 33 = some z ∧ slotOf q45.2 8 = some [.own (16 :: 0 :: 1 :: 1 :: 1 :: 1 :: 1 :: 0 :: σ) (z.map .v)]) (
 (extV q45.1 0).bind fun t46 =>
 (extV q45.1 1).bind fun t47 =>
 (asB t47).bind fun b48 =>
 ((stO false 10 (17 :: 0 :: 1 :: 1 :: 1 :: 1 :: 1 :: 0 :: σ) q45.2 (.ref (newLoc (alO [.p (.int .i64 0), .p (.int .u32 0), .p (.int .u32 0), .p (.slice none 0 0), .p (.slice none 0 0), .p (.slice none 0 0), .p (.int .u64 0), .p (.int .i64 0), .p (.int .i64 0), .p (.slice none 0 0)] (16 :: 0 :: 1 :: 1 :: 1 :: 1 :: 1 :: 0 :: σ) 8 q8.2).2 8 (16 :: 0 :: 1 :: 1 :: 1 :: 1 :: 1 :: 0 :: σ)) 0) t46).map fun h => (udf, h)).bind fun q49 =>
 bif !b48 then (
 (buildV Try.prog 33 []).bind fun t50 =>
 ((stO false 10 (1 :: 0 :: 1 :: 0 :: 1 :: 1 :: 1 :: 1 :: 1 :: 1 :: 0 :: σ) q49.2 q1.1 t50).map fun h => (udf, h)).bind fun q51 =>
 ((ldO true 10 q51.2 q1.1).bind fun t52 => (((some []).map ((.p (.int .i64 12)) :: ·)).map ((.p (.int .i64 0)) :: ·)).map (t52 :: ·)).bind fun t53 => fin false σ q51.2 t53)
 else (
 (ldO true 10 q49.2 (.ref (newLoc (alO [.p (.int .i64 0), .p (.int .u32 0), .p (.int .u32 0), .p (.slice none 0 0), .p (.slice none 0 0), .p (.slice none 0 0), .p (.int .u64 0), .p (.int .i64 0), .p (.int .i64 0), .p (.slice none 0 0)] (16 :: 0 :: 1 :: 1 :: 1 :: 1 :: 1 :: 0 :: σ) 8 q8.2).2 8 (16 :: 0 :: 1 :: 1 :: 1 :: 1 :: 1 :: 0 :: σ)) 0)).bind fun t54 =>
 ((stO false 10 (2 :: 0 :: 1 :: 1 :: 1 :: 1 :: 1 :: 1 :: 1 :: 0 :: σ) q49.2 q1.1 t54).map fun h => (udf, h)).bind fun q55 =>
 ((ldO true 10 q55.2 q1.1).bind fun t56 => (((some []).map ((.p (.int .i64 0)) :: ·)).map ((.p (.int .i64 (IntKind.wrap .i64 (4 + (IntKind.wrap .i64 (4 * (IntKind.wrap .i64 n10))))))) :: ·)).map (t56 :: ·)).bind fun t57 => fin false σ q55.2 t57)))))) := by kernel_rfl
end Go.Ev
/- Equations, printed by tracer2.py. -/
namespace Go.Ev
open Go.Proofs
set_option linter.unusedVariables false
set_option maxRecDepth 100000
-- 97 limelight/rtcp.parse
noncomputable def rtcp_parse_c0 : Code := (codeAt (bodyOf Try.f97) [1, 1, 1, 1, 1, 1, 0, 1, 0, 1, 0, 0, 0, 0])
def rtcp_parse_l0 : Lv := ⟨836, 192, [(1, 836), (0, 836)]⟩
noncomputable def rtcp_parse_k0 (rec : CallF) (loop : LoopV) (σ : Stamp) : Exit → Env → H → Option (List C × H) := (kBlock 1 (kSeq G rec loop (codeAt (bodyOf Try.f97) [1, 1, 1, 1, 1, 1, 0, 1, 0, 1, 0, 1]) ⟨836, 192, [(0, 836)]⟩ (1 :: 1 :: 0 :: 1 :: 1 :: 1 :: 1 :: 1 :: 1 :: 0 :: σ) (kBlock 0 (kSeq G rec loop (codeAt (bodyOf Try.f97) [1, 1, 1, 1, 1, 1, 1]) ⟨192, 192, []⟩ (1 :: 1 :: 1 :: 1 :: 1 :: 1 :: 0 :: σ) (finC G false Try.f97 (1 :: σ))))))
noncomputable def rtcp_parse_c1 : Code := (codeAt (bodyOf Try.f97) [1, 1, 1, 1, 1, 1, 0, 1, 0, 1, 1, 1, 1, 1, 0, 0, 0, 0])
def rtcp_parse_l1 : Lv := ⟨836, 192, [(3, 836), (0, 836)]⟩
noncomputable def rtcp_parse_k1 (rec : CallF) (loop : LoopV) (σ : Stamp) : Exit → Env → H → Option (List C × H) := (kBlock 3 (kSeq G rec loop (codeAt (bodyOf Try.f97) [1, 1, 1, 1, 1, 1, 0, 1, 0, 1, 1, 1, 1, 1, 0, 1]) ⟨836, 192, [(0, 836)]⟩ (1 :: 1 :: 1 :: 1 :: 0 :: 1 :: 1 :: 1 :: 1 :: 1 :: 1 :: 0 :: σ) (kBlock 0 (kSeq G rec loop (codeAt (bodyOf Try.f97) [1, 1, 1, 1, 1, 1, 1]) ⟨192, 192, []⟩ (1 :: 1 :: 1 :: 1 :: 1 :: 1 :: 0 :: σ) (finC G false Try.f97 (1 :: σ))))))
theorem rtcp_parse_entry (rec : CallF) (loop : LoopV) (σ : Stamp) (x0 : Int) (x1 : Int) (x2 : V) (h : H) : cvBody G rec loop 97 σ [(.p (.int .i64 x0)), (.p (.int .i64 x1)), x2] h =
 (some (alO [.p (.int .i64 0), .p (.int .u32 0), .p (.int .u32 0), .p (.slice none 0 0), .p (.slice none 0 0), .p (.slice none 0 0), .p (.int .u64 0), .p (.int .i64 0), .p (.int .i64 0), .p (.slice none 0 0)] (0 :: 0 :: 0 :: σ) 6 (List.replicate 130 [] :: h))).bind fun q1 =>
 (callO rec 103 (2 :: 0 :: 1 :: 0 :: σ) [(.p (.int .i64 x0)), (.p (.int .i64 x1))] q1.2 (some 12)).bind fun q2 =>
 (castI .i64 q2.1).bind fun n3 =>
 (buildV Try.prog 33 [(0, (.p (.int .i64 n3)))]).bind fun t4 =>
 (some (alO [.p (.int .i64 0), .p (.int .u32 0), .p (.int .u32 0), .p (.slice none 0 0), .p (.slice none 0 0), .p (.slice none 0 0), .p (.int .u64 0), .p (.int .i64 0), .p (.int .i64 0), .p (.slice none 0 0)] (4 :: 0 :: 1 :: 0 :: σ) 8 q2.2)).bind fun q5 =>
 ((stO false 10 (5 :: 0 :: 1 :: 0 :: σ) q5.2 q5.1 t4).map fun h => (udf, h)).bind fun q6 =>
 (fA q5.1 0).bind fun t7 =>
 (ldO false 1 q6.2 t7).bind fun t8 =>
 (castI .i64 t8).bind fun n9 =>
 bif n9 == 6 then (
 (callO rec 95 (3 :: 0 :: 1 :: 0 :: 1 :: 1 :: 0 :: σ) [x2] q6.2 (some 20)).bind fun q10 =>
 (fA q5.1 7).bind fun t11 =>
 ((stO true 1 (5 :: 0 :: 1 :: 0 :: 1 :: 1 :: 0 :: σ) q10.2 t11 (.p (.int .i64 x0))).map fun h => (udf, h)).bind fun q12 =>
 (fA q5.1 8).bind fun t13 =>
 ((stO true 1 (7 :: 0 :: 1 :: 0 :: 1 :: 1 :: 0 :: σ) q12.2 t13 (.p (.int .i64 x1))).map fun h => (udf, h)).bind fun q14 =>
 (fA q5.1 9).bind fun t15 =>
 ((stO true 1 (9 :: 0 :: 1 :: 0 :: 1 :: 1 :: 0 :: σ) q14.2 t15 q10.1).map fun h => (udf, h)).bind fun q16 =>
 (ldO true 10 q16.2 q5.1).bind fun t17 =>
 ((stO false 10 (1 :: 0 :: 1 :: 1 :: 0 :: 1 :: 1 :: 0 :: σ) q16.2 q1.1 t17).map fun h => (udf, h)).bind fun q18 =>
 ((ldO true 10 q18.2 q1.1).bind fun t19 => ((some []).map ((.p (.bool true)) :: ·)).map (t19 :: ·)).bind fun t20 => fin false σ q18.2 t20)
 else (
 (buildV Try.prog 155 [(0, x2)]).bind fun t21 =>
 (boxO false (2 :: 0 :: 1 :: 1 :: 1 :: 0 :: σ) 27 q6.2 t21).bind fun q22 =>
 (callO rec 130 (1 :: 0 :: 1 :: 1 :: 1 :: 1 :: 0 :: σ) [q22.1, (.p (.int .i64 4))] q22.2 (some 29)).bind fun q23 =>
 (castI .u64 q23.1).bind fun n24 =>
 (fA q5.1 1).bind fun t25 =>
 ((stO true 1 (4 :: 0 :: 1 :: 1 :: 1 :: 1 :: 0 :: σ) q23.2 t25 (.p (.int .u32 (IntKind.wrap .u32 n24)))).map fun h => (udf, h)).bind fun q26 =>
 (fA q5.1 0).bind fun t27 =>
 (ldO false 1 q26.2 t27).bind fun t28 =>
 (castI .i64 t28).bind fun n29 =>
 bif n29 != 3 then (
 (callO rec 131 (1 :: 1 :: 0 :: 1 :: 1 :: 1 :: 1 :: 1 :: 0 :: σ) [q22.1, (.p (.int .i64 4))] q26.2 (some 36)).bind fun q30 =>
 (fA q5.1 0).bind fun t31 =>
 (ldO false 1 q30.2 t31).bind fun t32 =>
 (castI .i64 t32).bind fun n33 =>
 bif n33 == 1 then (
 bif n33 == 1 then (
 (loop rtcp_parse_c0 rtcp_parse_l0 (0 :: 1 :: 1 :: 0 :: 1 :: 1 :: 1 :: 1 :: 1 :: 1 :: 0 :: σ) (envL [(2, x2), (6, q1.1), (8, q5.1), (9, q22.1)]) q30.2).bind fun r34 => rtcp_parse_k0 rec loop σ r34.1 r34.2.1 r34.2.2)
 else (
 bif n33 == 3 then (
 (callO rec 130 (1 :: 1 :: 1 :: 1 :: 0 :: 1 :: 1 :: 1 :: 1 :: 1 :: 1 :: 0 :: σ) [q22.1, (.p (.int .i64 4))] q30.2 (some 67)).bind fun q35 =>
 (castI .u64 q35.1).bind fun n36 =>
 (fA q5.1 2).bind fun t37 =>
 ((stO true 1 (4 :: 1 :: 1 :: 1 :: 0 :: 1 :: 1 :: 1 :: 1 :: 1 :: 1 :: 0 :: σ) q35.2 t37 (.p (.int .u32 (IntKind.wrap .u32 n36)))).map fun h => (udf, h)).bind fun q38 =>
 (ldO true 10 q38.2 q5.1).bind fun t39 =>
 (nilChk q22.1).bind fun t40 =>
 (fA t40 2).bind fun t41 =>
 (ldO false 1 q38.2 t41).bind fun t42 =>
 (asB t42).bind fun b43 =>
 bif !b43 then ((nilChk q22.1).bind fun t44 =>
 (fA t44 1).bind fun t45 =>
 (ldO false 1 q38.2 t45).bind fun t46 =>
 (castI .i64 t46).bind fun n47 =>
 (lenO x2).bind fun t48 =>
 (castI .i64 t48).bind fun n49 =>
 (some (n47 == n49)).bind fun b50 =>
 ((stO false 10 (15 :: 0 :: 1 :: 1 :: 1 :: 1 :: 1 :: 1 :: 1 :: 0 :: σ) q38.2 q1.1 t39).map fun h => (udf, h)).bind fun q51 =>
 need ((some (.p (.bool (n47 == n49))) : Option V) = some (.p (.bool (n47 == n49)))) (
 need (ldO false 1 q51.2 t45 = some (.p (.int .i64 n47))) (
 ((ldO true 10 q51.2 q1.1).bind fun t52 => ((some []).map ((.p (.bool b50)) :: ·)).map (t52 :: ·)).bind fun t53 => fin false σ q51.2 t53))) else ((some false).bind fun b54 =>
 ((stO false 10 (15 :: 0 :: 1 :: 1 :: 1 :: 1 :: 1 :: 1 :: 1 :: 0 :: σ) q38.2 q1.1 t39).map fun h => (udf, h)).bind fun q55 =>
 ((ldO true 10 q55.2 q1.1).bind fun t56 => ((some []).map ((.p (.bool b54)) :: ·)).map (t56 :: ·)).bind fun t57 => fin false σ q55.2 t57))
 else (
 bif n33 == 4 then (
 (loop rtcp_parse_c1 rtcp_parse_l1 (0 :: 1 :: 1 :: 1 :: 1 :: 0 :: 1 :: 1 :: 1 :: 1 :: 1 :: 1 :: 0 :: σ) (envL [(2, x2), (6, q1.1), (8, q5.1), (9, q22.1)]) q30.2).bind fun r58 => rtcp_parse_k1 rec loop σ r58.1 r58.2.1 r58.2.2)
 else (
 bif n33 == 5 then (
 (callO rec 134 (1 :: 1 :: 1 :: 1 :: 1 :: 1 :: 0 :: 1 :: 1 :: 1 :: 1 :: 1 :: 1 :: 0 :: σ) [q22.1, q5.1] q30.2 (some 114)).bind fun q59 =>
 (ldO true 10 q59.2 q5.1).bind fun t60 =>
 (nilChk q22.1).bind fun t61 =>
 (fA t61 2).bind fun t62 =>
 (ldO false 1 q59.2 t62).bind fun t63 =>
 (asB t63).bind fun b64 =>
 bif !b64 then ((nilChk q22.1).bind fun t65 =>
 (fA t65 1).bind fun t66 =>
 (ldO false 1 q59.2 t66).bind fun t67 =>
 (castI .i64 t67).bind fun n68 =>
 (lenO x2).bind fun t69 =>
 (castI .i64 t69).bind fun n70 =>
 (some (n68 == n70)).bind fun b71 =>
 ((stO false 10 (15 :: 0 :: 1 :: 1 :: 1 :: 1 :: 1 :: 1 :: 1 :: 0 :: σ) q59.2 q1.1 t60).map fun h => (udf, h)).bind fun q72 =>
 need ((some (.p (.bool (n68 == n70))) : Option V) = some (.p (.bool (n68 == n70)))) (
 need (ldO false 1 q72.2 t66 = some (.p (.int .i64 n68))) (
 ((ldO true 10 q72.2 q1.1).bind fun t73 => ((some []).map ((.p (.bool b71)) :: ·)).map (t73 :: ·)).bind fun t74 => fin false σ q72.2 t74))) else ((some false).bind fun b75 =>
 ((stO false 10 (15 :: 0 :: 1 :: 1 :: 1 :: 1 :: 1 :: 1 :: 1 :: 0 :: σ) q59.2 q1.1 t60).map fun h => (udf, h)).bind fun q76 =>
 ((ldO true 10 q76.2 q1.1).bind fun t77 => ((some []).map ((.p (.bool b75)) :: ·)).map (t77 :: ·)).bind fun t78 => fin false σ q76.2 t78))
 else (
 (ldO true 10 q30.2 q5.1).bind fun t79 =>
 (nilChk q22.1).bind fun t80 =>
 (fA t80 2).bind fun t81 =>
 (ldO false 1 q30.2 t81).bind fun t82 =>
 (asB t82).bind fun b83 =>
 bif !b83 then ((nilChk q22.1).bind fun t84 =>
 (fA t84 1).bind fun t85 =>
 (ldO false 1 q30.2 t85).bind fun t86 =>
 (castI .i64 t86).bind fun n87 =>
 (lenO x2).bind fun t88 =>
 (castI .i64 t88).bind fun n89 =>
 (some (n87 == n89)).bind fun b90 =>
 ((stO false 10 (15 :: 0 :: 1 :: 1 :: 1 :: 1 :: 1 :: 1 :: 1 :: 0 :: σ) q30.2 q1.1 t79).map fun h => (udf, h)).bind fun q91 =>
 need ((some (.p (.bool (n87 == n89))) : Option V) = some (.p (.bool (n87 == n89)))) (
 need (ldO false 1 q91.2 t85 = some (.p (.int .i64 n87))) (
 ((ldO true 10 q91.2 q1.1).bind fun t92 => ((some []).map ((.p (.bool b90)) :: ·)).map (t92 :: ·)).bind fun t93 => fin false σ q91.2 t93))) else ((some false).bind fun b94 =>
 ((stO false 10 (15 :: 0 :: 1 :: 1 :: 1 :: 1 :: 1 :: 1 :: 1 :: 0 :: σ) q30.2 q1.1 t79).map fun h => (udf, h)).bind fun q95 =>
 ((ldO true 10 q95.2 q1.1).bind fun t96 => ((some []).map ((.p (.bool b94)) :: ·)).map (t96 :: ·)).bind fun t97 => fin false σ q95.2 t97))))))
 else (
 bif n33 == 2 then (
 (loop rtcp_parse_c0 rtcp_parse_l0 (0 :: 1 :: 1 :: 0 :: 1 :: 1 :: 1 :: 1 :: 1 :: 1 :: 0 :: σ) (envL [(2, x2), (6, q1.1), (8, q5.1), (9, q22.1)]) q30.2).bind fun r98 => rtcp_parse_k0 rec loop σ r98.1 r98.2.1 r98.2.2)
 else (
 bif n33 == 3 then (
 (callO rec 130 (1 :: 1 :: 1 :: 1 :: 0 :: 1 :: 1 :: 1 :: 1 :: 1 :: 1 :: 0 :: σ) [q22.1, (.p (.int .i64 4))] q30.2 (some 67)).bind fun q99 =>
 (castI .u64 q99.1).bind fun n100 =>
 (fA q5.1 2).bind fun t101 =>
 ((stO true 1 (4 :: 1 :: 1 :: 1 :: 0 :: 1 :: 1 :: 1 :: 1 :: 1 :: 1 :: 0 :: σ) q99.2 t101 (.p (.int .u32 (IntKind.wrap .u32 n100)))).map fun h => (udf, h)).bind fun q102 =>
 (ldO true 10 q102.2 q5.1).bind fun t103 =>
 (nilChk q22.1).bind fun t104 =>
 (fA t104 2).bind fun t105 =>
 (ldO false 1 q102.2 t105).bind fun t106 =>
 (asB t106).bind fun b107 =>
 bif !b107 then ((nilChk q22.1).bind fun t108 =>
 (fA t108 1).bind fun t109 =>
 (ldO false 1 q102.2 t109).bind fun t110 =>
 (castI .i64 t110).bind fun n111 =>
 (lenO x2).bind fun t112 =>
 (castI .i64 t112).bind fun n113 =>
 (some (n111 == n113)).bind fun b114 =>
 ((stO false 10 (15 :: 0 :: 1 :: 1 :: 1 :: 1 :: 1 :: 1 :: 1 :: 0 :: σ) q102.2 q1.1 t103).map fun h => (udf, h)).bind fun q115 =>
 need ((some (.p (.bool (n111 == n113))) : Option V) = some (.p (.bool (n111 == n113)))) (
 need (ldO false 1 q115.2 t109 = some (.p (.int .i64 n111))) (
 ((ldO true 10 q115.2 q1.1).bind fun t116 => ((some []).map ((.p (.bool b114)) :: ·)).map (t116 :: ·)).bind fun t117 => fin false σ q115.2 t117))) else ((some false).bind fun b118 =>
 ((stO false 10 (15 :: 0 :: 1 :: 1 :: 1 :: 1 :: 1 :: 1 :: 1 :: 0 :: σ) q102.2 q1.1 t103).map fun h => (udf, h)).bind fun q119 =>
 ((ldO true 10 q119.2 q1.1).bind fun t120 => ((some []).map ((.p (.bool b118)) :: ·)).map (t120 :: ·)).bind fun t121 => fin false σ q119.2 t121))
 else (
 bif n33 == 4 then (
 (loop rtcp_parse_c1 rtcp_parse_l1 (0 :: 1 :: 1 :: 1 :: 1 :: 0 :: 1 :: 1 :: 1 :: 1 :: 1 :: 1 :: 0 :: σ) (envL [(2, x2), (6, q1.1), (8, q5.1), (9, q22.1)]) q30.2).bind fun r122 => rtcp_parse_k1 rec loop σ r122.1 r122.2.1 r122.2.2)
 else (
 bif n33 == 5 then (
 (callO rec 134 (1 :: 1 :: 1 :: 1 :: 1 :: 1 :: 0 :: 1 :: 1 :: 1 :: 1 :: 1 :: 1 :: 0 :: σ) [q22.1, q5.1] q30.2 (some 114)).bind fun q123 =>
 (ldO true 10 q123.2 q5.1).bind fun t124 =>
 (nilChk q22.1).bind fun t125 =>
 (fA t125 2).bind fun t126 =>
 (ldO false 1 q123.2 t126).bind fun t127 =>
 (asB t127).bind fun b128 =>
 bif !b128 then ((nilChk q22.1).bind fun t129 =>
 (fA t129 1).bind fun t130 =>
 (ldO false 1 q123.2 t130).bind fun t131 =>
 (castI .i64 t131).bind fun n132 =>
 (lenO x2).bind fun t133 =>
 (castI .i64 t133).bind fun n134 =>
 (some (n132 == n134)).bind fun b135 =>
 ((stO false 10 (15 :: 0 :: 1 :: 1 :: 1 :: 1 :: 1 :: 1 :: 1 :: 0 :: σ) q123.2 q1.1 t124).map fun h => (udf, h)).bind fun q136 =>
 need ((some (.p (.bool (n132 == n134))) : Option V) = some (.p (.bool (n132 == n134)))) (
 need (ldO false 1 q136.2 t130 = some (.p (.int .i64 n132))) (
 ((ldO true 10 q136.2 q1.1).bind fun t137 => ((some []).map ((.p (.bool b135)) :: ·)).map (t137 :: ·)).bind fun t138 => fin false σ q136.2 t138))) else ((some false).bind fun b139 =>
 ((stO false 10 (15 :: 0 :: 1 :: 1 :: 1 :: 1 :: 1 :: 1 :: 1 :: 0 :: σ) q123.2 q1.1 t124).map fun h => (udf, h)).bind fun q140 =>
 ((ldO true 10 q140.2 q1.1).bind fun t141 => ((some []).map ((.p (.bool b139)) :: ·)).map (t141 :: ·)).bind fun t142 => fin false σ q140.2 t142))
 else (
 (ldO true 10 q30.2 q5.1).bind fun t143 =>
 (nilChk q22.1).bind fun t144 =>
 (fA t144 2).bind fun t145 =>
 (ldO false 1 q30.2 t145).bind fun t146 =>
 (asB t146).bind fun b147 =>
 bif !b147 then ((nilChk q22.1).bind fun t148 =>
 (fA t148 1).bind fun t149 =>
 (ldO false 1 q30.2 t149).bind fun t150 =>
 (castI .i64 t150).bind fun n151 =>
 (lenO x2).bind fun t152 =>
 (castI .i64 t152).bind fun n153 =>
 (some (n151 == n153)).bind fun b154 =>
 ((stO false 10 (15 :: 0 :: 1 :: 1 :: 1 :: 1 :: 1 :: 1 :: 1 :: 0 :: σ) q30.2 q1.1 t143).map fun h => (udf, h)).bind fun q155 =>
 need ((some (.p (.bool (n151 == n153))) : Option V) = some (.p (.bool (n151 == n153)))) (
 need (ldO false 1 q155.2 t149 = some (.p (.int .i64 n151))) (
 ((ldO true 10 q155.2 q1.1).bind fun t156 => ((some []).map ((.p (.bool b154)) :: ·)).map (t156 :: ·)).bind fun t157 => fin false σ q155.2 t157))) else ((some false).bind fun b158 =>
 ((stO false 10 (15 :: 0 :: 1 :: 1 :: 1 :: 1 :: 1 :: 1 :: 1 :: 0 :: σ) q30.2 q1.1 t143).map fun h => (udf, h)).bind fun q159 =>
 ((ldO true 10 q159.2 q1.1).bind fun t160 => ((some []).map ((.p (.bool b158)) :: ·)).map (t160 :: ·)).bind fun t161 => fin false σ q159.2 t161)))))))
 else (
 (fA q5.1 0).bind fun t162 =>
 (ldO false 1 q26.2 t162).bind fun t163 =>
 (castI .i64 t163).bind fun n164 =>
 bif n164 == 1 then (
 bif n164 == 1 then (
 (loop rtcp_parse_c0 rtcp_parse_l0 (0 :: 1 :: 1 :: 0 :: 1 :: 1 :: 1 :: 1 :: 1 :: 1 :: 0 :: σ) (envL [(2, x2), (6, q1.1), (8, q5.1), (9, q22.1)]) q26.2).bind fun r165 => rtcp_parse_k0 rec loop σ r165.1 r165.2.1 r165.2.2)
 else (
 bif n164 == 3 then (
 (callO rec 130 (1 :: 1 :: 1 :: 1 :: 0 :: 1 :: 1 :: 1 :: 1 :: 1 :: 1 :: 0 :: σ) [q22.1, (.p (.int .i64 4))] q26.2 (some 67)).bind fun q166 =>
 (castI .u64 q166.1).bind fun n167 =>
 (fA q5.1 2).bind fun t168 =>
 ((stO true 1 (4 :: 1 :: 1 :: 1 :: 0 :: 1 :: 1 :: 1 :: 1 :: 1 :: 1 :: 0 :: σ) q166.2 t168 (.p (.int .u32 (IntKind.wrap .u32 n167)))).map fun h => (udf, h)).bind fun q169 =>
 (ldO true 10 q169.2 q5.1).bind fun t170 =>
 (nilChk q22.1).bind fun t171 =>
 (fA t171 2).bind fun t172 =>
 (ldO false 1 q169.2 t172).bind fun t173 =>
 (asB t173).bind fun b174 =>
 bif !b174 then ((nilChk q22.1).bind fun t175 =>
 (fA t175 1).bind fun t176 =>
 (ldO false 1 q169.2 t176).bind fun t177 =>
 (castI .i64 t177).bind fun n178 =>
 (lenO x2).bind fun t179 =>
 (castI .i64 t179).bind fun n180 =>
 (some (n178 == n180)).bind fun b181 =>
 ((stO false 10 (15 :: 0 :: 1 :: 1 :: 1 :: 1 :: 1 :: 1 :: 1 :: 0 :: σ) q169.2 q1.1 t170).map fun h => (udf, h)).bind fun q182 =>
 need ((some (.p (.bool (n178 == n180))) : Option V) = some (.p (.bool (n178 == n180)))) (
 need (ldO false 1 q182.2 t176 = some (.p (.int .i64 n178))) (
 ((ldO true 10 q182.2 q1.1).bind fun t183 => ((some []).map ((.p (.bool b181)) :: ·)).map (t183 :: ·)).bind fun t184 => fin false σ q182.2 t184))) else ((some false).bind fun b185 =>
 ((stO false 10 (15 :: 0 :: 1 :: 1 :: 1 :: 1 :: 1 :: 1 :: 1 :: 0 :: σ) q169.2 q1.1 t170).map fun h => (udf, h)).bind fun q186 =>
 ((ldO true 10 q186.2 q1.1).bind fun t187 => ((some []).map ((.p (.bool b185)) :: ·)).map (t187 :: ·)).bind fun t188 => fin false σ q186.2 t188))
 else (
 bif n164 == 4 then (
 (loop rtcp_parse_c1 rtcp_parse_l1 (0 :: 1 :: 1 :: 1 :: 1 :: 0 :: 1 :: 1 :: 1 :: 1 :: 1 :: 1 :: 0 :: σ) (envL [(2, x2), (6, q1.1), (8, q5.1), (9, q22.1)]) q26.2).bind fun r189 => rtcp_parse_k1 rec loop σ r189.1 r189.2.1 r189.2.2)
 else (
 bif n164 == 5 then (
 (callO rec 134 (1 :: 1 :: 1 :: 1 :: 1 :: 1 :: 0 :: 1 :: 1 :: 1 :: 1 :: 1 :: 1 :: 0 :: σ) [q22.1, q5.1] q26.2 (some 114)).bind fun q190 =>
 (ldO true 10 q190.2 q5.1).bind fun t191 =>
 (nilChk q22.1).bind fun t192 =>
 (fA t192 2).bind fun t193 =>
 (ldO false 1 q190.2 t193).bind fun t194 =>
 (asB t194).bind fun b195 =>
 bif !b195 then ((nilChk q22.1).bind fun t196 =>
 (fA t196 1).bind fun t197 =>
 (ldO false 1 q190.2 t197).bind fun t198 =>
 (castI .i64 t198).bind fun n199 =>
 (lenO x2).bind fun t200 =>
 (castI .i64 t200).bind fun n201 =>
 (some (n199 == n201)).bind fun b202 =>
 ((stO false 10 (15 :: 0 :: 1 :: 1 :: 1 :: 1 :: 1 :: 1 :: 1 :: 0 :: σ) q190.2 q1.1 t191).map fun h => (udf, h)).bind fun q203 =>
 need ((some (.p (.bool (n199 == n201))) : Option V) = some (.p (.bool (n199 == n201)))) (
 need (ldO false 1 q203.2 t197 = some (.p (.int .i64 n199))) (
 ((ldO true 10 q203.2 q1.1).bind fun t204 => ((some []).map ((.p (.bool b202)) :: ·)).map (t204 :: ·)).bind fun t205 => fin false σ q203.2 t205))) else ((some false).bind fun b206 =>
 ((stO false 10 (15 :: 0 :: 1 :: 1 :: 1 :: 1 :: 1 :: 1 :: 1 :: 0 :: σ) q190.2 q1.1 t191).map fun h => (udf, h)).bind fun q207 =>
 ((ldO true 10 q207.2 q1.1).bind fun t208 => ((some []).map ((.p (.bool b206)) :: ·)).map (t208 :: ·)).bind fun t209 => fin false σ q207.2 t209))
 else (
 (ldO true 10 q26.2 q5.1).bind fun t210 =>
 (nilChk q22.1).bind fun t211 =>
 (fA t211 2).bind fun t212 =>
 (ldO false 1 q26.2 t212).bind fun t213 =>
 (asB t213).bind fun b214 =>
 bif !b214 then ((nilChk q22.1).bind fun t215 =>
 (fA t215 1).bind fun t216 =>
 (ldO false 1 q26.2 t216).bind fun t217 =>
 (castI .i64 t217).bind fun n218 =>
 (lenO x2).bind fun t219 =>
 (castI .i64 t219).bind fun n220 =>
 (some (n218 == n220)).bind fun b221 =>
 ((stO false 10 (15 :: 0 :: 1 :: 1 :: 1 :: 1 :: 1 :: 1 :: 1 :: 0 :: σ) q26.2 q1.1 t210).map fun h => (udf, h)).bind fun q222 =>
 need ((some (.p (.bool (n218 == n220))) : Option V) = some (.p (.bool (n218 == n220)))) (
 need (ldO false 1 q222.2 t216 = some (.p (.int .i64 n218))) (
 ((ldO true 10 q222.2 q1.1).bind fun t223 => ((some []).map ((.p (.bool b221)) :: ·)).map (t223 :: ·)).bind fun t224 => fin false σ q222.2 t224))) else ((some false).bind fun b225 =>
 ((stO false 10 (15 :: 0 :: 1 :: 1 :: 1 :: 1 :: 1 :: 1 :: 1 :: 0 :: σ) q26.2 q1.1 t210).map fun h => (udf, h)).bind fun q226 =>
 ((ldO true 10 q226.2 q1.1).bind fun t227 => ((some []).map ((.p (.bool b225)) :: ·)).map (t227 :: ·)).bind fun t228 => fin false σ q226.2 t228))))))
 else (
 bif n164 == 2 then (
 (loop rtcp_parse_c0 rtcp_parse_l0 (0 :: 1 :: 1 :: 0 :: 1 :: 1 :: 1 :: 1 :: 1 :: 1 :: 0 :: σ) (envL [(2, x2), (6, q1.1), (8, q5.1), (9, q22.1)]) q26.2).bind fun r229 => rtcp_parse_k0 rec loop σ r229.1 r229.2.1 r229.2.2)
 else (
 bif n164 == 3 then (
 (callO rec 130 (1 :: 1 :: 1 :: 1 :: 0 :: 1 :: 1 :: 1 :: 1 :: 1 :: 1 :: 0 :: σ) [q22.1, (.p (.int .i64 4))] q26.2 (some 67)).bind fun q230 =>
 (castI .u64 q230.1).bind fun n231 =>
 (fA q5.1 2).bind fun t232 =>
 ((stO true 1 (4 :: 1 :: 1 :: 1 :: 0 :: 1 :: 1 :: 1 :: 1 :: 1 :: 1 :: 0 :: σ) q230.2 t232 (.p (.int .u32 (IntKind.wrap .u32 n231)))).map fun h => (udf, h)).bind fun q233 =>
 (ldO true 10 q233.2 q5.1).bind fun t234 =>
 (nilChk q22.1).bind fun t235 =>
 (fA t235 2).bind fun t236 =>
 (ldO false 1 q233.2 t236).bind fun t237 =>
 (asB t237).bind fun b238 =>
 bif !b238 then ((nilChk q22.1).bind fun t239 =>
 (fA t239 1).bind fun t240 =>
 (ldO false 1 q233.2 t240).bind fun t241 =>
 (castI .i64 t241).bind fun n242 =>
 (lenO x2).bind fun t243 =>
 (castI .i64 t243).bind fun n244 =>
 (some (n242 == n244)).bind fun b245 =>
 ((stO false 10 (15 :: 0 :: 1 :: 1 :: 1 :: 1 :: 1 :: 1 :: 1 :: 0 :: σ) q233.2 q1.1 t234).map fun h => (udf, h)).bind fun q246 =>
 need ((some (.p (.bool (n242 == n244))) : Option V) = some (.p (.bool (n242 == n244)))) (
 need (ldO false 1 q246.2 t240 = some (.p (.int .i64 n242))) (
 ((ldO true 10 q246.2 q1.1).bind fun t247 => ((some []).map ((.p (.bool b245)) :: ·)).map (t247 :: ·)).bind fun t248 => fin false σ q246.2 t248))) else ((some false).bind fun b249 =>
 ((stO false 10 (15 :: 0 :: 1 :: 1 :: 1 :: 1 :: 1 :: 1 :: 1 :: 0 :: σ) q233.2 q1.1 t234).map fun h => (udf, h)).bind fun q250 =>
 ((ldO true 10 q250.2 q1.1).bind fun t251 => ((some []).map ((.p (.bool b249)) :: ·)).map (t251 :: ·)).bind fun t252 => fin false σ q250.2 t252))
 else (
 bif n164 == 4 then (
 (loop rtcp_parse_c1 rtcp_parse_l1 (0 :: 1 :: 1 :: 1 :: 1 :: 0 :: 1 :: 1 :: 1 :: 1 :: 1 :: 1 :: 0 :: σ) (envL [(2, x2), (6, q1.1), (8, q5.1), (9, q22.1)]) q26.2).bind fun r253 => rtcp_parse_k1 rec loop σ r253.1 r253.2.1 r253.2.2)
 else (
 bif n164 == 5 then (
 (callO rec 134 (1 :: 1 :: 1 :: 1 :: 1 :: 1 :: 0 :: 1 :: 1 :: 1 :: 1 :: 1 :: 1 :: 0 :: σ) [q22.1, q5.1] q26.2 (some 114)).bind fun q254 =>
 (ldO true 10 q254.2 q5.1).bind fun t255 =>
 (nilChk q22.1).bind fun t256 =>
 (fA t256 2).bind fun t257 =>
 (ldO false 1 q254.2 t257).bind fun t258 =>
 (asB t258).bind fun b259 =>
 bif !b259 then ((nilChk q22.1).bind fun t260 =>
 (fA t260 1).bind fun t261 =>
 (ldO false 1 q254.2 t261).bind fun t262 =>
 (castI .i64 t262).bind fun n263 =>
 (lenO x2).bind fun t264 =>
 (castI .i64 t264).bind fun n265 =>
 (some (n263 == n265)).bind fun b266 =>
 ((stO false 10 (15 :: 0 :: 1 :: 1 :: 1 :: 1 :: 1 :: 1 :: 1 :: 0 :: σ) q254.2 q1.1 t255).map fun h => (udf, h)).bind fun q267 =>
 need ((some (.p (.bool (n263 == n265))) : Option V) = some (.p (.bool (n263 == n265)))) (
 need (ldO false 1 q267.2 t261 = some (.p (.int .i64 n263))) (
 ((ldO true 10 q267.2 q1.1).bind fun t268 => ((some []).map ((.p (.bool b266)) :: ·)).map (t268 :: ·)).bind fun t269 => fin false σ q267.2 t269))) else ((some false).bind fun b270 =>
 ((stO false 10 (15 :: 0 :: 1 :: 1 :: 1 :: 1 :: 1 :: 1 :: 1 :: 0 :: σ) q254.2 q1.1 t255).map fun h => (udf, h)).bind fun q271 =>
 ((ldO true 10 q271.2 q1.1).bind fun t272 => ((some []).map ((.p (.bool b270)) :: ·)).map (t272 :: ·)).bind fun t273 => fin false σ q271.2 t273))
 else (
 (ldO true 10 q26.2 q5.1).bind fun t274 =>
 (nilChk q22.1).bind fun t275 =>
 (fA t275 2).bind fun t276 =>
 (ldO false 1 q26.2 t276).bind fun t277 =>
 (asB t277).bind fun b278 =>
 bif !b278 then ((nilChk q22.1).bind fun t279 =>
 (fA t279 1).bind fun t280 =>
 (ldO false 1 q26.2 t280).bind fun t281 =>
 (castI .i64 t281).bind fun n282 =>
 (lenO x2).bind fun t283 =>
 (castI .i64 t283).bind fun n284 =>
 (some (n282 == n284)).bind fun b285 =>
 ((stO false 10 (15 :: 0 :: 1 :: 1 :: 1 :: 1 :: 1 :: 1 :: 1 :: 0 :: σ) q26.2 q1.1 t274).map fun h => (udf, h)).bind fun q286 =>
 need ((some (.p (.bool (n282 == n284))) : Option V) = some (.p (.bool (n282 == n284)))) (
 need (ldO false 1 q286.2 t280 = some (.p (.int .i64 n282))) (
 ((ldO true 10 q286.2 q1.1).bind fun t287 => ((some []).map ((.p (.bool b285)) :: ·)).map (t287 :: ·)).bind fun t288 => fin false σ q286.2 t288))) else ((some false).bind fun b289 =>
 ((stO false 10 (15 :: 0 :: 1 :: 1 :: 1 :: 1 :: 1 :: 1 :: 1 :: 0 :: σ) q26.2 q1.1 t274).map fun h => (udf, h)).bind fun q290 =>
 ((ldO true 10 q290.2 q1.1).bind fun t291 => ((some []).map ((.p (.bool b289)) :: ·)).map (t291 :: ·)).bind fun t292 => fin false σ q290.2 t292)))))))) := by kernel_rfl
theorem rtcp_parse_r0 (rec : CallF) (loop : LoopV) (σ : Stamp) (x2 : V) (x6 : V) (x8 : V) (x9 : V) (h : H) : cvRound G rec loop rtcp_parse_c0 rtcp_parse_l0 σ (envL [(2, x2), (6, x6), (8, x8), (9, x9)]) h =
 (callO rec 132 (1 :: 0 :: 0 :: 0 :: σ) [x9] h (some 43)).bind fun q293 =>
 (asB q293.1).bind fun b294 =>
 bif b294 then (
 (fA x8 3).bind fun t295 =>
 (ldO false 1 q293.2 t295).bind fun t296 =>
 (callO rec 133 (3 :: 1 :: 0 :: σ) [x9] q293.2 (some 47)).bind fun q297 =>
 need (ldO false 1 q297.2 t295 = some t296) (
 (buildSliceV Try.prog 28 1 [(0, q297.1)]).bind fun t298 =>
 (apO false 3 24 (5 :: 1 :: 0 :: σ) 49 q297.2 t296 t298).bind fun q299 =>
 (fA x8 3).bind fun t300 =>
 ((stO true 1 (7 :: 1 :: 0 :: σ) q299.2 t300 q299.1).map fun h => (udf, h)).bind fun q301 =>
 loop rtcp_parse_c0 rtcp_parse_l0 (1 :: σ) (envL [(2, x2), (6, x6), (8, x8), (9, x9)]) q301.2))
 else (
 some ((.exit 1), (envL [(2, x2), (6, x6), (8, x8), (9, x9)]), q293.2)) := by kernel_rfl
theorem rtcp_parse_a0_1 (rec : CallF) (loop : LoopV) (σ : Stamp) (x2 : V) (x6 : V) (x8 : V) (x9 : V) (h : H) : rtcp_parse_k0 rec loop σ (.exit 1) (envL [(2, x2), (6, x6), (8, x8), (9, x9)]) h =
 (nilChk x9).bind fun t302 =>
 (fA t302 2).bind fun t303 =>
 (ldO false 1 h t303).bind fun t304 =>
 (asB t304).bind fun b305 =>
 (bif b305 then (some true) else ((fA x8 3).bind fun t306 =>
 (ldO false 1 h t306).bind fun t307 =>
 (lenO t307).bind fun t308 =>
 (castI .i64 t308).bind fun n309 =>
 some (decide (n309 > 6)))).bind fun b310 =>
 (nilChk x9).bind fun t311 =>
 (fA t311 2).bind fun t312 =>
 ((stO true 1 (13 :: 1 :: 1 :: 1 :: 0 :: 1 :: 1 :: 1 :: 1 :: 1 :: 1 :: 0 :: σ) h t312 (.p (.bool b310))).map fun h => (udf, h)).bind fun q313 =>
 (ldO true 10 q313.2 x8).bind fun t314 =>
 (nilChk x9).bind fun t315 =>
 (fA t315 2).bind fun t316 =>
 (ldO false 1 q313.2 t316).bind fun t317 =>
 (asB t317).bind fun b318 =>
 bif !b318 then ((nilChk x9).bind fun t319 =>
 (fA t319 1).bind fun t320 =>
 (ldO false 1 q313.2 t320).bind fun t321 =>
 (castI .i64 t321).bind fun n322 =>
 (lenO x2).bind fun t323 =>
 (castI .i64 t323).bind fun n324 =>
 (some (n322 == n324)).bind fun b325 =>
 ((stO false 10 (15 :: 0 :: 1 :: 1 :: 1 :: 1 :: 1 :: 1 :: 1 :: 0 :: σ) q313.2 x6 t314).map fun h => (udf, h)).bind fun q326 =>
 need ((some (.p (.bool (n322 == n324))) : Option V) = some (.p (.bool (n322 == n324)))) (
 need (ldO false 1 q326.2 t320 = some (.p (.int .i64 n322))) (
 ((ldO true 10 q326.2 x6).bind fun t327 => ((some []).map ((.p (.bool b325)) :: ·)).map (t327 :: ·)).bind fun t328 => fin false σ q326.2 t328))) else ((some false).bind fun b329 =>
 ((stO false 10 (15 :: 0 :: 1 :: 1 :: 1 :: 1 :: 1 :: 1 :: 1 :: 0 :: σ) q313.2 x6 t314).map fun h => (udf, h)).bind fun q330 =>
 ((ldO true 10 q330.2 x6).bind fun t331 => ((some []).map ((.p (.bool b329)) :: ·)).map (t331 :: ·)).bind fun t332 => fin false σ q330.2 t332) := by kernel_rfl
theorem rtcp_parse_r1 (rec : CallF) (loop : LoopV) (σ : Stamp) (x2 : V) (x6 : V) (x8 : V) (x9 : V) (h : H) : cvRound G rec loop rtcp_parse_c1 rtcp_parse_l1 σ (envL [(2, x2), (6, x6), (8, x8), (9, x9)]) h =
 (callO rec 132 (1 :: 0 :: 0 :: 0 :: σ) [x9] h (some 73)).bind fun q333 =>
 (asB q333.1).bind fun b334 =>
 bif b334 then (
 (fA x8 4).bind fun t335 =>
 (ldO false 1 q333.2 t335).bind fun t336 =>
 (callO rec 130 (3 :: 0 :: 1 :: 0 :: σ) [x9, (.p (.int .i64 4))] q333.2 (some 77)).bind fun q337 =>
 (castI .u64 q337.1).bind fun n338 =>
 need (ldO false 1 q337.2 t335 = some t336) (
 (buildSliceV Try.prog 29 1 [(0, (.p (.int .u32 (IntKind.wrap .u32 n338))))]).bind fun t339 =>
 (apO true 1 4 (6 :: 0 :: 1 :: 0 :: σ) 80 q337.2 t336 t339).bind fun q340 =>
 (fA x8 4).bind fun t341 =>
 ((stO true 1 (8 :: 0 :: 1 :: 0 :: σ) q340.2 t341 q340.1).map fun h => (udf, h)).bind fun q342 =>
 (fA x8 5).bind fun t343 =>
 (ldO false 1 q342.2 t343).bind fun t344 =>
 (callO rec 130 (3 :: 0 :: 1 :: 1 :: 0 :: σ) [x9, (.p (.int .i64 1))] q342.2 (some 85)).bind fun q345 =>
 (castI .u64 q345.1).bind fun n346 =>
 need (ldO false 1 q345.2 t343 = some t344) (
 (buildSliceV Try.prog 23 1 [(0, (.p (.int .i64 (IntKind.wrap .i64 n346))))]).bind fun t347 =>
 (apO true 1 8 (6 :: 0 :: 1 :: 1 :: 0 :: σ) 88 q345.2 t344 t347).bind fun q348 =>
 (fA x8 5).bind fun t349 =>
 ((stO true 1 (8 :: 0 :: 1 :: 1 :: 0 :: σ) q348.2 t349 q348.1).map fun h => (udf, h)).bind fun q350 =>
 (callO rec 131 (1 :: 1 :: 1 :: 1 :: 0 :: σ) [x9, (.p (.int .i64 3))] q350.2 (some 91)).bind fun q351 =>
 loop rtcp_parse_c1 rtcp_parse_l1 (1 :: σ) (envL [(2, x2), (6, x6), (8, x8), (9, x9)]) q351.2)))
 else (
 some ((.exit 3), (envL [(2, x2), (6, x6), (8, x8), (9, x9)]), q333.2)) := by kernel_rfl
theorem rtcp_parse_a1_3 (rec : CallF) (loop : LoopV) (σ : Stamp) (x2 : V) (x6 : V) (x8 : V) (x9 : V) (h : H) : rtcp_parse_k1 rec loop σ (.exit 3) (envL [(2, x2), (6, x6), (8, x8), (9, x9)]) h =
 (nilChk x9).bind fun t352 =>
 (fA t352 2).bind fun t353 =>
 (ldO false 1 h t353).bind fun t354 =>
 (asB t354).bind fun b355 =>
 (bif b355 then (some true) else ((fA x8 4).bind fun t356 =>
 (ldO false 1 h t356).bind fun t357 =>
 (lenO t357).bind fun t358 =>
 (castI .i64 t358).bind fun n359 =>
 some (decide (n359 < 1)))).bind fun b360 =>
 (bif b360 then (some true) else ((fA x8 4).bind fun t361 =>
 (ldO false 1 h t361).bind fun t362 =>
 (lenO t362).bind fun t363 =>
 (castI .i64 t363).bind fun n364 =>
 some (decide (n364 > 16)))).bind fun b365 =>
 (nilChk x9).bind fun t366 =>
 (fA t366 2).bind fun t367 =>
 ((stO true 1 (19 :: 1 :: 1 :: 1 :: 1 :: 1 :: 0 :: 1 :: 1 :: 1 :: 1 :: 1 :: 1 :: 0 :: σ) h t367 (.p (.bool b365))).map fun h => (udf, h)).bind fun q368 =>
 (ldO true 10 q368.2 x8).bind fun t369 =>
 (nilChk x9).bind fun t370 =>
 (fA t370 2).bind fun t371 =>
 (ldO false 1 q368.2 t371).bind fun t372 =>
 (asB t372).bind fun b373 =>
 bif !b373 then ((nilChk x9).bind fun t374 =>
 (fA t374 1).bind fun t375 =>
 (ldO false 1 q368.2 t375).bind fun t376 =>
 (castI .i64 t376).bind fun n377 =>
 (lenO x2).bind fun t378 =>
 (castI .i64 t378).bind fun n379 =>
 (some (n377 == n379)).bind fun b380 =>
 ((stO false 10 (15 :: 0 :: 1 :: 1 :: 1 :: 1 :: 1 :: 1 :: 1 :: 0 :: σ) q368.2 x6 t369).map fun h => (udf, h)).bind fun q381 =>
 need ((some (.p (.bool (n377 == n379))) : Option V) = some (.p (.bool (n377 == n379)))) (
 need (ldO false 1 q381.2 t375 = some (.p (.int .i64 n377))) (
 ((ldO true 10 q381.2 x6).bind fun t382 => ((some []).map ((.p (.bool b380)) :: ·)).map (t382 :: ·)).bind fun t383 => fin false σ q381.2 t383))) else ((some false).bind fun b384 =>
 ((stO false 10 (15 :: 0 :: 1 :: 1 :: 1 :: 1 :: 1 :: 1 :: 1 :: 0 :: σ) q368.2 x6 t369).map fun h => (udf, h)).bind fun q385 =>
 ((ldO true 10 q385.2 x6).bind fun t386 => ((some []).map ((.p (.bool b384)) :: ·)).map (t386 :: ·)).bind fun t387 => fin false σ q385.2 t387) := by kernel_rfl
end Go.Ev
/- Equations, printed by tracer2.py. -/
namespace Go.Ev
open Go.Proofs
set_option linter.unusedVariables false
set_option maxRecDepth 100000
-- 132 (*limelight/rtcp.reader).left
theorem rtcp_reader_left_entry (rec : CallF) (loop : LoopV) (σ : Stamp) (x0 : V) (h : H) : cvBody G rec loop 132 σ [x0] h =
 (nilChk x0).bind fun t1 =>
 (fA t1 2).bind fun t2 =>
 (ldO false 1 (List.replicate 20 [] :: h) t2).bind fun t3 =>
 (asB t3).bind fun b4 =>
 (bif !b4 then ((nilChk x0).bind fun t5 =>
 (fA t5 1).bind fun t6 =>
 (ldO false 1 (List.replicate 20 [] :: h) t6).bind fun t7 =>
 (castI .i64 t7).bind fun n8 =>
 (nilChk x0).bind fun t9 =>
 (fA t9 0).bind fun t10 =>
 (ldO false 1 (List.replicate 20 [] :: h) t10).bind fun t11 =>
 (lenO t11).bind fun t12 =>
 (castI .i64 t12).bind fun n13 =>
 some (decide (n8 < n13))) else (some false)).bind fun b14 =>
 fin false σ (List.replicate 20 [] :: h) [(.p (.bool b14))] := by kernel_rfl
end Go.Ev
/- Lifted by lift.py: rtcp_reader_left as a plain function. -/
namespace Go.Ev
open Go.Proofs
set_option linter.unusedVariables false
set_option linter.unusedSimpArgs false
set_option maxRecDepth 100000
def p_rtcp_reader_left (x0 : T_rtcp_reader) : Option (Bool) :=
(bif !x0.bad then (some (decide (x0.f_at < ((x0.b.length : Int))))) else (some false)).bind fun b1 =>
some (b1)
theorem rtcp_reader_left_ok {h : H} {σ : Stamp} (x0 : T_rtcp_reader) {u0_0 : V} (hu0_0 : SlF (dI .u8) x0.b u0_0) {l0 : Loc} {o0 : Nat} (ha0 : AtC h l0 o0 (List.map C.v [u0_0, (.p (.int .i64 x0.f_at)), (.p (.bool x0.bad))])) : Sim (p_rtcp_reader_left x0) (ev G X0 132 σ [(.ref l0 o0)] h) (fun r s => s = ([.v (.p (.bool r))], h)) := by
  refine Sim.ev rfl (Sim.ext (rtcp_reader_left_entry _ _ _ _ _) ?_)
  rw [p_rtcp_reader_left]
  have S0 : Fm 20 h [] [] [] (List.replicate 20 [] :: h) := Fm.start0
  refine Sim.op (nilChk_ref _ _) ?_
  refine Sim.op (fA_ref _ _ _) ?_
  refine Sim.op ((S0.lowA ha0).ld (j := 2) rfl) ?_
  refine Sim.op (asB_p _) ?_
  refine Sim.ch (P := fun r y => r = y) ?_ (fun b1 y2 h3 h4 => ?_)
  · refine Sim.cd (fun hc => ?_) (fun hc => ?_)
    · refine Sim.op (nilChk_ref _ _) ?_
      refine Sim.op (fA_ref _ _ _) ?_
      refine Sim.op ((S0.lowA ha0).ld (j := 1) rfl) ?_
      refine Sim.op (castI_p _ _) ?_
      refine Sim.op (nilChk_ref _ _) ?_
      refine Sim.op (fA_ref _ _ _) ?_
      refine Sim.op ((S0.lowA ha0).ld (j := 0) rfl) ?_
      refine Sim.op ((hu0_0.h (List.replicate 20 [] :: h)).len) ?_
      refine Sim.op (castI_p _ _) ?_
      exact Sim.ret rfl rfl
    · exact Sim.ret rfl rfl
  subst h4
  exact Sim.fin (S0.finN (lv_cons (still_bool _).lv lv_nil)) rfl
end Go.Ev
/- Equations, printed by tracer2.py. -/
namespace Go.Ev
open Go.Proofs
set_option linter.unusedVariables false
set_option maxRecDepth 100000
-- 131 (*limelight/rtcp.reader).nought
theorem rtcp_reader_nought_entry (rec : CallF) (loop : LoopV) (σ : Stamp) (x0 : V) (x1 : Int) (h : H) : cvBody G rec loop 131 σ [x0, (.p (.int .i64 x1))] h =
 (callO rec 130 (3 :: 0 :: σ) [x0, (.p (.int .i64 x1))] (List.replicate 17 [] :: h) (some 7)).bind fun q1 =>
 (castI .u64 q1.1).bind fun n2 =>
 (bif n2 != 0 then (some true) else ((nilChk x0).bind fun t3 =>
 (fA t3 2).bind fun t4 =>
 (ldO false 1 q1.2 t4).bind fun t5 =>
 (asB t5).bind fun b6 =>
 some b6)).bind fun b7 =>
 (nilChk x0).bind fun t8 =>
 (fA t8 2).bind fun t9 =>
 ((stO true 1 (13 :: 0 :: σ) q1.2 t9 (.p (.bool b7))).map fun h => (udf, h)).bind fun q10 =>
 fin false σ q10.2 [] := by kernel_rfl
end Go.Ev
/- Equations, printed by tracer2.py. -/
namespace Go.Ev
open Go.Proofs
set_option linter.unusedVariables false
set_option maxRecDepth 100000
-- 130 (*limelight/rtcp.reader).num
theorem rtcp_reader_num_entry (rec : CallF) (loop : LoopV) (σ : Stamp) (x0 : V) (x1 : Int) (h : H) : cvBody G rec loop 130 σ [x0, (.p (.int .i64 x1))] h =
 (nilChk x0).bind fun t1 =>
 (fA t1 0).bind fun t2 =>
 (ldO false 1 (List.replicate 40 [] :: h) t2).bind fun t3 =>
 (nilChk x0).bind fun t4 =>
 (fA t4 1).bind fun t5 =>
 (ldO false 1 (List.replicate 40 [] :: h) t5).bind fun t6 =>
 (castI .i64 t6).bind fun n7 =>
 (callO rec 96 (9 :: 0 :: 1 :: 0 :: σ) [t3, (.p (.int .i64 n7)), (.p (.int .i64 x1))] (List.replicate 40 [] :: h) (some 17)).bind fun q8 =>
 (extV q8.1 0).bind fun t9 =>
 (castI .u64 t9).bind fun n10 =>
 (extV q8.1 1).bind fun t11 =>
 (asB t11).bind fun b12 =>
 (nilChk x0).bind fun t13 =>
 (fA t13 2).bind fun t14 =>
 (ldO false 1 q8.2 t14).bind fun t15 =>
 (asB t15).bind fun b16 =>
 (bif b16 then (some true) else (some (!b12))).bind fun b17 =>
 (nilChk x0).bind fun t18 =>
 (fA t18 2).bind fun t19 =>
 ((stO true 1 (11 :: 0 :: 1 :: 1 :: 0 :: σ) q8.2 t19 (.p (.bool b17))).map fun h => (udf, h)).bind fun q20 =>
 (nilChk x0).bind fun t21 =>
 (fA t21 1).bind fun t22 =>
 (ldO false 1 q20.2 t22).bind fun t23 =>
 (castI .i64 t23).bind fun n24 =>
 (nilChk x0).bind fun t25 =>
 (fA t25 1).bind fun t26 =>
 ((stO true 1 (8 :: 0 :: 1 :: 1 :: 1 :: 0 :: σ) q20.2 t26 (.p (.int .i64 (IntKind.wrap .i64 (n24 + x1))))).map fun h => (udf, h)).bind fun q27 =>
 fin false σ q27.2 [(.p (.int .u64 n10))] := by kernel_rfl
end Go.Ev
/- Lifted by lift.py: rtcp_reader_num as a plain function. -/
namespace Go.Ev
open Go.Proofs
set_option linter.unusedVariables false
set_option linter.unusedSimpArgs false
set_option maxRecDepth 100000
def p_rtcp_reader_num (k : Nat) (x0 : T_rtcp_reader) (x1 : Int) : Option (Int × T_rtcp_reader) :=
(p_octet_Get k x0.b x0.f_at x1).bind fun r1 =>
(bif x0.bad then (some true) else (some (!r1.2))).bind fun b6 =>
some (r1.1, (⟨x0.b, (IntKind.wrap .i64 (x0.f_at + x1)), b6⟩ : T_rtcp_reader))
theorem rtcp_reader_num_ok (k : Nat) {h : H} {σ : Stamp} (x0 : T_rtcp_reader) {u0_0 : V} (hu0_0 : SlF (dI .u8) x0.b u0_0) {l0 : Loc} {o0 : Nat} (ha0 : AtC h l0 o0 (List.map C.v [u0_0, (.p (.int .i64 x0.f_at)), (.p (.bool x0.bad))])) (x1 : Int) : Sim (p_rtcp_reader_num k x0 x1) (ev G X0 130 σ [(.ref l0 o0), (.p (.int .i64 x1))] h) (fun r s => ∃ (vb0_0 : V), SlF (dI .u8) r.2.b vb0_0 ∧ s = ([.v (.p (.int .u64 r.1))], pts h [⟨l0, o0, [.v vb0_0, .v (.p (.int .i64 r.2.f_at)), .v (.p (.bool r.2.bad))]⟩])) := by
  refine Sim.ev rfl (Sim.ext (rtcp_reader_num_entry _ _ _ _ _ _) ?_)
  rw [p_rtcp_reader_num]
  have S0 : Fm 40 h [⟨l0, o0, List.map C.v [u0_0, (.p (.int .i64 x0.f_at)), (.p (.bool x0.bad))]⟩] [] [] (List.replicate 40 [] :: h) := Fm.start1 ha0
  refine Sim.op (nilChk_ref _ _) ?_
  refine Sim.op (fA_ref _ _ _) ?_
  refine Sim.op ((S0.atB (i := 0) rfl).ld (j := 0) rfl) ?_
  refine Sim.op (nilChk_ref _ _) ?_
  refine Sim.op (fA_ref _ _ _) ?_
  refine Sim.op ((S0.atB (i := 0) rfl).ld (j := 1) rfl) ?_
  refine Sim.op (castI_p _ _) ?_
  refine Sim.call (octet_Get_ok k x0.b (hu0_0.h (List.replicate 40 [] :: h)) x0.f_at x1) fun r1 cs2 H3 h4 q5 => ?_
  cases q5
  refine Sim.op (rfl) ?_
  refine Sim.op (castI_p _ _) ?_
  refine Sim.op (rfl) ?_
  refine Sim.op (asB_p _) ?_
  refine Sim.op (nilChk_ref _ _) ?_
  refine Sim.op (fA_ref _ _ _) ?_
  refine Sim.op ((S0.atB (i := 0) rfl).ld (j := 2) rfl) ?_
  refine Sim.op (asB_p _) ?_
  refine Sim.ch (P := fun r y => r = y) ?_ (fun b6 y7 h8 h9 => ?_)
  · refine Sim.cd (fun hc => ?_) (fun hc => ?_)
    · exact Sim.ret rfl rfl
    · exact Sim.ret rfl rfl
  subst h9
  refine Sim.op (nilChk_ref _ _) ?_
  refine Sim.op (fA_ref _ _ _) ?_
  obtain ⟨H10, e11, S12⟩ := S0.stB (i := 0) (j := 2) (own := true) (σ := (11 :: 0 :: 1 :: 1 :: 0 :: σ)) (x := (.p (.bool b6))) rfl (still_bool _) rfl
  refine Sim.op (st_map e11) ?_
  refine Sim.op (nilChk_ref _ _) ?_
  refine Sim.op (fA_ref _ _ _) ?_
  refine Sim.op ((S12.atB (i := 0) rfl).ld (j := 1) rfl) ?_
  refine Sim.op (castI_p _ _) ?_
  refine Sim.op (nilChk_ref _ _) ?_
  refine Sim.op (fA_ref _ _ _) ?_
  obtain ⟨H13, e14, S15⟩ := S12.stB (i := 0) (j := 1) (own := true) (σ := (8 :: 0 :: 1 :: 1 :: 1 :: 0 :: σ)) (x := (.p (.int .i64 (IntKind.wrap .i64 (x0.f_at + x1))))) rfl (still_int _ _) rfl
  refine Sim.op (st_map e14) ?_
  exact Sim.fin (S15.finN (lv_cons (still_int _ _).lv lv_nil)) ⟨u0_0, hu0_0, rfl⟩
end Go.Ev
/- Lifted by lift.py: rtcp_reader_nought as a plain function. -/
namespace Go.Ev
open Go.Proofs
set_option linter.unusedVariables false
set_option linter.unusedSimpArgs false
set_option maxRecDepth 100000
def p_rtcp_reader_nought (k : Nat) (x0 : T_rtcp_reader) (x1 : Int) : Option (T_rtcp_reader) :=
(p_rtcp_reader_num k (⟨x0.b, x0.f_at, x0.bad⟩ : T_rtcp_reader) x1).bind fun r1 =>
(bif r1.1 != 0 then (some true) else (some r1.2.bad)).bind fun b9 =>
some ((⟨r1.2.b, r1.2.f_at, b9⟩ : T_rtcp_reader))
theorem rtcp_reader_nought_ok (k : Nat) {h : H} {σ : Stamp} (x0 : T_rtcp_reader) {u0_0 : V} (hu0_0 : SlF (dI .u8) x0.b u0_0) {l0 : Loc} {o0 : Nat} (ha0 : AtC h l0 o0 (List.map C.v [u0_0, (.p (.int .i64 x0.f_at)), (.p (.bool x0.bad))])) (x1 : Int) : Sim (p_rtcp_reader_nought k x0 x1) (ev G X0 131 σ [(.ref l0 o0), (.p (.int .i64 x1))] h) (fun r s => ∃ (vb0_0 : V), SlF (dI .u8) r.b vb0_0 ∧ s = ([], pts h [⟨l0, o0, [.v vb0_0, .v (.p (.int .i64 r.f_at)), .v (.p (.bool r.bad))]⟩])) := by
  refine Sim.ev rfl (Sim.ext (rtcp_reader_nought_entry _ _ _ _ _ _) ?_)
  rw [p_rtcp_reader_nought]
  have S0 : Fm 17 h [⟨l0, o0, List.map C.v [u0_0, (.p (.int .i64 x0.f_at)), (.p (.bool x0.bad))]⟩] [] [] (List.replicate 17 [] :: h) := Fm.start1 ha0
  refine Sim.call (rtcp_reader_num_ok k (⟨x0.b, x0.f_at, x0.bad⟩ : T_rtcp_reader) hu0_0 (S0.atB (i := 0) rfl) x1) fun r1 cs2 H3 h4 q5 => ?_
  obtain ⟨v6, h7, q5⟩ := q5
  cases q5
  have S8 := S0.setB (i := 0) (cs := List.map C.v [v6, (.p (.int .i64 r1.2.f_at)), (.p (.bool r1.2.bad))]) rfl rfl
  refine Sim.op (castI_p _ _) ?_
  refine Sim.ch (P := fun r y => r = y) ?_ (fun b9 y10 h11 h12 => ?_)
  · refine Sim.cd (fun hc => ?_) (fun hc => ?_)
    · exact Sim.ret rfl rfl
    · refine Sim.op (nilChk_ref _ _) ?_
      refine Sim.op (fA_ref _ _ _) ?_
      refine Sim.op ((S8.atB (i := 0) rfl).ld (j := 2) rfl) ?_
      refine Sim.op (asB_p _) ?_
      exact Sim.ret rfl rfl
  subst h12
  refine Sim.op (nilChk_ref _ _) ?_
  refine Sim.op (fA_ref _ _ _) ?_
  obtain ⟨H13, e14, S15⟩ := S8.stB (i := 0) (j := 2) (own := true) (σ := (13 :: 0 :: σ)) (x := (.p (.bool b9))) rfl (still_bool _) rfl
  refine Sim.op (st_map e14) ?_
  exact Sim.fin (S15.finN lv_nil) ⟨v6, h7, rfl⟩
end Go.Ev
/- Equations, printed by tracer2.py. -/
namespace Go.Ev
open Go.Proofs
set_option linter.unusedVariables false
set_option maxRecDepth 100000
-- 134 (*limelight/rtcp.reader).remb
noncomputable def rtcp_reader_remb_c0 : Code := (codeAt (bodyOf Try.f134) [1, 1, 1, 1, 0, 0, 0])
def rtcp_reader_remb_l0 : Lv := ⟨19, 0, [(0, 19)]⟩
noncomputable def rtcp_reader_remb_k0 (rec : CallF) (loop : LoopV) (σ : Stamp) : Exit → Env → H → Option (List C × H) := (kBlock 0 (kSeq G rec loop (codeAt (bodyOf Try.f134) [1, 1, 1, 1, 1]) ⟨0, 0, []⟩ (1 :: 1 :: 1 :: 1 :: 0 :: σ) (finC G false Try.f134 (1 :: σ))))
theorem rtcp_reader_remb_entry (rec : CallF) (loop : LoopV) (σ : Stamp) (x0 : V) (x1 : V) (h : H) : cvBody G rec loop 134 σ [x0, x1] h =
 (iStr ((⟨#[82, 69, 77, 66]⟩ : ByteArray)) 0).bind fun t1 =>
 (castI .u8 t1).bind fun n2 =>
 (iStr ((⟨#[82, 69, 77, 66]⟩ : ByteArray)) 1).bind fun t3 =>
 (castI .u8 t3).bind fun n4 =>
 (iStr ((⟨#[82, 69, 77, 66]⟩ : ByteArray)) 2).bind fun t5 =>
 (castI .u8 t5).bind fun n6 =>
 (iStr ((⟨#[82, 69, 77, 66]⟩ : ByteArray)) 3).bind fun t7 =>
 (castI .u8 t7).bind fun n8 =>
 (callO rec 130 (2 :: 0 :: 0 :: σ) [x0, (.p (.int .i64 4))] (List.replicate 77 [] :: h) (some 8)).bind fun q9 =>
 (castI .u64 q9.1).bind fun n10 =>
 need ((some (.p (.int .u64 (IntKind.wrap .u64 n8))) : Option V) = some (.p (.int .u64 (IntKind.wrap .u64 n8)))) (
 need ((some (.p (.int .u64 (IntKind.wrap .u64 n6))) : Option V) = some (.p (.int .u64 (IntKind.wrap .u64 n6)))) (
 need ((some (.p (.int .u64 (IntKind.wrap .u64 n4))) : Option V) = some (.p (.int .u64 (IntKind.wrap .u64 n4)))) (
 need ((some (.p (.int .u64 (IntKind.wrap .u64 n2))) : Option V) = some (.p (.int .u64 (IntKind.wrap .u64 n2)))) (
 (bif n10 != (intBits .or .u64 (intBits .or .u64 (intBits .or .u64 (IntKind.wrap .u64 ((IntKind.wrap .u64 n2) * 2 ^ 24)) (IntKind.wrap .u64 ((IntKind.wrap .u64 n4) * 2 ^ 16))) (IntKind.wrap .u64 ((IntKind.wrap .u64 n6) * 2 ^ 8))) (IntKind.wrap .u64 n8)) then (some true) else ((nilChk x0).bind fun t11 =>
 (fA t11 2).bind fun t12 =>
 (ldO false 1 q9.2 t12).bind fun t13 =>
 (asB t13).bind fun b14 =>
 some b14)).bind fun b15 =>
 (nilChk x0).bind fun t16 =>
 (fA t16 2).bind fun t17 =>
 ((stO true 1 (26 :: 0 :: 0 :: σ) q9.2 t17 (.p (.bool b15))).map fun h => (udf, h)).bind fun q18 =>
 (callO rec 130 (1 :: 0 :: 1 :: 0 :: σ) [x0, (.p (.int .i64 1))] q18.2 (some 33)).bind fun q19 =>
 (castI .u64 q19.1).bind fun n20 =>
 (callO rec 130 (1 :: 0 :: 1 :: 1 :: 0 :: σ) [x0, (.p (.int .i64 3))] q19.2 (some 35)).bind fun q21 =>
 (castI .u64 q21.1).bind fun n22 =>
 (callO rec 151 (3 :: 0 :: 1 :: 1 :: 1 :: 0 :: σ) [x0, (.p (.int .u64 n22)), (.p (.int .i64 18))] q21.2 (some 39)).bind fun q23 =>
 (castI .u64 q23.1).bind fun n24 =>
 (nilChk x1).bind fun t25 =>
 (fA t25 6).bind fun t26 =>
 ((stO true 1 (6 :: 0 :: 1 :: 1 :: 1 :: 0 :: σ) q23.2 t26 (.p (.int .u64 n24))).map fun h => (udf, h)).bind fun q27 =>
 (loop rtcp_reader_remb_c0 rtcp_reader_remb_l0 (0 :: 1 :: 1 :: 1 :: 1 :: 0 :: σ) (envL [(0, x0), (1, x1), (4, (.p (.int .u64 n20)))]) q27.2).bind fun r28 => rtcp_reader_remb_k0 rec loop σ r28.1 r28.2.1 r28.2.2)))) := by kernel_rfl
theorem rtcp_reader_remb_r0 (rec : CallF) (loop : LoopV) (σ : Stamp) (x0 : V) (x1 : V) (x4 : Int) (h : H) : cvRound G rec loop rtcp_reader_remb_c0 rtcp_reader_remb_l0 σ (envL [(0, x0), (1, x1), (4, (.p (.int .u64 x4)))]) h =
 (callO rec 132 (1 :: 0 :: 0 :: 0 :: σ) [x0] h (some 43)).bind fun q29 =>
 (asB q29.1).bind fun b30 =>
 bif b30 then (
 (nilChk x1).bind fun t31 =>
 (fA t31 4).bind fun t32 =>
 (ldO false 1 q29.2 t32).bind fun t33 =>
 (callO rec 130 (6 :: 1 :: 0 :: σ) [x0, (.p (.int .i64 4))] q29.2 (some 50)).bind fun q34 =>
 (castI .u64 q34.1).bind fun n35 =>
 need (ldO false 1 q34.2 t32 = some t33) (
 (buildSliceV Try.prog 29 1 [(0, (.p (.int .u32 (IntKind.wrap .u32 n35))))]).bind fun t36 =>
 (apO true 1 4 (9 :: 1 :: 0 :: σ) 53 q34.2 t33 t36).bind fun q37 =>
 (nilChk x1).bind fun t38 =>
 (fA t38 4).bind fun t39 =>
 ((stO true 1 (12 :: 1 :: 0 :: σ) q37.2 t39 q37.1).map fun h => (udf, h)).bind fun q40 =>
 loop rtcp_reader_remb_c0 rtcp_reader_remb_l0 (1 :: σ) (envL [(0, x0), (1, x1), (4, (.p (.int .u64 x4)))]) q40.2))
 else (
 some ((.exit 0), (envL [(0, x0), (1, x1), (4, (.p (.int .u64 x4)))]), q29.2)) := by kernel_rfl
theorem rtcp_reader_remb_a0_0 (rec : CallF) (loop : LoopV) (σ : Stamp) (x0 : V) (x1 : V) (x4 : Int) (h : H) : rtcp_reader_remb_k0 rec loop σ (.exit 0) (envL [(0, x0), (1, x1), (4, (.p (.int .u64 x4)))]) h =
 (nilChk x0).bind fun t41 =>
 (fA t41 2).bind fun t42 =>
 (ldO false 1 h t42).bind fun t43 =>
 (asB t43).bind fun b44 =>
 (bif b44 then (some true) else ((nilChk x1).bind fun t45 =>
 (fA t45 4).bind fun t46 =>
 (ldO false 1 h t46).bind fun t47 =>
 (lenO t47).bind fun t48 =>
 (castI .i64 t48).bind fun n49 =>
 some (x4 != (IntKind.wrap .u64 n49)))).bind fun b50 =>
 (bif b50 then (some true) else (some (decide (x4 > 16)))).bind fun b51 =>
 (nilChk x0).bind fun t52 =>
 (fA t52 2).bind fun t53 =>
 ((stO true 1 (21 :: 1 :: 1 :: 1 :: 1 :: 1 :: 0 :: σ) h t53 (.p (.bool b51))).map fun h => (udf, h)).bind fun q54 =>
 fin false σ q54.2 [] := by kernel_rfl
end Go.Ev
/- Lifted by lift.py: rtcp_reader_remb as a plain function. -/
namespace Go.Ev
open Go.Proofs
set_option linter.unusedVariables false
set_option linter.unusedSimpArgs false
set_option maxRecDepth 100000
def p_rtcp_reader_remb_l0 {β : Type} (k : Nat) (kE0 : Int → T_rtcp_reader → T_api_Report → Option β) (x4 : Int) (zp0 : T_rtcp_reader) (zp1 : T_api_Report) : Option β := match k with
| 0 => none
| k + 1 =>
(p_rtcp_reader_left (⟨zp0.b, zp0.f_at, zp0.bad⟩ : T_rtcp_reader)).bind fun r64 =>
bif r64 then (
(p_rtcp_reader_num k (⟨zp0.b, zp0.f_at, zp0.bad⟩ : T_rtcp_reader) 4).bind fun r69 =>
(ap 4 zp1.Abouts ([(IntKind.wrap .u32 r69.1)])).bind fun a78 =>
p_rtcp_reader_remb_l0 k kE0 x4 ((⟨r69.2.b, r69.2.f_at, r69.2.bad⟩ : T_rtcp_reader)) ((⟨zp1.Kind, zp1.From, zp1.About, zp1.Tuples, a78, zp1.Numbers, zp1.Rate, zp1.f_Type, zp1.Count, zp1.Body⟩ : T_api_Report)))
else (
kE0 x4 ((⟨zp0.b, zp0.f_at, zp0.bad⟩ : T_rtcp_reader)) ((⟨zp1.Kind, zp1.From, zp1.About, zp1.Tuples, zp1.Abouts, zp1.Numbers, zp1.Rate, zp1.f_Type, zp1.Count, zp1.Body⟩ : T_api_Report)))
def p_rtcp_reader_remb (k : Nat) (x0 : T_rtcp_reader) (x1 : T_api_Report) : Option (T_rtcp_reader × T_api_Report) :=
(ixS ((⟨#[82, 69, 77, 66]⟩ : ByteArray)) 0).bind fun n1 =>
(ixS ((⟨#[82, 69, 77, 66]⟩ : ByteArray)) 1).bind fun n3 =>
(ixS ((⟨#[82, 69, 77, 66]⟩ : ByteArray)) 2).bind fun n5 =>
(ixS ((⟨#[82, 69, 77, 66]⟩ : ByteArray)) 3).bind fun n7 =>
(p_rtcp_reader_num k (⟨x0.b, x0.f_at, x0.bad⟩ : T_rtcp_reader) 4).bind fun r9 =>
(bif r9.1 != (intBits .or .u64 (intBits .or .u64 (intBits .or .u64 (IntKind.wrap .u64 ((IntKind.wrap .u64 n1) * 2 ^ 24)) (IntKind.wrap .u64 ((IntKind.wrap .u64 n3) * 2 ^ 16))) (IntKind.wrap .u64 ((IntKind.wrap .u64 n5) * 2 ^ 8))) (IntKind.wrap .u64 n7)) then (some true) else (some r9.2.bad)).bind fun b17 =>
(p_rtcp_reader_num k (⟨r9.2.b, r9.2.f_at, b17⟩ : T_rtcp_reader) 1).bind fun r24 =>
(p_rtcp_reader_num k (⟨r24.2.b, r24.2.f_at, r24.2.bad⟩ : T_rtcp_reader) 3).bind fun r32 =>
(p_rtcp_reader_rate (⟨r32.2.b, r32.2.f_at, r32.2.bad⟩ : T_rtcp_reader) r32.1 18).bind fun r40 =>
p_rtcp_reader_remb_l0 k (fun r105_4 zp0 zp1 =>
(bif zp0.bad then (some true) else (some (r105_4 != (IntKind.wrap .u64 ((zp1.Abouts.length : Int)))))).bind fun b119 =>
(bif b119 then (some true) else (some (decide (r105_4 > 16)))).bind fun b123 =>
some ((⟨zp0.b, zp0.f_at, b123⟩ : T_rtcp_reader), (⟨zp1.Kind, zp1.From, zp1.About, zp1.Tuples, zp1.Abouts, zp1.Numbers, zp1.Rate, zp1.f_Type, zp1.Count, zp1.Body⟩ : T_api_Report))) r24.1 ((⟨r40.2.b, r40.2.f_at, r40.2.bad⟩ : T_rtcp_reader)) ((⟨x1.Kind, x1.From, x1.About, x1.Tuples, x1.Abouts, x1.Numbers, r40.1, x1.f_Type, x1.Count, x1.Body⟩ : T_api_Report))
theorem rtcp_reader_remb_l0_ok {h : H} {l0 : Loc} {o0 : Nat} {l1 : Loc} {o1 : Nat} {β α : Type} {Q : β → α → Prop} {K : Exit × Env × H → Option α} {kE0 : Int → T_rtcp_reader → T_api_Report → Option β} (hE0 : ∀ (q4 : Int) (zp0 : T_rtcp_reader) (zp1 : T_api_Report) (v94 : V) (h95 : SlF (dI .u8) zp0.b v94) (v96 : V) (h97 : SlF dT_api_Tuple zp1.Tuples v96) (c98 : C) (h99 : SoC (dI .u32) zp1.Abouts c98) (h100 : ∀ v, c98 = .v v → v = .p (.slice none 0 0) ∨ v = .fz [] 0 1 true) (v101 : V) (h102 : SlF (dI .i64) zp1.Numbers v101) (v103 : V) (h104 : SlF (dI .u8) zp1.Body v103) (H92 : Go.Ev.H) (_ : Fm 77 h [⟨l0, o0, List.map C.v [v94, (.p (.int .i64 zp0.f_at)), (.p (.bool zp0.bad))]⟩, ⟨l1, o1, [.v (.p (.int .i64 zp1.Kind)), .v (.p (.int .u32 zp1.From)), .v (.p (.int .u32 zp1.About)), .v v96, c98, .v v101, .v (.p (.int .u64 zp1.Rate)), .v (.p (.int .i64 zp1.f_Type)), .v (.p (.int .i64 zp1.Count)), .v v103]⟩] [] [] H92), Sim (kE0 q4 zp0 zp1) (K ((.exit 0), (envL [(0, (.ref l0 o0)), (1, (.ref l1 o1)), (4, (.p (.int .u64 q4)))]), H92)) Q) (k : Nat) : ∀ (x4 : Int) (zp0 : T_rtcp_reader) (zp1 : T_api_Report) (v53 : V) (h54 : SlF (dI .u8) zp0.b v53) (v55 : V) (h56 : SlF dT_api_Tuple zp1.Tuples v55) (c57 : C) (h58 : SoC (dI .u32) zp1.Abouts c57) (h59 : ∀ v, c57 = .v v → v = .p (.slice none 0 0) ∨ v = .fz [] 0 1 true) (v60 : V) (h61 : SlF (dI .i64) zp1.Numbers v60) (v62 : V) (h63 : SlF (dI .u8) zp1.Body v62) (H51 : Go.Ev.H) (_ : Fm 77 h [⟨l0, o0, List.map C.v [v53, (.p (.int .i64 zp0.f_at)), (.p (.bool zp0.bad))]⟩, ⟨l1, o1, [.v (.p (.int .i64 zp1.Kind)), .v (.p (.int .u32 zp1.From)), .v (.p (.int .u32 zp1.About)), .v v55, c57, .v v60, .v (.p (.int .u64 zp1.Rate)), .v (.p (.int .i64 zp1.f_Type)), .v (.p (.int .i64 zp1.Count)), .v v62]⟩] [] [] H51) {σ : Stamp}, Sim (p_rtcp_reader_remb_l0 k kE0 x4 zp0 zp1) ((cvL G X0 rtcp_reader_remb_c0 rtcp_reader_remb_l0 σ (envL [(0, (.ref l0 o0)), (1, (.ref l1 o1)), (4, (.p (.int .u64 x4)))]) H51).bind K) Q := by
  induction k with
  | zero => intros; exact Sim.no
  | succ k ih =>
    intro x4 zp0 zp1 v53 h54 v55 h56 c57 h58 h59 v60 h61 v62 h63 H51 S52 σ
    rw [p_rtcp_reader_remb_l0]
    refine Sim.round (Sim.ext (rtcp_reader_remb_r0 _ _ _ _ _ _ _) ?_)
    refine Sim.call (rtcp_reader_left_ok (⟨zp0.b, zp0.f_at, zp0.bad⟩ : T_rtcp_reader) h54 (S52.atB (i := 0) rfl)) fun r64 cs65 H66 h67 q68 => ?_
    cases q68
    refine Sim.op (asB_p _) ?_
    refine Sim.cd (fun hc => ?_) (fun hc => ?_)
    · refine Sim.op (nilChk_ref _ _) ?_
      refine Sim.op (fA_ref _ _ _) ?_
      refine Sim.op (h58.ld (S52.atB (i := 1) rfl) (j := 4) rfl) ?_
      refine Sim.call (rtcp_reader_num_ok k (⟨zp0.b, zp0.f_at, zp0.bad⟩ : T_rtcp_reader) h54 (S52.atB (i := 0) rfl) 4) fun r69 cs70 H71 h72 q73 => ?_
      obtain ⟨v74, h75, q73⟩ := q73
      cases q73
      have S76 := S52.setB (i := 0) (cs := List.map C.v [v74, (.p (.int .i64 r69.2.f_at)), (.p (.bool r69.2.bad))]) rfl rfl
      refine Sim.op (castI_p _ _) ?_
      refine Sim.nd (h58.ld (S76.atB (i := 1) rfl) (j := 4) rfl) ?_
      have h77 : SlF (dI .u32) [(IntKind.wrap .u32 r69.1)] (.fz [(.p (.int .u32 (IntKind.wrap .u32 r69.1)))] 1 1 true) := SlF.lit (cs := [(.p (.int .u32 (IntKind.wrap .u32 r69.1)))]) (RL.cons (show (dI .u32).R (IntKind.wrap .u32 r69.1) [(.p (.int .u32 (IntKind.wrap .u32 r69.1)))] from rfl) RL.nil) rfl rfl true
      refine Sim.op (bldS (pt_cons rfl pt_nil) (by kernel_rfl : _ = some (.fz [(.p (.int .u32 (IntKind.wrap .u32 r69.1)))] 1 1 true))) ?_
      refine Sim.bd fun a78 h79 => ?_
      obtain ⟨v80, c81, H82, e83, S84⟩ := S76.appB (i := 1) (j := 4) (d := 53) (e := 1) (own := true) (σ := (9 :: 1 :: 0 :: σ)) rfl rfl h58 h59 (h77.h (ptC H51 l0 o0 (List.map C.v [v74, (.p (.int .i64 r69.2.f_at)), (.p (.bool r69.2.bad))]))).y h79 (by simp) rfl (by decide) (by decide) rfl
      refine Sim.op (e83) ?_
      refine Sim.op (nilChk_ref _ _) ?_
      refine Sim.op (fA_ref _ _ _) ?_
      obtain ⟨c89, H86, e87, h90, h91, S88⟩ := S84.mvB (i := 1) (j := 4) (k := 0) (σ := (12 :: 1 :: 0 :: σ)) rfl rfl rfl rfl rfl
      refine Sim.op (st_map e87) ?_
      exact ih x4 ((⟨r69.2.b, r69.2.f_at, r69.2.bad⟩ : T_rtcp_reader)) ((⟨zp1.Kind, zp1.From, zp1.About, zp1.Tuples, a78, zp1.Numbers, zp1.Rate, zp1.f_Type, zp1.Count, zp1.Body⟩ : T_api_Report)) v74 h75 v55 h56 c89 h90 h91 v60 h61 v62 h63 H86 (S88.wk2 all_nil all_nil)
    · exact hE0 x4 ((⟨zp0.b, zp0.f_at, zp0.bad⟩ : T_rtcp_reader)) ((⟨zp1.Kind, zp1.From, zp1.About, zp1.Tuples, zp1.Abouts, zp1.Numbers, zp1.Rate, zp1.f_Type, zp1.Count, zp1.Body⟩ : T_api_Report)) v53 h54 v55 h56 c57 h58 h59 v60 h61 v62 h63 H51 (S52.wk2 all_nil all_nil)
theorem rtcp_reader_remb_ok (k : Nat) {h : H} {σ : Stamp} (x0 : T_rtcp_reader) {u0_0 : V} (hu0_0 : SlF (dI .u8) x0.b u0_0) {l0 : Loc} {o0 : Nat} (ha0 : AtC h l0 o0 (List.map C.v [u0_0, (.p (.int .i64 x0.f_at)), (.p (.bool x0.bad))])) (x1 : T_api_Report) {u1_3 : V} (hu1_3 : SlF dT_api_Tuple x1.Tuples u1_3) {c1_4 : C} (hc1_4 : SoC (dI .u32) x1.Abouts c1_4) (hn1_4 : ∀ v, c1_4 = .v v → v = .p (.slice none 0 0) ∨ v = .fz [] 0 1 true) {u1_5 : V} (hu1_5 : SlF (dI .i64) x1.Numbers u1_5) {u1_9 : V} (hu1_9 : SlF (dI .u8) x1.Body u1_9) {l1 : Loc} {o1 : Nat} (ha1 : AtC h l1 o1 ([.v (.p (.int .i64 x1.Kind)), .v (.p (.int .u32 x1.From)), .v (.p (.int .u32 x1.About)), .v u1_3, c1_4, .v u1_5, .v (.p (.int .u64 x1.Rate)), .v (.p (.int .i64 x1.f_Type)), .v (.p (.int .i64 x1.Count)), .v u1_9])) (hk : l1.key ≠ l0.key) : Sim (p_rtcp_reader_remb k x0 x1) (ev G X0 134 σ [(.ref l0 o0), (.ref l1 o1)] h) (fun r s => ∃ (vb0_0 : V), ∃ (vb1_3 : V), ∃ (cb1_4 : C), ∃ (vb1_5 : V), ∃ (vb1_9 : V), SlF (dI .u8) r.1.b vb0_0 ∧ SlF dT_api_Tuple r.2.Tuples vb1_3 ∧ SoC (dI .u32) r.2.Abouts cb1_4 ∧ (∀ v, cb1_4 = .v v → v = .p (.slice none 0 0) ∨ v = .fz [] 0 1 true) ∧ SlF (dI .i64) r.2.Numbers vb1_5 ∧ SlF (dI .u8) r.2.Body vb1_9 ∧ s = ([], pts h [⟨l0, o0, [.v vb0_0, .v (.p (.int .i64 r.1.f_at)), .v (.p (.bool r.1.bad))]⟩, ⟨l1, o1, [.v (.p (.int .i64 r.2.Kind)), .v (.p (.int .u32 r.2.From)), .v (.p (.int .u32 r.2.About)), .v vb1_3, cb1_4, .v vb1_5, .v (.p (.int .u64 r.2.Rate)), .v (.p (.int .i64 r.2.f_Type)), .v (.p (.int .i64 r.2.Count)), .v vb1_9]⟩])) := by
  refine Sim.ev rfl (Sim.ext (rtcp_reader_remb_entry _ _ _ _ _ _) ?_)
  rw [p_rtcp_reader_remb]
  have S0 : Fm 77 h [⟨l0, o0, List.map C.v [u0_0, (.p (.int .i64 x0.f_at)), (.p (.bool x0.bad))]⟩, ⟨l1, o1, [.v (.p (.int .i64 x1.Kind)), .v (.p (.int .u32 x1.From)), .v (.p (.int .u32 x1.About)), .v u1_3, c1_4, .v u1_5, .v (.p (.int .u64 x1.Rate)), .v (.p (.int .i64 x1.f_Type)), .v (.p (.int .i64 x1.Count)), .v u1_9]⟩] [] [] (List.replicate 77 [] :: h) := Fm.start2 ha0 ha1 hk
  refine Sim.bd fun n1 h2 => ?_
  refine Sim.op (ixS_ok h2) ?_
  refine Sim.op (castI_p _ _) ?_
  refine Sim.bd fun n3 h4 => ?_
  refine Sim.op (ixS_ok h4) ?_
  refine Sim.op (castI_p _ _) ?_
  refine Sim.bd fun n5 h6 => ?_
  refine Sim.op (ixS_ok h6) ?_
  refine Sim.op (castI_p _ _) ?_
  refine Sim.bd fun n7 h8 => ?_
  refine Sim.op (ixS_ok h8) ?_
  refine Sim.op (castI_p _ _) ?_
  refine Sim.call (rtcp_reader_num_ok k (⟨x0.b, x0.f_at, x0.bad⟩ : T_rtcp_reader) hu0_0 (S0.atB (i := 0) rfl) 4) fun r9 cs10 H11 h12 q13 => ?_
  obtain ⟨v14, h15, q13⟩ := q13
  cases q13
  have S16 := S0.setB (i := 0) (cs := List.map C.v [v14, (.p (.int .i64 r9.2.f_at)), (.p (.bool r9.2.bad))]) rfl rfl
  refine Sim.op (castI_p _ _) ?_
  refine Sim.nd (rfl) ?_
  refine Sim.nd (rfl) ?_
  refine Sim.nd (rfl) ?_
  refine Sim.nd (rfl) ?_
  refine Sim.ch (P := fun r y => r = y) ?_ (fun b17 y18 h19 h20 => ?_)
  · refine Sim.cd (fun hc => ?_) (fun hc => ?_)
    · exact Sim.ret rfl rfl
    · refine Sim.op (nilChk_ref _ _) ?_
      refine Sim.op (fA_ref _ _ _) ?_
      refine Sim.op ((S16.atB (i := 0) rfl).ld (j := 2) rfl) ?_
      refine Sim.op (asB_p _) ?_
      exact Sim.ret rfl rfl
  subst h20
  refine Sim.op (nilChk_ref _ _) ?_
  refine Sim.op (fA_ref _ _ _) ?_
  obtain ⟨H21, e22, S23⟩ := S16.stB (i := 0) (j := 2) (own := true) (σ := (26 :: 0 :: 0 :: σ)) (x := (.p (.bool b17))) rfl (still_bool _) rfl
  refine Sim.op (st_map e22) ?_
  refine Sim.call (rtcp_reader_num_ok k (⟨r9.2.b, r9.2.f_at, b17⟩ : T_rtcp_reader) h15 (S23.atB (i := 0) rfl) 1) fun r24 cs25 H26 h27 q28 => ?_
  obtain ⟨v29, h30, q28⟩ := q28
  cases q28
  have S31 := S23.setB (i := 0) (cs := List.map C.v [v29, (.p (.int .i64 r24.2.f_at)), (.p (.bool r24.2.bad))]) rfl rfl
  refine Sim.op (castI_p _ _) ?_
  refine Sim.call (rtcp_reader_num_ok k (⟨r24.2.b, r24.2.f_at, r24.2.bad⟩ : T_rtcp_reader) h30 (S31.atB (i := 0) rfl) 3) fun r32 cs33 H34 h35 q36 => ?_
  obtain ⟨v37, h38, q36⟩ := q36
  cases q36
  have S39 := S31.setB (i := 0) (cs := List.map C.v [v37, (.p (.int .i64 r32.2.f_at)), (.p (.bool r32.2.bad))]) rfl rfl
  refine Sim.op (castI_p _ _) ?_
  refine Sim.call (rtcp_reader_rate_ok (⟨r32.2.b, r32.2.f_at, r32.2.bad⟩ : T_rtcp_reader) h38 (S39.atB (i := 0) rfl) r32.1 18) fun r40 cs41 H42 h43 q44 => ?_
  obtain ⟨v45, h46, q44⟩ := q44
  cases q44
  have S47 := S39.setB (i := 0) (cs := List.map C.v [v45, (.p (.int .i64 r40.2.f_at)), (.p (.bool r40.2.bad))]) rfl rfl
  refine Sim.op (castI_p _ _) ?_
  refine Sim.op (nilChk_ref _ _) ?_
  refine Sim.op (fA_ref _ _ _) ?_
  obtain ⟨H48, e49, S50⟩ := S47.stB (i := 1) (j := 6) (own := true) (σ := (6 :: 0 :: 1 :: 1 :: 1 :: 0 :: σ)) (x := (.p (.int .u64 r40.1))) rfl (still_int _ _) rfl
  refine Sim.op (st_map e49) ?_
  refine Sim.as (rtcp_reader_remb_l0_ok ?_ k r24.1 ((⟨r40.2.b, r40.2.f_at, r40.2.bad⟩ : T_rtcp_reader)) ((⟨x1.Kind, x1.From, x1.About, x1.Tuples, x1.Abouts, x1.Numbers, r40.1, x1.f_Type, x1.Count, x1.Body⟩ : T_api_Report)) v45 h46 u1_3 hu1_3 c1_4 hc1_4 hn1_4 u1_5 hu1_5 u1_9 hu1_9 H48 (S50.wk2 all_nil all_nil)) 
  · intro r105_4 zp0 zp1 v108 h109 v110 h111 c112 h113 h114 v115 h116 v117 h118 H106 S107
    refine Sim.ext (rtcp_reader_remb_a0_0 _ _ _ _ _ _ _) ?_
    refine Sim.op (nilChk_ref _ _) ?_
    refine Sim.op (fA_ref _ _ _) ?_
    refine Sim.op ((S107.atB (i := 0) rfl).ld (j := 2) rfl) ?_
    refine Sim.op (asB_p _) ?_
    refine Sim.ch (P := fun r y => r = y) ?_ (fun b119 y120 h121 h122 => ?_)
    · refine Sim.cd (fun hc => ?_) (fun hc => ?_)
      · exact Sim.ret rfl rfl
      · refine Sim.op (nilChk_ref _ _) ?_
        refine Sim.op (fA_ref _ _ _) ?_
        refine Sim.op (h113.ld (S107.atB (i := 1) rfl) (j := 4) rfl) ?_
        refine Sim.op ((h113.sl (S107.atB (i := 1) rfl) (j := 4) rfl).len) ?_
        refine Sim.op (castI_p _ _) ?_
        exact Sim.ret rfl rfl
    subst h122
    refine Sim.ch (P := fun r y => r = y) ?_ (fun b123 y124 h125 h126 => ?_)
    · refine Sim.cd (fun hc => ?_) (fun hc => ?_)
      · exact Sim.ret rfl rfl
      · exact Sim.ret rfl rfl
    subst h126
    refine Sim.op (nilChk_ref _ _) ?_
    refine Sim.op (fA_ref _ _ _) ?_
    obtain ⟨H127, e128, S129⟩ := S107.stB (i := 0) (j := 2) (own := true) (σ := (21 :: 1 :: 1 :: 1 :: 1 :: 1 :: 0 :: σ)) (x := (.p (.bool b123))) rfl (still_bool _) rfl
    refine Sim.op (st_map e128) ?_
    exact Sim.fin (S129.finN lv_nil) ⟨v108, v110, c112, v115, v117, h109, h111, h113, h114, h116, h118, rfl⟩
end Go.Ev
/- Equations, printed by tracer2.py. -/
namespace Go.Ev
open Go.Proofs
set_option linter.unusedVariables false
set_option maxRecDepth 100000
-- 133 (*limelight/rtcp.reader).tuple
theorem rtcp_reader_tuple_entry (rec : CallF) (loop : LoopV) (σ : Stamp) (x0 : V) (h : H) : cvBody G rec loop 133 σ [x0] h =
 (some (alO [.p (.int .u32 0), .p (.int .u64 0), .p (.int .i64 0)] (0 :: 0 :: 0 :: σ) 2 (List.replicate 21 [] :: h))).bind fun q1 =>
 (callO rec 130 (1 :: 0 :: 1 :: 0 :: σ) [x0, (.p (.int .i64 4))] q1.2 (some 6)).bind fun q2 =>
 (castI .u64 q2.1).bind fun n3 =>
 (buildV Try.prog 57 [(0, (.p (.int .u32 (IntKind.wrap .u32 n3))))]).bind fun t4 =>
 (some (alO [.p (.int .u32 0), .p (.int .u64 0), .p (.int .i64 0)] (4 :: 0 :: 1 :: 0 :: σ) 3 q2.2)).bind fun q5 =>
 ((stO false 3 (5 :: 0 :: 1 :: 0 :: σ) q5.2 q5.1 t4).map fun h => (udf, h)).bind fun q6 =>
 (callO rec 130 (1 :: 0 :: 1 :: 1 :: 0 :: σ) [x0, (.p (.int .i64 4))] q6.2 (some 10)).bind fun q7 =>
 (castI .u64 q7.1).bind fun n8 =>
 (fA q5.1 2).bind fun t9 =>
 ((stO true 1 (4 :: 0 :: 1 :: 1 :: 1 :: 0 :: σ) q7.2 t9 (.p (.int .i64 (IntKind.wrap .i64 (intBits .and .u64 n8 511))))).map fun h => (udf, h)).bind fun q10 =>
 (callO rec 151 (3 :: 0 :: 1 :: 1 :: 1 :: 1 :: 0 :: σ) [x0, (.p (.int .u64 (Int.fdiv n8 (2 ^ 9)))), (.p (.int .i64 17))] q10.2 (some 18)).bind fun q11 =>
 (castI .u64 q11.1).bind fun n12 =>
 (fA q5.1 1).bind fun t13 =>
 ((stO true 1 (5 :: 0 :: 1 :: 1 :: 1 :: 1 :: 0 :: σ) q11.2 t13 (.p (.int .u64 n12))).map fun h => (udf, h)).bind fun q14 =>
 (ldO true 3 q14.2 q5.1).bind fun t15 =>
 ((stO false 3 (1 :: 0 :: 1 :: 1 :: 1 :: 1 :: 1 :: 0 :: σ) q14.2 q1.1 t15).map fun h => (udf, h)).bind fun q16 =>
 ((ldO true 3 q16.2 q1.1).bind fun t17 => (some []).map (t17 :: ·)).bind fun t18 => fin false σ q16.2 t18 := by kernel_rfl
end Go.Ev
/- Lifted by lift.py: rtcp_reader_tuple as a plain function. -/
namespace Go.Ev
open Go.Proofs
set_option linter.unusedVariables false
set_option linter.unusedSimpArgs false
set_option maxRecDepth 100000
def p_rtcp_reader_tuple (k : Nat) (x0 : T_rtcp_reader) : Option (T_api_Tuple × T_rtcp_reader) :=
(p_rtcp_reader_num k (⟨x0.b, x0.f_at, x0.bad⟩ : T_rtcp_reader) 4).bind fun r5 =>
(p_rtcp_reader_num k (⟨r5.2.b, r5.2.f_at, r5.2.bad⟩ : T_rtcp_reader) 4).bind fun r20 =>
(p_rtcp_reader_rate (⟨r20.2.b, r20.2.f_at, r20.2.bad⟩ : T_rtcp_reader) (Int.fdiv r20.1 (2 ^ 9)) 17).bind fun r31 =>
some (((⟨(IntKind.wrap .u32 r5.1), r31.1, (IntKind.wrap .i64 (intBits .and .u64 r20.1 511))⟩ : T_api_Tuple)), (⟨r31.2.b, r31.2.f_at, r31.2.bad⟩ : T_rtcp_reader))
theorem rtcp_reader_tuple_ok (k : Nat) {h : H} {σ : Stamp} (x0 : T_rtcp_reader) {u0_0 : V} (hu0_0 : SlF (dI .u8) x0.b u0_0) {l0 : Loc} {o0 : Nat} (ha0 : AtC h l0 o0 (List.map C.v [u0_0, (.p (.int .i64 x0.f_at)), (.p (.bool x0.bad))])) : Sim (p_rtcp_reader_tuple k x0) (ev G X0 133 σ [(.ref l0 o0)] h) (fun r s => ∃ (w0 : List V), ∃ (vb0_0 : V), dT_api_Tuple.R r.1 w0 ∧ SlF (dI .u8) r.2.b vb0_0 ∧ s = ([.v (.agg w0)], pts h [⟨l0, o0, [.v vb0_0, .v (.p (.int .i64 r.2.f_at)), .v (.p (.bool r.2.bad))]⟩])) := by
  refine Sim.ev rfl (Sim.ext (rtcp_reader_tuple_entry _ _ _ _ _) ?_)
  rw [p_rtcp_reader_tuple]
  have S0 : Fm 21 h [⟨l0, o0, List.map C.v [u0_0, (.p (.int .i64 x0.f_at)), (.p (.bool x0.bad))]⟩] [] [] (List.replicate 21 [] :: h) := Fm.start1 ha0
  obtain ⟨H1, e2, S3⟩ := S0.al (d := 2) (s := (0 :: 0 :: 0 :: σ)) (z := [(.p (.int .u32 0)), (.p (.int .u64 0)), (.p (.int .i64 0))]) (by decide) rfl
  refine Sim.op (congrArg some e2) ?_
  refine Sim.call (rtcp_reader_num_ok k (⟨x0.b, x0.f_at, x0.bad⟩ : T_rtcp_reader) hu0_0 (S3.atB (i := 0) rfl) 4) fun r5 cs6 H7 h8 q9 => ?_
  obtain ⟨v10, h11, q9⟩ := q9
  cases q9
  have S12 := S3.setB (i := 0) (cs := List.map C.v [v10, (.p (.int .i64 r5.2.f_at)), (.p (.bool r5.2.bad))]) rfl rfl
  refine Sim.op (castI_p _ _) ?_
  refine Sim.op (bldV (pt_cons rfl pt_nil) (by kernel_rfl : _ = some (.agg [.p (.int .u32 (IntKind.wrap .u32 r5.1)), .p (.int .u64 0), .p (.int .i64 0)]))) ?_
  obtain ⟨H13, e14, S15⟩ := S12.al (d := 3) (s := (4 :: 0 :: 1 :: 0 :: σ)) (z := [(.p (.int .u32 0)), (.p (.int .u64 0)), (.p (.int .i64 0))]) (by decide) rfl
  refine Sim.op (congrArg some e14) ?_
  obtain ⟨H17, e18, S19⟩ := S15.stGv (i := 0) (j := 0) (own := false) (σ := (5 :: 0 :: 1 :: 0 :: σ)) (xs := [.p (.int .u32 (IntKind.wrap .u32 r5.1)), .p (.int .u64 0), .p (.int .i64 0)]) rfl rfl (stills_cons (still_int _ _) (stills_cons (still_int _ _) (stills_cons (still_int _ _) stills_nil))) rfl rfl
  refine Sim.op (st_map e18) ?_
  refine Sim.call (rtcp_reader_num_ok k (⟨r5.2.b, r5.2.f_at, r5.2.bad⟩ : T_rtcp_reader) h11 (S19.atB (i := 0) rfl) 4) fun r20 cs21 H22 h23 q24 => ?_
  obtain ⟨v25, h26, q24⟩ := q24
  cases q24
  have S27 := S19.setB (i := 0) (cs := List.map C.v [v25, (.p (.int .i64 r20.2.f_at)), (.p (.bool r20.2.bad))]) rfl rfl
  refine Sim.op (castI_p _ _) ?_
  refine Sim.op (fA_ref _ _ _) ?_
  obtain ⟨H28, e29, S30⟩ := S27.stG (i := 0) (j := 2) (own := true) (σ := (4 :: 0 :: 1 :: 1 :: 1 :: 0 :: σ)) (x := (.p (.int .i64 (IntKind.wrap .i64 (intBits .and .u64 r20.1 511))))) rfl rfl (still_int _ _) rfl
  refine Sim.op (st_map e29) ?_
  refine Sim.call (rtcp_reader_rate_ok (⟨r20.2.b, r20.2.f_at, r20.2.bad⟩ : T_rtcp_reader) h26 (S30.atB (i := 0) rfl) (Int.fdiv r20.1 (2 ^ 9)) 17) fun r31 cs32 H33 h34 q35 => ?_
  obtain ⟨v36, h37, q35⟩ := q35
  cases q35
  have S38 := S30.setB (i := 0) (cs := List.map C.v [v36, (.p (.int .i64 r31.2.f_at)), (.p (.bool r31.2.bad))]) rfl rfl
  refine Sim.op (castI_p _ _) ?_
  refine Sim.op (fA_ref _ _ _) ?_
  obtain ⟨H39, e40, S41⟩ := S38.stG (i := 0) (j := 1) (own := true) (σ := (5 :: 0 :: 1 :: 1 :: 1 :: 1 :: 0 :: σ)) (x := (.p (.int .u64 r31.1))) rfl rfl (still_int _ _) rfl
  refine Sim.op (st_map e40) ?_
  refine Sim.op ((S41.atG (i := 0) rfl).ldVs (j := 0) (xs := [.p (.int .u32 (IntKind.wrap .u32 r5.1)), .p (.int .u64 r31.1), .p (.int .i64 (IntKind.wrap .i64 (intBits .and .u64 r20.1 511)))]) rfl rfl (by decide)) ?_
  obtain ⟨H42, e43, S44⟩ := S41.stGv (i := 1) (j := 0) (own := false) (σ := (1 :: 0 :: 1 :: 1 :: 1 :: 1 :: 1 :: 0 :: σ)) (xs := [.p (.int .u32 (IntKind.wrap .u32 r5.1)), .p (.int .u64 r31.1), .p (.int .i64 (IntKind.wrap .i64 (intBits .and .u64 r20.1 511)))]) rfl rfl (stills_cons (still_int _ _) (stills_cons (still_int _ _) (stills_cons (still_int _ _) stills_nil))) rfl rfl
  refine Sim.op (st_map e43) ?_
  have e45 : ldO true 3 H42 (.ref ⟨h.length, 2, 0, (0 :: 0 :: 0 :: σ), []⟩ 0) = some (.agg [.p (.int .u32 (IntKind.wrap .u32 r5.1)), .p (.int .u64 r31.1), .p (.int .i64 (IntKind.wrap .i64 (intBits .and .u64 r20.1 511)))]) := (S44.atG (i := 1) rfl).ldVs (j := 0) (xs := [.p (.int .u32 (IntKind.wrap .u32 r5.1)), .p (.int .u64 r31.1), .p (.int .i64 (IntKind.wrap .i64 (intBits .and .u64 r20.1 511)))]) rfl rfl (by decide)
  refine Sim.op (show _ = some [(.agg [.p (.int .u32 (IntKind.wrap .u32 r5.1)), .p (.int .u64 r31.1), .p (.int .i64 (IntKind.wrap .i64 (intBits .and .u64 r20.1 511)))])] from by simp only [e45, Option.bind_some, Option.map_some]) ?_
  exact Sim.fin (S44.finN (lv_cons (Stills.lv (dT_api_Tuple.still (dT_api_Tuple.mk))) lv_nil)) ⟨[.p (.int .u32 (IntKind.wrap .u32 r5.1)), .p (.int .u64 r31.1), .p (.int .i64 (IntKind.wrap .i64 (intBits .and .u64 r20.1 511)))], v36, (show dT_api_Tuple.R ((⟨(IntKind.wrap .u32 r5.1), r31.1, (IntKind.wrap .i64 (intBits .and .u64 r20.1 511))⟩ : T_api_Tuple)) [.p (.int .u32 (IntKind.wrap .u32 r5.1)), .p (.int .u64 r31.1), .p (.int .i64 (IntKind.wrap .i64 (intBits .and .u64 r20.1 511)))] from (dT_api_Tuple.mk)), h37, rfl⟩
end Go.Ev
