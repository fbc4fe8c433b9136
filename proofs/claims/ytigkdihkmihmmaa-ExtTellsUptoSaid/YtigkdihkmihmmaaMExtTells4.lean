/- A part of the proof that follows: Extensions are written, and read, as the document says: for any elements, any bytes, where what is read is of bulk at most 1048576. -/
import Derived.Test.YtigkdihkmihmmaaMExtTells3
import Derived.KernelRfl
namespace Go.Ev
set_option maxRecDepth 100000
set_option linter.unusedSimpArgs false
theorem reads_true {k : Nat} (p : Int) {xs : List Int} (hx : isB xs) (hl : xs.length < 2 ^ 30) (hk : xs.length + 20 < k) : p_limelightlaw4_reads k p xs = some true := by
  obtain ⟨l, e, hr, h8, hd⟩ := read_any (k := k) p hx hl (by omega)
  have hr2 : p_limelightref3_ReadElems k p xs = some (l, e) := (readElems_same k p hx (by omega)).trans hr
  have f1 := find_eq (k := k) (id := 1) (l := l) (by omega) (by omega) (fun x hx => by have := hd x hx; omega)
  have f2 := rfind_eq (k := k) (id := 1) (l := l) (by omega) (by omega) (fun x hx => by have := hd x hx; omega)
  have hrid : ∃ r : ByteArray × Bool, p_ext_Rid k ((⟨false, 0, 0, 0, 0, (([] : List Int)), p, xs, (([] : List Int))⟩ : T_api_Rtp)) = some r ∧ p_limelightref3_Rid k ((⟨false, 0, 0, 0, 0, (([] : List Int)), p, xs, (([] : List Int))⟩ : T_api_Rtp)) = some r := by
    unfold p_ext_Rid p_limelightref3_Rid
    simp only [hr, hr2, Option.bind_some, p_rid_Right, p_limelightref1_Rid]
    cases (e != 0) with
    | true => exact ⟨_, rfl, rfl⟩
    | false =>
      simp only [cond_false, f1, f2, Option.bind_some]
      cases (findD l 1).2 with
      | false => exact ⟨_, rfl, rfl⟩
      | true =>
        simp only [Bool.not_true, cond_false, Option.bind_some]
        cases RidX.rightB (strB (findD l 1).1) <;> exact ⟨_, rfl, rfl⟩
  obtain ⟨r, q1, q2⟩ := hrid
  have hel := elems_self (l := l) (k := k) (by omega) (by omega)
  unfold p_limelightlaw4_reads
  simp only [hr, hr2, q1, q2, Option.bind_some, beq_self_eq_true, cond_true, hel]
theorem same_true {k : Nat} (hk : 20000 ≤ k) (p : Int) {l : List T_api_Elem} (hl : l.length ≤ 12) (hB : ∀ e ∈ l, isB e.Data) (hd : ∀ e ∈ l, e.Data.length < 2 ^ 40) (id : Int) : p_limelightlaw4_same k p l id = some true := by
  obtain ⟨xs, e, h1, h2, h3⟩ := bytes_any (k := k) (by omega) p hl hB
  have h4 : p_limelightref3_Elems k p l = some (xs, e) := (elems_same k p (by omega) hd).trans h1
  have f1 := find_eq (k := k) (id := id) (l := l) (by omega) (by omega) hd
  have f2 := rfind_eq (k := k) (id := id) (l := l) (by omega) (by omega) hd
  have hr := reads_true (k := k) p h2 (by omega) (by omega)
  unfold p_limelightlaw4_same
  simp only [h1, h4, f1, f2, Option.bind_some, beq_self_eq_true, cond_true, hr]
theorem xor_isB (a b : Int) : 0 ≤ intBits .xor .u8 a b ∧ intBits .xor .u8 a b < 256 := by
  have wB : ∀ n : Int, 0 ≤ IntKind.wrap .u8 n ∧ IntKind.wrap .u8 n < 256 := fun n => by
    have : IntKind.wrap .u8 n = n % 256 := by simp [IntKind.wrap, IntKind.signed, IntKind.bits]
    omega
  exact wB _
theorem extTells_true {k : Nat} (hk : 1073741824 ≤ k) (hkn : p_limelightlaw4_known k = some true) (x0 : List Int) (h0 : x0.length < 2 ^ 50) (x1 : List T_api_Elem) (h1 : ∀ e ∈ x1, isB e.Data) (h1d : ∀ e ∈ x1, e.Data.length < 2 ^ 40) (h1l : x1.length < 2 ^ 40) (x2 : List Int) (h2 : isB x2) (h2l : x2.length ≤ 536870912) (x3 x4 x5 x6 : Int) :
    p_limelightlaw4_ExtTells k x0 x1 x2 x3 x4 x5 x6 = some true := by
  obtain ⟨one, t1, e1, o1, o2, ht1⟩ := tape_elems (t := ⟨x0, 0⟩) ⟨by simp, by simp, h0⟩ false (k := k) (by omega)
  obtain ⟨two, t2, e2, w1, w2, _⟩ := tape_elems ht1 true (k := k) (by omega)
  have oB : ∀ e ∈ one, isB e.Data := fun e he => (o2 e he).2.2
  have oD : ∀ e ∈ one, e.Data.length < 2 ^ 40 := fun e he => by have := (o2 e he).2.1.2; omega
  have tB : ∀ e ∈ two, isB e.Data := fun e he => (w2 e he).2.2
  have tD : ∀ e ∈ two, e.Data.length < 2 ^ 40 := fun e he => by have := (w2 e he).2.1.2; omega
  obtain ⟨c, ce, hc, cB, cL⟩ := bytes_any (k := k) (by omega) 4096 (l := two) (by omega) tB
  have hc' : p_limelightref3_Elems k 4096 two = some (c, ce) := (elems_same k 4096 (by omega) tD).trans hc
  -- the row that was cut
  have tail : ∀ raw : List T_api_Elem, raw.length ≤ 12 → (∀ e ∈ raw, isB e.Data) → (∀ e ∈ raw, e.Data.length < 2 ^ 40) → ∀ c' : List Int, isB c' → c'.length < 10000 →
      p_limelightlaw4_same k 48862 one (intBits .and .i64 x3 15) = some true ∧ p_limelightlaw4_same k 4096 two (intBits .and .i64 x3 255) = some true ∧ p_limelightlaw4_same k 48862 raw x3 = some true ∧ p_limelightlaw4_same k 4096 raw x3 = some true ∧ p_limelightlaw4_same k x4 one 1 = some true ∧
      p_limelightlaw4_reads k 48862 x2 = some true ∧ p_limelightlaw4_reads k 4096 x2 = some true ∧ p_limelightlaw4_reads k x4 x2 = some true ∧ p_limelightlaw4_reads k 4096 c' = some true := fun raw r1 r2 r3 c' q1 q2 =>
    ⟨same_true (by omega) _ (by omega) oB oD _, same_true (by omega) _ (by omega) tB tD _, same_true (by omega) _ r1 r2 r3 _, same_true (by omega) _ r1 r2 r3 _, same_true (by omega) _ (by omega) oB oD _,
      reads_true _ h2 (by omega) (by omega), reads_true _ h2 (by omega) (by omega), reads_true _ h2 (by omega) (by omega), reads_true _ q1 (by omega) (by omega)⟩
  have e2' : p_limelightkeep_Tape_Elems k (⟨t1.f_L, t1.f_At⟩ : T_limelightkeep_Tape) true = some (two, t2) := e2
  -- the byte that was turned
  have turned : c.length > 0 → ∃ r a c', p_limelightbook_Within x5 0 (IntKind.wrap .i64 ((c.length : Int) - 1)) = some r ∧ ix c r = some a ∧ stx c r (intBits .xor .u8 a x6) = some c' ∧ isB c' ∧ c'.length < 10000 := fun hc0 => by
    have w : IntKind.wrap .i64 ((c.length : Int) - 1) = ((c.length - 1 : Nat) : Int) := by rw [wrap_i64 (by omega) (by omega)]; omega
    obtain ⟨r, hr, r0, r1⟩ := within_lo (x := x5) (hi := ((c.length - 1 : Nat) : Int)) (by omega) (by omega)
    obtain ⟨i, rfl⟩ : ∃ i : Nat, r = i := ⟨r.toNat, by omega⟩
    have hi : i < c.length := by omega
    refine ⟨(i : Int), c[i], c.set i (intBits .xor .u8 c[i] x6), by rw [w]; exact hr, ix_at (by simp [hi]), ?_, fun x hx => ?_, by rw [List.length_set]; exact cL⟩
    · unfold stx
      rw [if_pos ⟨by omega, by omega⟩, Int.toNat_natCast]
    · rcases List.mem_or_eq_of_mem_set hx with hx | rfl
      · exact cB x hx
      · exact xor_isB _ _
  unfold p_limelightlaw4_ExtTells
  rw [e1, Option.bind_some]
  simp only [e2', Option.bind_some]
  by_cases hraw : x1.length > 12
  · have d : decide ((x1.length : Int) > 12) = true := decide_eq_true (by omega)
    have hs : sub x1 0 12 = some (x1.take 12) := by
      have := sub_eq (xs := x1) (a := 0) (n := 12) (by omega)
      rw [Nat.zero_add, List.drop_zero] at this
      exact this
    have m1 : ∀ e ∈ x1.take 12, isB e.Data := fun e he => h1 e (List.mem_of_mem_take he)
    have m2 : ∀ e ∈ x1.take 12, e.Data.length < 2 ^ 40 := fun e he => h1d e (List.mem_of_mem_take he)
    have m3 : (x1.take 12).length ≤ 12 := by rw [List.length_take]; omega
    simp only [d, cond_true, hs, Option.bind_some, hc']
    by_cases hc0 : c.length > 0
    · have d2 : decide ((c.length : Int) > 0) = true := decide_eq_true (by omega)
      obtain ⟨r, a, c', g1, g2, g3, g4, g5⟩ := turned hc0
      obtain ⟨s1, s2, s3, s4, s5, s6, s7, s8, s9⟩ := tail _ m3 m1 m2 c' g4 g5
      simp only [d2, cond_true, g1, g2, g3, Option.bind_some, s1, s2, s3, s4, s5, s6, s7, s8, s9, hkn]
    · have d2 : decide ((c.length : Int) > 0) = false := decide_eq_false (by omega)
      obtain ⟨s1, s2, s3, s4, s5, s6, s7, s8, s9⟩ := tail _ m3 m1 m2 c cB cL
      simp only [d2, cond_true, cond_false, Option.bind_some, s1, s2, s3, s4, s5, s6, s7, s8, s9, hkn]
  · have d : decide ((x1.length : Int) > 12) = false := decide_eq_false (by omega)
    simp only [d, cond_false, Option.bind_some, hc']
    by_cases hc0 : c.length > 0
    · have d2 : decide ((c.length : Int) > 0) = true := decide_eq_true (by omega)
      obtain ⟨r, a, c', g1, g2, g3, g4, g5⟩ := turned hc0
      obtain ⟨s1, s2, s3, s4, s5, s6, s7, s8, s9⟩ := tail x1 (by omega) h1 h1d c' g4 g5
      simp only [d2, cond_true, g1, g2, g3, Option.bind_some, s1, s2, s3, s4, s5, s6, s7, s8, s9, hkn]
    · have d2 : decide ((c.length : Int) > 0) = false := decide_eq_false (by omega)
      obtain ⟨s1, s2, s3, s4, s5, s6, s7, s8, s9⟩ := tail x1 (by omega) h1 h1d c cB cL
      simp only [d2, cond_true, cond_false, Option.bind_some, s1, s2, s3, s4, s5, s6, s7, s8, s9, hkn]
theorem known4big : p_limelightlaw4_known 1073741824 = some true := by kernel_rfl
abbrev tElem : DT := .strct (.pair (.int .i64) (.pair (.slice 1 (.int .u8)) .unit))
def ofElem (x : tElem.D) : T_api_Elem := ⟨x.1, Option.getD x.2.1 []⟩
theorem ofElem_R (x : tElem.D) : dT_api_Elem.R (ofElem x) (tElem.cells x) := by
  obtain ⟨i, d, u⟩ := x
  have h := dT_api_Elem.mk (y_ID := i) (slF_ints (b := 1) d)
  have e : tElem.cells (i, d, u) = [.p (.int .i64 i), (DT.slice 1 (.int .u8)).val d] := by
    cases d <;> rfl
  rw [e]
  exact h
theorem okM_bytes {M : Nat} {x : (DT.slice 1 (.int .u8)).D} (h : DT.okM M (DT.slice 1 (.int .u8)) x) : isB (Option.getD x []) ∧ (Option.getD x []).length ≤ M := by
  cases x with
  | none => exact ⟨fun x hx => (by cases hx), Nat.zero_le _⟩
  | some l =>
    obtain ⟨h1, h2⟩ := h
    refine ⟨fun x hx => wf_u8 (h2 x hx), ?_⟩
    show l.length ≤ M
    omega
theorem extTells_ev (a0 : (DT.slice 8 (.int .i64)).D) (a1 : (DT.slice 32 tElem).D) (a2 : (DT.slice 1 (.int .u8)).D) (a3 : (DT.int .i64).D) (a4 : (DT.int .u16).D) (a5 : (DT.int .i64).D) (a6 : (DT.int .u8).D)
    (w0 : DT.okM 536870912 (DT.slice 8 (.int .i64)) a0) (w1 : DT.okM 536870912 (DT.slice 32 tElem) a1) (w2 : DT.okM 536870912 (DT.slice 1 (.int .u8)) a2) (_ : DT.okM 536870912 (DT.int .i64) a3) (_ : DT.okM 536870912 (DT.int .u16) a4) (_ : DT.okM 536870912 (DT.int .i64) a5) (_ : DT.okM 536870912 (DT.int .u8) a6) :
    ev G X0 4 [] [(DT.slice 8 (.int .i64)).val a0, (DT.slice 32 tElem).val a1, (DT.slice 1 (.int .u8)).val a2, (DT.int .i64).val a3, (DT.int .u16).val a4, (DT.int .i64).val a5, (DT.int .u8).val a6] [] = some ([.v (bV true)], []) := by
  have hl : (Option.getD a0 []).length < 2 ^ 50 := by
    cases a0 with
    | none => exact Nat.two_pow_pos 50
    | some l =>
      have := w0.1
      have e : (Option.getD (some l) []).length = l.length := rfl
      omega
  have h2 := okM_bytes w2
  have h1 : (∀ e ∈ (Option.getD a1 []).map ofElem, isB e.Data ∧ e.Data.length ≤ 536870912) ∧ ((Option.getD a1 []).map ofElem).length < 2 ^ 40 := by
    cases a1 with
    | none => exact ⟨fun e he => (by cases he), Nat.two_pow_pos 40⟩
    | some l =>
      obtain ⟨q1, q2⟩ := w1
      refine ⟨fun e he => ?_, ?_⟩
      · obtain ⟨x, hx, rfl⟩ := List.mem_map.1 he
        obtain ⟨_, hb, _⟩ := q2 x hx
        exact okM_bytes hb
      · rw [List.length_map]
        show l.length < 2 ^ 40
        omega
  obtain ⟨_, h3, rfl⟩ := limelightlaw4_ExtTells_ok 1073741824 (h := []) (σ := []) (Option.getD a0 []) (slF_ints a0) ((Option.getD a1 []).map ofElem) ((slF_val (b := 32) (t := tElem) (d := dT_api_Elem) ofElem ofElem_R rfl a1).h []) (Option.getD a2 []) (slF_ints a2) a3 a4 a5 a6 _
    (extTells_true (Nat.le_refl _) known4big _ hl _ (fun e he => (h1.1 e he).1) (fun e he => by have := (h1.1 e he).2; omega) h1.2 _ h2.1 h2.2 a3 a4 a5 a6)
  exact h3
end Go.Ev
namespace Go.Ev
open Go.Proofs Go.Proofs.Ytigkdihkmihmmaa.Rows
/-- A reading's weights are bounded by its bulk. -/
theorem bulk_pos {H : Type} (d : DataW H) : 1 ≤ uptoBulk d := by
  cases d with
  | lit l => cases l <;> simp [uptoBulk]
  | _ => simp [uptoBulk]
theorem bulk_len {H : Type} : ∀ l : List (DataW H), l.length ≤ uptoBulkAll l
  | [] => by simp
  | d :: l => by
    have := bulk_len l
    have := bulk_pos d
    rw [List.length_cons, uptoBulkAll]
    omega
theorem bulk_mem {H : Type} {d : DataW H} : ∀ {l : List (DataW H)}, d ∈ l → uptoBulk d ≤ uptoBulkAll l
  | [], h => by cases h
  | x :: l, h => by
    rw [uptoBulkAll]
    rcases List.mem_cons.1 h with rfl | h
    · omega
    · have := bulk_mem h; omega
theorem wAll_mem {H : Type} {P : Program} {e : TypeId} {n : Nat} : ∀ {l : List (DataW H)}, n ∈ DataW.weightsAll P e l → ∃ d ∈ l, n ∈ d.weights P e
  | [], h => by simp [DataW.weightsAll] at h
  | x :: l, h => by
    simp only [DataW.weightsAll] at h
    rcases List.mem_append.1 h with h | h
    · exact ⟨x, List.mem_cons_self .., h⟩
    · obtain ⟨d, h1, h2⟩ := wAll_mem h; exact ⟨d, List.mem_cons_of_mem _ h1, h2⟩
def DT.smB (B : Nat) : DT → Bool
  | .slice b d => decide (b ≤ B) && d.smB B
  | .strct d => d.smB B
  | .pair a b => a.smB B && b.smB B
  | _ => true
theorem w_lit {H : Type} {P : Program} {B n : Nat} (hB : 1 ≤ B) {l : Lit} {t : TypeId} (h : n ∈ (DataW.lit l : DataW H).weights P t) : n ≤ uptoBulk (DataW.lit l : DataW H) * B := by
  cases l with
  | string b =>
    simp only [DataW.weights, List.mem_singleton] at h
    subst h
    simp only [uptoBulk]
    calc b.length ≤ (b.length + 1) * 1 := by omega
      _ ≤ _ := Nat.mul_le_mul_left _ hB
  | _ => simp [DataW.weights] at h
mutual
theorem wD_le {H : Type} {P : Program} {B : Nat} (hB : 1 ≤ B) : ∀ (d : DT) (t : TypeId) (x : DataW H), fit P d t = true → d.smB B = true → ∀ n ∈ x.weights P t, n ≤ uptoBulk x * B
  | .int k, t, x, hf, _, n, h => by
    simp only [fit, Bool.and_eq_true] at hf
    have hu := hf.1
    split at hu
    · rename_i k' hk
      cases x with
      | lit l => exact w_lit hB h
      | _ => simp [DataW.weights, hk] at h
    · cases hu
  | .bool, t, x, hf, _, n, h => by
    simp only [fit, Bool.and_eq_true] at hf
    have hu := hf.1
    split at hu
    · rename_i hk
      cases x with
      | lit l => exact w_lit hB h
      | _ => simp [DataW.weights, hk] at h
    · cases hu
  | .str, t, x, hf, _, n, h => by
    simp only [fit, Bool.and_eq_true] at hf
    have hu := hf.1
    split at hu
    · rename_i hk
      cases x with
      | lit l => exact w_lit hB h
      | _ => simp [DataW.weights, hk] at h
    · cases hu
  | .slice b d, t, x, hf, hs, n, h => by
    simp only [fit, Bool.and_eq_true] at hf
    simp only [DT.smB, Bool.and_eq_true, decide_eq_true_eq] at hs
    have hu := hf.1
    split at hu
    · rename_i e hk
      simp only [Bool.and_eq_true, beq_iff_eq] at hu
      obtain ⟨hfe, hbe, _⟩ := hu
      cases x with
      | lit l => exact w_lit hB h
      | slice es sp =>
        simp only [DataW.weights, hk] at h
        simp only [uptoBulk]
        rcases List.mem_cons.1 h with rfl | h
        · have h1 := bulk_len es
          have h2 := bulk_len sp
          rw [hbe]
          exact Nat.mul_le_mul (by omega) hs.1
        · have one : ∀ l : List (DataW H), n ∈ DataW.weightsAll P e l → n ≤ uptoBulkAll l * B := fun l hl => by
            obtain ⟨y, hy, hn⟩ := wAll_mem hl
            exact Nat.le_trans (wD_le hB d e y hfe hs.2 n hn) (Nat.mul_le_mul_right _ (bulk_mem hy))
          simp only [Nat.add_mul]
          rcases List.mem_append.1 h with h | h
          · have := one _ h; omega
          · have := one _ h; omega
      | _ => simp [DataW.weights, hk] at h
    · cases hu
  | .strct d, t, x, hf, hs, n, h => by
    simp only [fit] at hf
    split at hf
    · rename_i fs hk
      simp only [Bool.and_eq_true] at hf
      cases x with
      | lit l => exact w_lit hB h
      | agg ps =>
        simp only [DataW.weights, hk] at h
        have := wF_le hB d 0 fs.toList ps hf.1 hs n h
        simp only [uptoBulk, Nat.add_mul]
        omega
      | _ => simp [DataW.weights, hk] at h
    · cases hf
  | .unit, t, x, hf, _, n, h => by simp [fit] at hf
  | .pair a b, t, x, hf, _, n, h => by simp [fit] at hf
theorem wF_le {H : Type} {P : Program} {B : Nat} (hB : 1 ≤ B) : ∀ (d : DT) (o : Nat) (fs : List Field) (xs : List (DataW H)), fitF P d o fs = true → d.smB B = true → ∀ n ∈ DataW.weightsEach P (fs.map (·.type)) xs, n ≤ uptoBulkAll xs * B
  | .unit, o, [], xs, _, _, n, h => by cases xs <;> simp [DataW.weightsEach] at h
  | .unit, o, f :: fs, xs, hf, _, n, h => by simp [fitF] at hf
  | .pair a b, o, [], xs, hf, _, n, h => by simp [fitF] at hf
  | .pair a b, o, f :: fs, xs, hf, hs, n, h => by
    simp only [fitF, Bool.and_eq_true] at hf
    simp only [DT.smB, Bool.and_eq_true] at hs
    cases xs with
    | nil => simp [DataW.weightsEach] at h
    | cons x xs =>
      simp only [List.map_cons, DataW.weightsEach] at h
      simp only [uptoBulkAll, Nat.add_mul]
      rcases List.mem_append.1 h with h | h
      · have := wD_le hB a f.type x hf.2.1 hs.1 n h; omega
      · have := wF_le hB b _ fs xs hf.2.2 hs.2 n h; omega
  | .int _, o, fs, xs, hf, _, n, h => by simp [fitF] at hf
  | .bool, o, fs, xs, hf, _, n, h => by simp [fitF] at hf
  | .str, o, fs, xs, hf, _, n, h => by simp [fitF] at hf
  | .slice _ _, o, fs, xs, hf, _, n, h => by simp [fitF] at hf
  | .strct _, o, fs, xs, hf, _, n, h => by simp [fitF] at hf
end
end Go.Ev
