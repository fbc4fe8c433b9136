/- A part of the proof that follows: Reports that are not the same have not the same bytes; each is right alone, as in a row. -/
import Derived.Test.YtocbjhoaamkonaaMRtcpApart3
import Derived.KernelRfl
namespace Go.Ev
set_option maxRecDepth 100000
set_option linter.unusedSimpArgs false
/-! ### Reports, read -/
abbrev RD (b p : List Int) : T_rtcp_reader := ⟨b, (p.length : Int), false⟩
theorem num_put {k : Nat} (hk : 10 ≤ k) {b pre suf : List Int} {v : Int} {s : Nat} (hb : b = pre ++ (putB v s ++ suf)) (hB : isB b) (hl : b.length < 2000) (h1 : 1 ≤ s) (h8 : s ≤ 8) (h0 : 0 ≤ v) (hv : v < 256 ^ s) :
    p_rtcp_reader_num k (RD b pre) (s : Int) = some (v, RD b (pre ++ putB v s)) := by
  have hlen : b.length = pre.length + (s + suf.length) := by rw [hb, List.length_append, List.length_append, putB_len]
  have g := get_ok (k := k) hk (xs := b) hB (by omega) (a := pre.length) (n := s) (by omega) h1 h8
  have e : ((b.drop pre.length).take s) = putB v s := by rw [hb, List.drop_left, List.take_left' (putB_len v s)]
  have e2 : getB 0 (putB v s) = v := by rw [getB_putB v h0, Int.emod_eq_of_lt h0 hv]; omega
  rw [e, e2] at g
  have w : IntKind.wrap .i64 ((pre.length : Int) + (s : Int)) = (((pre ++ putB v s).length : Nat) : Int) := by rw [wrap_i64 (by omega) (by omega), List.length_append, putB_len]; rfl
  unfold p_rtcp_reader_num
  rw [g, Option.bind_some]
  simp only [cond_false, Option.bind_some, Bool.not_true, w]
theorem num_any {k : Nat} (hk : 10 ≤ k) {b pre mid suf : List Int} {s : Nat} (hb : b = pre ++ (mid ++ suf)) (hm : mid.length = s) (hB : isB b) (hl : b.length < 2000) (h1 : 1 ≤ s) (h8 : s ≤ 8) :
    p_rtcp_reader_num k (RD b pre) (s : Int) = some (getB 0 mid, RD b (pre ++ mid)) := by
  have hlen : b.length = pre.length + (s + suf.length) := by rw [hb, List.length_append, List.length_append, hm]
  have g := get_ok (k := k) hk (xs := b) hB (by omega) (a := pre.length) (n := s) (by omega) h1 h8
  have e : ((b.drop pre.length).take s) = mid := by rw [hb, List.drop_left, List.take_left' hm]
  rw [e] at g
  have w : IntKind.wrap .i64 ((pre.length : Int) + (s : Int)) = (((pre ++ mid).length : Nat) : Int) := by rw [wrap_i64 (by omega) (by omega), List.length_append, hm]; rfl
  unfold p_rtcp_reader_num
  rw [g, Option.bind_some]
  simp only [cond_false, Option.bind_some, Bool.not_true, w]
theorem nought_put {k : Nat} (hk : 10 ≤ k) {b pre suf : List Int} {s : Nat} (hb : b = pre ++ (putB 0 s ++ suf)) (hB : isB b) (hl : b.length < 2000) (h1 : 1 ≤ s) (h8 : s ≤ 8) :
    p_rtcp_reader_nought k (RD b pre) (s : Int) = some (RD b (pre ++ putB 0 s)) := by
  unfold p_rtcp_reader_nought
  have := num_put hk hb hB hl h1 h8 (by decide) (Int.pow_pos (by decide))
  rw [this, Option.bind_some]
  rfl
theorem left_mid {b pre suf : List Int} (hb : b = pre ++ suf) : p_rtcp_reader_left (RD b pre) = some (decide (0 < suf.length)) := by
  unfold p_rtcp_reader_left
  have : decide ((pre.length : Int) < (b.length : Int)) = decide (0 < suf.length) := by
    rw [hb, List.length_append]
    refine decide_eq_decide.2 ?_
    omega
  simp only [Bool.not_false, cond_true, Option.bind_some, this]
theorem and511 (n v : Nat) (hv : v < 512) : intBits .and .u64 ((n * 2 ^ 9 + v : Nat) : Int) 511 = (v : Int) := by
  rw [and_mask (n := 9) (m := 511) _ rfl (by decide)]
  omega
theorem tuple_put {k : Nat} (hk : 10 ≤ k) {b pre suf : List Int} {s : ST} (hs : s.ok) (hb : b = pre ++ (encT s ++ suf)) (hB : isB b) (hl : b.length < 2000) :
    p_rtcp_reader_tuple k (RD b pre) = some (s.t, RD b (pre ++ encT s)) := by
  unfold p_rtcp_reader_tuple
  have hw : s.w < 2 ^ 32 := by
    have h1 := hs.hr.hm
    have h2 := hs.hr.he
    have h3 := hs.hv
    unfold ST.w
    omega
  have n1 := num_put (k := k) (pre := pre) hk (v := (s.o : Int)) (s := 4) (suf := putB (s.w : Int) 4 ++ suf) (by rw [hb, encT]; simp only [List.append_assoc]) hB hl (by decide) (by decide) (by omega) (by have := hs.ho; omega)
  have n2 := num_put (k := k) (pre := pre ++ putB (s.o : Int) 4) hk (v := (s.w : Int)) (s := 4) (suf := suf) (by rw [hb, encT]; simp only [List.append_assoc]) hB hl (by decide) (by decide) (by omega) (by omega)
  have f9 : Int.fdiv (s.w : Int) (2 ^ 9) = ((s.e * 2 ^ 17 + s.m : Nat) : Int) := by
    rw [fdiv_nat]
    have h3 := hs.hv
    have : s.w / 2 ^ 9 = s.e * 2 ^ 17 + s.m := by unfold ST.w; omega
    rw [this]
  have r1 := readRate (b := 17) (by decide) (by decide) hs.hr (RD b ((pre ++ putB (s.o : Int) 4) ++ putB (s.w : Int) 4))
  have w1 : IntKind.wrap .u32 (s.o : Int) = (s.o : Int) := wrap_u32 (by omega) (by have := hs.ho; omega)
  have w2 : IntKind.wrap .i64 (intBits .and .u64 (s.w : Int) 511) = (s.v : Int) := by
    unfold ST.w
    rw [and511 _ _ hs.hv]
    exact wrap_i64 (by omega) (by have := hs.hv; omega)
  erw [n1, Option.bind_some]
  erw [n2, Option.bind_some, f9]
  erw [r1, Option.bind_some]
  rw [w1, w2, encT, ← List.append_assoc]
  rfl
theorem parse_l0 {β : Type} (kE0 : List Int → T_api_Report → T_api_Report → T_rtcp_reader → Option β) (x2 b : List Int) (y : T_api_Report) (hB : isB b) (hl : b.length < 2000) : ∀ (rest : List ST) (pre : List Int) (j : Nat) (g : T_api_Report), (∀ s ∈ rest, s.ok) → b = pre ++ rest.flatMap encT → g.Tuples.length + rest.length < 1000 → 10 ≤ j →
    p_rtcp_parse_l0 (j + rest.length + 1) kE0 x2 y g (RD b pre) = kE0 x2 y { g with Tuples := g.Tuples ++ rest.map ST.t } (RD b b)
  | [], pre, j, g, _, hb, _, _ => by
    rw [List.flatMap_nil, List.append_nil] at hb
    subst hb
    rw [p_rtcp_parse_l0]
    erw [left_mid (suf := []) (List.append_nil b).symm, Option.bind_some]
    simp only [List.length_nil, Nat.lt_irrefl, decide_false, cond_false, List.map_nil, List.append_nil]
  | s :: rest, pre, j, g, hs, hb, hn, hj => by
    have hb' : b = pre ++ (encT s ++ rest.flatMap encT) := by rw [hb, List.flatMap_cons]
    rw [List.length_cons] at hn
    rw [List.length_cons, show j + (rest.length + 1) + 1 = (j + rest.length + 1) + 1 from rfl, p_rtcp_parse_l0]
    erw [left_mid hb', Option.bind_some]
    rw [List.length_append, encT_len, decide_eq_true (by omega), cond_true]
    erw [tuple_put (k := j + rest.length + 1) (by omega) (hs s (List.mem_cons_self ..)) hb' hB hl, Option.bind_some, ap_eq2 (by decide) (by simp only [List.length_cons, List.length_nil]; omega), Option.bind_some]
    refine (parse_l0 kE0 x2 b y hB hl rest (pre ++ encT s) j { g with Tuples := g.Tuples ++ [s.t] } (fun x hx => hs x (List.mem_cons_of_mem _ hx)) (by rw [hb', List.append_assoc]) (by simp only [List.length_append, List.length_cons, List.length_nil]; omega) hj).trans ?_
    simp only [List.append_assoc, List.map_cons, List.cons_append, List.nil_append]
theorem parse_l1 {β : Type} (kE0 : List Int → T_api_Report → T_api_Report → T_rtcp_reader → Option β) (x2 b : List Int) (y : T_api_Report) (hB : isB b) (hl : b.length < 2000) : ∀ (rest : List (Nat × Nat)) (pre : List Int) (j : Nat) (g : T_api_Report), (∀ p ∈ rest, p.1 < 2 ^ 32 ∧ p.2 < 256) → b = pre ++ rest.flatMap encA → g.Abouts.length + rest.length < 1000 → g.Numbers.length + rest.length < 1000 → 10 ≤ j →
    p_rtcp_parse_l1 (j + rest.length + 1) kE0 x2 y g (RD b pre) = kE0 x2 y { g with Abouts := g.Abouts ++ rest.map (fun p => (p.1 : Int)), Numbers := g.Numbers ++ rest.map (fun p => (p.2 : Int)) } (RD b b)
  | [], pre, j, g, _, hb, _, _, _ => by
    rw [List.flatMap_nil, List.append_nil] at hb
    subst hb
    rw [p_rtcp_parse_l1]
    erw [left_mid (suf := []) (List.append_nil b).symm, Option.bind_some]
    simp only [List.length_nil, Nat.lt_irrefl, decide_false, cond_false, List.map_nil, List.append_nil]
  | s :: rest, pre, j, g, hs, hb, hn, hm, hj => by
    have hb' : b = pre ++ (encA s ++ rest.flatMap encA) := by rw [hb, List.flatMap_cons]
    obtain ⟨h1, h2⟩ := hs s (List.mem_cons_self ..)
    rw [List.length_cons] at hn hm
    rw [List.length_cons, show j + (rest.length + 1) + 1 = (j + rest.length + 1) + 1 from rfl, p_rtcp_parse_l1]
    have n1 := num_put (k := j + rest.length + 1) (pre := pre) (by omega) (v := (s.1 : Int)) (s := 4) (suf := putB (s.2 : Int) 1 ++ (putB 0 3 ++ rest.flatMap encA)) (by rw [hb', encA]; simp only [List.append_assoc]) hB hl (by decide) (by decide) (by omega) (by omega)
    have n2 := num_put (k := j + rest.length + 1) (pre := pre ++ putB (s.1 : Int) 4) (by omega) (v := (s.2 : Int)) (s := 1) (suf := putB 0 3 ++ rest.flatMap encA) (by rw [hb', encA]; simp only [List.append_assoc]) hB hl (by decide) (by decide) (by omega) (by omega)
    have n3 := nought_put (k := j + rest.length + 1) (pre := (pre ++ putB (s.1 : Int) 4) ++ putB (s.2 : Int) 1) (by omega) (s := 3) (suf := rest.flatMap encA) (by rw [hb', encA]; simp only [List.append_assoc]) hB hl (by decide) (by decide)
    have w1 : IntKind.wrap .u32 (s.1 : Int) = (s.1 : Int) := wrap_u32 (by omega) (by omega)
    have w2 : IntKind.wrap .i64 (s.2 : Int) = (s.2 : Int) := wrap_i64 (by omega) (by omega)
    erw [left_mid hb', Option.bind_some]
    rw [List.length_append, encA_len, decide_eq_true (by omega), cond_true]
    erw [n1, Option.bind_some, w1, ap_eq2 (by decide) (by simp only [List.length_cons, List.length_nil]; omega), Option.bind_some, n2, Option.bind_some, w2, ap_eq2 (by decide) (by simp only [List.length_cons, List.length_nil]; omega), Option.bind_some, n3, Option.bind_some]
    have hpe : ((pre ++ putB (s.1 : Int) 4) ++ putB (s.2 : Int) 1) ++ putB 0 3 = pre ++ encA s := by rw [encA]; simp only [List.append_assoc]
    rw [hpe]
    refine (parse_l1 kE0 x2 b y hB hl rest (pre ++ encA s) j { g with Abouts := g.Abouts ++ [(s.1 : Int)], Numbers := g.Numbers ++ [(s.2 : Int)] } (fun x hx => hs x (List.mem_cons_of_mem _ hx)) (by rw [hb', List.append_assoc]) (by simp only [List.length_append, List.length_cons, List.length_nil]; omega) (by simp only [List.length_append, List.length_cons, List.length_nil]; omega) hj).trans ?_
    simp only [List.append_assoc, List.map_cons, List.cons_append, List.nil_append]
theorem remb_l0 {β : Type} (kE0 : Int → T_rtcp_reader → T_api_Report → Option β) (c : Int) (b : List Int) (hB : isB b) (hl : b.length < 2000) : ∀ (rest : List Nat) (pre : List Int) (j : Nat) (g : T_api_Report), (∀ n ∈ rest, n < 2 ^ 32) → (b = pre ++ rest.flatMap fun n : Nat => putB (n : Int) 4) → g.Abouts.length + rest.length < 1000 → 10 ≤ j →
    p_rtcp_reader_remb_l0 (j + rest.length + 1) kE0 c (RD b pre) g = kE0 c (RD b b) { g with Abouts := g.Abouts ++ rest.map (fun n : Nat => (n : Int)) }
  | [], pre, j, g, _, hb, _, _ => by
    rw [List.flatMap_nil, List.append_nil] at hb
    subst hb
    rw [p_rtcp_reader_remb_l0]
    erw [left_mid (suf := []) (List.append_nil b).symm, Option.bind_some]
    simp only [List.length_nil, Nat.lt_irrefl, decide_false, cond_false, List.map_nil, List.append_nil]
  | s :: rest, pre, j, g, hs, hb, hn, hj => by
    have hb' : b = pre ++ (putB (s : Int) 4 ++ rest.flatMap fun n : Nat => putB (n : Int) 4) := by rw [hb, List.flatMap_cons]
    have h1 := hs s (List.mem_cons_self ..)
    rw [List.length_cons] at hn
    rw [List.length_cons, show j + (rest.length + 1) + 1 = (j + rest.length + 1) + 1 from rfl, p_rtcp_reader_remb_l0]
    have n1 := num_put (k := j + rest.length + 1) (by omega) (v := (s : Int)) (s := 4) hb' hB hl (by decide) (by decide) (by omega) (by omega)
    have w1 : IntKind.wrap .u32 (s : Int) = (s : Int) := wrap_u32 (by omega) (by omega)
    erw [left_mid hb', Option.bind_some]
    rw [List.length_append, putB_len, decide_eq_true (by omega), cond_true]
    erw [n1, Option.bind_some, w1, ap_eq2 (by decide) (by simp only [List.length_cons, List.length_nil]; omega), Option.bind_some]
    refine (remb_l0 kE0 c b hB hl rest (pre ++ putB (s : Int) 4) j { g with Abouts := g.Abouts ++ [(s : Int)] } (fun x hx => hs x (List.mem_cons_of_mem _ hx)) (by rw [hb', List.append_assoc]) (by simp only [List.length_append, List.length_cons, List.length_nil]; omega) hj).trans ?_
    simp only [List.append_assoc, List.map_cons, List.cons_append, List.nil_append]
theorem remb_ok {k : Nat} (hk : 40 ≤ k) {b pre : List Int} {e m : Nat} (hF : FR 18 e m) {l : List Nat} (hn : l.length ≤ 16) (hs : ∀ n ∈ l, n < 2 ^ 32) (hb : b = pre ++ (mark ++ (putB (l.length : Int) 1 ++ (putB ((e * 2 ^ 18 + m : Nat) : Int) 3 ++ l.flatMap fun n : Nat => putB (n : Int) 4)))) (hB : isB b) (hl : b.length < 2000) (g : T_api_Report) (hg : g.Abouts = []) :
    p_rtcp_reader_remb k (RD b pre) g = some (RD b b, { g with Abouts := l.map (fun n : Nat => (n : Int)), Rate := ((m * 2 ^ e : Nat) : Int) }) := by
  unfold p_rtcp_reader_remb
  have hw : e * 2 ^ 18 + m < 2 ^ 24 := by
    have h1 := hF.hm
    have h2 := hF.he
    omega
  have n1 := num_any (k := k) (b := b) (pre := pre) (mid := mark) (s := 4) (by omega) hb rfl hB hl (by decide) (by decide)
  have n2 := num_put (k := k) (b := b) (pre := pre ++ mark) (by omega) (v := (l.length : Int)) (s := 1) (by rw [hb, List.append_assoc]) hB hl (by decide) (by decide) (by omega) (by omega)
  have n3 := num_put (k := k) (b := b) (pre := (pre ++ mark) ++ putB (l.length : Int) 1) (by omega) (v := ((e * 2 ^ 18 + m : Nat) : Int)) (s := 3) (by rw [hb, List.append_assoc, List.append_assoc]) hB hl (by decide) (by decide) (by omega) (by omega)
  have r1 := readRate (b := 18) (by decide) (by decide) hF (RD b (((pre ++ mark) ++ putB (l.length : Int) 1) ++ putB ((e * 2 ^ 18 + m : Nat) : Int) 3))
  have m4 : getB 0 mark = 1380273474 := by decide
  have lp := fun (kE0 : Int → T_rtcp_reader → T_api_Report → Option (T_rtcp_reader × T_api_Report)) => remb_l0 kE0 (l.length : Int) b hB hl l (((pre ++ mark) ++ putB (l.length : Int) 1) ++ putB ((e * 2 ^ 18 + m : Nat) : Int) 3) (k - l.length - 1) { g with Rate := ((m * 2 ^ e : Nat) : Int) } hs (by rw [hb]; simp only [List.append_assoc]) (by rw [hg]; simp only [List.length_nil]; omega) (by omega)
  rw [show k - l.length - 1 + l.length + 1 = k by omega] at lp
  have i0 : ixS (⟨#[82, 69, 77, 66]⟩ : ByteArray) 0 = some 82 := rfl
  have i1 : ixS (⟨#[82, 69, 77, 66]⟩ : ByteArray) 1 = some 69 := rfl
  have i2 : ixS (⟨#[82, 69, 77, 66]⟩ : ByteArray) 2 = some 77 := rfl
  have i3 : ixS (⟨#[82, 69, 77, 66]⟩ : ByteArray) 3 = some 66 := rfl
  have v4 : intBits .or .u64 (intBits .or .u64 (intBits .or .u64 (IntKind.wrap .u64 ((IntKind.wrap .u64 82) * 2 ^ 24)) (IntKind.wrap .u64 ((IntKind.wrap .u64 69) * 2 ^ 16))) (IntKind.wrap .u64 ((IntKind.wrap .u64 77) * 2 ^ 8))) (IntKind.wrap .u64 66) = 1380273474 := by decide
  have w1 : IntKind.wrap .u64 (l.length : Int) = (l.length : Int) := wrap_u64 (by omega) (by omega)
  rw [i0, Option.bind_some, i1, Option.bind_some, i2, Option.bind_some, i3, Option.bind_some]
  erw [n1, Option.bind_some]
  rw [v4]
  simp only [m4, bne_self_eq_false, cond_false, Option.bind_some]
  erw [n2, Option.bind_some, n3, Option.bind_some, r1, Option.bind_some, lp]
  have d16 : decide ((l.length : Int) > 16) = false := decide_eq_false (by omega)
  simp only [cond_false, Option.bind_some, hg, List.nil_append, List.length_map, w1, bne_self_eq_false, d16]
theorem kind_ours {s : SR} (h : okS s) : p_rtcp_kind (typ s : Int) (cnt s : Int) = some (rep s).Kind := by
  cases s with
  | tmm K f l => rcases h.1 with rfl | rfl <;> rfl
  | pli f a => rfl
  | fir f l => rfl
  | remb f e m l => rfl
  | other t c b => exact h.2.2.2.2.2
theorem parse_ok {k : Nat} (hk : 100 ≤ k) {s : SR} (h : okS s) : p_rtcp_parse k (typ s : Int) (cnt s : Int) (bodyS s) = some (rep s, true) := by
  have hB := body_isB h
  have hL := bodyLen h
  have hl2 : (bodyS s).length < 2000 := by omega
  unfold p_rtcp_parse
  rw [kind_ours h, Option.bind_some]
  cases s with
  | tmm K f l =>
    obtain ⟨hK, hf, hn, hs⟩ := h
    have w1 : IntKind.wrap .u32 (f : Int) = (f : Int) := wrap_u32 (by omega) (by omega)
    have n1 := num_put (k := k) (b := bodyS (.tmm K f l)) (pre := []) (by omega) (v := (f : Int)) (s := 4) rfl hB hl2 (by decide) (by decide) (by omega) (by omega)
    have n2 := nought_put (k := k) (b := bodyS (.tmm K f l)) (pre := [] ++ putB (f : Int) 4) (by omega) (s := 4) rfl hB hl2 (by decide) (by decide)
    have lp := fun (kE0 : List Int → T_api_Report → T_api_Report → T_rtcp_reader → Option (T_api_Report × Bool)) y g hg => parse_l0 kE0 (bodyS (.tmm K f l)) (bodyS (.tmm K f l)) y hB hl2 l (([] ++ putB (f : Int) 4) ++ putB 0 4) (k - l.length - 1) g hs (by rw [bodyS]; simp only [List.append_assoc, List.nil_append]) hg (by omega)
    rw [show k - l.length - 1 + l.length + 1 = k by omega] at lp
    have d6 : decide (((l.map ST.t).length : Int) > 6) = false := decide_eq_false (by rw [List.length_map]; omega)
    rcases hK with rfl | rfl
    · simp only [rep, show (((1 : Nat)) : Int) = 1 from rfl, show ((1 : Int) == 6) = false from rfl, show ((1 : Int) == 1) = true from rfl, show ((1 : Int) != 3) = true from rfl, cond_true, cond_false]
      erw [n1, Option.bind_some, n2, Option.bind_some, w1, lp _ _ _ (by simp only [List.length_nil]; omega)]
      simp only [List.nil_append, d6, cond_false, Option.bind_some, Bool.not_false, cond_true, beq_self_eq_true]
    · simp only [rep, show (((2 : Nat)) : Int) = 2 from rfl, show ((2 : Int) == 6) = false from rfl, show ((2 : Int) == 1) = false from rfl, show ((2 : Int) == 2) = true from rfl, show ((2 : Int) != 3) = true from rfl, cond_true, cond_false]
      erw [n1, Option.bind_some, n2, Option.bind_some, w1, lp _ _ _ (by simp only [List.length_nil]; omega)]
      simp only [List.nil_append, d6, cond_false, Option.bind_some, Bool.not_false, cond_true, beq_self_eq_true]
  | pli f a =>
    obtain ⟨hf, ha⟩ := h
    have w1 : IntKind.wrap .u32 (f : Int) = (f : Int) := wrap_u32 (by omega) (by omega)
    have w2 : IntKind.wrap .u32 (a : Int) = (a : Int) := wrap_u32 (by omega) (by omega)
    have n1 := num_put (k := k) (b := bodyS (.pli f a)) (pre := []) (by omega) (v := (f : Int)) (s := 4) rfl hB hl2 (by decide) (by decide) (by omega) (by omega)
    have n2 := num_put (k := k) (b := bodyS (.pli f a)) (pre := [] ++ putB (f : Int) 4) (by omega) (v := (a : Int)) (s := 4) (suf := []) (by rw [bodyS, List.append_nil, List.nil_append]) hB hl2 (by decide) (by decide) (by omega) (by omega)
    simp only [rep, show ((3 : Int) == 6) = false from rfl, show ((3 : Int) == 1) = false from rfl, show ((3 : Int) == 2) = false from rfl, show ((3 : Int) == 3) = true from rfl, show ((3 : Int) != 3) = false from rfl, cond_true, cond_false]
    erw [n1, Option.bind_some, n2, Option.bind_some, w1, w2]
    rfl
  | fir f l =>
    obtain ⟨hf, ⟨hn1, hn⟩, hs⟩ := h
    have w1 : IntKind.wrap .u32 (f : Int) = (f : Int) := wrap_u32 (by omega) (by omega)
    have n1 := num_put (k := k) (b := bodyS (.fir f l)) (pre := []) (by omega) (v := (f : Int)) (s := 4) rfl hB hl2 (by decide) (by decide) (by omega) (by omega)
    have n2 := nought_put (k := k) (b := bodyS (.fir f l)) (pre := [] ++ putB (f : Int) 4) (by omega) (s := 4) rfl hB hl2 (by decide) (by decide)
    have lp := fun (kE0 : List Int → T_api_Report → T_api_Report → T_rtcp_reader → Option (T_api_Report × Bool)) y g hg hg2 => parse_l1 kE0 (bodyS (.fir f l)) (bodyS (.fir f l)) y hB hl2 l (([] ++ putB (f : Int) 4) ++ putB 0 4) (k - l.length - 1) g hs (by rw [bodyS]; simp only [List.append_assoc, List.nil_append]) hg hg2 (by omega)
    rw [show k - l.length - 1 + l.length + 1 = k by omega] at lp
    have d1 : decide (((l.map (fun p => (p.1 : Int))).length : Int) < 1) = false := decide_eq_false (by rw [List.length_map]; omega)
    have d2 : decide (((l.map (fun p => (p.1 : Int))).length : Int) > 16) = false := decide_eq_false (by rw [List.length_map]; omega)
    simp only [rep, show ((4 : Int) == 6) = false from rfl, show ((4 : Int) == 1) = false from rfl, show ((4 : Int) == 2) = false from rfl, show ((4 : Int) == 3) = false from rfl, show ((4 : Int) == 4) = true from rfl, show ((4 : Int) != 3) = true from rfl, cond_true, cond_false]
    erw [n1, Option.bind_some, n2, Option.bind_some, w1, lp _ _ _ (by simp only [List.length_nil]; omega) (by simp only [List.length_nil]; omega)]
    simp only [List.nil_append, d1, d2, cond_false, Option.bind_some, Bool.not_false, cond_true, beq_self_eq_true]
  | remb f e m l =>
    obtain ⟨hf, hF, hn, hs⟩ := h
    have w1 : IntKind.wrap .u32 (f : Int) = (f : Int) := wrap_u32 (by omega) (by omega)
    have n1 := num_put (k := k) (b := bodyS (.remb f e m l)) (pre := []) (by omega) (v := (f : Int)) (s := 4) rfl hB hl2 (by decide) (by decide) (by omega) (by omega)
    have n2 := nought_put (k := k) (b := bodyS (.remb f e m l)) (pre := [] ++ putB (f : Int) 4) (by omega) (s := 4) rfl hB hl2 (by decide) (by decide)
    have rm := fun g hg => remb_ok (k := k) (b := bodyS (.remb f e m l)) (pre := ([] ++ putB (f : Int) 4) ++ putB 0 4) (by omega) hF hn hs (by rw [bodyS]; simp only [List.append_assoc, List.nil_append]) hB hl2 g hg
    simp only [rep, show ((5 : Int) == 6) = false from rfl, show ((5 : Int) == 1) = false from rfl, show ((5 : Int) == 2) = false from rfl, show ((5 : Int) == 3) = false from rfl, show ((5 : Int) == 4) = false from rfl, show ((5 : Int) == 5) = true from rfl, show ((5 : Int) != 3) = true from rfl, cond_true, cond_false]
    erw [n1, Option.bind_some, n2, Option.bind_some, w1, rm _ rfl, Option.bind_some]
    simp only [Bool.not_false, cond_true, beq_self_eq_true]
  | other t c b =>
    obtain ⟨h1, h2, h3, h4, h5, h6⟩ := h
    have c1 : p_clone 1 b = some b := clone_eq (by decide) (by omega)
    simp only [rep, show ((6 : Int) == 6) = true from rfl, cond_true, bodyS, typ, cnt]
    rw [c1]
    rfl
end Go.Ev
namespace Go.Ev
set_option maxRecDepth 100000
set_option linter.unusedSimpArgs false
theorem first_byte : ∀ c : Fin 32, (intBits .and .u8 ((128 + c.val : Nat) : Int) 192 = 128 ∧ intBits .and .u8 ((128 + c.val : Nat) : Int) 32 = 0) ∧ intBits .and .u8 ((128 + c.val : Nat) : Int) 31 = (c.val : Int) := by decide
theorem bytS_isB {s : SR} (h : okS s) : isB (bytS s) := by
  have hc := cnt_le h
  have ht := typ_le h
  refine isB_app (fun x hx => ?_) (isB_app (putB_isB _ _) (body_isB h))
  simp only [List.mem_cons, List.not_mem_nil, or_false] at hx
  rcases hx with rfl | rfl <;> omega
theorem words_ok {k : Nat} (hk : 10 ≤ k) {s : SR} (h : okS s) {b suf : List Int} (hb : b = bytS s ++ suf) {x : List Int} (hB : isB x) {m : Nat} (hx : x = b.take m) (hm : 4 ≤ m) (hmb : m ≤ b.length) (hl : b.length < 2000) :
    p_octet_Get k x 2 2 = some ((((bodyS s).length / 4 : Nat) : Int), true) := by
  have hbl := bodyLen h
  have hxl : x.length = m := by rw [hx, List.length_take]; omega
  have g := get_ok (k := k) hk (xs := x) hB (by omega) (a := 2) (n := 2) (by omega) (by decide) (by decide)
  have e : ((x.drop 2).take 2) = putB (((bodyS s).length / 4 : Nat) : Int) 2 := by
    obtain ⟨m', rfl⟩ : ∃ m', m = m' + 4 := ⟨m - 4, by omega⟩
    rw [hx, hb, bytS]
    simp only [putB, List.cons_append, List.nil_append, List.take_succ_cons, List.drop_succ_cons, List.drop_zero, List.take_zero]
  rw [e, getB_putB _ (by omega)] at g
  rw [show (2 : Int) = ((2 : Nat) : Int) from rfl, g]
  congr 2
  omega
theorem one_ok {k : Nat} (hk : 100 ≤ k) {s : SR} (h : okS s) {b suf : List Int} (hb : b = bytS s ++ suf) (hB : isB b) (hl : b.length < 2000) :
    p_rtcp_one k b = some (rep s, ((bytS s).length : Int), 0) := by
  have hbl := bodyLen h
  have hs := bytS_len s
  have hlen : b.length = (bytS s).length + suf.length := by rw [hb, List.length_append]
  have hc := cnt_le h
  have ht := typ_le h
  have g := words_ok (k := k) (by omega) h hb hB (m := b.length) (by rw [List.take_length]) (by omega) (by omega) hl
  have d4 : decide ((b.length : Int) < 4) = false := decide_eq_false (by omega)
  have wn : IntKind.wrap .i64 (4 + IntKind.wrap .i64 (4 * IntKind.wrap .i64 (((bodyS s).length / 4 : Nat) : Int))) = ((bytS s).length : Int) := by
    rw [wrap_i64 (n := (((bodyS s).length / 4 : Nat) : Int)) (by omega) (by omega), wrap_i64 (n := 4 * (((bodyS s).length / 4 : Nat) : Int)) (by omega) (by omega), wrap_i64 (by omega) (by omega)]
    omega
  have dn : decide (((bytS s).length : Int) > (b.length : Int)) = false := decide_eq_false (by omega)
  have i0 : ix b 0 = some ((128 + cnt s : Nat) : Int) := by rw [hb, bytS]; rfl
  have i1 : ix b 1 = some (typ s : Int) := by rw [hb, bytS]; rfl
  obtain ⟨⟨f1, f2⟩, f3⟩ := first_byte ⟨cnt s, by omega⟩
  simp only at f1 f2 f3
  have d5 : decide ((typ s : Int) < 192) = false := decide_eq_false (by omega)
  have d6 : decide ((typ s : Int) > 223) = false := decide_eq_false (by omega)
  have w1 : IntKind.wrap .i64 (typ s : Int) = (typ s : Int) := wrap_i64 (by omega) (by omega)
  have w2 : IntKind.wrap .i64 (cnt s : Int) = (cnt s : Int) := wrap_i64 (by omega) (by omega)
  have hsub : sub b 4 ((bytS s).length : Int) = some (bodyS s) := by
    have := sub_eq (xs := b) (a := 4) (n := (bodyS s).length) (by omega)
    rw [show ((bytS s).length : Int) = ((4 + (bodyS s).length : Nat) : Int) by rw [hs], show (4 : Int) = ((4 : Nat) : Int) from rfl, this]
    congr 1
    rw [hb, bytS]
    simp only [putB, List.cons_append, List.nil_append, List.drop_succ_cons, List.drop_zero, List.take_left]
  unfold p_rtcp_one
  rw [d4, cond_false, g, Option.bind_some]
  simp only [wn, dn, cond_false, i0, i1, Option.bind_some, f1, f2, f3, bne_self_eq_false, d5, d6, w1, w2, hsub, parse_ok hk h, Bool.not_true]
end Go.Ev
namespace Go.Ev
set_option maxRecDepth 100000
set_option linter.unusedSimpArgs false
theorem wrapN64 (n : Nat) (h : n < 2 ^ 32) : IntKind.wrap .u64 (n : Int) = (n : Int) := wrap_u64 (by omega) (by omega)
theorem body_l0 {β : Type} (kE0 : List Int → T_api_Report → Option β) (y : T_api_Report) (L : List ST) (hL : ∀ s ∈ L, s.ok ∧ NR 17 s.e s.m) (hn : L.length ≤ 6) : ∀ (rest pre : List ST) (j : Nat) (out : List Int), L = pre ++ rest → 70 ≤ j → out.length + 8 * rest.length < 900 →
    p_rtcp_body_l0 (j + rest.length + 1) kE0 out (L.map ST.t) (L.length : Int) (pre.length : Int) y = kE0 (out ++ rest.flatMap encT) y
  | [], pre, j, out, h, _, _ => by
    rw [p_rtcp_body_l0]
    have h1 : decide ((pre.length : Int) < (L.length : Int)) = false := by subst h; simp
    rw [h1, cond_false, List.flatMap_nil, List.append_nil]
  | a :: rest, pre, j, out, h, hj, ho => by
    have hplen : pre.length + 1 ≤ L.length := by rw [h, List.length_append, List.length_cons]; omega
    rw [List.length_cons] at ho
    rw [List.length_cons, show j + (rest.length + 1) + 1 = (j + rest.length + 1) + 1 from rfl, p_rtcp_body_l0]
    have h1 : decide ((pre.length : Int) < (L.length : Int)) = true := decide_eq_true (by omega)
    have h2 : ix (L.map ST.t) (pre.length : Int) = some a.t := ix_mid' (xs := pre.map ST.t) (ys := rest.map ST.t) (by rw [h, List.map_append, List.map_cons]) (by rw [List.length_map])
    have h4 : IntKind.wrap .i64 ((pre.length : Int) + 1) = (((pre ++ [a]).length : Nat) : Int) := by rw [wrap_i64 (by omega) (by omega)]; simp
    obtain ⟨ha, hN⟩ := hL a (by rw [h]; simp)
    have w1 : IntKind.wrap .u64 a.t.Owner = (a.o : Int) := wrapN64 _ ha.ho
    have w2 : IntKind.wrap .u64 a.t.Over = (a.v : Int) := wrapN64 _ (by have := ha.hv; omega)
    have p1 : p_octet_Put (j + rest.length + 1) out (a.o : Int) 4 = some (out ++ putB (a.o : Int) 4) := putO_ok (s := 4) (by omega) (by omega) (by omega) (by decide) (by decide)
    have p2 : p_rtcp_packed (j + rest.length + 1) a.t.Rate 17 9 (a.v : Int) = some (a.w : Int) := packedN (b := 17) (c := 9) (by omega) (by decide) (by decide) hN (by have := ha.hv; omega) (by decide) (by decide)
    have p3 : p_octet_Put (j + rest.length + 1) (out ++ putB (a.o : Int) 4) (a.w : Int) 4 = some ((out ++ putB (a.o : Int) 4) ++ putB (a.w : Int) 4) := putO_ok (s := 4) (by omega) (by rw [List.length_append, putB_len]; omega) (by omega) (by decide) (by decide)
    rw [h1, cond_true, h2, Option.bind_some, w1, p1, Option.bind_some, w2, p2, Option.bind_some, p3, Option.bind_some, h4]
    refine (body_l0 kE0 y L hL hn rest (pre ++ [a]) j _ (by rw [h]; simp) hj (by rw [List.length_append, List.length_append, putB_len, putB_len]; omega)).trans ?_
    rw [List.flatMap_cons, encT]
    simp only [List.append_assoc]
theorem body_l1 {β : Type} (kE0 : List Int → Option β) (y : T_api_Report) (L : List (Nat × Nat)) (hy : y.Numbers = L.map (fun p => (p.2 : Int))) (hL : ∀ p ∈ L, p.1 < 2 ^ 32 ∧ p.2 < 256) (hn : L.length ≤ 16) : ∀ (rest pre : List (Nat × Nat)) (j : Nat) (out : List Int), L = pre ++ rest → 70 ≤ j → out.length + 8 * rest.length < 900 →
    p_rtcp_body_l1 (j + rest.length + 1) kE0 out (L.map (fun p => (p.1 : Int))) (L.length : Int) (pre.length : Int) y = kE0 (out ++ rest.flatMap encA)
  | [], pre, j, out, h, _, _ => by
    rw [p_rtcp_body_l1]
    have h1 : decide ((pre.length : Int) < (L.length : Int)) = false := by subst h; simp
    rw [h1, cond_false, List.flatMap_nil, List.append_nil]
  | a :: rest, pre, j, out, h, hj, ho => by
    have hplen : pre.length + 1 ≤ L.length := by rw [h, List.length_append, List.length_cons]; omega
    rw [List.length_cons] at ho
    rw [List.length_cons, show j + (rest.length + 1) + 1 = (j + rest.length + 1) + 1 from rfl, p_rtcp_body_l1]
    have h1 : decide ((pre.length : Int) < (L.length : Int)) = true := decide_eq_true (by omega)
    have h2 : ix (L.map (fun p => (p.1 : Int))) (pre.length : Int) = some (a.1 : Int) := ix_mid' (xs := pre.map (fun p => (p.1 : Int))) (ys := rest.map (fun p => (p.1 : Int))) (by rw [h, List.map_append, List.map_cons]) (by rw [List.length_map])
    have h3 : ix y.Numbers (pre.length : Int) = some (a.2 : Int) := ix_mid' (xs := pre.map (fun p => (p.2 : Int))) (ys := rest.map (fun p => (p.2 : Int))) (by rw [hy, h, List.map_append, List.map_cons]) (by rw [List.length_map])
    have h4 : IntKind.wrap .i64 ((pre.length : Int) + 1) = (((pre ++ [a]).length : Nat) : Int) := by rw [wrap_i64 (by omega) (by omega)]; simp
    obtain ⟨ha, hb⟩ := hL a (by rw [h]; simp)
    have p1 : p_octet_Put (j + rest.length + 1) out (a.1 : Int) 4 = some (out ++ putB (a.1 : Int) 4) := putO_ok (s := 4) (by omega) (by omega) (by omega) (by decide) (by decide)
    have p2 : p_octet_Put (j + rest.length + 1) (out ++ putB (a.1 : Int) 4) (a.2 : Int) 1 = some ((out ++ putB (a.1 : Int) 4) ++ putB (a.2 : Int) 1) := putO_ok (s := 1) (by omega) (by rw [List.length_append, putB_len]; omega) (by omega) (by decide) (by decide)
    have p3 : p_octet_Put (j + rest.length + 1) ((out ++ putB (a.1 : Int) 4) ++ putB (a.2 : Int) 1) 0 3 = some (((out ++ putB (a.1 : Int) 4) ++ putB (a.2 : Int) 1) ++ putB 0 3) := putO_ok (s := 3) (by omega) (by rw [List.length_append, List.length_append, putB_len, putB_len]; omega) (by omega) (by decide) (by decide)
    rw [h1, cond_true, h2, Option.bind_some, h3, Option.bind_some, wrapN64 _ ha, p1, Option.bind_some, wrapN64 _ (by omega), p2, Option.bind_some, p3, Option.bind_some, h4]
    refine (body_l1 kE0 y L hy hL hn rest (pre ++ [a]) j _ (by rw [h]; simp) hj (by rw [List.length_append, List.length_append, List.length_append, putB_len, putB_len, putB_len]; omega)).trans ?_
    rw [List.flatMap_cons, encA]
    simp only [List.append_assoc]
theorem body_l2 {β : Type} (kE0 : List Int → Option β) (L : List Nat) (hL : ∀ n ∈ L, n < 2 ^ 32) (hn : L.length ≤ 16) : ∀ (rest pre : List Nat) (j : Nat) (out : List Int), L = pre ++ rest → 70 ≤ j → out.length + 8 * rest.length < 900 →
    p_rtcp_body_l2 (j + rest.length + 1) kE0 out (L.map (fun n : Nat => (n : Int))) (L.length : Int) (pre.length : Int) = kE0 (out ++ rest.flatMap fun n : Nat => putB (n : Int) 4)
  | [], pre, j, out, h, _, _ => by
    rw [p_rtcp_body_l2]
    have h1 : decide ((pre.length : Int) < (L.length : Int)) = false := by subst h; simp
    rw [h1, cond_false, List.flatMap_nil, List.append_nil]
  | a :: rest, pre, j, out, h, hj, ho => by
    have hplen : pre.length + 1 ≤ L.length := by rw [h, List.length_append, List.length_cons]; omega
    rw [List.length_cons] at ho
    rw [List.length_cons, show j + (rest.length + 1) + 1 = (j + rest.length + 1) + 1 from rfl, p_rtcp_body_l2]
    have h1 : decide ((pre.length : Int) < (L.length : Int)) = true := decide_eq_true (by omega)
    have h2 : ix (L.map (fun n : Nat => (n : Int))) (pre.length : Int) = some (a : Int) := ix_mid' (xs := pre.map (fun n : Nat => (n : Int))) (ys := rest.map (fun n : Nat => (n : Int))) (by rw [h, List.map_append, List.map_cons]) (by rw [List.length_map])
    have h4 : IntKind.wrap .i64 ((pre.length : Int) + 1) = (((pre ++ [a]).length : Nat) : Int) := by rw [wrap_i64 (by omega) (by omega)]; simp
    have ha := hL a (by rw [h]; simp)
    have p1 : p_octet_Put (j + rest.length + 1) out (a : Int) 4 = some (out ++ putB (a : Int) 4) := putO_ok (s := 4) (by omega) (by omega) (by omega) (by decide) (by decide)
    rw [h1, cond_true, h2, Option.bind_some, wrapN64 _ ha, p1, Option.bind_some, h4]
    refine (body_l2 kE0 L hL hn rest (pre ++ [a]) j _ (by rw [h]; simp) hj (by rw [List.length_append, putB_len]; omega)).trans ?_
    rw [List.flatMap_cons]
    simp only [List.append_assoc]
theorem body_ok {k : Nat} (hk : 100 ≤ k) {s : SR} (h : okS s) (hw : okW s) : p_rtcp_body k (rep s) = some (bodyS s, (typ s : Int), (cnt s : Int)) := by
  have p4 : ∀ (out : List Int) (n : Nat) (s : Nat), out.length < 900 → 1 ≤ s → s ≤ 8 → p_octet_Put k out (n : Int) (s : Int) = some (out ++ putB (n : Int) s) := fun out n s ho h1 h8 => putO_ok (by omega) (by omega) (by omega) h1 h8
  cases s with
  | tmm K f l =>
    obtain ⟨hK, hf, hn, hl⟩ := h
    have q0 := p4 [] f 4 (by simp) (by decide) (by decide)
    have q1 := p4 (putB (f : Int) 4) 0 4 (by rw [putB_len]; omega) (by decide) (by decide)
    have bl := fun (kE0 : List Int → T_api_Report → Option (List Int × Int × Int)) (y : T_api_Report) => body_l0 kE0 y l (fun s hs => ⟨hl s hs, hw s hs⟩) hn l [] (k - l.length - 1) (putB (f : Int) 4 ++ putB 0 4) rfl (by omega) (by rw [List.length_append, putB_len, putB_len]; omega)
    rw [show k - l.length - 1 + l.length + 1 = k by omega] at bl
    rcases hK with rfl | rfl
    · show p_rtcp_body k (⟨1, (f : Int), 0, l.map ST.t, [], [], 0, 0, 0, []⟩ : T_api_Report) = _
      unfold p_rtcp_body
      simp only [wrapN64 f hf]
      simp only [show ((1 : Int) == 1) = true from rfl, show ((1 : Int) != 3) = true from rfl, show ((1 : Int) != 6) = true from rfl, cond_true]
      erw [q0, Option.bind_some, Option.bind_some, q1, Option.bind_some, List.length_map, bl]
      rw [bodyS, List.append_assoc]
      rfl
    · show p_rtcp_body k (⟨2, (f : Int), 0, l.map ST.t, [], [], 0, 0, 0, []⟩ : T_api_Report) = _
      unfold p_rtcp_body
      simp only [wrapN64 f hf]
      simp only [show ((2 : Int) == 1) = false from rfl, show ((2 : Int) == 2) = true from rfl, show ((2 : Int) != 3) = true from rfl, show ((2 : Int) != 6) = true from rfl, cond_true, cond_false]
      erw [q0, Option.bind_some, Option.bind_some, q1, Option.bind_some, List.length_map, bl]
      rw [bodyS, List.append_assoc]
      rfl
  | pli f a =>
    obtain ⟨hf, ha⟩ := h
    have q0 := p4 [] f 4 (by simp) (by decide) (by decide)
    have q1 := p4 (putB (f : Int) 4) a 4 (by rw [putB_len]; omega) (by decide) (by decide)
    show p_rtcp_body k (⟨3, (f : Int), (a : Int), [], [], [], 0, 0, 0, []⟩ : T_api_Report) = _
    unfold p_rtcp_body
    simp only [wrapN64 f hf, wrapN64 a ha]
    simp only [show ((3 : Int) == 1) = false from rfl, show ((3 : Int) == 2) = false from rfl, show ((3 : Int) == 3) = true from rfl, show ((3 : Int) != 3) = false from rfl, cond_true, cond_false]
    erw [q0, Option.bind_some, Option.bind_some, cond_false, q1, Option.bind_some]
    rfl
  | fir f l =>
    obtain ⟨hf, ⟨hn1, hn⟩, hl⟩ := h
    have q0 := p4 [] f 4 (by simp) (by decide) (by decide)
    have q1 := p4 (putB (f : Int) 4) 0 4 (by rw [putB_len]; omega) (by decide) (by decide)
    have bl := fun (kE0 : List Int → Option (List Int × Int × Int)) => body_l1 kE0 (⟨4, (f : Int), 0, [], l.map (fun p => (p.1 : Int)), l.map (fun p => (p.2 : Int)), 0, 0, 0, []⟩ : T_api_Report) l rfl hl hn l [] (k - l.length - 1) (putB (f : Int) 4 ++ putB 0 4) rfl (by omega) (by rw [List.length_append, putB_len, putB_len]; omega)
    rw [show k - l.length - 1 + l.length + 1 = k by omega] at bl
    show p_rtcp_body k (⟨4, (f : Int), 0, [], l.map (fun p => (p.1 : Int)), l.map (fun p => (p.2 : Int)), 0, 0, 0, []⟩ : T_api_Report) = _
    unfold p_rtcp_body
    simp only [wrapN64 f hf]
    simp only [show ((4 : Int) == 1) = false from rfl, show ((4 : Int) == 2) = false from rfl, show ((4 : Int) == 3) = false from rfl, show ((4 : Int) == 4) = true from rfl, show ((4 : Int) != 3) = true from rfl, show ((4 : Int) != 6) = true from rfl, cond_true, cond_false]
    erw [q0, Option.bind_some, Option.bind_some, q1, Option.bind_some, List.length_map, bl]
    rw [bodyS, List.append_assoc]
    rfl
  | remb f e m l =>
    obtain ⟨hf, hF, hn, hl⟩ := h
    have q0 := p4 [] f 4 (by simp) (by decide) (by decide)
    have q1 := p4 (putB (f : Int) 4) 0 4 (by rw [putB_len]; omega) (by decide) (by decide)
    have a1 : ap 1 (putB (f : Int) 4 ++ putB 0 4) (bytesS (⟨#[82, 69, 77, 66]⟩ : ByteArray)) = some ((putB (f : Int) 4 ++ putB 0 4) ++ mark) := ap_eq2 (by decide) (by rw [List.length_append, putB_len, putB_len, bytesS_len]; decide)
    have q2 := p4 ((putB (f : Int) 4 ++ putB 0 4) ++ mark) l.length 1 (by rw [List.length_append, List.length_append, putB_len, putB_len]; decide) (by decide) (by decide)
    have q3 := p4 (((putB (f : Int) 4 ++ putB 0 4) ++ mark) ++ putB (l.length : Int) 1) (e * 2 ^ 18 + m) 3 (by rw [List.length_append, List.length_append, List.length_append, putB_len, putB_len, putB_len]; decide) (by decide) (by decide)
    have pk : p_rtcp_packed k ((m * 2 ^ e : Nat) : Int) 18 0 0 = some ((e * 2 ^ 18 + m : Nat) : Int) := by
      have := packedN (k := k) (b := 18) (c := 0) (low := 0) (by omega) (by decide) (by decide) hw (by decide) (by decide) (by decide)
      rwa [Nat.pow_zero, Nat.mul_one, Nat.add_zero] at this
    have bl := fun (kE0 : List Int → Option (List Int × Int × Int)) => body_l2 kE0 l hl hn l [] (k - l.length - 1) ((((putB (f : Int) 4 ++ putB 0 4) ++ mark) ++ putB (l.length : Int) 1) ++ putB ((e * 2 ^ 18 + m : Nat) : Int) 3) rfl (by omega) (by simp only [List.length_append, putB_len, mark, List.length_cons, List.length_nil]; omega)
    rw [show k - l.length - 1 + l.length + 1 = k by omega] at bl
    show p_rtcp_body k (⟨5, (f : Int), 0, [], l.map (fun n : Nat => (n : Int)), [], ((m * 2 ^ e : Nat) : Int), 0, 0, []⟩ : T_api_Report) = _
    unfold p_rtcp_body
    simp only [wrapN64 f hf, List.length_map, wrapN64 l.length (by omega)]
    simp only [show ((5 : Int) == 1) = false from rfl, show ((5 : Int) == 2) = false from rfl, show ((5 : Int) == 3) = false from rfl, show ((5 : Int) == 4) = false from rfl, show ((5 : Int) == 5) = true from rfl, show ((5 : Int) != 3) = true from rfl, show ((5 : Int) != 6) = true from rfl, cond_true, cond_false]
    erw [q0, Option.bind_some, Option.bind_some, q1, Option.bind_some, a1, Option.bind_some, q2, Option.bind_some, pk, Option.bind_some, q3, Option.bind_some, bl]
    rw [bodyS]
    simp only [List.append_assoc]
    rfl
  | other t c b =>
    obtain ⟨h1, h2, h3, h4, h5, h6⟩ := h
    have q0 := p4 [] 0 4 (by simp) (by decide) (by decide)
    have c1 : p_clone 1 b = some b := clone_eq (by decide) (by omega)
    show p_rtcp_body k (⟨6, 0, 0, [], [], [], 0, (t : Int), (c : Int), b⟩ : T_api_Report) = _
    unfold p_rtcp_body
    simp only [show IntKind.wrap .u64 0 = 0 from rfl]
    simp only [show ((6 : Int) == 1) = false from rfl, show ((6 : Int) == 2) = false from rfl, show ((6 : Int) == 3) = false from rfl, show ((6 : Int) == 4) = false from rfl, show ((6 : Int) == 5) = false from rfl, show ((6 : Int) != 3) = true from rfl, show ((6 : Int) != 6) = false from rfl, cond_true, cond_false]
    erw [q0, Option.bind_some, Option.bind_some, cond_false, c1, Option.bind_some]
    rfl
theorem rep_eta (r : T_api_Report) : (⟨r.Kind, r.From, r.About, r.Tuples, r.Abouts, r.Numbers, r.Rate, r.f_Type, r.Count, r.Body⟩ : T_api_Report) = r := rfl
theorem bytes_l0 {β : Type} (kE0 : List T_api_Report → Option β) (kE1 : Int → Option β) (x0 : List T_api_Report) (L : List SR) (hL : ∀ s ∈ L, okS s ∧ okW s) (hn : L.length ≤ 6) : ∀ (rest pre : List SR) (j : Nat), L = pre ++ rest → 90 ≤ j →
    p_rtcp_Bytes_l0 (j + rest.length + 1) kE0 kE1 x0 (L.map rep) (L.length : Int) (pre.length : Int) = kE0 x0
  | [], pre, j, h, _ => by
    rw [p_rtcp_Bytes_l0]
    have h1 : decide ((pre.length : Int) < (L.length : Int)) = false := by subst h; simp
    rw [h1, cond_false]
  | a :: rest, pre, j, h, hj => by
    have hplen : pre.length + 1 ≤ L.length := by rw [h, List.length_append, List.length_cons]; omega
    rw [List.length_cons, show j + (rest.length + 1) + 1 = (j + rest.length + 1) + 1 from rfl, p_rtcp_Bytes_l0]
    have h1 : decide ((pre.length : Int) < (L.length : Int)) = true := decide_eq_true (by omega)
    have h2 : ix (L.map rep) (pre.length : Int) = some (rep a) := ix_mid' (xs := pre.map rep) (ys := rest.map rep) (by rw [h, List.map_append, List.map_cons]) (by rw [List.length_map])
    have h4 : IntKind.wrap .i64 ((pre.length : Int) + 1) = (((pre ++ [a]).length : Nat) : Int) := by rw [wrap_i64 (by omega) (by omega)]; simp
    obtain ⟨ha, hb⟩ := hL a (by rw [h]; simp)
    rw [h1, cond_true, h2, Option.bind_some, right_okR (by omega) ha hb, Option.bind_some, show ((0 : Int) != 0) = false from rfl, cond_false, h4]
    exact bytes_l0 kE0 kE1 x0 L hL hn rest (pre ++ [a]) j (by rw [h]; simp) hj
theorem or128 {c : Nat} (h : c ≤ 31) : intBits .or .i64 128 (c : Int) = ((128 + c : Nat) : Int) := by
  have := or_add .i64 (j := 5) (a := 4) (b := (c : Int)) (by decide) (by omega) (by omega) (by show (4 : Int) * 2 ^ 5 + c < 2 ^ 64; omega) (wrap_i64 (by omega) (by omega))
  rw [show ((128 : Int)) = 4 * 2 ^ 5 from rfl, this]
  omega
theorem bytes_l1 {β : Type} (kE0 : List Int → Option β) (kE1 : Int → Option β) (L : List SR) (hL : ∀ s ∈ L, okS s ∧ okW s) (hn : L.length ≤ 4) : ∀ (rest pre : List SR) (j : Nat) (out : List Int), L = pre ++ rest → 100 ≤ j → out.length + 204 * rest.length < 900 →
    p_rtcp_Bytes_l1 (j + rest.length + 1) kE0 kE1 out (L.map rep) (L.length : Int) (pre.length : Int) = kE0 (out ++ rest.flatMap bytS)
  | [], pre, j, out, h, _, _ => by
    rw [p_rtcp_Bytes_l1]
    have h1 : decide ((pre.length : Int) < (L.length : Int)) = false := by subst h; simp
    rw [h1, cond_false, List.flatMap_nil, List.append_nil]
  | a :: rest, pre, j, out, h, hj, ho => by
    have hplen : pre.length + 1 ≤ L.length := by rw [h, List.length_append, List.length_cons]; omega
    rw [List.length_cons] at ho
    rw [List.length_cons, show j + (rest.length + 1) + 1 = (j + rest.length + 1) + 1 from rfl, p_rtcp_Bytes_l1]
    have h1 : decide ((pre.length : Int) < (L.length : Int)) = true := decide_eq_true (by omega)
    have h2 : ix (L.map rep) (pre.length : Int) = some (rep a) := ix_mid' (xs := pre.map rep) (ys := rest.map rep) (by rw [h, List.map_append, List.map_cons]) (by rw [List.length_map])
    have h4 : IntKind.wrap .i64 ((pre.length : Int) + 1) = (((pre ++ [a]).length : Nat) : Int) := by rw [wrap_i64 (by omega) (by omega)]; simp
    obtain ⟨ha, hb⟩ := hL a (by rw [h]; simp)
    have hc := cnt_le ha
    have ht := typ_le ha
    have hl := bodyLen ha
    have w1 : IntKind.wrap .u8 ((128 + cnt a : Nat) : Int) = ((128 + cnt a : Nat) : Int) := wrap_u8 (by omega) (by omega)
    have w2 : IntKind.wrap .u8 (typ a : Int) = (typ a : Int) := wrap_u8 (by omega) (by omega)
    have w3 : IntKind.wrap .i64 (Int.tdiv ((bodyS a).length : Int) 4) = (((bodyS a).length / 4 : Nat) : Int) := by
      rw [show Int.tdiv ((bodyS a).length : Int) 4 = (((bodyS a).length / 4 : Nat) : Int) from rfl]
      exact wrap_i64 (by omega) (by omega)
    have w4 : IntKind.wrap .u64 (((bodyS a).length / 4 : Nat) : Int) = (((bodyS a).length / 4 : Nat) : Int) := wrapN64 _ (by omega)
    have a1 : ap 1 out [((128 + cnt a : Nat) : Int), (typ a : Int)] = some (out ++ [((128 + cnt a : Nat) : Int), (typ a : Int)]) := ap_eq2 (by decide) (by simp only [List.length_cons, List.length_nil]; omega)
    have p1 : p_octet_Put (j + rest.length + 1) (out ++ [((128 + cnt a : Nat) : Int), (typ a : Int)]) (((bodyS a).length / 4 : Nat) : Int) 2 = some ((out ++ [((128 + cnt a : Nat) : Int), (typ a : Int)]) ++ putB (((bodyS a).length / 4 : Nat) : Int) 2) := putO_ok (s := 2) (by omega) (by rw [List.length_append]; simp only [List.length_cons, List.length_nil]; omega) (by omega) (by decide) (by decide)
    have a2 : ap 1 ((out ++ [((128 + cnt a : Nat) : Int), (typ a : Int)]) ++ putB (((bodyS a).length / 4 : Nat) : Int) 2) (bodyS a) = some (out ++ bytS a) := by
      rw [ap_eq2 (by decide) (by rw [List.length_append, List.length_append, putB_len]; simp only [List.length_cons, List.length_nil]; omega), bytS]
      simp only [List.append_assoc]
    have hbl := bytS_len a
    have d1 : decide ((((out ++ bytS a).length : Nat) : Int) > 1500) = false := decide_eq_false (by rw [List.length_append]; omega)
    rw [h1, cond_true, h2, Option.bind_some, body_ok (by omega) ha hb, Option.bind_some]
    simp only [or128 hc, w1, w2, w3, w4]
    rw [a1, Option.bind_some, p1, Option.bind_some, a2, Option.bind_some, d1, cond_false, h4]
    refine (bytes_l1 kE0 kE1 L hL hn rest (pre ++ [a]) j _ (by rw [h]; simp) hj (by rw [List.length_append]; omega)).trans ?_
    rw [List.flatMap_cons, List.append_assoc]
theorem bytes_okR {k : Nat} (hk : 110 ≤ k) {L : List SR} (hL : ∀ s ∈ L, okS s ∧ okW s) (h1 : 1 ≤ L.length) (hn : L.length ≤ 3) : p_rtcp_Bytes k (L.map rep) = some (L.flatMap bytS, 0) := by
  unfold p_rtcp_Bytes
  have d : (((L.map rep).length : Int) == 0) = false := by rw [List.length_map, beq_eq_false_iff_ne]; omega
  have b0 := fun (kE0 : List T_api_Report → Option (List Int × Int)) kE1 x0 => bytes_l0 kE0 kE1 x0 L hL (by omega) L [] (k - L.length - 1) rfl (by omega)
  have b1 := fun (kE0 : List Int → Option (List Int × Int)) kE1 => bytes_l1 kE0 kE1 L hL (by omega) L [] (k - L.length - 1) [] rfl (by omega) (by simp only [List.length_nil]; omega)
  rw [show k - L.length - 1 + L.length + 1 = k by omega] at b0 b1
  rw [d, cond_false]
  rw [show (((L.map rep).length : Nat) : Int) = (L.length : Int) by rw [List.length_map]]
  refine (b0 _ _ _).trans ?_
  simp only [List.length_map]
  refine (b1 _ _).trans ?_
  rw [List.nil_append]
end Go.Ev
/- Equations, printed by tracer2.py. -/
namespace Go.Ev
open Go.Proofs
set_option linter.unusedVariables false
set_option maxRecDepth 100000
-- 15 (*limelight/limelightkeep.Tape).Report
noncomputable def limelightkeep_Tape_Report_c0 : Code := (codeAt (bodyOf Try.f15) [1, 1, 0, 1, 0, 1, 0, 1, 0, 0])
def limelightkeep_Tape_Report_l0 : Lv := ⟨12, 4, [(1, 12), (0, 12)]⟩
noncomputable def limelightkeep_Tape_Report_k0 (rec : CallF) (loop : LoopV) (σ : Stamp) : Exit → Env → H → Option (List C × H) := (kBlock 1 (kBlock 0 (kSeq G rec loop (codeAt (bodyOf Try.f15) [1, 1, 1]) ⟨4, 4, []⟩ (1 :: 1 :: 0 :: σ) (finC G false Try.f15 (1 :: σ)))))
noncomputable def limelightkeep_Tape_Report_c1 : Code := (codeAt (bodyOf Try.f15) [1, 1, 0, 1, 0, 1, 1, 1, 1, 1, 0, 1, 0, 0])
def limelightkeep_Tape_Report_l1 : Lv := ⟨12, 4, [(3, 12), (0, 12)]⟩
noncomputable def limelightkeep_Tape_Report_k1 (rec : CallF) (loop : LoopV) (σ : Stamp) : Exit → Env → H → Option (List C × H) := (kBlock 3 (kBlock 0 (kSeq G rec loop (codeAt (bodyOf Try.f15) [1, 1, 1]) ⟨4, 4, []⟩ (1 :: 1 :: 0 :: σ) (finC G false Try.f15 (1 :: σ)))))
noncomputable def limelightkeep_Tape_Report_c2 : Code := (codeAt (bodyOf Try.f15) [1, 1, 0, 1, 0, 1, 1, 1, 1, 1, 1, 1, 0, 1, 1, 0, 0])
def limelightkeep_Tape_Report_l2 : Lv := ⟨12, 4, [(5, 12), (0, 12)]⟩
noncomputable def limelightkeep_Tape_Report_k2 (rec : CallF) (loop : LoopV) (σ : Stamp) : Exit → Env → H → Option (List C × H) := (kBlock 5 (kBlock 0 (kSeq G rec loop (codeAt (bodyOf Try.f15) [1, 1, 1]) ⟨4, 4, []⟩ (1 :: 1 :: 0 :: σ) (finC G false Try.f15 (1 :: σ)))))
theorem limelightkeep_Tape_Report_entry (rec : CallF) (loop : LoopV) (σ : Stamp) (x0 : V) (h : H) : cvBody G rec loop 15 σ [x0] h =
 (some (alO [.p (.int .i64 0), .p (.int .u32 0), .p (.int .u32 0), .p (.slice none 0 0), .p (.slice none 0 0), .p (.slice none 0 0), .p (.int .u64 0), .p (.int .i64 0), .p (.int .i64 0), .p (.slice none 0 0)] (0 :: 0 :: 0 :: σ) 2 (List.replicate 93 [] :: h))).bind fun q1 =>
 (callO rec 42 (1 :: 0 :: 1 :: 0 :: σ) [x0, (.p (.int .i64 6))] q1.2 (some 8)).bind fun q2 =>
 (castI .i64 q2.1).bind fun n3 =>
 (callO rec 43 (4 :: 0 :: 1 :: 0 :: σ) [x0] q2.2 (some 11)).bind fun q4 =>
 (castI .u32 q4.1).bind fun n5 =>
 (buildV Try.prog 33 [(0, (.p (.int .i64 (IntKind.wrap .i64 (1 + n3))))), (1, (.p (.int .u32 n5)))]).bind fun t6 =>
 (some (alO [.p (.int .i64 0), .p (.int .u32 0), .p (.int .u32 0), .p (.slice none 0 0), .p (.slice none 0 0), .p (.slice none 0 0), .p (.int .u64 0), .p (.int .i64 0), .p (.int .i64 0), .p (.slice none 0 0)] (6 :: 0 :: 1 :: 0 :: σ) 3 q4.2)).bind fun q7 =>
 ((stO false 10 (7 :: 0 :: 1 :: 0 :: σ) q7.2 q7.1 t6).map fun h => (udf, h)).bind fun q8 =>
 (fA q7.1 0).bind fun t9 =>
 (ldO false 1 q8.2 t9).bind fun t10 =>
 (castI .i64 t10).bind fun n11 =>
 bif n11 == 1 then (
 bif n11 == 1 then (
 (callO rec 42 (1 :: 0 :: 1 :: 1 :: 0 :: 1 :: 1 :: 0 :: σ) [x0, (.p (.int .i64 5))] q8.2 (some 28)).bind fun q12 =>
 (castI .i64 q12.1).bind fun n13 =>
 (loop limelightkeep_Tape_Report_c0 limelightkeep_Tape_Report_l0 (1 :: 1 :: 1 :: 0 :: 1 :: 1 :: 0 :: σ) (envL [(0, x0), (2, q1.1), (3, q7.1), (4, (.p (.int .i64 n13)))]) q12.2).bind fun r14 => limelightkeep_Tape_Report_k0 rec loop σ r14.1 r14.2.1 r14.2.2)
 else (
 bif n11 == 3 then (
 (callO rec 43 (1 :: 1 :: 1 :: 1 :: 0 :: 1 :: 1 :: 0 :: σ) [x0] q8.2 (some 43)).bind fun q15 =>
 (castI .u32 q15.1).bind fun n16 =>
 (fA q7.1 2).bind fun t17 =>
 ((stO true 1 (3 :: 1 :: 1 :: 1 :: 0 :: 1 :: 1 :: 0 :: σ) q15.2 t17 (.p (.int .u32 n16))).map fun h => (udf, h)).bind fun q18 =>
 (ldO true 10 q18.2 q7.1).bind fun t19 =>
 ((stO false 10 (1 :: 0 :: 1 :: 1 :: 1 :: 0 :: σ) q18.2 q1.1 t19).map fun h => (udf, h)).bind fun q20 =>
 ((ldO true 10 q20.2 q1.1).bind fun t21 => (some []).map (t21 :: ·)).bind fun t22 => fin false σ q20.2 t22)
 else (
 bif n11 == 4 then (
 (callO rec 42 (1 :: 0 :: 1 :: 1 :: 1 :: 1 :: 0 :: 1 :: 1 :: 0 :: σ) [x0, (.p (.int .i64 3))] q8.2 (some 48)).bind fun q23 =>
 (castI .i64 q23.1).bind fun n24 =>
 (loop limelightkeep_Tape_Report_c1 limelightkeep_Tape_Report_l1 (1 :: 1 :: 1 :: 1 :: 1 :: 0 :: 1 :: 1 :: 0 :: σ) (envL [(0, x0), (2, q1.1), (3, q7.1), (5, (.p (.int .i64 n24)))]) q23.2).bind fun r25 => limelightkeep_Tape_Report_k1 rec loop σ r25.1 r25.2.1 r25.2.2)
 else (
 bif n11 == 5 then (
 (callO rec 42 (1 :: 0 :: 1 :: 1 :: 1 :: 1 :: 1 :: 0 :: 1 :: 1 :: 0 :: σ) [x0, (.p (.int .i64 1048576))] q8.2 (some 70)).bind fun q26 =>
 (castI .i64 q26.1).bind fun n27 =>
 (callO rec 42 (4 :: 0 :: 1 :: 1 :: 1 :: 1 :: 1 :: 0 :: 1 :: 1 :: 0 :: σ) [x0, (.p (.int .i64 900))] q26.2 (some 73)).bind fun q28 =>
 (castI .i64 q28.1).bind fun n29 =>
 (callO rec 44 (8 :: 0 :: 1 :: 1 :: 1 :: 1 :: 1 :: 0 :: 1 :: 1 :: 0 :: σ) [(.p (.int .u64 (IntKind.wrap .u64 ((IntKind.wrap .u64 n27) * (IntKind.wrap .u64 (IntKind.wrap .i64 (1 + n29))))))), (.p (.int .i64 18))] q28.2 (some 77)).bind fun q30 =>
 (castI .u64 q30.1).bind fun n31 =>
 (fA q7.1 6).bind fun t32 =>
 ((stO true 1 (10 :: 0 :: 1 :: 1 :: 1 :: 1 :: 1 :: 0 :: 1 :: 1 :: 0 :: σ) q30.2 t32 (.p (.int .u64 n31))).map fun h => (udf, h)).bind fun q33 =>
 (callO rec 42 (1 :: 0 :: 1 :: 1 :: 1 :: 1 :: 1 :: 1 :: 0 :: 1 :: 1 :: 0 :: σ) [x0, (.p (.int .i64 4))] q33.2 (some 80)).bind fun q34 =>
 (castI .i64 q34.1).bind fun n35 =>
 (loop limelightkeep_Tape_Report_c2 limelightkeep_Tape_Report_l2 (1 :: 1 :: 1 :: 1 :: 1 :: 1 :: 1 :: 0 :: 1 :: 1 :: 0 :: σ) (envL [(0, x0), (2, q1.1), (3, q7.1), (6, (.p (.int .i64 n35)))]) q34.2).bind fun r36 => limelightkeep_Tape_Report_k2 rec loop σ r36.1 r36.2.1 r36.2.2)
 else (
 (callO rec 42 (1 :: 0 :: 1 :: 1 :: 1 :: 1 :: 1 :: 0 :: 1 :: 1 :: 0 :: σ) [x0, (.p (.int .i64 12))] q8.2 (some 16)).bind fun q37 =>
 (castI .i64 q37.1).bind fun n38 =>
 (callO rec 42 (4 :: 0 :: 1 :: 1 :: 1 :: 1 :: 1 :: 0 :: 1 :: 1 :: 0 :: σ) [x0, (.p (.int .i64 32))] q37.2 (some 19)).bind fun q39 =>
 (castI .i64 q39.1).bind fun n40 =>
 (callO rec 46 (6 :: 0 :: 1 :: 1 :: 1 :: 1 :: 1 :: 0 :: 1 :: 1 :: 0 :: σ) [x0, (.p (.int .i64 12))] q39.2 (some 21)).bind fun q41 =>
 (callO rec 45 (7 :: 0 :: 1 :: 1 :: 1 :: 1 :: 1 :: 0 :: 1 :: 1 :: 0 :: σ) [q41.1, (.p (.int .i64 4))] q41.2 (some 22)).bind fun q42 =>
 (buildV Try.prog 33 [(0, (.p (.int .i64 6))), (7, (.p (.int .i64 (IntKind.wrap .i64 (192 + n38))))), (8, (.p (.int .i64 n40))), (9, q42.1)]).bind fun t43 =>
 ((stO false 10 (9 :: 0 :: 1 :: 1 :: 1 :: 1 :: 1 :: 0 :: 1 :: 1 :: 0 :: σ) q42.2 q1.1 t43).map fun h => (udf, h)).bind fun q44 =>
 ((ldO true 10 q44.2 q1.1).bind fun t45 => (some []).map (t45 :: ·)).bind fun t46 => fin false σ q44.2 t46)))))
 else (
 bif n11 == 2 then (
 (callO rec 42 (1 :: 0 :: 1 :: 1 :: 0 :: 1 :: 1 :: 0 :: σ) [x0, (.p (.int .i64 5))] q8.2 (some 28)).bind fun q47 =>
 (castI .i64 q47.1).bind fun n48 =>
 (loop limelightkeep_Tape_Report_c0 limelightkeep_Tape_Report_l0 (1 :: 1 :: 1 :: 0 :: 1 :: 1 :: 0 :: σ) (envL [(0, x0), (2, q1.1), (3, q7.1), (4, (.p (.int .i64 n48)))]) q47.2).bind fun r49 => limelightkeep_Tape_Report_k0 rec loop σ r49.1 r49.2.1 r49.2.2)
 else (
 bif n11 == 3 then (
 (callO rec 43 (1 :: 1 :: 1 :: 1 :: 0 :: 1 :: 1 :: 0 :: σ) [x0] q8.2 (some 43)).bind fun q50 =>
 (castI .u32 q50.1).bind fun n51 =>
 (fA q7.1 2).bind fun t52 =>
 ((stO true 1 (3 :: 1 :: 1 :: 1 :: 0 :: 1 :: 1 :: 0 :: σ) q50.2 t52 (.p (.int .u32 n51))).map fun h => (udf, h)).bind fun q53 =>
 (ldO true 10 q53.2 q7.1).bind fun t54 =>
 ((stO false 10 (1 :: 0 :: 1 :: 1 :: 1 :: 0 :: σ) q53.2 q1.1 t54).map fun h => (udf, h)).bind fun q55 =>
 ((ldO true 10 q55.2 q1.1).bind fun t56 => (some []).map (t56 :: ·)).bind fun t57 => fin false σ q55.2 t57)
 else (
 bif n11 == 4 then (
 (callO rec 42 (1 :: 0 :: 1 :: 1 :: 1 :: 1 :: 0 :: 1 :: 1 :: 0 :: σ) [x0, (.p (.int .i64 3))] q8.2 (some 48)).bind fun q58 =>
 (castI .i64 q58.1).bind fun n59 =>
 (loop limelightkeep_Tape_Report_c1 limelightkeep_Tape_Report_l1 (1 :: 1 :: 1 :: 1 :: 1 :: 0 :: 1 :: 1 :: 0 :: σ) (envL [(0, x0), (2, q1.1), (3, q7.1), (5, (.p (.int .i64 n59)))]) q58.2).bind fun r60 => limelightkeep_Tape_Report_k1 rec loop σ r60.1 r60.2.1 r60.2.2)
 else (
 bif n11 == 5 then (
 (callO rec 42 (1 :: 0 :: 1 :: 1 :: 1 :: 1 :: 1 :: 0 :: 1 :: 1 :: 0 :: σ) [x0, (.p (.int .i64 1048576))] q8.2 (some 70)).bind fun q61 =>
 (castI .i64 q61.1).bind fun n62 =>
 (callO rec 42 (4 :: 0 :: 1 :: 1 :: 1 :: 1 :: 1 :: 0 :: 1 :: 1 :: 0 :: σ) [x0, (.p (.int .i64 900))] q61.2 (some 73)).bind fun q63 =>
 (castI .i64 q63.1).bind fun n64 =>
 (callO rec 44 (8 :: 0 :: 1 :: 1 :: 1 :: 1 :: 1 :: 0 :: 1 :: 1 :: 0 :: σ) [(.p (.int .u64 (IntKind.wrap .u64 ((IntKind.wrap .u64 n62) * (IntKind.wrap .u64 (IntKind.wrap .i64 (1 + n64))))))), (.p (.int .i64 18))] q63.2 (some 77)).bind fun q65 =>
 (castI .u64 q65.1).bind fun n66 =>
 (fA q7.1 6).bind fun t67 =>
 ((stO true 1 (10 :: 0 :: 1 :: 1 :: 1 :: 1 :: 1 :: 0 :: 1 :: 1 :: 0 :: σ) q65.2 t67 (.p (.int .u64 n66))).map fun h => (udf, h)).bind fun q68 =>
 (callO rec 42 (1 :: 0 :: 1 :: 1 :: 1 :: 1 :: 1 :: 1 :: 0 :: 1 :: 1 :: 0 :: σ) [x0, (.p (.int .i64 4))] q68.2 (some 80)).bind fun q69 =>
 (castI .i64 q69.1).bind fun n70 =>
 (loop limelightkeep_Tape_Report_c2 limelightkeep_Tape_Report_l2 (1 :: 1 :: 1 :: 1 :: 1 :: 1 :: 1 :: 0 :: 1 :: 1 :: 0 :: σ) (envL [(0, x0), (2, q1.1), (3, q7.1), (6, (.p (.int .i64 n70)))]) q69.2).bind fun r71 => limelightkeep_Tape_Report_k2 rec loop σ r71.1 r71.2.1 r71.2.2)
 else (
 (callO rec 42 (1 :: 0 :: 1 :: 1 :: 1 :: 1 :: 1 :: 0 :: 1 :: 1 :: 0 :: σ) [x0, (.p (.int .i64 12))] q8.2 (some 16)).bind fun q72 =>
 (castI .i64 q72.1).bind fun n73 =>
 (callO rec 42 (4 :: 0 :: 1 :: 1 :: 1 :: 1 :: 1 :: 0 :: 1 :: 1 :: 0 :: σ) [x0, (.p (.int .i64 32))] q72.2 (some 19)).bind fun q74 =>
 (castI .i64 q74.1).bind fun n75 =>
 (callO rec 46 (6 :: 0 :: 1 :: 1 :: 1 :: 1 :: 1 :: 0 :: 1 :: 1 :: 0 :: σ) [x0, (.p (.int .i64 12))] q74.2 (some 21)).bind fun q76 =>
 (callO rec 45 (7 :: 0 :: 1 :: 1 :: 1 :: 1 :: 1 :: 0 :: 1 :: 1 :: 0 :: σ) [q76.1, (.p (.int .i64 4))] q76.2 (some 22)).bind fun q77 =>
 (buildV Try.prog 33 [(0, (.p (.int .i64 6))), (7, (.p (.int .i64 (IntKind.wrap .i64 (192 + n73))))), (8, (.p (.int .i64 n75))), (9, q77.1)]).bind fun t78 =>
 ((stO false 10 (9 :: 0 :: 1 :: 1 :: 1 :: 1 :: 1 :: 0 :: 1 :: 1 :: 0 :: σ) q77.2 q1.1 t78).map fun h => (udf, h)).bind fun q79 =>
 ((ldO true 10 q79.2 q1.1).bind fun t80 => (some []).map (t80 :: ·)).bind fun t81 => fin false σ q79.2 t81))))) := by kernel_rfl
theorem limelightkeep_Tape_Report_r0 (rec : CallF) (loop : LoopV) (σ : Stamp) (x0 : V) (x2 : V) (x3 : V) (x4 : Int) (h : H) : cvRound G rec loop limelightkeep_Tape_Report_c0 limelightkeep_Tape_Report_l0 σ (envL [(0, x0), (2, x2), (3, x3), (4, (.p (.int .i64 x4)))]) h =
 bif decide (x4 > 0) then (
 (fA x3 3).bind fun t82 =>
 (ldO false 1 h t82).bind fun t83 =>
 (callO rec 30 (3 :: 0 :: 1 :: 0 :: σ) [x0] h (some 36)).bind fun q84 =>
 need (ldO false 1 q84.2 t82 = some t83) (
 (buildSliceV Try.prog 28 1 [(0, q84.1)]).bind fun t85 =>
 (apO false 3 24 (5 :: 0 :: 1 :: 0 :: σ) 38 q84.2 t83 t85).bind fun q86 =>
 (fA x3 3).bind fun t87 =>
 ((stO true 1 (7 :: 0 :: 1 :: 0 :: σ) q86.2 t87 q86.1).map fun h => (udf, h)).bind fun q88 =>
 loop limelightkeep_Tape_Report_c0 limelightkeep_Tape_Report_l0 (1 :: σ) (envL [(0, x0), (2, x2), (3, x3), (4, (.p (.int .i64 (IntKind.wrap .i64 (x4 - 1)))))]) q88.2))
 else (
 some ((.exit 1), (envL [(2, x2), (3, x3)]), h)) := by kernel_rfl
theorem limelightkeep_Tape_Report_a0_1 (rec : CallF) (loop : LoopV) (σ : Stamp) (x2 : V) (x3 : V) (h : H) : limelightkeep_Tape_Report_k0 rec loop σ (.exit 1) (envL [(2, x2), (3, x3)]) h =
 (ldO true 10 h x3).bind fun t89 =>
 ((stO false 10 (1 :: 0 :: 1 :: 1 :: 1 :: 0 :: σ) h x2 t89).map fun h => (udf, h)).bind fun q90 =>
 ((ldO true 10 q90.2 x2).bind fun t91 => (some []).map (t91 :: ·)).bind fun t92 => fin false σ q90.2 t92 := by kernel_rfl
theorem limelightkeep_Tape_Report_r1 (rec : CallF) (loop : LoopV) (σ : Stamp) (x0 : V) (x2 : V) (x3 : V) (x5 : Int) (h : H) : cvRound G rec loop limelightkeep_Tape_Report_c1 limelightkeep_Tape_Report_l1 σ (envL [(0, x0), (2, x2), (3, x3), (5, (.p (.int .i64 x5)))]) h =
 bif decide (x5 ≥ 0) then (
 (fA x3 4).bind fun t93 =>
 (ldO false 1 h t93).bind fun t94 =>
 (fA x3 5).bind fun t95 =>
 (ldO false 1 h t95).bind fun t96 =>
 (callO rec 43 (3 :: 0 :: 1 :: 0 :: σ) [x0] h (some 56)).bind fun q97 =>
 (castI .u32 q97.1).bind fun n98 =>
 need (ldO false 1 q97.2 t95 = some t96) (
 need (ldO false 1 q97.2 t93 = some t94) (
 (buildSliceV Try.prog 29 1 [(0, (.p (.int .u32 n98)))]).bind fun t99 =>
 (apO true 1 4 (5 :: 0 :: 1 :: 0 :: σ) 58 q97.2 t94 t99).bind fun q100 =>
 need (ldO false 1 q100.2 t95 = some t96) (
 (fA x3 4).bind fun t101 =>
 (callO rec 42 (9 :: 0 :: 1 :: 0 :: σ) [x0, (.p (.int .i64 256))] q100.2 (some 62)).bind fun q102 =>
 (castI .i64 q102.1).bind fun n103 =>
 need (ldO false 1 q102.2 t95 = some t96) (
 (buildSliceV Try.prog 23 1 [(0, (.p (.int .i64 n103)))]).bind fun t104 =>
 (apO true 1 8 (11 :: 0 :: 1 :: 0 :: σ) 64 q102.2 t96 t104).bind fun q105 =>
 ((stO true 1 (13 :: 0 :: 1 :: 0 :: σ) q105.2 t101 q100.1).map fun h => (udf, h)).bind fun q106 =>
 (fA x3 5).bind fun t107 =>
 ((stO true 1 (15 :: 0 :: 1 :: 0 :: σ) q106.2 t107 q105.1).map fun h => (udf, h)).bind fun q108 =>
 loop limelightkeep_Tape_Report_c1 limelightkeep_Tape_Report_l1 (1 :: σ) (envL [(0, x0), (2, x2), (3, x3), (5, (.p (.int .i64 (IntKind.wrap .i64 (x5 - 1)))))]) q108.2)))))
 else (
 some ((.exit 3), (envL [(2, x2), (3, x3)]), h)) := by kernel_rfl
theorem limelightkeep_Tape_Report_a1_3 (rec : CallF) (loop : LoopV) (σ : Stamp) (x2 : V) (x3 : V) (h : H) : limelightkeep_Tape_Report_k1 rec loop σ (.exit 3) (envL [(2, x2), (3, x3)]) h =
 (ldO true 10 h x3).bind fun t109 =>
 ((stO false 10 (1 :: 0 :: 1 :: 1 :: 1 :: 0 :: σ) h x2 t109).map fun h => (udf, h)).bind fun q110 =>
 ((ldO true 10 q110.2 x2).bind fun t111 => (some []).map (t111 :: ·)).bind fun t112 => fin false σ q110.2 t112 := by kernel_rfl
theorem limelightkeep_Tape_Report_r2 (rec : CallF) (loop : LoopV) (σ : Stamp) (x0 : V) (x2 : V) (x3 : V) (x6 : Int) (h : H) : cvRound G rec loop limelightkeep_Tape_Report_c2 limelightkeep_Tape_Report_l2 σ (envL [(0, x0), (2, x2), (3, x3), (6, (.p (.int .i64 x6)))]) h =
 bif decide (x6 > 0) then (
 (fA x3 4).bind fun t113 =>
 (ldO false 1 h t113).bind fun t114 =>
 (callO rec 43 (3 :: 0 :: 1 :: 0 :: σ) [x0] h (some 88)).bind fun q115 =>
 (castI .u32 q115.1).bind fun n116 =>
 need (ldO false 1 q115.2 t113 = some t114) (
 (buildSliceV Try.prog 29 1 [(0, (.p (.int .u32 n116)))]).bind fun t117 =>
 (apO true 1 4 (5 :: 0 :: 1 :: 0 :: σ) 90 q115.2 t114 t117).bind fun q118 =>
 (fA x3 4).bind fun t119 =>
 ((stO true 1 (7 :: 0 :: 1 :: 0 :: σ) q118.2 t119 q118.1).map fun h => (udf, h)).bind fun q120 =>
 loop limelightkeep_Tape_Report_c2 limelightkeep_Tape_Report_l2 (1 :: σ) (envL [(0, x0), (2, x2), (3, x3), (6, (.p (.int .i64 (IntKind.wrap .i64 (x6 - 1)))))]) q120.2))
 else (
 some ((.exit 5), (envL [(2, x2), (3, x3)]), h)) := by kernel_rfl
theorem limelightkeep_Tape_Report_a2_5 (rec : CallF) (loop : LoopV) (σ : Stamp) (x2 : V) (x3 : V) (h : H) : limelightkeep_Tape_Report_k2 rec loop σ (.exit 5) (envL [(2, x2), (3, x3)]) h =
 (ldO true 10 h x3).bind fun t121 =>
 ((stO false 10 (1 :: 0 :: 1 :: 1 :: 1 :: 0 :: σ) h x2 t121).map fun h => (udf, h)).bind fun q122 =>
 ((ldO true 10 q122.2 x2).bind fun t123 => (some []).map (t123 :: ·)).bind fun t124 => fin false σ q122.2 t124 := by kernel_rfl
end Go.Ev
/- Equations, printed by tracer2.py. -/
namespace Go.Ev
open Go.Proofs
set_option linter.unusedVariables false
set_option maxRecDepth 100000
-- 46 (*limelight/limelightkeep.Tape).Bytes
noncomputable def limelightkeep_Tape_Bytes_c0 : Code := (codeAt (bodyOf Try.f46) [1, 1, 0, 1, 0, 0])
def limelightkeep_Tape_Bytes_l0 : Lv := ⟨32, 16, [(0, 32)]⟩
noncomputable def limelightkeep_Tape_Bytes_k0 (rec : CallF) (loop : LoopV) (σ : Stamp) : Exit → Env → H → Option (List C × H) := (kBlock 0 (kSeq G rec loop (codeAt (bodyOf Try.f46) [1, 1, 1]) ⟨16, 16, []⟩ (1 :: 1 :: 0 :: σ) (finC G false Try.f46 (1 :: σ))))
theorem limelightkeep_Tape_Bytes_entry (rec : CallF) (loop : LoopV) (σ : Stamp) (x0 : V) (x1 : Int) (h : H) : cvBody G rec loop 46 σ [x0, (.p (.int .i64 x1))] h =
 (callO rec 42 (3 :: 0 :: 0 :: 1 :: 1 :: 0 :: σ) [x0, (.p (.int .i64 (IntKind.wrap .i64 (x1 + 1))))] (List.replicate 22 [] :: h) (some 10)).bind fun q1 =>
 (castI .i64 q1.1).bind fun n2 =>
 (loop limelightkeep_Tape_Bytes_c0 limelightkeep_Tape_Bytes_l0 (1 :: 0 :: 1 :: 1 :: 0 :: σ) (envL [(0, x0), (5, (.p (.slice .none 0 0))), (6, (.p (.int .i64 n2)))]) q1.2).bind fun r3 => limelightkeep_Tape_Bytes_k0 rec loop σ r3.1 r3.2.1 r3.2.2 := by kernel_rfl
theorem limelightkeep_Tape_Bytes_r0 (rec : CallF) (loop : LoopV) (σ : Stamp) (x0 : V) (x5 : V) (x6 : Int) (h : H) : cvRound G rec loop limelightkeep_Tape_Bytes_c0 limelightkeep_Tape_Bytes_l0 σ (envL [(0, x0), (5, x5), (6, (.p (.int .i64 x6)))]) h =
 bif decide (x6 > 0) then (
 (callO rec 42 (2 :: 0 :: 1 :: 0 :: σ) [x0, (.p (.int .i64 256))] h (some 17)).bind fun q4 =>
 (castI .i64 q4.1).bind fun n5 =>
 (buildSliceV Try.prog 31 1 [(0, (.p (.int .u8 (IntKind.wrap .u8 n5))))]).bind fun t6 =>
 (apO true 1 1 (5 :: 0 :: 1 :: 0 :: σ) 20 q4.2 x5 t6).bind fun q7 =>
 loop limelightkeep_Tape_Bytes_c0 limelightkeep_Tape_Bytes_l0 (1 :: σ) (envL [(0, x0), (5, q7.1), (6, (.p (.int .i64 (IntKind.wrap .i64 (x6 - 1)))))]) q7.2)
 else (
 some ((.exit 0), (envL [(5, x5)]), h)) := by kernel_rfl
theorem limelightkeep_Tape_Bytes_a0_0 (rec : CallF) (loop : LoopV) (σ : Stamp) (x5 : V) (h : H) : limelightkeep_Tape_Bytes_k0 rec loop σ (.exit 0) (envL [(5, x5)]) h =
 fin false σ h [x5] := by kernel_rfl
end Go.Ev
/- Lifted by lift.py: limelightkeep_Tape_Bytes as a plain function. -/
namespace Go.Ev
open Go.Proofs
set_option linter.unusedVariables false
set_option linter.unusedSimpArgs false
set_option maxRecDepth 100000
def p_limelightkeep_Tape_Bytes_l0 {β : Type} (k : Nat) (kE0 : (List Int) → T_limelightkeep_Tape → Option β) (x5 : (List Int)) (x6 : Int) (zp0 : T_limelightkeep_Tape) : Option β := match k with
| 0 => none
| k + 1 =>
bif decide (x6 > 0) then (
(p_limelightkeep_Tape_Next zp0 256).bind fun r18 =>
(ap 1 x5 ([(IntKind.wrap .u8 r18.1)])).bind fun a27 =>
p_limelightkeep_Tape_Bytes_l0 k kE0 a27 (IntKind.wrap .i64 (x6 - 1)) r18.2)
else (
kE0 x5 zp0)
def p_limelightkeep_Tape_Bytes (k : Nat) (x0 : T_limelightkeep_Tape) (x1 : Int) : Option ((List Int) × T_limelightkeep_Tape) :=
(p_limelightkeep_Tape_Next x0 (IntKind.wrap .i64 (x1 + 1))).bind fun r1 =>
p_limelightkeep_Tape_Bytes_l0 k (fun r41_5 zp0 =>
some (r41_5, zp0)) (([] : List Int)) r1.1 r1.2
theorem limelightkeep_Tape_Bytes_l0_ok {h : H} {l0 : Loc} {o0 : Nat} {β α : Type} {Q : β → α → Prop} {K : Exit × Env × H → Option α} {kE0 : (List Int) → T_limelightkeep_Tape → Option β} (hE0 : ∀ (q5 : (List Int)) (zp0 : T_limelightkeep_Tape) (v35 : V) (v37 : V) (h38 : SlF (dI .i64) zp0.f_L v37) (H33 : Go.Ev.H) (_ : Fm 22 h [⟨l0, o0, List.map C.v [v37, (.p (.int .i64 zp0.f_At))]⟩] [] [⟨[20], v35, (dI .u8), q5⟩] H33), Sim (kE0 q5 zp0) (K ((.exit 0), (envL [(5, v35)]), H33)) Q) (k : Nat) : ∀ (x5 : (List Int)) (x6 : Int) (zp0 : T_limelightkeep_Tape) (v13 : V) (v15 : V) (h16 : SlF (dI .i64) zp0.f_L v15) (H11 : Go.Ev.H) (_ : Fm 22 h [⟨l0, o0, List.map C.v [v15, (.p (.int .i64 zp0.f_At))]⟩] [] [⟨[20], v13, (dI .u8), x5⟩] H11) {σ : Stamp}, Sim (p_limelightkeep_Tape_Bytes_l0 k kE0 x5 x6 zp0) ((cvL G X0 limelightkeep_Tape_Bytes_c0 limelightkeep_Tape_Bytes_l0 σ (envL [(0, (.ref l0 o0)), (5, v13), (6, (.p (.int .i64 x6)))]) H11).bind K) Q := by
  induction k with
  | zero => intros; exact Sim.no
  | succ k ih =>
    intro x5 x6 zp0 v13 v15 h16 H11 S12 σ
    rw [p_limelightkeep_Tape_Bytes_l0]
    refine Sim.round (Sim.ext (limelightkeep_Tape_Bytes_r0 _ _ _ _ _ _ _) ?_)
    refine Sim.cd (fun hc17 => ?_) (fun hc17 => ?_)
    · refine Sim.call (limelightkeep_Tape_Next_ok zp0 h16 (S12.atB (i := 0) rfl) 256) fun r18 cs19 H20 h21 q22 => ?_
      obtain ⟨v23, h24, q22⟩ := q22
      cases q22
      have S25 := S12.setB (i := 0) (cs := List.map C.v [v23, (.p (.int .i64 r18.2.f_At))]) rfl rfl
      refine Sim.op (castI_p _ _) ?_
      have h26 : SlF (dI .u8) [(IntKind.wrap .u8 r18.1)] (.fz [(.p (.int .u8 (IntKind.wrap .u8 r18.1)))] 1 1 true) := SlF.lit (cs := [(.p (.int .u8 (IntKind.wrap .u8 r18.1)))]) (RL.cons (show (dI .u8).R (IntKind.wrap .u8 r18.1) [(.p (.int .u8 (IntKind.wrap .u8 r18.1)))] from rfl) RL.nil) rfl rfl true
      refine Sim.op (bldS (pt_cons rfl pt_nil) (by kernel_rfl : _ = some (.fz [(.p (.int .u8 (IntKind.wrap .u8 r18.1)))] 1 1 true))) ?_
      refine Sim.bd fun a27 h28 => ?_
      obtain ⟨v29, H30, e31, S32⟩ := S25.app (i := 0) (d := 20) (e := 1) (own := true) (σ := (5 :: 0 :: 1 :: 0 :: σ)) rfl (h26.h (ptC H11 l0 o0 (List.map C.v [v23, (.p (.int .i64 r18.2.f_At))]))).y h28 rfl (by decide) (by decide) rfl
      refine Sim.op (e31) ?_
      exact ih a27 (IntKind.wrap .i64 (x6 - 1)) r18.2 v29 v23 h24 H30 (S32.wk2 all_nil (all_cons ⟨[20, 20], by simp, at_mem 0 rfl⟩ all_nil))
    exact hE0 x5 zp0 v13 v15 h16 H11 (S12.wk2 all_nil (all_cons ⟨[20], by simp, at_mem 0 rfl⟩ all_nil))
theorem limelightkeep_Tape_Bytes_ok (k : Nat) {h : H} {σ : Stamp} (x0 : T_limelightkeep_Tape) {u0_0 : V} (hu0_0 : SlF (dI .i64) x0.f_L u0_0) {l0 : Loc} {o0 : Nat} (ha0 : AtC h l0 o0 (List.map C.v [u0_0, (.p (.int .i64 x0.f_At))])) (x1 : Int) : Sim (p_limelightkeep_Tape_Bytes k x0 x1) (ev G X0 46 σ [(.ref l0 o0), (.p (.int .i64 x1))] h) (fun r s => ∃ (c0 : C), ∃ (a0 : List V), ∃ (vb0_0 : V), OwnS c0 (dI .u8).sz r.1.length a0 ∧ (dI .u8).L r.1 a0 ∧ SlF (dI .i64) r.2.f_L vb0_0 ∧ s = ([c0], pts h [⟨l0, o0, [.v vb0_0, .v (.p (.int .i64 r.2.f_At))]⟩])) := by
  refine Sim.ev rfl (Sim.ext (limelightkeep_Tape_Bytes_entry _ _ _ _ _ _) ?_)
  rw [p_limelightkeep_Tape_Bytes]
  have S0 : Fm 22 h [⟨l0, o0, List.map C.v [u0_0, (.p (.int .i64 x0.f_At))]⟩] [] [] (List.replicate 22 [] :: h) := Fm.start1 ha0
  refine Sim.call (limelightkeep_Tape_Next_ok x0 hu0_0 (S0.atB (i := 0) rfl) (IntKind.wrap .i64 (x1 + 1))) fun r1 cs2 H3 h4 q5 => ?_
  obtain ⟨v6, h7, q5⟩ := q5
  cases q5
  have S8 := S0.setB (i := 0) (cs := List.map C.v [v6, (.p (.int .i64 r1.2.f_At))]) rfl rfl
  refine Sim.op (castI_p _ _) ?_
  have S40 := S8.nil (dI .u8) []
  refine Sim.as (limelightkeep_Tape_Bytes_l0_ok ?_ k (([] : List Int)) r1.1 r1.2 (.p (.slice none 0 0)) v6 h7 (ptC (List.replicate 22 [] :: h) l0 o0 (List.map C.v [v6, (.p (.int .i64 r1.2.f_At))])) (S40.wk2 all_nil (all_cons ⟨[], by simp, at_mem 0 rfl⟩ all_nil))) 
  · intro r41_5 zp0 v44 v46 h47 H42 S43
    refine Sim.ext (limelightkeep_Tape_Bytes_a0_0 _ _ _ _ _) ?_
    obtain ⟨c53, cs54, H48, e49, h51, h52, S50⟩ := S43.expOwn (i := 0) (τ := 0 :: 1 :: σ) rfl rfl rfl
    exact Sim.fin (S50.finE (Ex.st e49 Ex.nil)) ⟨c53, cs54, v46, h51, h52, h47, rfl⟩
end Go.Ev
/- Equations, printed by tracer2.py. -/
namespace Go.Ev
open Go.Proofs
set_option linter.unusedVariables false
set_option maxRecDepth 100000
-- 30 (*limelight/limelightkeep.Tape).Tuple
theorem limelightkeep_Tape_Tuple_entry (rec : CallF) (loop : LoopV) (σ : Stamp) (x0 : V) (h : H) : cvBody G rec loop 30 σ [x0] h =
 (some (alO [.p (.int .u32 0), .p (.int .u64 0), .p (.int .i64 0)] (0 :: 0 :: 0 :: σ) 2 (List.replicate 21 [] :: h))).bind fun q1 =>
 (callO rec 42 (1 :: 0 :: 1 :: 0 :: σ) [x0, (.p (.int .i64 9))] q1.2 (some 4)).bind fun q2 =>
 (castI .i64 q2.1).bind fun n3 =>
 (callO rec 42 (4 :: 0 :: 1 :: 0 :: σ) [x0, (.p (.int .i64 2000))] q2.2 (some 7)).bind fun q4 =>
 (castI .i64 q4.1).bind fun n5 =>
 (buildSliceV Try.prog 23 3 [(0, (.p (.int .i64 1))), (1, (.p (.int .i64 100))), (2, (.p (.int .i64 8000)))]).bind fun t6 =>
 (callO rec 42 (9 :: 0 :: 1 :: 0 :: σ) [x0, (.p (.int .i64 3))] q4.2 (some 12)).bind fun q7 =>
 (castI .i64 q7.1).bind fun n8 =>
 (iS 1 t6 n8).bind fun t9 =>
 (ldO false 1 q7.2 t9).bind fun t10 =>
 (castI .i64 t10).bind fun n11 =>
 (callO rec 44 (14 :: 0 :: 1 :: 0 :: σ) [(.p (.int .u64 (IntKind.wrap .u64 ((IntKind.wrap .u64 (IntKind.wrap .i64 (1 + n5))) * (IntKind.wrap .u64 n11))))), (.p (.int .i64 17))] q7.2 (some 17)).bind fun q12 =>
 (castI .u64 q12.1).bind fun n13 =>
 (callO rec 42 (16 :: 0 :: 1 :: 0 :: σ) [x0, (.p (.int .i64 120))] q12.2 (some 19)).bind fun q14 =>
 (castI .i64 q14.1).bind fun n15 =>
 (buildV Try.prog 57 [(0, (.p (.int .u32 (IntKind.wrap .u32 n3)))), (1, (.p (.int .u64 n13))), (2, (.p (.int .i64 n15)))]).bind fun t16 =>
 ((stO false 3 (18 :: 0 :: 1 :: 0 :: σ) q14.2 q1.1 t16).map fun h => (udf, h)).bind fun q17 =>
 ((ldO true 3 q17.2 q1.1).bind fun t18 => (some []).map (t18 :: ·)).bind fun t19 => fin false σ q17.2 t19 := by kernel_rfl
end Go.Ev
/- Lifted by lift.py: limelightkeep_Tape_Tuple as a plain function. -/
namespace Go.Ev
open Go.Proofs
set_option linter.unusedVariables false
set_option linter.unusedSimpArgs false
set_option maxRecDepth 100000
def p_limelightkeep_Tape_Tuple (k : Nat) (x0 : T_limelightkeep_Tape) : Option (T_api_Tuple × T_limelightkeep_Tape) :=
(p_limelightkeep_Tape_Next x0 9).bind fun r5 =>
(p_limelightkeep_Tape_Next r5.2 2000).bind fun r13 =>
(p_limelightkeep_Tape_Next r13.2 3).bind fun r22 =>
(ix ([1, 100, 8000]) r22.1).bind fun a30 =>
(p_limelightref1_Down k (IntKind.wrap .u64 ((IntKind.wrap .u64 (IntKind.wrap .i64 (1 + r13.1))) * (IntKind.wrap .u64 a30))) 17).bind fun r33 =>
(p_limelightkeep_Tape_Next r22.2 120).bind fun r38 =>
some (((⟨(IntKind.wrap .u32 r5.1), r33, r38.1⟩ : T_api_Tuple)), r38.2)
theorem limelightkeep_Tape_Tuple_ok (k : Nat) {h : H} {σ : Stamp} (x0 : T_limelightkeep_Tape) {u0_0 : V} (hu0_0 : SlF (dI .i64) x0.f_L u0_0) {l0 : Loc} {o0 : Nat} (ha0 : AtC h l0 o0 (List.map C.v [u0_0, (.p (.int .i64 x0.f_At))])) : Sim (p_limelightkeep_Tape_Tuple k x0) (ev G X0 30 σ [(.ref l0 o0)] h) (fun r s => ∃ (w0 : List V), ∃ (vb0_0 : V), dT_api_Tuple.R r.1 w0 ∧ SlF (dI .i64) r.2.f_L vb0_0 ∧ s = ([.v (.agg w0)], pts h [⟨l0, o0, [.v vb0_0, .v (.p (.int .i64 r.2.f_At))]⟩])) := by
  refine Sim.ev rfl (Sim.ext (limelightkeep_Tape_Tuple_entry _ _ _ _ _) ?_)
  rw [p_limelightkeep_Tape_Tuple]
  have S0 : Fm 21 h [⟨l0, o0, List.map C.v [u0_0, (.p (.int .i64 x0.f_At))]⟩] [] [] (List.replicate 21 [] :: h) := Fm.start1 ha0
  obtain ⟨H1, e2, S3⟩ := S0.al (d := 2) (s := (0 :: 0 :: 0 :: σ)) (z := [(.p (.int .u32 0)), (.p (.int .u64 0)), (.p (.int .i64 0))]) (by decide) rfl
  refine Sim.op (congrArg some e2) ?_
  refine Sim.call (limelightkeep_Tape_Next_ok x0 hu0_0 (S3.atB (i := 0) rfl) 9) fun r5 cs6 H7 h8 q9 => ?_
  obtain ⟨v10, h11, q9⟩ := q9
  cases q9
  have S12 := S3.setB (i := 0) (cs := List.map C.v [v10, (.p (.int .i64 r5.2.f_At))]) rfl rfl
  refine Sim.op (castI_p _ _) ?_
  refine Sim.call (limelightkeep_Tape_Next_ok r5.2 h11 (S12.atB (i := 0) rfl) 2000) fun r13 cs14 H15 h16 q17 => ?_
  obtain ⟨v18, h19, q17⟩ := q17
  cases q17
  have S20 := S12.setB (i := 0) (cs := List.map C.v [v18, (.p (.int .i64 r13.2.f_At))]) rfl rfl
  refine Sim.op (castI_p _ _) ?_
  have h21 : SlF (dI .i64) [1, 100, 8000] (.fz [(.p (.int .i64 1)), (.p (.int .i64 100)), (.p (.int .i64 8000))] 3 1 true) := SlF.lit (cs := [(.p (.int .i64 1)), (.p (.int .i64 100)), (.p (.int .i64 8000))]) (RL.cons (show (dI .i64).R 1 [(.p (.int .i64 1))] from rfl) (RL.cons (show (dI .i64).R 100 [(.p (.int .i64 100))] from rfl) (RL.cons (show (dI .i64).R 8000 [(.p (.int .i64 8000))] from rfl) RL.nil))) rfl rfl true
  refine Sim.op (bldS (pt_cons rfl (pt_cons rfl (pt_cons rfl pt_nil))) (by kernel_rfl : _ = some (.fz [(.p (.int .i64 1)), (.p (.int .i64 100)), (.p (.int .i64 8000))] 3 1 true))) ?_
  refine Sim.call (limelightkeep_Tape_Next_ok r13.2 h19 (S20.atB (i := 0) rfl) 3) fun r22 cs23 H24 h25 q26 => ?_
  obtain ⟨v27, h28, q26⟩ := q26
  cases q26
  have S29 := S20.setB (i := 0) (cs := List.map C.v [v27, (.p (.int .i64 r22.2.f_At))]) rfl rfl
  refine Sim.op (castI_p _ _) ?_
  refine Sim.bd fun a30 h31 => ?_
  refine Sim.op ((h21.h (ptC (ptC (ptC H1 l0 o0 (List.map C.v [v10, (.p (.int .i64 r5.2.f_At))])) l0 o0 (List.map C.v [v18, (.p (.int .i64 r13.2.f_At))])) l0 o0 (List.map C.v [v27, (.p (.int .i64 r22.2.f_At))]))).iS h31 rfl) ?_
  obtain ⟨_, rfl, hE32⟩ := (h21.h (ptC (ptC (ptC H1 l0 o0 (List.map C.v [v10, (.p (.int .i64 r5.2.f_At))])) l0 o0 (List.map C.v [v18, (.p (.int .i64 r13.2.f_At))])) l0 o0 (List.map C.v [v27, (.p (.int .i64 r22.2.f_At))]))).el h31 rfl
  refine Sim.op (hE32.ld (j := 0) rfl) ?_
  refine Sim.op (castI_p _ _) ?_
  refine Sim.call (limelightref1_Down_ok k (IntKind.wrap .u64 ((IntKind.wrap .u64 (IntKind.wrap .i64 (1 + r13.1))) * (IntKind.wrap .u64 a30))) 17) fun r33 cs34 H35 h36 q37 => ?_
  cases q37
  refine Sim.op (castI_p _ _) ?_
  refine Sim.call (limelightkeep_Tape_Next_ok r22.2 h28 (S29.atB (i := 0) rfl) 120) fun r38 cs39 H40 h41 q42 => ?_
  obtain ⟨v43, h44, q42⟩ := q42
  cases q42
  have S45 := S29.setB (i := 0) (cs := List.map C.v [v43, (.p (.int .i64 r38.2.f_At))]) rfl rfl
  refine Sim.op (castI_p _ _) ?_
  refine Sim.op (bldV (pt_cons rfl (pt_cons rfl (pt_cons rfl pt_nil))) (by kernel_rfl : _ = some (.agg [.p (.int .u32 (IntKind.wrap .u32 r5.1)), .p (.int .u64 r33), .p (.int .i64 r38.1)]))) ?_
  obtain ⟨H46, e47, S48⟩ := S45.stGv (i := 0) (j := 0) (own := false) (σ := (18 :: 0 :: 1 :: 0 :: σ)) (xs := [.p (.int .u32 (IntKind.wrap .u32 r5.1)), .p (.int .u64 r33), .p (.int .i64 r38.1)]) rfl rfl (stills_cons (still_int _ _) (stills_cons (still_int _ _) (stills_cons (still_int _ _) stills_nil))) rfl rfl
  refine Sim.op (st_map e47) ?_
  have e49 : ldO true 3 H46 (.ref ⟨h.length, 2, 0, (0 :: 0 :: 0 :: σ), []⟩ 0) = some (.agg [.p (.int .u32 (IntKind.wrap .u32 r5.1)), .p (.int .u64 r33), .p (.int .i64 r38.1)]) := (S48.atG (i := 0) rfl).ldVs (j := 0) (xs := [.p (.int .u32 (IntKind.wrap .u32 r5.1)), .p (.int .u64 r33), .p (.int .i64 r38.1)]) rfl rfl (by decide)
  refine Sim.op (show _ = some [(.agg [.p (.int .u32 (IntKind.wrap .u32 r5.1)), .p (.int .u64 r33), .p (.int .i64 r38.1)])] from by simp only [e49, Option.bind_some, Option.map_some]) ?_
  exact Sim.fin (S48.finN (lv_cons (Stills.lv (dT_api_Tuple.still (dT_api_Tuple.mk))) lv_nil)) ⟨[.p (.int .u32 (IntKind.wrap .u32 r5.1)), .p (.int .u64 r33), .p (.int .i64 r38.1)], v43, (show dT_api_Tuple.R ((⟨(IntKind.wrap .u32 r5.1), r33, r38.1⟩ : T_api_Tuple)) [.p (.int .u32 (IntKind.wrap .u32 r5.1)), .p (.int .u64 r33), .p (.int .i64 r38.1)] from (dT_api_Tuple.mk)), h44, rfl⟩
end Go.Ev
/- Equations, printed by tracer2.py. -/
namespace Go.Ev
open Go.Proofs
set_option linter.unusedVariables false
set_option maxRecDepth 100000
-- 43 (*limelight/limelightkeep.Tape).Word
theorem limelightkeep_Tape_Word_entry (rec : CallF) (loop : LoopV) (σ : Stamp) (x0 : V) (h : H) : cvBody G rec loop 43 σ [x0] h =
 (callO rec 42 (1 :: 0 :: 1 :: 0 :: σ) [x0, (.p (.int .i64 1048576))] (List.replicate 15 [] :: h) (some 4)).bind fun q1 =>
 (castI .i64 q1.1).bind fun n2 =>
 (callO rec 42 (4 :: 0 :: 1 :: 0 :: σ) [x0, (.p (.int .i64 4096))] q1.2 (some 7)).bind fun q3 =>
 (castI .i64 q3.1).bind fun n4 =>
 (callO rec 42 (9 :: 0 :: 1 :: 0 :: σ) [x0, (.p (.int .i64 5))] q3.2 (some 12)).bind fun q5 =>
 (castI .i64 q5.1).bind fun n6 =>
 fin false σ q5.2 [(.p (.int .u32 (IntKind.wrap .u32 ((IntKind.wrap .u32 ((IntKind.wrap .u32 n2) * (IntKind.wrap .u32 (IntKind.wrap .i64 (1 + n4))))) + (IntKind.wrap .u32 n6)))))] := by kernel_rfl
end Go.Ev
/- Lifted by lift.py: limelightkeep_Tape_Word as a plain function. -/
namespace Go.Ev
open Go.Proofs
set_option linter.unusedVariables false
set_option linter.unusedSimpArgs false
set_option maxRecDepth 100000
def p_limelightkeep_Tape_Word (x0 : T_limelightkeep_Tape) : Option (Int × T_limelightkeep_Tape) :=
(p_limelightkeep_Tape_Next x0 1048576).bind fun r1 =>
(p_limelightkeep_Tape_Next r1.2 4096).bind fun r9 =>
(p_limelightkeep_Tape_Next r9.2 5).bind fun r17 =>
some ((IntKind.wrap .u32 ((IntKind.wrap .u32 ((IntKind.wrap .u32 r1.1) * (IntKind.wrap .u32 (IntKind.wrap .i64 (1 + r9.1))))) + (IntKind.wrap .u32 r17.1))), r17.2)
theorem limelightkeep_Tape_Word_ok {h : H} {σ : Stamp} (x0 : T_limelightkeep_Tape) {u0_0 : V} (hu0_0 : SlF (dI .i64) x0.f_L u0_0) {l0 : Loc} {o0 : Nat} (ha0 : AtC h l0 o0 (List.map C.v [u0_0, (.p (.int .i64 x0.f_At))])) : Sim (p_limelightkeep_Tape_Word x0) (ev G X0 43 σ [(.ref l0 o0)] h) (fun r s => ∃ (vb0_0 : V), SlF (dI .i64) r.2.f_L vb0_0 ∧ s = ([.v (.p (.int .u32 r.1))], pts h [⟨l0, o0, [.v vb0_0, .v (.p (.int .i64 r.2.f_At))]⟩])) := by
  refine Sim.ev rfl (Sim.ext (limelightkeep_Tape_Word_entry _ _ _ _ _) ?_)
  rw [p_limelightkeep_Tape_Word]
  have S0 : Fm 15 h [⟨l0, o0, List.map C.v [u0_0, (.p (.int .i64 x0.f_At))]⟩] [] [] (List.replicate 15 [] :: h) := Fm.start1 ha0
  refine Sim.call (limelightkeep_Tape_Next_ok x0 hu0_0 (S0.atB (i := 0) rfl) 1048576) fun r1 cs2 H3 h4 q5 => ?_
  obtain ⟨v6, h7, q5⟩ := q5
  cases q5
  have S8 := S0.setB (i := 0) (cs := List.map C.v [v6, (.p (.int .i64 r1.2.f_At))]) rfl rfl
  refine Sim.op (castI_p _ _) ?_
  refine Sim.call (limelightkeep_Tape_Next_ok r1.2 h7 (S8.atB (i := 0) rfl) 4096) fun r9 cs10 H11 h12 q13 => ?_
  obtain ⟨v14, h15, q13⟩ := q13
  cases q13
  have S16 := S8.setB (i := 0) (cs := List.map C.v [v14, (.p (.int .i64 r9.2.f_At))]) rfl rfl
  refine Sim.op (castI_p _ _) ?_
  refine Sim.call (limelightkeep_Tape_Next_ok r9.2 h15 (S16.atB (i := 0) rfl) 5) fun r17 cs18 H19 h20 q21 => ?_
  obtain ⟨v22, h23, q21⟩ := q21
  cases q21
  have S24 := S16.setB (i := 0) (cs := List.map C.v [v22, (.p (.int .i64 r17.2.f_At))]) rfl rfl
  refine Sim.op (castI_p _ _) ?_
  exact Sim.fin (S24.finN (lv_cons (still_int _ _).lv lv_nil)) ⟨v22, h23, rfl⟩
end Go.Ev
/- Equations, printed by tracer2.py. -/
namespace Go.Ev
open Go.Proofs
set_option linter.unusedVariables false
set_option maxRecDepth 100000
-- 45 limelight/limelightref1.Pad
noncomputable def limelightref1_Pad_c0 : Code := (codeAt (bodyOf Try.f45) [1, 1, 0, 0, 0])
def limelightref1_Pad_l0 : Lv := ⟨32, 16, [(0, 32)]⟩
noncomputable def limelightref1_Pad_k0 (rec : CallF) (loop : LoopV) (σ : Stamp) : Exit → Env → H → Option (List C × H) := (kBlock 0 (kSeq G rec loop (codeAt (bodyOf Try.f45) [1, 1, 1]) ⟨16, 16, []⟩ (1 :: 1 :: 0 :: σ) (finC G true Try.f45 (1 :: σ))))
theorem limelightref1_Pad_entry (rec : CallF) (loop : LoopV) (σ : Stamp) (x0 : V) (x1 : Int) (h : H) : cvBody G rec loop 45 σ [x0, (.p (.int .i64 x1))] h =
 (buildSliceV Try.prog 31 0 []).bind fun t1 =>
 (apO true 1 1 (2 :: 0 :: 1 :: 0 :: σ) 8 (List.replicate 26 [] :: h) t1 x0).bind fun q2 =>
 (loop limelightref1_Pad_c0 limelightref1_Pad_l0 (0 :: 1 :: 1 :: 0 :: σ) (envL [(1, (.p (.int .i64 x1))), (5, q2.1)]) q2.2).bind fun r3 => limelightref1_Pad_k0 rec loop σ r3.1 r3.2.1 r3.2.2 := by kernel_rfl
theorem limelightref1_Pad_r0 (rec : CallF) (loop : LoopV) (σ : Stamp) (x1 : Int) (x5 : V) (h : H) : cvRound G rec loop limelightref1_Pad_c0 limelightref1_Pad_l0 σ (envL [(1, (.p (.int .i64 x1))), (5, x5)]) h =
 (bif decide (x1 ≥ 1) then (some (decide (x1 ≤ 64))) else (some false)).bind fun b4 =>
 (bif b4 then ((lenO x5).bind fun t5 =>
 (castI .i64 t5).bind fun n6 =>
 (remI .i64 n6 x1).bind fun t7 =>
 (castI .i64 t7).bind fun n8 =>
 some (n8 != 0)) else (some false)).bind fun b9 =>
 bif b9 then (
 (buildSliceV Try.prog 31 1 [(0, (.p (.int .u8 0)))]).bind fun t10 =>
 (apO true 1 1 (2 :: 1 :: 0 :: σ) 24 h x5 t10).bind fun q11 =>
 loop limelightref1_Pad_c0 limelightref1_Pad_l0 (1 :: σ) (envL [(1, (.p (.int .i64 x1))), (5, q11.1)]) q11.2)
 else (
 some ((.exit 0), (envL [(5, x5)]), h)) := by kernel_rfl
theorem limelightref1_Pad_a0_0 (rec : CallF) (loop : LoopV) (σ : Stamp) (x5 : V) (h : H) : limelightref1_Pad_k0 rec loop σ (.exit 0) (envL [(5, x5)]) h =
 fin true σ h [x5] := by kernel_rfl
end Go.Ev
/- Lifted by lift.py: limelightref1_Pad as a plain function. -/
namespace Go.Ev
open Go.Proofs
set_option linter.unusedVariables false
set_option linter.unusedSimpArgs false
set_option maxRecDepth 100000
def p_limelightref1_Pad_l0 {β : Type} (k : Nat) (kE0 : (List Int) → Option β) (x1 : Int) (x5 : (List Int)) : Option β := match k with
| 0 => none
| k + 1 =>
(bif decide (x1 ≥ 1) then (some (decide (x1 ≤ 64))) else (some false)).bind fun b14 =>
(bif b14 then ((remP ((x5.length : Int)) x1).bind fun n18 =>
some (n18 != 0)) else (some false)).bind fun b20 =>
bif b20 then (
(ap 1 x5 ([0])).bind fun a26 =>
p_limelightref1_Pad_l0 k kE0 x1 a26)
else (
kE0 x5)
def p_limelightref1_Pad (k : Nat) (x0 : (List Int)) (x1 : Int) : Option ((List Int)) :=
(ap 1 (([] : List Int)) x0).bind fun a4 =>
p_limelightref1_Pad_l0 k (fun r36_5 =>
some (r36_5)) x1 a4
theorem limelightref1_Pad_l0_ok {h : H}  {β α : Type} {Q : β → α → Prop} {K : Exit × Env × H → Option α} {kE0 : (List Int) → Option β} (hE0 : ∀ (q5 : (List Int)) (v34 : V) (H32 : Go.Ev.H) (_ : Fm 26 h [] [] [⟨[8, 24], v34, (dI .u8), q5⟩] H32), Sim (kE0 q5) (K ((.exit 0), (envL [(5, v34)]), H32)) Q) (k : Nat) : ∀ (x1 : Int) (x5 : (List Int)) (v12 : V) (H10 : Go.Ev.H) (_ : Fm 26 h [] [] [⟨[8, 24], v12, (dI .u8), x5⟩] H10) {σ : Stamp}, Sim (p_limelightref1_Pad_l0 k kE0 x1 x5) ((cvL G X0 limelightref1_Pad_c0 limelightref1_Pad_l0 σ (envL [(1, (.p (.int .i64 x1))), (5, v12)]) H10).bind K) Q := by
  induction k with
  | zero => intros; exact Sim.no
  | succ k ih =>
    intro x1 x5 v12 H10 S11 σ
    rw [p_limelightref1_Pad_l0]
    refine Sim.round (Sim.ext (limelightref1_Pad_r0 _ _ _ _ _ _) ?_)
    refine Sim.ch (P := fun r y => r = y) ?_ (fun b14 y15 h16 h17 => ?_)
    · refine Sim.cd (fun hc => ?_) (fun hc => ?_)
      · exact Sim.ret rfl rfl
      · exact Sim.ret rfl rfl
    subst h17
    refine Sim.ch (P := fun r y => r = y) ?_ (fun b20 y21 h22 h23 => ?_)
    · refine Sim.cd (fun hc => ?_) (fun hc => ?_)
      · refine Sim.op ((S11.sl (i := 0) rfl).len) ?_
        refine Sim.op (castI_p _ _) ?_
        refine Sim.bd fun n18 h19 => ?_
        refine Sim.op (remP_ok h19) ?_
        refine Sim.op (castI_p _ _) ?_
        exact Sim.ret rfl rfl
      · exact Sim.ret rfl rfl
    subst h23
    refine Sim.cd (fun hc24 => ?_) (fun hc24 => ?_)
    · have h25 : SlF (dI .u8) [0] (.fz [(.p (.int .u8 0))] 1 1 true) := SlF.lit (cs := [(.p (.int .u8 0))]) (RL.cons (show (dI .u8).R 0 [(.p (.int .u8 0))] from rfl) RL.nil) rfl rfl true
      refine Sim.op (bldS (pt_cons rfl pt_nil) (by kernel_rfl : _ = some (.fz [(.p (.int .u8 0))] 1 1 true))) ?_
      refine Sim.bd fun a26 h27 => ?_
      obtain ⟨v28, H29, e30, S31⟩ := S11.app (i := 0) (d := 24) (e := 1) (own := true) (σ := (2 :: 1 :: 0 :: σ)) rfl (h25.h H10).y h27 rfl (by decide) (by decide) rfl
      refine Sim.op (e30) ?_
      exact ih x1 a26 v28 H29 (S31.wk2 all_nil (all_cons ⟨[24, 8, 24], by simp, at_mem 0 rfl⟩ all_nil))
    exact hE0 x5 v12 H10 (S11.wk2 all_nil (all_cons ⟨[8, 24], by simp, at_mem 0 rfl⟩ all_nil))
theorem limelightref1_Pad_ok (k : Nat) {h : H} {σ : Stamp} (x0 : List Int) {u0 : V} (hu0 : SlH h (dI .u8) x0 u0) (x1 : Int) : Sim (p_limelightref1_Pad k x0 x1) (ev G X0 45 σ [u0, (.p (.int .i64 x1))] h) (fun r s => ∃ (v0 : V), SlF (dI .u8) r v0 ∧ s = ([.v v0], h)) := by
  refine Sim.ev rfl (Sim.ext (limelightref1_Pad_entry _ _ _ _ _ _) ?_)
  rw [p_limelightref1_Pad]
  have S0 : Fm 26 h [] [] [] (List.replicate 26 [] :: h) := Fm.start0
  have h1 : SlF (dI .u8) ([] : List Int) (.fz [] 0 1 true) := SlF.lit (cs := []) RL.nil rfl rfl true
  refine Sim.op (bldS pt_nil (by kernel_rfl : _ = some (.fz [] 0 1 true))) ?_
  have S3 := S0.nil' (dI .u8) [] (e := 1) rfl
  refine Sim.bd fun a4 h5 => ?_
  obtain ⟨v6, H7, e8, S9⟩ := S3.app (i := 0) (d := 8) (e := 1) (own := true) (σ := (2 :: 0 :: 1 :: 0 :: σ)) rfl (S3.low hu0).y h5 rfl (by decide) (by decide) rfl
  refine Sim.op (e8) ?_
  refine Sim.as (limelightref1_Pad_l0_ok ?_ k x1 a4 v6 H7 (S9.wk2 all_nil (all_cons ⟨[8], by simp, at_mem 0 rfl⟩ all_nil))) 
  · intro r36_5 v39 H37 S38
    refine Sim.ext (limelightref1_Pad_a0_0 _ _ _ _ _) ?_
    obtain ⟨v46, H41, e42, h44, S43⟩ := S38.expFrz (i := 0) (τ := 0 :: 1 :: σ) rfl rfl
    exact Sim.fin (S43.finE (Ex.st e42 Ex.nil)) ⟨v46, h44, rfl⟩
end Go.Ev
/- Lifted by lift.py: limelightkeep_Tape_Report as a plain function. -/
namespace Go.Ev
open Go.Proofs
set_option linter.unusedVariables false
set_option linter.unusedSimpArgs false
set_option maxRecDepth 100000
def p_limelightkeep_Tape_Report_l0 {β : Type} (k : Nat) (kE0 : T_api_Report → T_api_Report → T_limelightkeep_Tape → Option β) (x4 : Int) (yg4 : T_api_Report) (yg24 : T_api_Report) (zp0 : T_limelightkeep_Tape) : Option β := match k with
| 0 => none
| k + 1 =>
bif decide (x4 > 0) then (
(p_limelightkeep_Tape_Tuple k zp0).bind fun r63 =>
(ap 24 yg24.Tuples ([r63.1])).bind fun a74 =>
p_limelightkeep_Tape_Report_l0 k kE0 (IntKind.wrap .i64 (x4 - 1)) yg4 ((⟨yg24.Kind, yg24.From, yg24.About, a74, yg24.Abouts, yg24.Numbers, yg24.Rate, yg24.f_Type, yg24.Count, yg24.Body⟩ : T_api_Report)) r63.2)
else (
kE0 yg4 yg24 zp0)
def p_limelightkeep_Tape_Report_l1 {β : Type} (k : Nat) (kE0 : T_api_Report → T_api_Report → T_limelightkeep_Tape → Option β) (x5 : Int) (yg4 : T_api_Report) (yg24 : T_api_Report) (zp0 : T_limelightkeep_Tape) : Option β := match k with
| 0 => none
| k + 1 =>
bif decide (x5 ≥ 0) then (
(p_limelightkeep_Tape_Word zp0).bind fun r254 =>
(ap 4 yg24.Abouts ([r254.1])).bind fun a263 =>
(p_limelightkeep_Tape_Next r254.2 256).bind fun r271 =>
(ap 8 yg24.Numbers ([r271.1])).bind fun a280 =>
p_limelightkeep_Tape_Report_l1 k kE0 (IntKind.wrap .i64 (x5 - 1)) yg4 ((⟨yg24.Kind, yg24.From, yg24.About, yg24.Tuples, a263, a280, yg24.Rate, yg24.f_Type, yg24.Count, yg24.Body⟩ : T_api_Report)) r271.2)
else (
kE0 yg4 yg24 zp0)
def p_limelightkeep_Tape_Report_l2 {β : Type} (k : Nat) (kE0 : T_api_Report → T_api_Report → T_limelightkeep_Tape → Option β) (x6 : Int) (yg4 : T_api_Report) (yg24 : T_api_Report) (zp0 : T_limelightkeep_Tape) : Option β := match k with
| 0 => none
| k + 1 =>
bif decide (x6 > 0) then (
(p_limelightkeep_Tape_Word zp0).bind fun r429 =>
(ap 4 yg24.Abouts ([r429.1])).bind fun a438 =>
p_limelightkeep_Tape_Report_l2 k kE0 (IntKind.wrap .i64 (x6 - 1)) yg4 ((⟨yg24.Kind, yg24.From, yg24.About, yg24.Tuples, a438, yg24.Numbers, yg24.Rate, yg24.f_Type, yg24.Count, yg24.Body⟩ : T_api_Report)) r429.2)
else (
kE0 yg4 yg24 zp0)
def p_limelightkeep_Tape_Report (k : Nat) (x0 : T_limelightkeep_Tape) : Option (T_api_Report × T_limelightkeep_Tape) :=
(p_limelightkeep_Tape_Next x0 6).bind fun r5 =>
(p_limelightkeep_Tape_Word r5.2).bind fun r13 =>
bif (IntKind.wrap .i64 (1 + r5.1)) == 1 then (
(p_limelightkeep_Tape_Next r13.2 5).bind fun r29 =>
p_limelightkeep_Tape_Report_l0 k (fun yg48 yg59 zp0 =>
some (yg59, zp0)) r29.1 ((⟨0, 0, 0, (([] : List T_api_Tuple)), (([] : List Int)), (([] : List Int)), 0, 0, 0, (([] : List Int))⟩ : T_api_Report)) ((⟨(IntKind.wrap .i64 (1 + r5.1)), r13.1, 0, (([] : List T_api_Tuple)), (([] : List Int)), (([] : List Int)), 0, 0, 0, (([] : List Int))⟩ : T_api_Report)) r29.2)
else (
bif (IntKind.wrap .i64 (1 + r5.1)) == 2 then (
(p_limelightkeep_Tape_Next r13.2 5).bind fun r154 =>
p_limelightkeep_Tape_Report_l0 k (fun yg48 yg59 zp0 =>
some (yg59, zp0)) r154.1 ((⟨0, 0, 0, (([] : List T_api_Tuple)), (([] : List Int)), (([] : List Int)), 0, 0, 0, (([] : List Int))⟩ : T_api_Report)) ((⟨(IntKind.wrap .i64 (1 + r5.1)), r13.1, 0, (([] : List T_api_Tuple)), (([] : List Int)), (([] : List Int)), 0, 0, 0, (([] : List Int))⟩ : T_api_Report)) r154.2)
else (
bif (IntKind.wrap .i64 (1 + r5.1)) == 3 then (
(p_limelightkeep_Tape_Word r13.2).bind fun r203 =>
some (((⟨(IntKind.wrap .i64 (1 + r5.1)), r13.1, r203.1, (([] : List T_api_Tuple)), (([] : List Int)), (([] : List Int)), 0, 0, 0, (([] : List Int))⟩ : T_api_Report)), r203.2))
else (
bif (IntKind.wrap .i64 (1 + r5.1)) == 4 then (
(p_limelightkeep_Tape_Next r13.2 3).bind fun r219 =>
p_limelightkeep_Tape_Report_l1 k (fun yg238 yg250 zp0 =>
some (yg250, zp0)) r219.1 ((⟨0, 0, 0, (([] : List T_api_Tuple)), (([] : List Int)), (([] : List Int)), 0, 0, 0, (([] : List Int))⟩ : T_api_Report)) ((⟨(IntKind.wrap .i64 (1 + r5.1)), r13.1, 0, (([] : List T_api_Tuple)), (([] : List Int)), (([] : List Int)), 0, 0, 0, (([] : List Int))⟩ : T_api_Report)) r219.2)
else (
bif (IntKind.wrap .i64 (1 + r5.1)) == 5 then (
(p_limelightkeep_Tape_Next r13.2 1048576).bind fun r371 =>
(p_limelightkeep_Tape_Next r371.2 900).bind fun r379 =>
(p_limelightref1_Down k (IntKind.wrap .u64 ((IntKind.wrap .u64 r371.1) * (IntKind.wrap .u64 (IntKind.wrap .i64 (1 + r379.1))))) 18).bind fun r387 =>
(p_limelightkeep_Tape_Next r379.2 4).bind fun r395 =>
p_limelightkeep_Tape_Report_l2 k (fun yg414 yg425 zp0 =>
some (yg425, zp0)) r395.1 ((⟨0, 0, 0, (([] : List T_api_Tuple)), (([] : List Int)), (([] : List Int)), 0, 0, 0, (([] : List Int))⟩ : T_api_Report)) ((⟨(IntKind.wrap .i64 (1 + r5.1)), r13.1, 0, (([] : List T_api_Tuple)), (([] : List Int)), (([] : List Int)), r387, 0, 0, (([] : List Int))⟩ : T_api_Report)) r395.2)
else (
(p_limelightkeep_Tape_Next r13.2 12).bind fun r517 =>
(p_limelightkeep_Tape_Next r517.2 32).bind fun r525 =>
(p_limelightkeep_Tape_Bytes k r525.2 12).bind fun r533 =>
(p_limelightref1_Pad k r533.1 4).bind fun r550 =>
some (((⟨6, 0, 0, (([] : List T_api_Tuple)), (([] : List Int)), (([] : List Int)), 0, (IntKind.wrap .i64 (192 + r517.1)), r525.1, r550⟩ : T_api_Report)), r533.2))))))
theorem limelightkeep_Tape_Report_l0_ok {h : H} {l0 : Loc} {o0 : Nat} {β α : Type} {Q : β → α → Prop} {K : Exit × Env × H → Option α} {kE0 : T_api_Report → T_api_Report → T_limelightkeep_Tape → Option β} (hE0 : ∀ (yg48 : T_api_Report) (yg59 : T_api_Report) (zp0 : T_limelightkeep_Tape) (v90 : V) (h91 : SlF dT_api_Tuple yg48.Tuples v90) (v92 : V) (h93 : SlF (dI .u32) yg48.Abouts v92) (v94 : V) (h95 : SlF (dI .i64) yg48.Numbers v94) (v96 : V) (h97 : SlF (dI .u8) yg48.Body v96) (s98 : Stamp) (c100 : C) (h101 : SoC dT_api_Tuple yg59.Tuples c100) (h102 : ∀ v, c100 = .v v → v = .p (.slice none 0 0) ∨ v = .fz [] 0 3 true) (v103 : V) (h104 : SlF (dI .u32) yg59.Abouts v103) (v105 : V) (h106 : SlF (dI .i64) yg59.Numbers v105) (v107 : V) (h108 : SlF (dI .u8) yg59.Body v107) (s109 : Stamp) (v111 : V) (h112 : SlF (dI .i64) zp0.f_L v111) (H88 : Go.Ev.H) (_ : Fm 93 h [⟨l0, o0, List.map C.v [v111, (.p (.int .i64 zp0.f_At))]⟩] [(2, s98, List.map C.v [(.p (.int .i64 yg48.Kind)), (.p (.int .u32 yg48.From)), (.p (.int .u32 yg48.About)), v90, v92, v94, (.p (.int .u64 yg48.Rate)), (.p (.int .i64 yg48.f_Type)), (.p (.int .i64 yg48.Count)), v96]), (3, s109, [.v (.p (.int .i64 yg59.Kind)), .v (.p (.int .u32 yg59.From)), .v (.p (.int .u32 yg59.About)), c100, .v v103, .v v105, .v (.p (.int .u64 yg59.Rate)), .v (.p (.int .i64 yg59.f_Type)), .v (.p (.int .i64 yg59.Count)), .v v107])] [] H88), Sim (kE0 yg48 yg59 zp0) (K ((.exit 1), (envL [(2, (.ref ⟨h.length, 2, 0, s98, []⟩ 0)), (3, (.ref ⟨h.length, 3, 0, s109, []⟩ 0))]), H88)) Q) (k : Nat) : ∀ (x4 : Int) (yg4 : T_api_Report) (yg24 : T_api_Report) (zp0 : T_limelightkeep_Tape) (v39 : V) (h40 : SlF dT_api_Tuple yg4.Tuples v39) (v41 : V) (h42 : SlF (dI .u32) yg4.Abouts v41) (v43 : V) (h44 : SlF (dI .i64) yg4.Numbers v43) (v45 : V) (h46 : SlF (dI .u8) yg4.Body v45) (s47 : Stamp) (c49 : C) (h50 : SoC dT_api_Tuple yg24.Tuples c49) (h51 : ∀ v, c49 = .v v → v = .p (.slice none 0 0) ∨ v = .fz [] 0 3 true) (v52 : V) (h53 : SlF (dI .u32) yg24.Abouts v52) (v54 : V) (h55 : SlF (dI .i64) yg24.Numbers v54) (v56 : V) (h57 : SlF (dI .u8) yg24.Body v56) (s58 : Stamp) (v60 : V) (h61 : SlF (dI .i64) zp0.f_L v60) (H37 : Go.Ev.H) (_ : Fm 93 h [⟨l0, o0, List.map C.v [v60, (.p (.int .i64 zp0.f_At))]⟩] [(2, s47, List.map C.v [(.p (.int .i64 yg4.Kind)), (.p (.int .u32 yg4.From)), (.p (.int .u32 yg4.About)), v39, v41, v43, (.p (.int .u64 yg4.Rate)), (.p (.int .i64 yg4.f_Type)), (.p (.int .i64 yg4.Count)), v45]), (3, s58, [.v (.p (.int .i64 yg24.Kind)), .v (.p (.int .u32 yg24.From)), .v (.p (.int .u32 yg24.About)), c49, .v v52, .v v54, .v (.p (.int .u64 yg24.Rate)), .v (.p (.int .i64 yg24.f_Type)), .v (.p (.int .i64 yg24.Count)), .v v56])] [] H37) {σ : Stamp}, Sim (p_limelightkeep_Tape_Report_l0 k kE0 x4 yg4 yg24 zp0) ((cvL G X0 limelightkeep_Tape_Report_c0 limelightkeep_Tape_Report_l0 σ (envL [(0, (.ref l0 o0)), (2, (.ref ⟨h.length, 2, 0, s47, []⟩ 0)), (3, (.ref ⟨h.length, 3, 0, s58, []⟩ 0)), (4, (.p (.int .i64 x4)))]) H37).bind K) Q := by
  induction k with
  | zero => intros; exact Sim.no
  | succ k ih =>
    intro x4 yg4 yg24 zp0 v39 h40 v41 h42 v43 h44 v45 h46 s47 c49 h50 h51 v52 h53 v54 h55 v56 h57 s58 v60 h61 H37 S38 σ
    rw [p_limelightkeep_Tape_Report_l0]
    refine Sim.round (Sim.ext (limelightkeep_Tape_Report_r0 _ _ _ _ _ _ _ _) ?_)
    refine Sim.cd (fun hc62 => ?_) (fun hc62 => ?_)
    · refine Sim.op (fA_ref _ _ _) ?_
      refine Sim.op (h50.ld (S38.atG (i := 1) rfl) (j := 3) rfl) ?_
      refine Sim.call (limelightkeep_Tape_Tuple_ok k zp0 h61 (S38.atB (i := 0) rfl)) fun r63 cs64 H65 h66 q67 => ?_
      obtain ⟨w68, v70, h69, h71, q67⟩ := q67
      cases q67
      obtain rfl := dT_api_Tuple.inv h69
      have S72 := S38.setB (i := 0) (cs := List.map C.v [v70, (.p (.int .i64 r63.2.f_At))]) rfl rfl
      refine Sim.nd (h50.ld (S72.atG (i := 1) rfl) (j := 3) rfl) ?_
      have h73 : SlF dT_api_Tuple [r63.1] (.fz [(.p (.int .u32 r63.1.Owner)), (.p (.int .u64 r63.1.Rate)), (.p (.int .i64 r63.1.Over))] 1 3 true) := SlF.lit (cs := [(.p (.int .u32 r63.1.Owner)), (.p (.int .u64 r63.1.Rate)), (.p (.int .i64 r63.1.Over))]) (RL.cons (show dT_api_Tuple.R r63.1 [(.p (.int .u32 r63.1.Owner)), (.p (.int .u64 r63.1.Rate)), (.p (.int .i64 r63.1.Over))] from h69) RL.nil) rfl rfl true
      refine Sim.op (bldS (pt_cons (c := [(.p (.int .u32 r63.1.Owner)), (.p (.int .u64 r63.1.Rate)), (.p (.int .i64 r63.1.Over))]) rfl pt_nil) (by kernel_rfl : _ = some (.fz [(.p (.int .u32 r63.1.Owner)), (.p (.int .u64 r63.1.Rate)), (.p (.int .i64 r63.1.Over))] 1 3 true))) ?_
      refine Sim.bd fun a74 h75 => ?_
      obtain ⟨v76, c77, H78, e79, S80⟩ := S72.appG (i := 1) (j := 3) (d := 38) (e := 3) (own := false) (σ := (5 :: 0 :: 1 :: 0 :: σ)) rfl rfl h50 h51 (h73.h (ptC H37 l0 o0 (List.map C.v [v70, (.p (.int .i64 r63.2.f_At))]))).y h75 (by simp) rfl (by decide) (by decide) rfl rfl
      refine Sim.op (e79) ?_
      refine Sim.op (fA_ref _ _ _) ?_
      obtain ⟨c85, H82, e83, h86, h87, S84⟩ := S80.mvG (i := 1) (j := 3) (k := 0) (σ := (7 :: 0 :: 1 :: 0 :: σ)) rfl rfl rfl rfl rfl rfl
      refine Sim.op (st_map e83) ?_
      exact ih (IntKind.wrap .i64 (x4 - 1)) yg4 ((⟨yg24.Kind, yg24.From, yg24.About, a74, yg24.Abouts, yg24.Numbers, yg24.Rate, yg24.f_Type, yg24.Count, yg24.Body⟩ : T_api_Report)) r63.2 v39 h40 v41 h42 v43 h44 v45 h46 s47 c85 h86 h87 v52 h53 v54 h55 v56 h57 s58 v70 h71 H82 (S84.wk2 (all_cons (at_mem 0 rfl) (all_cons (at_mem 1 rfl) all_nil)) all_nil)
    exact hE0 yg4 yg24 zp0 v39 h40 v41 h42 v43 h44 v45 h46 s47 c49 h50 h51 v52 h53 v54 h55 v56 h57 s58 v60 h61 H37 (S38.wk2 (all_cons (at_mem 0 rfl) (all_cons (at_mem 1 rfl) all_nil)) all_nil)
theorem limelightkeep_Tape_Report_l1_ok {h : H} {l0 : Loc} {o0 : Nat} {β α : Type} {Q : β → α → Prop} {K : Exit × Env × H → Option α} {kE0 : T_api_Report → T_api_Report → T_limelightkeep_Tape → Option β} (hE0 : ∀ (yg238 : T_api_Report) (yg250 : T_api_Report) (zp0 : T_limelightkeep_Tape) (v302 : V) (h303 : SlF dT_api_Tuple yg238.Tuples v302) (v304 : V) (h305 : SlF (dI .u32) yg238.Abouts v304) (v306 : V) (h307 : SlF (dI .i64) yg238.Numbers v306) (v308 : V) (h309 : SlF (dI .u8) yg238.Body v308) (s310 : Stamp) (v312 : V) (h313 : SlF dT_api_Tuple yg250.Tuples v312) (c314 : C) (h315 : SoC (dI .u32) yg250.Abouts c314) (h316 : ∀ v, c314 = .v v → v = .p (.slice none 0 0) ∨ v = .fz [] 0 1 true) (c317 : C) (h318 : SoC (dI .i64) yg250.Numbers c317) (h319 : ∀ v, c317 = .v v → v = .p (.slice none 0 0) ∨ v = .fz [] 0 1 true) (v320 : V) (h321 : SlF (dI .u8) yg250.Body v320) (s322 : Stamp) (v324 : V) (h325 : SlF (dI .i64) zp0.f_L v324) (H300 : Go.Ev.H) (_ : Fm 93 h [⟨l0, o0, List.map C.v [v324, (.p (.int .i64 zp0.f_At))]⟩] [(2, s310, List.map C.v [(.p (.int .i64 yg238.Kind)), (.p (.int .u32 yg238.From)), (.p (.int .u32 yg238.About)), v302, v304, v306, (.p (.int .u64 yg238.Rate)), (.p (.int .i64 yg238.f_Type)), (.p (.int .i64 yg238.Count)), v308]), (3, s322, [.v (.p (.int .i64 yg250.Kind)), .v (.p (.int .u32 yg250.From)), .v (.p (.int .u32 yg250.About)), .v v312, c314, c317, .v (.p (.int .u64 yg250.Rate)), .v (.p (.int .i64 yg250.f_Type)), .v (.p (.int .i64 yg250.Count)), .v v320])] [] H300), Sim (kE0 yg238 yg250 zp0) (K ((.exit 3), (envL [(2, (.ref ⟨h.length, 2, 0, s310, []⟩ 0)), (3, (.ref ⟨h.length, 3, 0, s322, []⟩ 0))]), H300)) Q) (k : Nat) : ∀ (x5 : Int) (yg4 : T_api_Report) (yg24 : T_api_Report) (zp0 : T_limelightkeep_Tape) (v229 : V) (h230 : SlF dT_api_Tuple yg4.Tuples v229) (v231 : V) (h232 : SlF (dI .u32) yg4.Abouts v231) (v233 : V) (h234 : SlF (dI .i64) yg4.Numbers v233) (v235 : V) (h236 : SlF (dI .u8) yg4.Body v235) (s237 : Stamp) (v239 : V) (h240 : SlF dT_api_Tuple yg24.Tuples v239) (c241 : C) (h242 : SoC (dI .u32) yg24.Abouts c241) (h243 : ∀ v, c241 = .v v → v = .p (.slice none 0 0) ∨ v = .fz [] 0 1 true) (c244 : C) (h245 : SoC (dI .i64) yg24.Numbers c244) (h246 : ∀ v, c244 = .v v → v = .p (.slice none 0 0) ∨ v = .fz [] 0 1 true) (v247 : V) (h248 : SlF (dI .u8) yg24.Body v247) (s249 : Stamp) (v251 : V) (h252 : SlF (dI .i64) zp0.f_L v251) (H227 : Go.Ev.H) (_ : Fm 93 h [⟨l0, o0, List.map C.v [v251, (.p (.int .i64 zp0.f_At))]⟩] [(2, s237, List.map C.v [(.p (.int .i64 yg4.Kind)), (.p (.int .u32 yg4.From)), (.p (.int .u32 yg4.About)), v229, v231, v233, (.p (.int .u64 yg4.Rate)), (.p (.int .i64 yg4.f_Type)), (.p (.int .i64 yg4.Count)), v235]), (3, s249, [.v (.p (.int .i64 yg24.Kind)), .v (.p (.int .u32 yg24.From)), .v (.p (.int .u32 yg24.About)), .v v239, c241, c244, .v (.p (.int .u64 yg24.Rate)), .v (.p (.int .i64 yg24.f_Type)), .v (.p (.int .i64 yg24.Count)), .v v247])] [] H227) {σ : Stamp}, Sim (p_limelightkeep_Tape_Report_l1 k kE0 x5 yg4 yg24 zp0) ((cvL G X0 limelightkeep_Tape_Report_c1 limelightkeep_Tape_Report_l1 σ (envL [(0, (.ref l0 o0)), (2, (.ref ⟨h.length, 2, 0, s237, []⟩ 0)), (3, (.ref ⟨h.length, 3, 0, s249, []⟩ 0)), (5, (.p (.int .i64 x5)))]) H227).bind K) Q := by
  induction k with
  | zero => intros; exact Sim.no
  | succ k ih =>
    intro x5 yg4 yg24 zp0 v229 h230 v231 h232 v233 h234 v235 h236 s237 v239 h240 c241 h242 h243 c244 h245 h246 v247 h248 s249 v251 h252 H227 S228 σ
    rw [p_limelightkeep_Tape_Report_l1]
    refine Sim.round (Sim.ext (limelightkeep_Tape_Report_r1 _ _ _ _ _ _ _ _) ?_)
    refine Sim.cd (fun hc253 => ?_) (fun hc253 => ?_)
    · refine Sim.op (fA_ref _ _ _) ?_
      refine Sim.op (h242.ld (S228.atG (i := 1) rfl) (j := 4) rfl) ?_
      refine Sim.op (fA_ref _ _ _) ?_
      refine Sim.op (h245.ld (S228.atG (i := 1) rfl) (j := 5) rfl) ?_
      refine Sim.call (limelightkeep_Tape_Word_ok zp0 h252 (S228.atB (i := 0) rfl)) fun r254 cs255 H256 h257 q258 => ?_
      obtain ⟨v259, h260, q258⟩ := q258
      cases q258
      have S261 := S228.setB (i := 0) (cs := List.map C.v [v259, (.p (.int .i64 r254.2.f_At))]) rfl rfl
      refine Sim.op (castI_p _ _) ?_
      refine Sim.nd (h245.ld (S261.atG (i := 1) rfl) (j := 5) rfl) ?_
      refine Sim.nd (h242.ld (S261.atG (i := 1) rfl) (j := 4) rfl) ?_
      have h262 : SlF (dI .u32) [r254.1] (.fz [(.p (.int .u32 r254.1))] 1 1 true) := SlF.lit (cs := [(.p (.int .u32 r254.1))]) (RL.cons (show (dI .u32).R r254.1 [(.p (.int .u32 r254.1))] from rfl) RL.nil) rfl rfl true
      refine Sim.op (bldS (pt_cons rfl pt_nil) (by kernel_rfl : _ = some (.fz [(.p (.int .u32 r254.1))] 1 1 true))) ?_
      refine Sim.bd fun a263 h264 => ?_
      obtain ⟨v265, c266, H267, e268, S269⟩ := S261.appG (i := 1) (j := 4) (d := 58) (e := 1) (own := true) (σ := (5 :: 0 :: 1 :: 0 :: σ)) rfl rfl h242 h243 (h262.h (ptC H227 l0 o0 (List.map C.v [v259, (.p (.int .i64 r254.2.f_At))]))).y h264 (by simp) rfl (by decide) (by decide) rfl rfl
      refine Sim.op (e268) ?_
      refine Sim.nd (h245.ld (S269.atG (i := 1) rfl) (j := 5) rfl) ?_
      refine Sim.op (fA_ref _ _ _) ?_
      refine Sim.call (limelightkeep_Tape_Next_ok r254.2 h260 (S269.atB (i := 0) rfl) 256) fun r271 cs272 H273 h274 q275 => ?_
      obtain ⟨v276, h277, q275⟩ := q275
      cases q275
      have S278 := S269.setB (i := 0) (cs := List.map C.v [v276, (.p (.int .i64 r271.2.f_At))]) rfl rfl
      refine Sim.op (castI_p _ _) ?_
      refine Sim.nd (h245.ld (S278.atG (i := 1) rfl) (j := 5) rfl) ?_
      have h279 : SlF (dI .i64) [r271.1] (.fz [(.p (.int .i64 r271.1))] 1 1 true) := SlF.lit (cs := [(.p (.int .i64 r271.1))]) (RL.cons (show (dI .i64).R r271.1 [(.p (.int .i64 r271.1))] from rfl) RL.nil) rfl rfl true
      refine Sim.op (bldS (pt_cons rfl pt_nil) (by kernel_rfl : _ = some (.fz [(.p (.int .i64 r271.1))] 1 1 true))) ?_
      refine Sim.bd fun a280 h281 => ?_
      obtain ⟨v282, c283, H284, e285, S286⟩ := S278.appG (i := 1) (j := 5) (d := 64) (e := 1) (own := true) (σ := (11 :: 0 :: 1 :: 0 :: σ)) rfl rfl h245 h246 (h279.h (ptC H267 l0 o0 (List.map C.v [v276, (.p (.int .i64 r271.2.f_At))]))).y h281 (by simp) rfl (by decide) (by decide) rfl rfl
      refine Sim.op (e285) ?_
      obtain ⟨c291, H288, e289, h292, h293, S290⟩ := S286.mvG (i := 1) (j := 4) (k := 1) (σ := (13 :: 0 :: 1 :: 0 :: σ)) rfl rfl rfl rfl rfl rfl
      refine Sim.op (st_map e289) ?_
      refine Sim.op (fA_ref _ _ _) ?_
      obtain ⟨c297, H294, e295, h298, h299, S296⟩ := S290.mvG (i := 1) (j := 5) (k := 0) (σ := (15 :: 0 :: 1 :: 0 :: σ)) rfl rfl rfl rfl rfl rfl
      refine Sim.op (st_map e295) ?_
      exact ih (IntKind.wrap .i64 (x5 - 1)) yg4 ((⟨yg24.Kind, yg24.From, yg24.About, yg24.Tuples, a263, a280, yg24.Rate, yg24.f_Type, yg24.Count, yg24.Body⟩ : T_api_Report)) r271.2 v229 h230 v231 h232 v233 h234 v235 h236 s237 v239 h240 c291 h292 h293 c297 h298 h299 v247 h248 s249 v276 h277 H294 (S296.wk2 (all_cons (at_mem 0 rfl) (all_cons (at_mem 1 rfl) all_nil)) all_nil)
    exact hE0 yg4 yg24 zp0 v229 h230 v231 h232 v233 h234 v235 h236 s237 v239 h240 c241 h242 h243 c244 h245 h246 v247 h248 s249 v251 h252 H227 (S228.wk2 (all_cons (at_mem 0 rfl) (all_cons (at_mem 1 rfl) all_nil)) all_nil)
theorem limelightkeep_Tape_Report_l2_ok {h : H} {l0 : Loc} {o0 : Nat} {β α : Type} {Q : β → α → Prop} {K : Exit × Env × H → Option α} {kE0 : T_api_Report → T_api_Report → T_limelightkeep_Tape → Option β} (hE0 : ∀ (yg414 : T_api_Report) (yg425 : T_api_Report) (zp0 : T_limelightkeep_Tape) (v454 : V) (h455 : SlF dT_api_Tuple yg414.Tuples v454) (v456 : V) (h457 : SlF (dI .u32) yg414.Abouts v456) (v458 : V) (h459 : SlF (dI .i64) yg414.Numbers v458) (v460 : V) (h461 : SlF (dI .u8) yg414.Body v460) (s462 : Stamp) (v464 : V) (h465 : SlF dT_api_Tuple yg425.Tuples v464) (c466 : C) (h467 : SoC (dI .u32) yg425.Abouts c466) (h468 : ∀ v, c466 = .v v → v = .p (.slice none 0 0) ∨ v = .fz [] 0 1 true) (v469 : V) (h470 : SlF (dI .i64) yg425.Numbers v469) (v471 : V) (h472 : SlF (dI .u8) yg425.Body v471) (s473 : Stamp) (v475 : V) (h476 : SlF (dI .i64) zp0.f_L v475) (H452 : Go.Ev.H) (_ : Fm 93 h [⟨l0, o0, List.map C.v [v475, (.p (.int .i64 zp0.f_At))]⟩] [(2, s462, List.map C.v [(.p (.int .i64 yg414.Kind)), (.p (.int .u32 yg414.From)), (.p (.int .u32 yg414.About)), v454, v456, v458, (.p (.int .u64 yg414.Rate)), (.p (.int .i64 yg414.f_Type)), (.p (.int .i64 yg414.Count)), v460]), (3, s473, [.v (.p (.int .i64 yg425.Kind)), .v (.p (.int .u32 yg425.From)), .v (.p (.int .u32 yg425.About)), .v v464, c466, .v v469, .v (.p (.int .u64 yg425.Rate)), .v (.p (.int .i64 yg425.f_Type)), .v (.p (.int .i64 yg425.Count)), .v v471])] [] H452), Sim (kE0 yg414 yg425 zp0) (K ((.exit 5), (envL [(2, (.ref ⟨h.length, 2, 0, s462, []⟩ 0)), (3, (.ref ⟨h.length, 3, 0, s473, []⟩ 0))]), H452)) Q) (k : Nat) : ∀ (x6 : Int) (yg4 : T_api_Report) (yg24 : T_api_Report) (zp0 : T_limelightkeep_Tape) (v405 : V) (h406 : SlF dT_api_Tuple yg4.Tuples v405) (v407 : V) (h408 : SlF (dI .u32) yg4.Abouts v407) (v409 : V) (h410 : SlF (dI .i64) yg4.Numbers v409) (v411 : V) (h412 : SlF (dI .u8) yg4.Body v411) (s413 : Stamp) (v415 : V) (h416 : SlF dT_api_Tuple yg24.Tuples v415) (c417 : C) (h418 : SoC (dI .u32) yg24.Abouts c417) (h419 : ∀ v, c417 = .v v → v = .p (.slice none 0 0) ∨ v = .fz [] 0 1 true) (v420 : V) (h421 : SlF (dI .i64) yg24.Numbers v420) (v422 : V) (h423 : SlF (dI .u8) yg24.Body v422) (s424 : Stamp) (v426 : V) (h427 : SlF (dI .i64) zp0.f_L v426) (H403 : Go.Ev.H) (_ : Fm 93 h [⟨l0, o0, List.map C.v [v426, (.p (.int .i64 zp0.f_At))]⟩] [(2, s413, List.map C.v [(.p (.int .i64 yg4.Kind)), (.p (.int .u32 yg4.From)), (.p (.int .u32 yg4.About)), v405, v407, v409, (.p (.int .u64 yg4.Rate)), (.p (.int .i64 yg4.f_Type)), (.p (.int .i64 yg4.Count)), v411]), (3, s424, [.v (.p (.int .i64 yg24.Kind)), .v (.p (.int .u32 yg24.From)), .v (.p (.int .u32 yg24.About)), .v v415, c417, .v v420, .v (.p (.int .u64 yg24.Rate)), .v (.p (.int .i64 yg24.f_Type)), .v (.p (.int .i64 yg24.Count)), .v v422])] [] H403) {σ : Stamp}, Sim (p_limelightkeep_Tape_Report_l2 k kE0 x6 yg4 yg24 zp0) ((cvL G X0 limelightkeep_Tape_Report_c2 limelightkeep_Tape_Report_l2 σ (envL [(0, (.ref l0 o0)), (2, (.ref ⟨h.length, 2, 0, s413, []⟩ 0)), (3, (.ref ⟨h.length, 3, 0, s424, []⟩ 0)), (6, (.p (.int .i64 x6)))]) H403).bind K) Q := by
  induction k with
  | zero => intros; exact Sim.no
  | succ k ih =>
    intro x6 yg4 yg24 zp0 v405 h406 v407 h408 v409 h410 v411 h412 s413 v415 h416 c417 h418 h419 v420 h421 v422 h423 s424 v426 h427 H403 S404 σ
    rw [p_limelightkeep_Tape_Report_l2]
    refine Sim.round (Sim.ext (limelightkeep_Tape_Report_r2 _ _ _ _ _ _ _ _) ?_)
    refine Sim.cd (fun hc428 => ?_) (fun hc428 => ?_)
    · refine Sim.op (fA_ref _ _ _) ?_
      refine Sim.op (h418.ld (S404.atG (i := 1) rfl) (j := 4) rfl) ?_
      refine Sim.call (limelightkeep_Tape_Word_ok zp0 h427 (S404.atB (i := 0) rfl)) fun r429 cs430 H431 h432 q433 => ?_
      obtain ⟨v434, h435, q433⟩ := q433
      cases q433
      have S436 := S404.setB (i := 0) (cs := List.map C.v [v434, (.p (.int .i64 r429.2.f_At))]) rfl rfl
      refine Sim.op (castI_p _ _) ?_
      refine Sim.nd (h418.ld (S436.atG (i := 1) rfl) (j := 4) rfl) ?_
      have h437 : SlF (dI .u32) [r429.1] (.fz [(.p (.int .u32 r429.1))] 1 1 true) := SlF.lit (cs := [(.p (.int .u32 r429.1))]) (RL.cons (show (dI .u32).R r429.1 [(.p (.int .u32 r429.1))] from rfl) RL.nil) rfl rfl true
      refine Sim.op (bldS (pt_cons rfl pt_nil) (by kernel_rfl : _ = some (.fz [(.p (.int .u32 r429.1))] 1 1 true))) ?_
      refine Sim.bd fun a438 h439 => ?_
      obtain ⟨v440, c441, H442, e443, S444⟩ := S436.appG (i := 1) (j := 4) (d := 90) (e := 1) (own := true) (σ := (5 :: 0 :: 1 :: 0 :: σ)) rfl rfl h418 h419 (h437.h (ptC H403 l0 o0 (List.map C.v [v434, (.p (.int .i64 r429.2.f_At))]))).y h439 (by simp) rfl (by decide) (by decide) rfl rfl
      refine Sim.op (e443) ?_
      refine Sim.op (fA_ref _ _ _) ?_
      obtain ⟨c449, H446, e447, h450, h451, S448⟩ := S444.mvG (i := 1) (j := 4) (k := 0) (σ := (7 :: 0 :: 1 :: 0 :: σ)) rfl rfl rfl rfl rfl rfl
      refine Sim.op (st_map e447) ?_
      exact ih (IntKind.wrap .i64 (x6 - 1)) yg4 ((⟨yg24.Kind, yg24.From, yg24.About, yg24.Tuples, a438, yg24.Numbers, yg24.Rate, yg24.f_Type, yg24.Count, yg24.Body⟩ : T_api_Report)) r429.2 v405 h406 v407 h408 v409 h410 v411 h412 s413 v415 h416 c449 h450 h451 v420 h421 v422 h423 s424 v434 h435 H446 (S448.wk2 (all_cons (at_mem 0 rfl) (all_cons (at_mem 1 rfl) all_nil)) all_nil)
    exact hE0 yg4 yg24 zp0 v405 h406 v407 h408 v409 h410 v411 h412 s413 v415 h416 c417 h418 h419 v420 h421 v422 h423 s424 v426 h427 H403 (S404.wk2 (all_cons (at_mem 0 rfl) (all_cons (at_mem 1 rfl) all_nil)) all_nil)
theorem limelightkeep_Tape_Report_ok (k : Nat) {h : H} {σ : Stamp} (x0 : T_limelightkeep_Tape) {u0_0 : V} (hu0_0 : SlF (dI .i64) x0.f_L u0_0) {l0 : Loc} {o0 : Nat} (ha0 : AtC h l0 o0 (List.map C.v [u0_0, (.p (.int .i64 x0.f_At))])) : Sim (p_limelightkeep_Tape_Report k x0) (ev G X0 15 σ [(.ref l0 o0)] h) (fun r s => ∃ (w0 : List V), ∃ (vb0_0 : V), dT_api_Report.R r.1 w0 ∧ SlF (dI .i64) r.2.f_L vb0_0 ∧ s = ([.v (.agg w0)], pts h [⟨l0, o0, [.v vb0_0, .v (.p (.int .i64 r.2.f_At))]⟩])) := by
  refine Sim.ev rfl (Sim.ext (limelightkeep_Tape_Report_entry _ _ _ _ _) ?_)
  rw [p_limelightkeep_Tape_Report]
  have S0 : Fm 93 h [⟨l0, o0, List.map C.v [u0_0, (.p (.int .i64 x0.f_At))]⟩] [] [] (List.replicate 93 [] :: h) := Fm.start1 ha0
  obtain ⟨H1, e2, S3⟩ := S0.al (d := 2) (s := (0 :: 0 :: 0 :: σ)) (z := [(.p (.int .i64 0)), (.p (.int .u32 0)), (.p (.int .u32 0)), (.p (.slice none 0 0)), (.p (.slice none 0 0)), (.p (.slice none 0 0)), (.p (.int .u64 0)), (.p (.int .i64 0)), (.p (.int .i64 0)), (.p (.slice none 0 0))]) (by decide) rfl
  refine Sim.op (congrArg some e2) ?_
  refine Sim.call (limelightkeep_Tape_Next_ok x0 hu0_0 (S3.atB (i := 0) rfl) 6) fun r5 cs6 H7 h8 q9 => ?_
  obtain ⟨v10, h11, q9⟩ := q9
  cases q9
  have S12 := S3.setB (i := 0) (cs := List.map C.v [v10, (.p (.int .i64 r5.2.f_At))]) rfl rfl
  refine Sim.op (castI_p _ _) ?_
  refine Sim.call (limelightkeep_Tape_Word_ok r5.2 h11 (S12.atB (i := 0) rfl)) fun r13 cs14 H15 h16 q17 => ?_
  obtain ⟨v18, h19, q17⟩ := q17
  cases q17
  have S20 := S12.setB (i := 0) (cs := List.map C.v [v18, (.p (.int .i64 r13.2.f_At))]) rfl rfl
  refine Sim.op (castI_p _ _) ?_
  refine Sim.op (bldV (pt_cons rfl (pt_cons rfl pt_nil)) (by kernel_rfl : _ = some (.agg [.p (.int .i64 (IntKind.wrap .i64 (1 + r5.1))), .p (.int .u32 r13.1), .p (.int .u32 0), .p (.slice none 0 0), .p (.slice none 0 0), .p (.slice none 0 0), .p (.int .u64 0), .p (.int .i64 0), .p (.int .i64 0), .p (.slice none 0 0)]))) ?_
  obtain ⟨H21, e22, S23⟩ := S20.al (d := 3) (s := (6 :: 0 :: 1 :: 0 :: σ)) (z := [(.p (.int .i64 0)), (.p (.int .u32 0)), (.p (.int .u32 0)), (.p (.slice none 0 0)), (.p (.slice none 0 0)), (.p (.slice none 0 0)), (.p (.int .u64 0)), (.p (.int .i64 0)), (.p (.int .i64 0)), (.p (.slice none 0 0))]) (by decide) rfl
  refine Sim.op (congrArg some e22) ?_
  obtain ⟨H25, e26, S27⟩ := S23.stGv (i := 0) (j := 0) (own := false) (σ := (7 :: 0 :: 1 :: 0 :: σ)) (xs := [.p (.int .i64 (IntKind.wrap .i64 (1 + r5.1))), .p (.int .u32 r13.1), .p (.int .u32 0), .p (.slice none 0 0), .p (.slice none 0 0), .p (.slice none 0 0), .p (.int .u64 0), .p (.int .i64 0), .p (.int .i64 0), .p (.slice none 0 0)]) rfl rfl (stills_cons (still_int _ _) (stills_cons (still_int _ _) (stills_cons (still_int _ _) (stills_cons (SlF.nil dT_api_Tuple).still (stills_cons (SlF.nil (dI .u32)).still (stills_cons (SlF.nil (dI .i64)).still (stills_cons (still_int _ _) (stills_cons (still_int _ _) (stills_cons (still_int _ _) (stills_cons (SlF.nil (dI .u8)).still stills_nil)))))))))) rfl rfl
  refine Sim.op (st_map e26) ?_
  refine Sim.op (fA_ref _ _ _) ?_
  refine Sim.op ((S27.atG (i := 0) rfl).ld (j := 0) rfl) ?_
  refine Sim.op (castI_p _ _) ?_
  refine Sim.cd (fun hc28 => ?_) (fun hc28 => ?_)
  · refine Sim.cdt (eqT (beq_iff_eq.1 hc28)) ?_
    refine Sim.call (limelightkeep_Tape_Next_ok r13.2 h19 (S27.atB (i := 0) rfl) 5) fun r29 cs30 H31 h32 q33 => ?_
    obtain ⟨v34, h35, q33⟩ := q33
    cases q33
    have S36 := S27.setB (i := 0) (cs := List.map C.v [v34, (.p (.int .i64 r29.2.f_At))]) rfl rfl
    refine Sim.op (castI_p _ _) ?_
    refine Sim.as (limelightkeep_Tape_Report_l0_ok ?_ k r29.1 ((⟨0, 0, 0, (([] : List T_api_Tuple)), (([] : List Int)), (([] : List Int)), 0, 0, 0, (([] : List Int))⟩ : T_api_Report)) ((⟨(IntKind.wrap .i64 (1 + r5.1)), r13.1, 0, (([] : List T_api_Tuple)), (([] : List Int)), (([] : List Int)), 0, 0, 0, (([] : List Int))⟩ : T_api_Report)) r29.2 (.p (.slice none 0 0)) (SlF.nil dT_api_Tuple) (.p (.slice none 0 0)) (SlF.nil (dI .u32)) (.p (.slice none 0 0)) (SlF.nil (dI .i64)) (.p (.slice none 0 0)) (SlF.nil (dI .u8)) (0 :: 0 :: 0 :: σ) (.v (.p (.slice none 0 0))) (SoC.frz (SlF.nil dT_api_Tuple)) (fun v h => by cases h; simp) (.p (.slice none 0 0)) (SlF.nil (dI .u32)) (.p (.slice none 0 0)) (SlF.nil (dI .i64)) (.p (.slice none 0 0)) (SlF.nil (dI .u8)) (6 :: 0 :: 1 :: 0 :: σ) v34 h35 (ptC H25 l0 o0 (List.map C.v [v34, (.p (.int .i64 r29.2.f_At))])) (S36.wk2 (all_cons (at_mem 1 rfl) (all_cons (at_mem 0 rfl) all_nil)) all_nil)) 
    · intro yg48 yg59 zp0 v116 h117 v118 h119 v120 h121 v122 h123 s124 c126 h127 h128 v129 h130 v131 h132 v133 h134 s135 v137 h138 H114 S115
      refine Sim.ext (limelightkeep_Tape_Report_a0_1 _ _ _ _ _ _) ?_
      obtain ⟨v139, h140, h141⟩ := h127.fr
      obtain ⟨w142, H143, h148, e144, e145, e146, S147⟩ := S115.frzV (i := 1) (n := 10) (ys := [(.p (.int .i64 yg59.Kind)), (.p (.int .u32 yg59.From)), (.p (.int .u32 yg59.About)), v139, v129, v131, (.p (.int .u64 yg59.Rate)), (.p (.int .i64 yg59.f_Type)), (.p (.int .i64 yg59.Count)), v133]) rfl rfl ⟨(FrC.v (still_int _ _)), ⟨(FrC.v (still_int _ _)), ⟨(FrC.v (still_int _ _)), ⟨h140, ⟨(FrC.v h130.still), ⟨(FrC.v h132.still), ⟨(FrC.v (still_int _ _)), ⟨(FrC.v (still_int _ _)), ⟨(FrC.v (still_int _ _)), ⟨(FrC.v h134.still), trivial⟩⟩⟩⟩⟩⟩⟩⟩⟩⟩ rfl (by decide)
      refine Sim.op (e144) ?_
      obtain ⟨H149, e150, S151⟩ := Fm.stFrz (S0 := S115) (i0 := 0) (i := 0) (j := 0) (n := 10) (σ := (1 :: 0 :: 1 :: 1 :: 1 :: 0 :: σ)) S147 rfl e146 rfl rfl h148 rfl rfl
      refine Sim.op (st_map e150) ?_
      have e152 : ldO true 10 H149 (.ref ⟨h.length, 2, 0, s124, []⟩ 0) = some (.agg [.p (.int .i64 yg59.Kind), .p (.int .u32 yg59.From), .p (.int .u32 yg59.About), v139, v129, v131, .p (.int .u64 yg59.Rate), .p (.int .i64 yg59.f_Type), .p (.int .i64 yg59.Count), v133]) := (S151.atG (i := 0) rfl).ldVs (j := 0) (xs := [.p (.int .i64 yg59.Kind), .p (.int .u32 yg59.From), .p (.int .u32 yg59.About), v139, v129, v131, .p (.int .u64 yg59.Rate), .p (.int .i64 yg59.f_Type), .p (.int .i64 yg59.Count), v133]) rfl rfl (by decide)
      refine Sim.op (show _ = some [(.agg [.p (.int .i64 yg59.Kind), .p (.int .u32 yg59.From), .p (.int .u32 yg59.About), v139, v129, v131, .p (.int .u64 yg59.Rate), .p (.int .i64 yg59.f_Type), .p (.int .i64 yg59.Count), v133])] from by simp only [e152, Option.bind_some, Option.map_some]) ?_
      exact Sim.fin (S151.finN (lv_cons (Stills.lv (dT_api_Report.still (dT_api_Report.mk h141 h130 h132 h134))) lv_nil)) ⟨[.p (.int .i64 yg59.Kind), .p (.int .u32 yg59.From), .p (.int .u32 yg59.About), v139, v129, v131, .p (.int .u64 yg59.Rate), .p (.int .i64 yg59.f_Type), .p (.int .i64 yg59.Count), v133], v137, (show dT_api_Report.R yg59 [.p (.int .i64 yg59.Kind), .p (.int .u32 yg59.From), .p (.int .u32 yg59.About), v139, v129, v131, .p (.int .u64 yg59.Rate), .p (.int .i64 yg59.f_Type), .p (.int .i64 yg59.Count), v133] from (dT_api_Report.mk h141 h130 h132 h134)), h138, rfl⟩
  refine Sim.cd (fun hc153 => ?_) (fun hc153 => ?_)
  · refine Sim.call (limelightkeep_Tape_Next_ok r13.2 h19 (S27.atB (i := 0) rfl) 5) fun r154 cs155 H156 h157 q158 => ?_
    obtain ⟨v159, h160, q158⟩ := q158
    cases q158
    have S161 := S27.setB (i := 0) (cs := List.map C.v [v159, (.p (.int .i64 r154.2.f_At))]) rfl rfl
    refine Sim.op (castI_p _ _) ?_
    refine Sim.as (limelightkeep_Tape_Report_l0_ok ?_ k r154.1 ((⟨0, 0, 0, (([] : List T_api_Tuple)), (([] : List Int)), (([] : List Int)), 0, 0, 0, (([] : List Int))⟩ : T_api_Report)) ((⟨(IntKind.wrap .i64 (1 + r5.1)), r13.1, 0, (([] : List T_api_Tuple)), (([] : List Int)), (([] : List Int)), 0, 0, 0, (([] : List Int))⟩ : T_api_Report)) r154.2 (.p (.slice none 0 0)) (SlF.nil dT_api_Tuple) (.p (.slice none 0 0)) (SlF.nil (dI .u32)) (.p (.slice none 0 0)) (SlF.nil (dI .i64)) (.p (.slice none 0 0)) (SlF.nil (dI .u8)) (0 :: 0 :: 0 :: σ) (.v (.p (.slice none 0 0))) (SoC.frz (SlF.nil dT_api_Tuple)) (fun v h => by cases h; simp) (.p (.slice none 0 0)) (SlF.nil (dI .u32)) (.p (.slice none 0 0)) (SlF.nil (dI .i64)) (.p (.slice none 0 0)) (SlF.nil (dI .u8)) (6 :: 0 :: 1 :: 0 :: σ) v159 h160 (ptC H25 l0 o0 (List.map C.v [v159, (.p (.int .i64 r154.2.f_At))])) (S161.wk2 (all_cons (at_mem 1 rfl) (all_cons (at_mem 0 rfl) all_nil)) all_nil)) 
    · intro yg48 yg59 zp0 v165 h166 v167 h168 v169 h170 v171 h172 s173 c175 h176 h177 v178 h179 v180 h181 v182 h183 s184 v186 h187 H163 S164
      refine Sim.ext (limelightkeep_Tape_Report_a0_1 _ _ _ _ _ _) ?_
      obtain ⟨v188, h189, h190⟩ := h176.fr
      obtain ⟨w191, H192, h197, e193, e194, e195, S196⟩ := S164.frzV (i := 1) (n := 10) (ys := [(.p (.int .i64 yg59.Kind)), (.p (.int .u32 yg59.From)), (.p (.int .u32 yg59.About)), v188, v178, v180, (.p (.int .u64 yg59.Rate)), (.p (.int .i64 yg59.f_Type)), (.p (.int .i64 yg59.Count)), v182]) rfl rfl ⟨(FrC.v (still_int _ _)), ⟨(FrC.v (still_int _ _)), ⟨(FrC.v (still_int _ _)), ⟨h189, ⟨(FrC.v h179.still), ⟨(FrC.v h181.still), ⟨(FrC.v (still_int _ _)), ⟨(FrC.v (still_int _ _)), ⟨(FrC.v (still_int _ _)), ⟨(FrC.v h183.still), trivial⟩⟩⟩⟩⟩⟩⟩⟩⟩⟩ rfl (by decide)
      refine Sim.op (e193) ?_
      obtain ⟨H198, e199, S200⟩ := Fm.stFrz (S0 := S164) (i0 := 0) (i := 0) (j := 0) (n := 10) (σ := (1 :: 0 :: 1 :: 1 :: 1 :: 0 :: σ)) S196 rfl e195 rfl rfl h197 rfl rfl
      refine Sim.op (st_map e199) ?_
      have e201 : ldO true 10 H198 (.ref ⟨h.length, 2, 0, s173, []⟩ 0) = some (.agg [.p (.int .i64 yg59.Kind), .p (.int .u32 yg59.From), .p (.int .u32 yg59.About), v188, v178, v180, .p (.int .u64 yg59.Rate), .p (.int .i64 yg59.f_Type), .p (.int .i64 yg59.Count), v182]) := (S200.atG (i := 0) rfl).ldVs (j := 0) (xs := [.p (.int .i64 yg59.Kind), .p (.int .u32 yg59.From), .p (.int .u32 yg59.About), v188, v178, v180, .p (.int .u64 yg59.Rate), .p (.int .i64 yg59.f_Type), .p (.int .i64 yg59.Count), v182]) rfl rfl (by decide)
      refine Sim.op (show _ = some [(.agg [.p (.int .i64 yg59.Kind), .p (.int .u32 yg59.From), .p (.int .u32 yg59.About), v188, v178, v180, .p (.int .u64 yg59.Rate), .p (.int .i64 yg59.f_Type), .p (.int .i64 yg59.Count), v182])] from by simp only [e201, Option.bind_some, Option.map_some]) ?_
      exact Sim.fin (S200.finN (lv_cons (Stills.lv (dT_api_Report.still (dT_api_Report.mk h190 h179 h181 h183))) lv_nil)) ⟨[.p (.int .i64 yg59.Kind), .p (.int .u32 yg59.From), .p (.int .u32 yg59.About), v188, v178, v180, .p (.int .u64 yg59.Rate), .p (.int .i64 yg59.f_Type), .p (.int .i64 yg59.Count), v182], v186, (show dT_api_Report.R yg59 [.p (.int .i64 yg59.Kind), .p (.int .u32 yg59.From), .p (.int .u32 yg59.About), v188, v178, v180, .p (.int .u64 yg59.Rate), .p (.int .i64 yg59.f_Type), .p (.int .i64 yg59.Count), v182] from (dT_api_Report.mk h190 h179 h181 h183)), h187, rfl⟩
  refine Sim.cd (fun hc202 => ?_) (fun hc202 => ?_)
  · refine Sim.call (limelightkeep_Tape_Word_ok r13.2 h19 (S27.atB (i := 0) rfl)) fun r203 cs204 H205 h206 q207 => ?_
    obtain ⟨v208, h209, q207⟩ := q207
    cases q207
    have S210 := S27.setB (i := 0) (cs := List.map C.v [v208, (.p (.int .i64 r203.2.f_At))]) rfl rfl
    refine Sim.op (castI_p _ _) ?_
    refine Sim.op (fA_ref _ _ _) ?_
    obtain ⟨H211, e212, S213⟩ := S210.stG (i := 0) (j := 2) (own := true) (σ := (3 :: 1 :: 1 :: 1 :: 0 :: 1 :: 1 :: 0 :: σ)) (x := (.p (.int .u32 r203.1))) rfl rfl (still_int _ _) rfl
    refine Sim.op (st_map e212) ?_
    refine Sim.op ((S213.atG (i := 0) rfl).ldVs (j := 0) (xs := [.p (.int .i64 (IntKind.wrap .i64 (1 + r5.1))), .p (.int .u32 r13.1), .p (.int .u32 r203.1), .p (.slice none 0 0), .p (.slice none 0 0), .p (.slice none 0 0), .p (.int .u64 0), .p (.int .i64 0), .p (.int .i64 0), .p (.slice none 0 0)]) rfl rfl (by decide)) ?_
    obtain ⟨H214, e215, S216⟩ := S213.stGv (i := 1) (j := 0) (own := false) (σ := (1 :: 0 :: 1 :: 1 :: 1 :: 0 :: σ)) (xs := [.p (.int .i64 (IntKind.wrap .i64 (1 + r5.1))), .p (.int .u32 r13.1), .p (.int .u32 r203.1), .p (.slice none 0 0), .p (.slice none 0 0), .p (.slice none 0 0), .p (.int .u64 0), .p (.int .i64 0), .p (.int .i64 0), .p (.slice none 0 0)]) rfl rfl (stills_cons (still_int _ _) (stills_cons (still_int _ _) (stills_cons (still_int _ _) (stills_cons (SlF.nil dT_api_Tuple).still (stills_cons (SlF.nil (dI .u32)).still (stills_cons (SlF.nil (dI .i64)).still (stills_cons (still_int _ _) (stills_cons (still_int _ _) (stills_cons (still_int _ _) (stills_cons (SlF.nil (dI .u8)).still stills_nil)))))))))) rfl rfl
    refine Sim.op (st_map e215) ?_
    have e217 : ldO true 10 H214 (.ref ⟨h.length, 2, 0, (0 :: 0 :: 0 :: σ), []⟩ 0) = some (.agg [.p (.int .i64 (IntKind.wrap .i64 (1 + r5.1))), .p (.int .u32 r13.1), .p (.int .u32 r203.1), .p (.slice none 0 0), .p (.slice none 0 0), .p (.slice none 0 0), .p (.int .u64 0), .p (.int .i64 0), .p (.int .i64 0), .p (.slice none 0 0)]) := (S216.atG (i := 1) rfl).ldVs (j := 0) (xs := [.p (.int .i64 (IntKind.wrap .i64 (1 + r5.1))), .p (.int .u32 r13.1), .p (.int .u32 r203.1), .p (.slice none 0 0), .p (.slice none 0 0), .p (.slice none 0 0), .p (.int .u64 0), .p (.int .i64 0), .p (.int .i64 0), .p (.slice none 0 0)]) rfl rfl (by decide)
    refine Sim.op (show _ = some [(.agg [.p (.int .i64 (IntKind.wrap .i64 (1 + r5.1))), .p (.int .u32 r13.1), .p (.int .u32 r203.1), .p (.slice none 0 0), .p (.slice none 0 0), .p (.slice none 0 0), .p (.int .u64 0), .p (.int .i64 0), .p (.int .i64 0), .p (.slice none 0 0)])] from by simp only [e217, Option.bind_some, Option.map_some]) ?_
    exact Sim.fin (S216.finN (lv_cons (Stills.lv (dT_api_Report.still (dT_api_Report.mk (SlF.nil dT_api_Tuple) (SlF.nil (dI .u32)) (SlF.nil (dI .i64)) (SlF.nil (dI .u8))))) lv_nil)) ⟨[.p (.int .i64 (IntKind.wrap .i64 (1 + r5.1))), .p (.int .u32 r13.1), .p (.int .u32 r203.1), .p (.slice none 0 0), .p (.slice none 0 0), .p (.slice none 0 0), .p (.int .u64 0), .p (.int .i64 0), .p (.int .i64 0), .p (.slice none 0 0)], v208, (show dT_api_Report.R ((⟨(IntKind.wrap .i64 (1 + r5.1)), r13.1, r203.1, (([] : List T_api_Tuple)), (([] : List Int)), (([] : List Int)), 0, 0, 0, (([] : List Int))⟩ : T_api_Report)) [.p (.int .i64 (IntKind.wrap .i64 (1 + r5.1))), .p (.int .u32 r13.1), .p (.int .u32 r203.1), .p (.slice none 0 0), .p (.slice none 0 0), .p (.slice none 0 0), .p (.int .u64 0), .p (.int .i64 0), .p (.int .i64 0), .p (.slice none 0 0)] from (dT_api_Report.mk (SlF.nil dT_api_Tuple) (SlF.nil (dI .u32)) (SlF.nil (dI .i64)) (SlF.nil (dI .u8)))), h209, rfl⟩
  refine Sim.cd (fun hc218 => ?_) (fun hc218 => ?_)
  · refine Sim.call (limelightkeep_Tape_Next_ok r13.2 h19 (S27.atB (i := 0) rfl) 3) fun r219 cs220 H221 h222 q223 => ?_
    obtain ⟨v224, h225, q223⟩ := q223
    cases q223
    have S226 := S27.setB (i := 0) (cs := List.map C.v [v224, (.p (.int .i64 r219.2.f_At))]) rfl rfl
    refine Sim.op (castI_p _ _) ?_
    refine Sim.as (limelightkeep_Tape_Report_l1_ok ?_ k r219.1 ((⟨0, 0, 0, (([] : List T_api_Tuple)), (([] : List Int)), (([] : List Int)), 0, 0, 0, (([] : List Int))⟩ : T_api_Report)) ((⟨(IntKind.wrap .i64 (1 + r5.1)), r13.1, 0, (([] : List T_api_Tuple)), (([] : List Int)), (([] : List Int)), 0, 0, 0, (([] : List Int))⟩ : T_api_Report)) r219.2 (.p (.slice none 0 0)) (SlF.nil dT_api_Tuple) (.p (.slice none 0 0)) (SlF.nil (dI .u32)) (.p (.slice none 0 0)) (SlF.nil (dI .i64)) (.p (.slice none 0 0)) (SlF.nil (dI .u8)) (0 :: 0 :: 0 :: σ) (.p (.slice none 0 0)) (SlF.nil dT_api_Tuple) (.v (.p (.slice none 0 0))) (SoC.frz (SlF.nil (dI .u32))) (fun v h => by cases h; simp) (.v (.p (.slice none 0 0))) (SoC.frz (SlF.nil (dI .i64))) (fun v h => by cases h; simp) (.p (.slice none 0 0)) (SlF.nil (dI .u8)) (6 :: 0 :: 1 :: 0 :: σ) v224 h225 (ptC H25 l0 o0 (List.map C.v [v224, (.p (.int .i64 r219.2.f_At))])) (S226.wk2 (all_cons (at_mem 1 rfl) (all_cons (at_mem 0 rfl) all_nil)) all_nil)) 
    · intro yg238 yg250 zp0 v329 h330 v331 h332 v333 h334 v335 h336 s337 v339 h340 c341 h342 h343 c344 h345 h346 v347 h348 s349 v351 h352 H327 S328
      refine Sim.ext (limelightkeep_Tape_Report_a1_3 _ _ _ _ _ _) ?_
      obtain ⟨v353, h354, h355⟩ := h342.fr
      obtain ⟨v356, h357, h358⟩ := h345.fr
      obtain ⟨w359, H360, h365, e361, e362, e363, S364⟩ := S328.frzV (i := 1) (n := 10) (ys := [(.p (.int .i64 yg250.Kind)), (.p (.int .u32 yg250.From)), (.p (.int .u32 yg250.About)), v339, v353, v356, (.p (.int .u64 yg250.Rate)), (.p (.int .i64 yg250.f_Type)), (.p (.int .i64 yg250.Count)), v347]) rfl rfl ⟨(FrC.v (still_int _ _)), ⟨(FrC.v (still_int _ _)), ⟨(FrC.v (still_int _ _)), ⟨(FrC.v h340.still), ⟨h354, ⟨h357, ⟨(FrC.v (still_int _ _)), ⟨(FrC.v (still_int _ _)), ⟨(FrC.v (still_int _ _)), ⟨(FrC.v h348.still), trivial⟩⟩⟩⟩⟩⟩⟩⟩⟩⟩ rfl (by decide)
      refine Sim.op (e361) ?_
      obtain ⟨H366, e367, S368⟩ := Fm.stFrz (S0 := S328) (i0 := 0) (i := 0) (j := 0) (n := 10) (σ := (1 :: 0 :: 1 :: 1 :: 1 :: 0 :: σ)) S364 rfl e363 rfl rfl h365 rfl rfl
      refine Sim.op (st_map e367) ?_
      have e369 : ldO true 10 H366 (.ref ⟨h.length, 2, 0, s337, []⟩ 0) = some (.agg [.p (.int .i64 yg250.Kind), .p (.int .u32 yg250.From), .p (.int .u32 yg250.About), v339, v353, v356, .p (.int .u64 yg250.Rate), .p (.int .i64 yg250.f_Type), .p (.int .i64 yg250.Count), v347]) := (S368.atG (i := 0) rfl).ldVs (j := 0) (xs := [.p (.int .i64 yg250.Kind), .p (.int .u32 yg250.From), .p (.int .u32 yg250.About), v339, v353, v356, .p (.int .u64 yg250.Rate), .p (.int .i64 yg250.f_Type), .p (.int .i64 yg250.Count), v347]) rfl rfl (by decide)
      refine Sim.op (show _ = some [(.agg [.p (.int .i64 yg250.Kind), .p (.int .u32 yg250.From), .p (.int .u32 yg250.About), v339, v353, v356, .p (.int .u64 yg250.Rate), .p (.int .i64 yg250.f_Type), .p (.int .i64 yg250.Count), v347])] from by simp only [e369, Option.bind_some, Option.map_some]) ?_
      exact Sim.fin (S368.finN (lv_cons (Stills.lv (dT_api_Report.still (dT_api_Report.mk h340 h355 h358 h348))) lv_nil)) ⟨[.p (.int .i64 yg250.Kind), .p (.int .u32 yg250.From), .p (.int .u32 yg250.About), v339, v353, v356, .p (.int .u64 yg250.Rate), .p (.int .i64 yg250.f_Type), .p (.int .i64 yg250.Count), v347], v351, (show dT_api_Report.R yg250 [.p (.int .i64 yg250.Kind), .p (.int .u32 yg250.From), .p (.int .u32 yg250.About), v339, v353, v356, .p (.int .u64 yg250.Rate), .p (.int .i64 yg250.f_Type), .p (.int .i64 yg250.Count), v347] from (dT_api_Report.mk h340 h355 h358 h348)), h352, rfl⟩
  refine Sim.cd (fun hc370 => ?_) (fun hc370 => ?_)
  · refine Sim.call (limelightkeep_Tape_Next_ok r13.2 h19 (S27.atB (i := 0) rfl) 1048576) fun r371 cs372 H373 h374 q375 => ?_
    obtain ⟨v376, h377, q375⟩ := q375
    cases q375
    have S378 := S27.setB (i := 0) (cs := List.map C.v [v376, (.p (.int .i64 r371.2.f_At))]) rfl rfl
    refine Sim.op (castI_p _ _) ?_
    refine Sim.call (limelightkeep_Tape_Next_ok r371.2 h377 (S378.atB (i := 0) rfl) 900) fun r379 cs380 H381 h382 q383 => ?_
    obtain ⟨v384, h385, q383⟩ := q383
    cases q383
    have S386 := S378.setB (i := 0) (cs := List.map C.v [v384, (.p (.int .i64 r379.2.f_At))]) rfl rfl
    refine Sim.op (castI_p _ _) ?_
    refine Sim.call (limelightref1_Down_ok k (IntKind.wrap .u64 ((IntKind.wrap .u64 r371.1) * (IntKind.wrap .u64 (IntKind.wrap .i64 (1 + r379.1))))) 18) fun r387 cs388 H389 h390 q391 => ?_
    cases q391
    refine Sim.op (castI_p _ _) ?_
    refine Sim.op (fA_ref _ _ _) ?_
    obtain ⟨H392, e393, S394⟩ := S386.stG (i := 0) (j := 6) (own := true) (σ := (10 :: 0 :: 1 :: 1 :: 1 :: 1 :: 1 :: 0 :: 1 :: 1 :: 0 :: σ)) (x := (.p (.int .u64 r387))) rfl rfl (still_int _ _) rfl
    refine Sim.op (st_map e393) ?_
    refine Sim.call (limelightkeep_Tape_Next_ok r379.2 h385 (S394.atB (i := 0) rfl) 4) fun r395 cs396 H397 h398 q399 => ?_
    obtain ⟨v400, h401, q399⟩ := q399
    cases q399
    have S402 := S394.setB (i := 0) (cs := List.map C.v [v400, (.p (.int .i64 r395.2.f_At))]) rfl rfl
    refine Sim.op (castI_p _ _) ?_
    refine Sim.as (limelightkeep_Tape_Report_l2_ok ?_ k r395.1 ((⟨0, 0, 0, (([] : List T_api_Tuple)), (([] : List Int)), (([] : List Int)), 0, 0, 0, (([] : List Int))⟩ : T_api_Report)) ((⟨(IntKind.wrap .i64 (1 + r5.1)), r13.1, 0, (([] : List T_api_Tuple)), (([] : List Int)), (([] : List Int)), r387, 0, 0, (([] : List Int))⟩ : T_api_Report)) r395.2 (.p (.slice none 0 0)) (SlF.nil dT_api_Tuple) (.p (.slice none 0 0)) (SlF.nil (dI .u32)) (.p (.slice none 0 0)) (SlF.nil (dI .i64)) (.p (.slice none 0 0)) (SlF.nil (dI .u8)) (0 :: 0 :: 0 :: σ) (.p (.slice none 0 0)) (SlF.nil dT_api_Tuple) (.v (.p (.slice none 0 0))) (SoC.frz (SlF.nil (dI .u32))) (fun v h => by cases h; simp) (.p (.slice none 0 0)) (SlF.nil (dI .i64)) (.p (.slice none 0 0)) (SlF.nil (dI .u8)) (6 :: 0 :: 1 :: 0 :: σ) v400 h401 (ptC H392 l0 o0 (List.map C.v [v400, (.p (.int .i64 r395.2.f_At))])) (S402.wk2 (all_cons (at_mem 1 rfl) (all_cons (at_mem 0 rfl) all_nil)) all_nil)) 
    · intro yg414 yg425 zp0 v480 h481 v482 h483 v484 h485 v486 h487 s488 v490 h491 c492 h493 h494 v495 h496 v497 h498 s499 v501 h502 H478 S479
      refine Sim.ext (limelightkeep_Tape_Report_a2_5 _ _ _ _ _ _) ?_
      obtain ⟨v503, h504, h505⟩ := h493.fr
      obtain ⟨w506, H507, h512, e508, e509, e510, S511⟩ := S479.frzV (i := 1) (n := 10) (ys := [(.p (.int .i64 yg425.Kind)), (.p (.int .u32 yg425.From)), (.p (.int .u32 yg425.About)), v490, v503, v495, (.p (.int .u64 yg425.Rate)), (.p (.int .i64 yg425.f_Type)), (.p (.int .i64 yg425.Count)), v497]) rfl rfl ⟨(FrC.v (still_int _ _)), ⟨(FrC.v (still_int _ _)), ⟨(FrC.v (still_int _ _)), ⟨(FrC.v h491.still), ⟨h504, ⟨(FrC.v h496.still), ⟨(FrC.v (still_int _ _)), ⟨(FrC.v (still_int _ _)), ⟨(FrC.v (still_int _ _)), ⟨(FrC.v h498.still), trivial⟩⟩⟩⟩⟩⟩⟩⟩⟩⟩ rfl (by decide)
      refine Sim.op (e508) ?_
      obtain ⟨H513, e514, S515⟩ := Fm.stFrz (S0 := S479) (i0 := 0) (i := 0) (j := 0) (n := 10) (σ := (1 :: 0 :: 1 :: 1 :: 1 :: 0 :: σ)) S511 rfl e510 rfl rfl h512 rfl rfl
      refine Sim.op (st_map e514) ?_
      have e516 : ldO true 10 H513 (.ref ⟨h.length, 2, 0, s488, []⟩ 0) = some (.agg [.p (.int .i64 yg425.Kind), .p (.int .u32 yg425.From), .p (.int .u32 yg425.About), v490, v503, v495, .p (.int .u64 yg425.Rate), .p (.int .i64 yg425.f_Type), .p (.int .i64 yg425.Count), v497]) := (S515.atG (i := 0) rfl).ldVs (j := 0) (xs := [.p (.int .i64 yg425.Kind), .p (.int .u32 yg425.From), .p (.int .u32 yg425.About), v490, v503, v495, .p (.int .u64 yg425.Rate), .p (.int .i64 yg425.f_Type), .p (.int .i64 yg425.Count), v497]) rfl rfl (by decide)
      refine Sim.op (show _ = some [(.agg [.p (.int .i64 yg425.Kind), .p (.int .u32 yg425.From), .p (.int .u32 yg425.About), v490, v503, v495, .p (.int .u64 yg425.Rate), .p (.int .i64 yg425.f_Type), .p (.int .i64 yg425.Count), v497])] from by simp only [e516, Option.bind_some, Option.map_some]) ?_
      exact Sim.fin (S515.finN (lv_cons (Stills.lv (dT_api_Report.still (dT_api_Report.mk h491 h505 h496 h498))) lv_nil)) ⟨[.p (.int .i64 yg425.Kind), .p (.int .u32 yg425.From), .p (.int .u32 yg425.About), v490, v503, v495, .p (.int .u64 yg425.Rate), .p (.int .i64 yg425.f_Type), .p (.int .i64 yg425.Count), v497], v501, (show dT_api_Report.R yg425 [.p (.int .i64 yg425.Kind), .p (.int .u32 yg425.From), .p (.int .u32 yg425.About), v490, v503, v495, .p (.int .u64 yg425.Rate), .p (.int .i64 yg425.f_Type), .p (.int .i64 yg425.Count), v497] from (dT_api_Report.mk h491 h505 h496 h498)), h502, rfl⟩
  refine Sim.call (limelightkeep_Tape_Next_ok r13.2 h19 (S27.atB (i := 0) rfl) 12) fun r517 cs518 H519 h520 q521 => ?_
  obtain ⟨v522, h523, q521⟩ := q521
  cases q521
  have S524 := S27.setB (i := 0) (cs := List.map C.v [v522, (.p (.int .i64 r517.2.f_At))]) rfl rfl
  refine Sim.op (castI_p _ _) ?_
  refine Sim.call (limelightkeep_Tape_Next_ok r517.2 h523 (S524.atB (i := 0) rfl) 32) fun r525 cs526 H527 h528 q529 => ?_
  obtain ⟨v530, h531, q529⟩ := q529
  cases q529
  have S532 := S524.setB (i := 0) (cs := List.map C.v [v530, (.p (.int .i64 r525.2.f_At))]) rfl rfl
  refine Sim.op (castI_p _ _) ?_
  refine Sim.call (limelightkeep_Tape_Bytes_ok k r525.2 h531 (S532.atB (i := 0) rfl) 12) fun r533 cs534 H535 h536 q537 => ?_
  obtain ⟨c538, cs539, v542, h540, h541, h543, q537⟩ := q537
  cases q537
  have S544 := S532.setB (i := 0) (cs := List.map C.v [v542, (.p (.int .i64 r533.2.f_At))]) rfl rfl
  obtain ⟨v545, H546, e547, S548⟩ := S544.land (dt := (dI .u8)) (d := 21) (e := 0) (n := 0) h540 h541 (by decide) rfl
  erw [e547]
  refine Sim.call (limelightref1_Pad_ok k r533.1 (S548.sl (i := 0) rfl) 4) fun r550 cs551 H552 h553 q554 => ?_
  obtain ⟨v555, h556, q554⟩ := q554
  cases q554
  refine Sim.op (bldV (pt_cons rfl (pt_cons rfl (pt_cons rfl (pt_cons h556.still.cells pt_nil)))) (by kernel_rfl : _ = some (.agg [.p (.int .i64 6), .p (.int .u32 0), .p (.int .u32 0), .p (.slice none 0 0), .p (.slice none 0 0), .p (.slice none 0 0), .p (.int .u64 0), .p (.int .i64 (IntKind.wrap .i64 (192 + r517.1))), .p (.int .i64 r525.1), v555]))) ?_
  obtain ⟨H557, e558, S559⟩ := S548.stGv (i := 1) (j := 0) (own := false) (σ := (9 :: 0 :: 1 :: 1 :: 1 :: 1 :: 1 :: 0 :: 1 :: 1 :: 0 :: σ)) (xs := [.p (.int .i64 6), .p (.int .u32 0), .p (.int .u32 0), .p (.slice none 0 0), .p (.slice none 0 0), .p (.slice none 0 0), .p (.int .u64 0), .p (.int .i64 (IntKind.wrap .i64 (192 + r517.1))), .p (.int .i64 r525.1), v555]) rfl rfl (stills_cons (still_int _ _) (stills_cons (still_int _ _) (stills_cons (still_int _ _) (stills_cons (SlF.nil dT_api_Tuple).still (stills_cons (SlF.nil (dI .u32)).still (stills_cons (SlF.nil (dI .i64)).still (stills_cons (still_int _ _) (stills_cons (still_int _ _) (stills_cons (still_int _ _) (stills_cons h556.still stills_nil)))))))))) rfl rfl
  refine Sim.op (st_map e558) ?_
  have e560 : ldO true 10 H557 (.ref ⟨h.length, 2, 0, (0 :: 0 :: 0 :: σ), []⟩ 0) = some (.agg [.p (.int .i64 6), .p (.int .u32 0), .p (.int .u32 0), .p (.slice none 0 0), .p (.slice none 0 0), .p (.slice none 0 0), .p (.int .u64 0), .p (.int .i64 (IntKind.wrap .i64 (192 + r517.1))), .p (.int .i64 r525.1), v555]) := (S559.atG (i := 1) rfl).ldVs (j := 0) (xs := [.p (.int .i64 6), .p (.int .u32 0), .p (.int .u32 0), .p (.slice none 0 0), .p (.slice none 0 0), .p (.slice none 0 0), .p (.int .u64 0), .p (.int .i64 (IntKind.wrap .i64 (192 + r517.1))), .p (.int .i64 r525.1), v555]) rfl rfl (by decide)
  refine Sim.op (show _ = some [(.agg [.p (.int .i64 6), .p (.int .u32 0), .p (.int .u32 0), .p (.slice none 0 0), .p (.slice none 0 0), .p (.slice none 0 0), .p (.int .u64 0), .p (.int .i64 (IntKind.wrap .i64 (192 + r517.1))), .p (.int .i64 r525.1), v555])] from by simp only [e560, Option.bind_some, Option.map_some]) ?_
  exact Sim.fin (S559.finN (lv_cons (Stills.lv (dT_api_Report.still (dT_api_Report.mk (SlF.nil dT_api_Tuple) (SlF.nil (dI .u32)) (SlF.nil (dI .i64)) h556))) lv_nil)) ⟨[.p (.int .i64 6), .p (.int .u32 0), .p (.int .u32 0), .p (.slice none 0 0), .p (.slice none 0 0), .p (.slice none 0 0), .p (.int .u64 0), .p (.int .i64 (IntKind.wrap .i64 (192 + r517.1))), .p (.int .i64 r525.1), v555], v542, (show dT_api_Report.R ((⟨6, 0, 0, (([] : List T_api_Tuple)), (([] : List Int)), (([] : List Int)), 0, (IntKind.wrap .i64 (192 + r517.1)), r525.1, r550⟩ : T_api_Report)) [.p (.int .i64 6), .p (.int .u32 0), .p (.int .u32 0), .p (.slice none 0 0), .p (.slice none 0 0), .p (.slice none 0 0), .p (.int .u64 0), .p (.int .i64 (IntKind.wrap .i64 (192 + r517.1))), .p (.int .i64 r525.1), v555] from (dT_api_Report.mk (SlF.nil dT_api_Tuple) (SlF.nil (dI .u32)) (SlF.nil (dI .i64)) h556)), h543, rfl⟩
end Go.Ev
namespace Go.Ev
set_option maxRecDepth 100000
set_option linter.unusedSimpArgs false
theorem tape_bytes_l0 {β : Type} (kE0 : List Int → T_limelightkeep_Tape → Option β) : ∀ (m : Nat) (j : Nat) (out : List Int) (t : T_limelightkeep_Tape), TP t → isB out → out.length + m < 1000 → m < 1000 →
    ∃ xs t', p_limelightkeep_Tape_Bytes_l0 (j + m + 1) kE0 out (m : Int) t = kE0 xs t' ∧ xs.length = out.length + m ∧ isB xs ∧ TP t'
  | 0, j, out, t, h, hb, _, _ => ⟨out, t, by rw [p_limelightkeep_Tape_Bytes_l0]; rfl, rfl, hb, h⟩
  | m + 1, j, out, t, h, hb, hl, hm => by
    obtain ⟨r, t1, hn, ⟨r0, r1⟩, ht1⟩ := next_tape h (n := 256) (by decide)
    have d : decide (((m + 1 : Nat) : Int) > 0) = true := decide_eq_true (by omega)
    have w1 : IntKind.wrap .u8 r = r := wrap_u8 r0 r1
    have w2 : IntKind.wrap .i64 (((m + 1 : Nat) : Int) - 1) = (m : Int) := by rw [wrap_i64 (by omega) (by omega)]; omega
    obtain ⟨xs, t', he, hxl, hxb, ht'⟩ := tape_bytes_l0 kE0 m j (out ++ [r]) t1 ht1 (fun x hx => (List.mem_append.1 hx).elim (hb x) fun hx => by rw [List.mem_singleton] at hx; subst hx; exact ⟨r0, r1⟩) (by rw [List.length_append]; simp only [List.length_cons, List.length_nil]; omega) (by omega)
    refine ⟨xs, t', ?_, by rw [hxl, List.length_append]; simp only [List.length_cons, List.length_nil]; omega, hxb, ht'⟩
    rw [show j + (m + 1) + 1 = (j + m + 1) + 1 from rfl, p_limelightkeep_Tape_Bytes_l0, d, cond_true]
    erw [hn, Option.bind_some, w1, ap_eq2 (by decide) (by simp only [List.length_cons, List.length_nil]; omega), Option.bind_some, w2]
    exact he
theorem tape_bytes {t : T_limelightkeep_Tape} (h : TP t) {n k : Nat} (hn : n < 900) (hk : n + 1 ≤ k) : ∃ xs t', p_limelightkeep_Tape_Bytes k t (n : Int) = some (xs, t') ∧ xs.length ≤ n ∧ isB xs ∧ TP t' := by
  have w : IntKind.wrap .i64 ((n : Int) + 1) = ((n + 1 : Nat) : Int) := by rw [wrap_i64 (by omega) (by omega)]; omega
  obtain ⟨r, t1, h1, ⟨r0, r1⟩, ht1⟩ := next_tape h (n := ((n + 1 : Nat) : Int)) (by omega)
  obtain ⟨m, rfl⟩ : ∃ m : Nat, r = m := ⟨r.toNat, by omega⟩
  obtain ⟨xs, t', he, hxl, hxb, ht'⟩ := tape_bytes_l0 (fun a z => some (a, z)) m (k - m - 1) [] t1 ht1 (fun x hx => by cases hx) (by simp only [List.length_nil]; omega) (by omega)
  rw [show k - m - 1 + m + 1 = k by omega] at he
  refine ⟨xs, t', ?_, by rw [hxl, List.length_nil]; omega, hxb, ht'⟩
  unfold p_limelightkeep_Tape_Bytes
  rw [w]
  erw [h1, Option.bind_some]
  exact he
theorem pad_l0 {β : Type} (kE0 : List Int → Option β) : ∀ (d j : Nat) (xs : List Int), isB xs → xs.length + d < 500 → (xs.length + d) % 4 = 0 → d < 4 →
    ∃ ys, p_limelightref1_Pad_l0 (j + d + 1) kE0 4 xs = kE0 ys ∧ ys.length = xs.length + d ∧ isB ys
  | d, j, xs, hB, hl, hd, h4 => by
    have r : remP (xs.length : Int) 4 = some ((xs.length % 4 : Nat) : Int) := by
      unfold remP
      rw [if_neg (by decide)]
      rfl
    have a1 : decide ((4 : Int) ≥ 1) = true := by decide
    have a2 : decide ((4 : Int) ≤ 64) = true := by decide
    cases d with
    | zero =>
      refine ⟨xs, ?_, rfl, hB⟩
      have e : (((xs.length % 4 : Nat) : Int) != 0) = false := by rw [Nat.add_zero] at hd; rw [hd]; rfl
      rw [p_limelightref1_Pad_l0, a1, cond_true, a2, Option.bind_some, cond_true, r, Option.bind_some, e, Option.bind_some, cond_false]
    | succ d =>
      have e : (((xs.length % 4 : Nat) : Int) != 0) = true := by rw [bne_iff_ne]; omega
      obtain ⟨ys, h1, h2, h3⟩ := pad_l0 kE0 d j (xs ++ [0]) (isB_app hB (fun x hx => by rw [List.mem_singleton] at hx; subst hx; decide)) (by rw [List.length_append]; simp only [List.length_cons, List.length_nil]; omega) (by simp only [List.length_append, List.length_cons, List.length_nil]; omega) (by omega)
      refine ⟨ys, ?_, by rw [h2]; simp only [List.length_append, List.length_cons, List.length_nil]; omega, h3⟩
      rw [show j + (d + 1) + 1 = (j + d + 1) + 1 from rfl, p_limelightref1_Pad_l0, a1, cond_true, a2, Option.bind_some, cond_true, r, Option.bind_some, e, Option.bind_some, cond_true, ap_eq2 (by decide) (by simp only [List.length_cons, List.length_nil]; omega), Option.bind_some]
      exact h1
theorem pad_ok {k : Nat} (hk : 10 ≤ k) {xs : List Int} (hB : isB xs) (hl : xs.length ≤ 12) : ∃ ys, p_limelightref1_Pad k xs 4 = some ys ∧ ys.length % 4 = 0 ∧ ys.length ≤ 15 ∧ isB ys := by
  obtain ⟨ys, h1, h2, h3⟩ := pad_l0 (fun r => some r) ((4 - xs.length % 4) % 4) (k - (4 - xs.length % 4) % 4 - 1) xs hB (by omega) (by omega) (by omega)
  rw [show k - (4 - xs.length % 4) % 4 - 1 + (4 - xs.length % 4) % 4 + 1 = k by omega] at h1
  refine ⟨ys, ?_, by omega, by omega, h3⟩
  unfold p_limelightref1_Pad
  rw [ap_eq2 (by decide) (by rw [List.length_nil]; omega), Option.bind_some, List.nil_append]
  exact h1
theorem word_ok {t : T_limelightkeep_Tape} (h : TP t) : ∃ (w : Nat) (t' : T_limelightkeep_Tape), p_limelightkeep_Tape_Word t = some ((w : Int), t') ∧ w < 2 ^ 32 ∧ TP t' := by
  obtain ⟨r1, t1, h1, _, ht1⟩ := next_tape h (n := 1048576) (by decide)
  obtain ⟨r2, t2, h2, _, ht2⟩ := next_tape ht1 (n := 4096) (by decide)
  obtain ⟨r3, t3, h3, _, ht3⟩ := next_tape ht2 (n := 5) (by decide)
  generalize hx : (IntKind.wrap .u32 ((IntKind.wrap .u32 ((IntKind.wrap .u32 r1) * (IntKind.wrap .u32 (IntKind.wrap .i64 (1 + r2))))) + (IntKind.wrap .u32 r3))) = x
  have hx2 : 0 ≤ x ∧ x < 2 ^ 32 := by rw [← hx, wrapU32_eq]; omega
  obtain ⟨w, rfl⟩ : ∃ w : Nat, x = w := ⟨x.toNat, by omega⟩
  refine ⟨w, t3, ?_, by omega, ht3⟩
  unfold p_limelightkeep_Tape_Word
  erw [h1, Option.bind_some, h2, Option.bind_some, h3, Option.bind_some, hx]
theorem wrapU64_bd (x : Int) : ∃ n : Nat, IntKind.wrap .u64 x = (n : Int) ∧ n < 2 ^ 64 := by
  have h : 0 ≤ IntKind.wrap .u64 x ∧ IntKind.wrap .u64 x < 2 ^ 64 := by rw [wrapU64_eq]; omega
  exact ⟨(IntKind.wrap .u64 x).toNat, by omega, by omega⟩
theorem tape_tuple {t : T_limelightkeep_Tape} (h : TP t) {k : Nat} (hk : 70 ≤ k) : ∃ s t', p_limelightkeep_Tape_Tuple k t = some (ST.t s, t') ∧ s.ok ∧ NR 17 s.e s.m ∧ TP t' := by
  obtain ⟨r1, t1, h1, ⟨a1, b1⟩, ht1⟩ := next_tape h (n := 9) (by decide)
  obtain ⟨r2, t2, h2, _, ht2⟩ := next_tape ht1 (n := 2000) (by decide)
  obtain ⟨r3, t3, h3, ⟨a3, b3⟩, ht3⟩ := next_tape ht2 (n := 3) (by decide)
  obtain ⟨r4, t4, h4, ⟨a4, b4⟩, ht4⟩ := next_tape ht3 (n := 120) (by decide)
  obtain ⟨z, hz⟩ : ∃ z, ix ([1, 100, 8000] : List Int) r3 = some z := by
    obtain rfl | rfl | rfl : r3 = 0 ∨ r3 = 1 ∨ r3 = 2 := by omega
    · exact ⟨_, rfl⟩
    · exact ⟨_, rfl⟩
    · exact ⟨_, rfl⟩
  obtain ⟨x, hx, hx2⟩ := wrapU64_bd ((IntKind.wrap .u64 (IntKind.wrap .i64 (1 + r2))) * (IntKind.wrap .u64 z))
  obtain ⟨n, hn, e, m, hN, hm⟩ := refDown (k := k) (b := 17) hk (by decide) (by decide) x hx2
  obtain ⟨o, rfl⟩ : ∃ o : Nat, r1 = o := ⟨r1.toNat, by omega⟩
  obtain ⟨v, rfl⟩ : ∃ v : Nat, r4 = v := ⟨r4.toNat, by omega⟩
  refine ⟨⟨o, e, m, v⟩, t4, ?_, ⟨by show o < _; omega, hN.toFR, by show v < _; omega⟩, hN, ht4⟩
  have w1 : IntKind.wrap .u32 (o : Int) = (o : Int) := wrap_u32 (by omega) (by omega)
  have hn' : p_limelightref1_Down k (x : Int) 17 = some n := hn
  unfold p_limelightkeep_Tape_Tuple
  erw [h1, Option.bind_some, h2, Option.bind_some, h3, Option.bind_some, hz, Option.bind_some, hx, hn', Option.bind_some, h4, Option.bind_some, w1, hm]
  rfl
theorem report_l0 {β : Type} (kE0 : T_api_Report → T_api_Report → T_limelightkeep_Tape → Option β) (y : T_api_Report) : ∀ (c j : Nat) (g : T_api_Report) (t : T_limelightkeep_Tape), TP t → g.Tuples.length + c < 1000 → c < 1000 → 70 ≤ j →
    ∃ (l : List ST) (t' : T_limelightkeep_Tape), p_limelightkeep_Tape_Report_l0 (j + c + 1) kE0 (c : Int) y g t = kE0 y { g with Tuples := g.Tuples ++ l.map ST.t } t' ∧ l.length = c ∧ (∀ s ∈ l, s.ok ∧ NR 17 s.e s.m) ∧ TP t'
  | 0, j, g, t, h, _, _, _ => ⟨[], t, by rw [p_limelightkeep_Tape_Report_l0, List.map_nil, List.append_nil]; rfl, rfl, (fun s hs => by cases hs), h⟩
  | c + 1, j, g, t, h, hg, hc, hj => by
    obtain ⟨s, t1, h1, hs, hN, ht1⟩ := tape_tuple h (k := j + c + 1) (by omega)
    have d : decide (((c + 1 : Nat) : Int) > 0) = true := decide_eq_true (by omega)
    have w2 : IntKind.wrap .i64 (((c + 1 : Nat) : Int) - 1) = (c : Int) := by rw [wrap_i64 (by omega) (by omega)]; omega
    obtain ⟨l, t', he, hl, hall, ht'⟩ := report_l0 kE0 y c j { g with Tuples := g.Tuples ++ [s.t] } t1 ht1 (by simp only [List.length_append, List.length_cons, List.length_nil]; omega) (by omega) hj
    refine ⟨s :: l, t', ?_, by rw [List.length_cons, hl], fun x hx => (List.mem_cons.1 hx).elim (fun hx => by rw [hx]; exact ⟨hs, hN⟩) (hall x), ht'⟩
    rw [show j + (c + 1) + 1 = (j + c + 1) + 1 from rfl, p_limelightkeep_Tape_Report_l0, d, cond_true]
    erw [h1, Option.bind_some, ap_eq2 (by decide) (by simp only [List.length_cons, List.length_nil]; omega), Option.bind_some, w2]
    refine he.trans ?_
    simp only [List.append_assoc, List.map_cons, List.cons_append, List.nil_append]
theorem report_l1 {β : Type} (kE0 : T_api_Report → T_api_Report → T_limelightkeep_Tape → Option β) (y : T_api_Report) : ∀ (c j : Nat) (g : T_api_Report) (t : T_limelightkeep_Tape), TP t → g.Abouts.length + c < 1000 → g.Numbers.length + c < 1000 → c < 1000 →
    ∃ (l : List (Nat × Nat)) (t' : T_limelightkeep_Tape), p_limelightkeep_Tape_Report_l1 (j + c + 1) kE0 ((c : Int) - 1) y g t = kE0 y { g with Abouts := g.Abouts ++ l.map (fun p : Nat × Nat => (p.1 : Int)), Numbers := g.Numbers ++ l.map (fun p : Nat × Nat => (p.2 : Int)) } t' ∧ l.length = c ∧ (∀ p ∈ l, p.1 < 2 ^ 32 ∧ p.2 < 256) ∧ TP t'
  | 0, j, g, t, h, _, _, _ => ⟨[], t, by rw [p_limelightkeep_Tape_Report_l1, List.map_nil, List.append_nil, List.map_nil, List.append_nil]; rfl, rfl, (fun s hs => by cases hs), h⟩
  | c + 1, j, g, t, h, hg, hg2, hc => by
    obtain ⟨w, t1, h1, hw, ht1⟩ := word_ok h
    obtain ⟨r, t2, h2, ⟨r0, r1⟩, ht2⟩ := next_tape ht1 (n := 256) (by decide)
    obtain ⟨v, rfl⟩ : ∃ v : Nat, r = v := ⟨r.toNat, by omega⟩
    have d : decide (((c + 1 : Nat) : Int) - 1 ≥ 0) = true := decide_eq_true (by omega)
    have w2 : IntKind.wrap .i64 (((c + 1 : Nat) : Int) - 1 - 1) = (c : Int) - 1 := by rw [wrap_i64 (by omega) (by omega)]; omega
    obtain ⟨l, t', he, hl, hall, ht'⟩ := report_l1 kE0 y c j { g with Abouts := g.Abouts ++ [(w : Int)], Numbers := g.Numbers ++ [(v : Int)] } t2 ht2 (by simp only [List.length_append, List.length_cons, List.length_nil]; omega) (by simp only [List.length_append, List.length_cons, List.length_nil]; omega) (by omega)
    refine ⟨(w, v) :: l, t', ?_, by rw [List.length_cons, hl], fun x hx => (List.mem_cons.1 hx).elim (fun hx => by rw [hx]; exact ⟨hw, by show v < 256; omega⟩) (hall x), ht'⟩
    rw [show j + (c + 1) + 1 = (j + c + 1) + 1 from rfl, p_limelightkeep_Tape_Report_l1, d, cond_true]
    erw [h1, Option.bind_some, ap_eq2 (by decide) (by simp only [List.length_cons, List.length_nil]; omega), Option.bind_some, h2, Option.bind_some, ap_eq2 (by decide) (by simp only [List.length_cons, List.length_nil]; omega), Option.bind_some, w2]
    refine he.trans ?_
    simp only [List.append_assoc, List.map_cons, List.cons_append, List.nil_append]
theorem report_l2 {β : Type} (kE0 : T_api_Report → T_api_Report → T_limelightkeep_Tape → Option β) (y : T_api_Report) : ∀ (c j : Nat) (g : T_api_Report) (t : T_limelightkeep_Tape), TP t → g.Abouts.length + c < 1000 → c < 1000 →
    ∃ (l : List Nat) (t' : T_limelightkeep_Tape), p_limelightkeep_Tape_Report_l2 (j + c + 1) kE0 (c : Int) y g t = kE0 y { g with Abouts := g.Abouts ++ l.map (fun n : Nat => (n : Int)) } t' ∧ l.length = c ∧ (∀ n ∈ l, n < 2 ^ 32) ∧ TP t'
  | 0, j, g, t, h, _, _ => ⟨[], t, by rw [p_limelightkeep_Tape_Report_l2, List.map_nil, List.append_nil]; rfl, rfl, (fun s hs => by cases hs), h⟩
  | c + 1, j, g, t, h, hg, hc => by
    obtain ⟨w, t1, h1, hw, ht1⟩ := word_ok h
    have d : decide (((c + 1 : Nat) : Int) > 0) = true := decide_eq_true (by omega)
    have w2 : IntKind.wrap .i64 (((c + 1 : Nat) : Int) - 1) = (c : Int) := by rw [wrap_i64 (by omega) (by omega)]; omega
    obtain ⟨l, t', he, hl, hall, ht'⟩ := report_l2 kE0 y c j { g with Abouts := g.Abouts ++ [(w : Int)] } t1 ht1 (by simp only [List.length_append, List.length_cons, List.length_nil]; omega) (by omega)
    refine ⟨w :: l, t', ?_, by rw [List.length_cons, hl], fun x hx => (List.mem_cons.1 hx).elim (fun hx => by rw [hx]; exact hw) (hall x), ht'⟩
    rw [show j + (c + 1) + 1 = (j + c + 1) + 1 from rfl, p_limelightkeep_Tape_Report_l2, d, cond_true]
    erw [h1, Option.bind_some, ap_eq2 (by decide) (by simp only [List.length_cons, List.length_nil]; omega), Option.bind_some, w2]
    refine he.trans ?_
    simp only [List.append_assoc, List.map_cons, List.cons_append, List.nil_append]
theorem kind_other {t c : Int} (h : t < 205) : p_rtcp_kind t c = some 6 := by
  have e5 : (t == 205) = false := by rw [beq_eq_false_iff_ne]; omega
  have e6 : (t == 206) = false := by rw [beq_eq_false_iff_ne]; omega
  unfold p_rtcp_kind
  simp only [e5, e6, cond_false, Option.bind_some]
theorem tape_report {t : T_limelightkeep_Tape} (h : TP t) {k : Nat} (hk : 110 ≤ k) : ∃ s t', p_limelightkeep_Tape_Report k t = some (rep s, t') ∧ okS s ∧ okW s ∧ TP t' := by
  obtain ⟨r, t1, h1, ⟨r0, r1⟩, ht1⟩ := next_tape h (n := 6) (by decide)
  obtain ⟨f, t2, h2, hf, ht2⟩ := word_ok ht1
  obtain ⟨q, hq, hq6⟩ : ∃ q : Nat, r = q ∧ q < 6 := ⟨r.toNat, by omega, by omega⟩
  subst hq
  have tup : ∀ K : Int, ∃ (l : List ST) (t' : T_limelightkeep_Tape) (c : Int) (t3 : T_limelightkeep_Tape), p_limelightkeep_Tape_Next t2 5 = some (c, t3) ∧ l.length ≤ 4 ∧ (∀ s ∈ l, s.ok ∧ NR 17 s.e s.m) ∧ TP t' ∧ p_limelightkeep_Tape_Report_l0 k (fun _ yg58 zp0 => some (yg58, zp0)) c ⟨0, 0, 0, [], [], [], 0, 0, 0, []⟩ ⟨K, (f : Int), 0, [], [], [], 0, 0, 0, []⟩ t3 = some ((⟨K, (f : Int), 0, l.map ST.t, [], [], 0, 0, 0, []⟩ : T_api_Report), t') := fun K => by
    obtain ⟨c, t3, h3, ⟨c0, c1⟩, ht3⟩ := next_tape ht2 (n := 5) (by decide)
    obtain ⟨n, rfl⟩ : ∃ n : Nat, c = n := ⟨c.toNat, by omega⟩
    obtain ⟨l, t', he, hl, hall, ht'⟩ := report_l0 (fun (_ : T_api_Report) yg58 zp0 => some (yg58, zp0)) ⟨0, 0, 0, [], [], [], 0, 0, 0, []⟩ n (k - n - 1) ⟨K, (f : Int), 0, [], [], [], 0, 0, 0, []⟩ t3 ht3 (by simp only [List.length_nil]; omega) (by omega) (by omega)
    rw [show k - n - 1 + n + 1 = k by omega] at he
    exact ⟨l, t', _, t3, h3, by omega, hall, ht', he⟩
  have k1 : IntKind.wrap .i64 (1 + ((0 : Nat) : Int)) = 1 := rfl
  have k2 : IntKind.wrap .i64 (1 + ((1 : Nat) : Int)) = 2 := rfl
  have k3 : IntKind.wrap .i64 (1 + ((2 : Nat) : Int)) = 3 := rfl
  have k4 : IntKind.wrap .i64 (1 + ((3 : Nat) : Int)) = 4 := rfl
  have k5 : IntKind.wrap .i64 (1 + ((4 : Nat) : Int)) = 5 := rfl
  have k6 : IntKind.wrap .i64 (1 + ((5 : Nat) : Int)) = 6 := rfl
  unfold p_limelightkeep_Tape_Report
  erw [h1, Option.bind_some, h2, Option.bind_some]
  obtain rfl | rfl | rfl | rfl | rfl | rfl : q = 0 ∨ q = 1 ∨ q = 2 ∨ q = 3 ∨ q = 4 ∨ q = 5 := by omega
  · obtain ⟨l, t', c, t3, h3, hl, hall, ht', he⟩ := tup 1
    refine ⟨.tmm 1 f l, t', ?_, ⟨.inl rfl, hf, by omega, fun s hs => (hall s hs).1⟩, fun s hs => (hall s hs).2, ht'⟩
    simp only [k1, show ((1 : Int) == 1) = true from rfl, cond_true]
    erw [h3, Option.bind_some]
    exact he
  · obtain ⟨l, t', c, t3, h3, hl, hall, ht', he⟩ := tup 2
    refine ⟨.tmm 2 f l, t', ?_, ⟨.inr rfl, hf, by omega, fun s hs => (hall s hs).1⟩, fun s hs => (hall s hs).2, ht'⟩
    simp only [k2, show ((2 : Int) == 1) = false from rfl, show ((2 : Int) == 2) = true from rfl, cond_true, cond_false]
    erw [h3, Option.bind_some]
    exact he
  · obtain ⟨a, t3, h3, ha, ht3⟩ := word_ok ht2
    refine ⟨.pli f a, t3, ?_, ⟨hf, ha⟩, trivial, ht3⟩
    simp only [k3, show ((3 : Int) == 1) = false from rfl, show ((3 : Int) == 2) = false from rfl, show ((3 : Int) == 3) = true from rfl, cond_true, cond_false]
    erw [h3, Option.bind_some]
    rfl
  · obtain ⟨c, t3, h3, ⟨c0, c1⟩, ht3⟩ := next_tape ht2 (n := 3) (by decide)
    obtain ⟨n, hn⟩ : ∃ n : Nat, c = (n : Int) - 1 ∧ 1 ≤ n ∧ n ≤ 3 := ⟨(c + 1).toNat, by omega, by omega, by omega⟩
    obtain ⟨l, t', he, hl, hall, ht'⟩ := report_l1 (fun (_ : T_api_Report) yg58 zp0 => some (yg58, zp0)) ⟨0, 0, 0, [], [], [], 0, 0, 0, []⟩ n (k - n - 1) ⟨4, (f : Int), 0, [], [], [], 0, 0, 0, []⟩ t3 ht3 (by simp only [List.length_nil]; omega) (by simp only [List.length_nil]; omega) (by omega)
    rw [show k - n - 1 + n + 1 = k by omega, ← hn.1] at he
    refine ⟨.fir f l, t', ?_, ⟨hf, ⟨by omega, by omega⟩, hall⟩, trivial, ht'⟩
    simp only [k4, show ((4 : Int) == 1) = false from rfl, show ((4 : Int) == 2) = false from rfl, show ((4 : Int) == 3) = false from rfl, show ((4 : Int) == 4) = true from rfl, cond_true, cond_false]
    erw [h3, Option.bind_some]
    exact he
  · obtain ⟨a, t3, h3, _, ht3⟩ := next_tape ht2 (n := 1048576) (by decide)
    obtain ⟨b, t4, h4, _, ht4⟩ := next_tape ht3 (n := 900) (by decide)
    obtain ⟨c, t5, h5, ⟨c0, c1⟩, ht5⟩ := next_tape ht4 (n := 4) (by decide)
    obtain ⟨x, hx, hx2⟩ := wrapU64_bd ((IntKind.wrap .u64 a) * (IntKind.wrap .u64 (IntKind.wrap .i64 (1 + b))))
    obtain ⟨n, hn, e, m, hN, hm⟩ := refDown (k := k) (b := 18) (by omega) (by decide) (by decide) x hx2
    have hn' : p_limelightref1_Down k (x : Int) 18 = some n := hn
    obtain ⟨w, rfl⟩ : ∃ w : Nat, c = w := ⟨c.toNat, by omega⟩
    obtain ⟨l, t', he, hl, hall, ht'⟩ := report_l2 (fun (_ : T_api_Report) yg58 zp0 => some (yg58, zp0)) ⟨0, 0, 0, [], [], [], 0, 0, 0, []⟩ w (k - w - 1) ⟨5, (f : Int), 0, [], [], [], ((m * 2 ^ e : Nat) : Int), 0, 0, []⟩ t5 ht5 (by simp only [List.length_nil]; omega) (by omega)
    rw [show k - w - 1 + w + 1 = k by omega] at he
    refine ⟨.remb f e m l, t', ?_, ⟨hf, hN.toFR, by omega, hall⟩, hN, ht'⟩
    simp only [k5, show ((5 : Int) == 1) = false from rfl, show ((5 : Int) == 2) = false from rfl, show ((5 : Int) == 3) = false from rfl, show ((5 : Int) == 4) = false from rfl, show ((5 : Int) == 5) = true from rfl, cond_true, cond_false]
    erw [h3, Option.bind_some, h4, Option.bind_some, hx, hn', Option.bind_some, h5, Option.bind_some, hm]
    exact he
  · obtain ⟨a, t3, h3, ⟨a0, a1⟩, ht3⟩ := next_tape ht2 (n := 12) (by decide)
    obtain ⟨b, t4, h4, ⟨b0, b1⟩, ht4⟩ := next_tape ht3 (n := 32) (by decide)
    obtain ⟨xs, t5, h5, hl, hB, ht5⟩ := tape_bytes ht4 (n := 12) (k := k) (by decide) (by omega)
    obtain ⟨ys, h6, h7, h8, h9⟩ := pad_ok (k := k) (by omega) hB hl
    obtain ⟨u, rfl⟩ : ∃ u : Nat, a = u := ⟨a.toNat, by omega⟩
    obtain ⟨v, rfl⟩ : ∃ v : Nat, b = v := ⟨b.toNat, by omega⟩
    have w : IntKind.wrap .i64 (192 + (u : Int)) = ((192 + u : Nat) : Int) := by rw [wrap_i64 (by omega) (by omega)]; omega
    refine ⟨.other (192 + u) v ys, t5, ?_, ⟨⟨by omega, by omega⟩, by omega, h7, by omega, h9, kind_other (by omega)⟩, trivial, ht5⟩
    simp only [k6, show ((6 : Int) == 1) = false from rfl, show ((6 : Int) == 2) = false from rfl, show ((6 : Int) == 3) = false from rfl, show ((6 : Int) == 4) = false from rfl, show ((6 : Int) == 5) = false from rfl, cond_false]
    erw [h3, Option.bind_some, h4, Option.bind_some, h5, Option.bind_some, h6, Option.bind_some, w]
    rfl
end Go.Ev
/- Equations, printed by tracer2.py. -/
namespace Go.Ev
open Go.Proofs
set_option linter.unusedVariables false
set_option maxRecDepth 100000
-- 26 limelight/limelightref6.All
end Go.Ev
/- Equations, printed by tracer2.py. -/
namespace Go.Ev
open Go.Proofs
set_option linter.unusedVariables false
set_option maxRecDepth 100000
-- 23 limelight/limelightref6.Same
noncomputable def limelightref6_Same_c0 : Code := (codeAt (bodyOf Try.f23) [1, 1, 0, 1, 0, 0])
def limelightref6_Same_l0 : Lv := ⟨0, 16, [(0, 0)]⟩
noncomputable def limelightref6_Same_k0 (rec : CallF) (loop : LoopV) (σ : Stamp) : Exit → Env → H → Option (List C × H) := (kBlock 0 (kSeq G rec loop (codeAt (bodyOf Try.f23) [1, 1, 1]) ⟨16, 16, []⟩ (1 :: 1 :: 0 :: σ) (finC G false Try.f23 (1 :: σ))))
theorem limelightref6_Same_entry (rec : CallF) (loop : LoopV) (σ : Stamp) (x0 : V) (x1 : V) (h : H) : cvBody G rec loop 23 σ [x0, x1] h =
 (boxO false (0 :: 0 :: 0 :: σ) 2 (List.replicate 98 [] :: h) x0).bind fun q1 =>
 (boxO false (1 :: 0 :: 0 :: σ) 3 q1.2 x1).bind fun q2 =>
 (fA q1.1 0).bind fun t3 =>
 (ldO false 1 q2.2 t3).bind fun t4 =>
 (castI .i64 t4).bind fun n5 =>
 (fA q2.1 0).bind fun t6 =>
 (ldO false 1 q2.2 t6).bind fun t7 =>
 (castI .i64 t7).bind fun n8 =>
 (bif n5 != n8 then (some true) else ((fA q1.1 1).bind fun t9 =>
 (ldO false 1 q2.2 t9).bind fun t10 =>
 (castI .u32 t10).bind fun n11 =>
 (fA q2.1 1).bind fun t12 =>
 (ldO false 1 q2.2 t12).bind fun t13 =>
 (castI .u32 t13).bind fun n14 =>
 some (n11 != n14))).bind fun b15 =>
 (bif b15 then (some true) else ((fA q1.1 2).bind fun t16 =>
 (ldO false 1 q2.2 t16).bind fun t17 =>
 (castI .u32 t17).bind fun n18 =>
 (fA q2.1 2).bind fun t19 =>
 (ldO false 1 q2.2 t19).bind fun t20 =>
 (castI .u32 t20).bind fun n21 =>
 some (n18 != n21))).bind fun b22 =>
 (bif b22 then (some true) else ((fA q1.1 6).bind fun t23 =>
 (ldO false 1 q2.2 t23).bind fun t24 =>
 (castI .u64 t24).bind fun n25 =>
 (fA q2.1 6).bind fun t26 =>
 (ldO false 1 q2.2 t26).bind fun t27 =>
 (castI .u64 t27).bind fun n28 =>
 some (n25 != n28))).bind fun b29 =>
 (bif b29 then (some true) else ((fA q1.1 7).bind fun t30 =>
 (ldO false 1 q2.2 t30).bind fun t31 =>
 (castI .i64 t31).bind fun n32 =>
 (fA q2.1 7).bind fun t33 =>
 (ldO false 1 q2.2 t33).bind fun t34 =>
 (castI .i64 t34).bind fun n35 =>
 some (n32 != n35))).bind fun b36 =>
 (bif b36 then (some true) else ((fA q1.1 8).bind fun t37 =>
 (ldO false 1 q2.2 t37).bind fun t38 =>
 (castI .i64 t38).bind fun n39 =>
 (fA q2.1 8).bind fun t40 =>
 (ldO false 1 q2.2 t40).bind fun t41 =>
 (castI .i64 t41).bind fun n42 =>
 some (n39 != n42))).bind fun b43 =>
 (bif b43 then (some true) else ((fA q1.1 9).bind fun t44 =>
 (ldO false 1 q2.2 t44).bind fun t45 =>
 (strO q2.2 t45).bind fun t46 =>
 (castS t46).bind fun s47 =>
 (fA q2.1 9).bind fun t48 =>
 (ldO false 1 q2.2 t48).bind fun t49 =>
 (strO q2.2 t49).bind fun t50 =>
 (castS t50).bind fun s51 =>
 some (!(s47.toList == s51.toList)))).bind fun b52 =>
 (bif b52 then (some ((.p (.bool true)), q2.2)) else ((fA q1.1 4).bind fun t53 =>
 (ldO false 1 q2.2 t53).bind fun t54 =>
 (fA q2.1 4).bind fun t55 =>
 (ldO false 1 q2.2 t55).bind fun t56 =>
 (callO rec 55 (54 :: 0 :: 0 :: 1 :: 0 :: σ) [t54, t56] q2.2 (some 60)).bind fun q57 =>
 (asB q57.1).bind fun b58 =>
 some ((.p (.bool (!b58))), q57.2))).bind fun q59 =>
 (asB q59.1).bind fun b60 =>
 (bif b60 then (some ((.p (.bool true)), q59.2)) else ((fA q1.1 3).bind fun t61 =>
 (ldO false 1 q59.2 t61).bind fun t62 =>
 (fA q2.1 3).bind fun t63 =>
 (ldO false 1 q59.2 t63).bind fun t64 =>
 (callO rec 31 (62 :: 0 :: 0 :: 1 :: 0 :: σ) [t62, t64] q59.2 (some 68)).bind fun q65 =>
 (asB q65.1).bind fun b66 =>
 some ((.p (.bool (!b66))), q65.2))).bind fun q67 =>
 (asB q67.1).bind fun b68 =>
 (bif b68 then (some true) else ((fA q1.1 5).bind fun t69 =>
 (ldO false 1 q67.2 t69).bind fun t70 =>
 (lenO t70).bind fun t71 =>
 (castI .i64 t71).bind fun n72 =>
 (fA q2.1 5).bind fun t73 =>
 (ldO false 1 q67.2 t73).bind fun t74 =>
 (lenO t74).bind fun t75 =>
 (castI .i64 t75).bind fun n76 =>
 some (n72 != n76))).bind fun b77 =>
 bif b77 then (
 fin false σ q67.2 [(.p (.bool false))])
 else (
 (fA q1.1 5).bind fun t78 =>
 (ldO false 1 q67.2 t78).bind fun t79 =>
 (lenO t79).bind fun t80 =>
 (castI .i64 t80).bind fun n81 =>
 (loop limelightref6_Same_c0 limelightref6_Same_l0 (1 :: 0 :: 1 :: 1 :: 0 :: σ) (envL [(2, q1.1), (3, q2.1), (82, (.p (.int .i64 n81))), (83, (.p (.int .i64 0)))]) q67.2).bind fun r82 => limelightref6_Same_k0 rec loop σ r82.1 r82.2.1 r82.2.2) := by kernel_rfl
theorem limelightref6_Same_r0 (rec : CallF) (loop : LoopV) (σ : Stamp) (x2 : V) (x3 : V) (x82 : Int) (x83 : Int) (h : H) : cvRound G rec loop limelightref6_Same_c0 limelightref6_Same_l0 σ (envL [(2, x2), (3, x3), (82, (.p (.int .i64 x82))), (83, (.p (.int .i64 x83)))]) h =
 bif decide (x83 < x82) then (
 (fA x2 5).bind fun t83 =>
 (ldO false 1 h t83).bind fun t84 =>
 (iS 1 t84 x83).bind fun t85 =>
 (ldO false 1 h t85).bind fun t86 =>
 (castI .i64 t86).bind fun n87 =>
 (fA x3 5).bind fun t88 =>
 (ldO false 1 h t88).bind fun t89 =>
 (iS 1 t89 x83).bind fun t90 =>
 (ldO false 1 h t90).bind fun t91 =>
 (castI .i64 t91).bind fun n92 =>
 bif n87 != n92 then (
 some (.ret, (envL [(4, (.p (.bool false)))]), h))
 else (
 loop limelightref6_Same_c0 limelightref6_Same_l0 (1 :: σ) (envL [(2, x2), (3, x3), (82, (.p (.int .i64 x82))), (83, (.p (.int .i64 (IntKind.wrap .i64 (x83 + 1)))))]) h))
 else (
 some ((.exit 0), (envL []), h)) := by kernel_rfl
theorem limelightref6_Same_a0_0 (rec : CallF) (loop : LoopV) (σ : Stamp)  (h : H) : limelightref6_Same_k0 rec loop σ (.exit 0) (envL []) h =
 fin false σ h [(.p (.bool true))] := by kernel_rfl
theorem limelightref6_Same_a0_ret (rec : CallF) (loop : LoopV) (σ : Stamp) (x4 : Bool) (h : H) : limelightref6_Same_k0 rec loop σ .ret (envL [(4, (.p (.bool x4)))]) h =
 fin false σ h [(.p (.bool x4))] := by kernel_rfl
end Go.Ev
/- Equations, printed by tracer2.py. -/
namespace Go.Ev
open Go.Proofs
set_option linter.unusedVariables false
set_option maxRecDepth 100000
-- 31 limelight/limelightref6.Tuples
noncomputable def limelightref6_Tuples_c0 : Code := (codeAt (bodyOf Try.f31) [1, 1, 0, 1, 0, 0])
def limelightref6_Tuples_l0 : Lv := ⟨0, 16, [(0, 0)]⟩
noncomputable def limelightref6_Tuples_k0 (rec : CallF) (loop : LoopV) (σ : Stamp) : Exit → Env → H → Option (List C × H) := (kBlock 0 (kSeq G rec loop (codeAt (bodyOf Try.f31) [1, 1, 1]) ⟨16, 16, []⟩ (1 :: 1 :: 0 :: σ) (finC G false Try.f31 (1 :: σ))))
theorem limelightref6_Tuples_entry (rec : CallF) (loop : LoopV) (σ : Stamp) (x0 : V) (x1 : V) (h : H) : cvBody G rec loop 31 σ [x0, x1] h =
 (lenO x0).bind fun t1 =>
 (castI .i64 t1).bind fun n2 =>
 (lenO x1).bind fun t3 =>
 (castI .i64 t3).bind fun n4 =>
 bif n2 != n4 then (
 fin false σ (List.replicate 26 [] :: h) [(.p (.bool false))])
 else (
 (lenO x0).bind fun t5 =>
 (castI .i64 t5).bind fun n6 =>
 (loop limelightref6_Tuples_c0 limelightref6_Tuples_l0 (1 :: 0 :: 1 :: 1 :: 0 :: σ) (envL [(0, x0), (1, x1), (12, (.p (.int .i64 n6))), (13, (.p (.int .i64 0)))]) (List.replicate 26 [] :: h)).bind fun r7 => limelightref6_Tuples_k0 rec loop σ r7.1 r7.2.1 r7.2.2) := by kernel_rfl
theorem limelightref6_Tuples_r0 (rec : CallF) (loop : LoopV) (σ : Stamp) (x0 : V) (x1 : V) (x12 : Int) (x13 : Int) (h : H) : cvRound G rec loop limelightref6_Tuples_c0 limelightref6_Tuples_l0 σ (envL [(0, x0), (1, x1), (12, (.p (.int .i64 x12))), (13, (.p (.int .i64 x13)))]) h =
 bif decide (x13 < x12) then (
 (iS 3 x0 x13).bind fun t8 =>
 (ldO true 3 h t8).bind fun t9 =>
 (iS 3 x1 x13).bind fun t10 =>
 (ldO true 3 h t10).bind fun t11 =>
 (binV Try.prog h .neq 57 t9 t11).bind fun t12 =>
 (asB t12).bind fun b13 =>
 bif b13 then (
 some (.ret, (envL [(4, (.p (.bool false)))]), h))
 else (
 loop limelightref6_Tuples_c0 limelightref6_Tuples_l0 (1 :: σ) (envL [(0, x0), (1, x1), (12, (.p (.int .i64 x12))), (13, (.p (.int .i64 (IntKind.wrap .i64 (x13 + 1)))))]) h))
 else (
 some ((.exit 0), (envL []), h)) := by kernel_rfl
theorem limelightref6_Tuples_a0_0 (rec : CallF) (loop : LoopV) (σ : Stamp)  (h : H) : limelightref6_Tuples_k0 rec loop σ (.exit 0) (envL []) h =
 fin false σ h [(.p (.bool true))] := by kernel_rfl
theorem limelightref6_Tuples_a0_ret (rec : CallF) (loop : LoopV) (σ : Stamp) (x4 : Bool) (h : H) : limelightref6_Tuples_k0 rec loop σ .ret (envL [(4, (.p (.bool x4)))]) h =
 fin false σ h [(.p (.bool x4))] := by kernel_rfl
end Go.Ev
/- Lifted by lift.py: limelightref6_Tuples as a plain function. -/
namespace Go.Ev
open Go.Proofs
set_option linter.unusedVariables false
set_option linter.unusedSimpArgs false
set_option maxRecDepth 100000
def p_limelightref6_Tuples_l0 {β : Type} (k : Nat) (kE0 : Unit → Option β) (kE1 : Bool → Option β) (x0 : (List T_api_Tuple)) (x1 : (List T_api_Tuple)) (x12 : Int) (x13 : Int) : Option β := match k with
| 0 => none
| k + 1 =>
bif decide (x13 < x12) then (
(ix x0 x13).bind fun a9 =>
(ix x1 x13).bind fun a14 =>
bif !(andB [a9.Owner == a14.Owner, a9.Rate == a14.Rate, a9.Over == a14.Over]) then (
kE1 false)
else (
p_limelightref6_Tuples_l0 k kE0 kE1 x0 x1 x12 (IntKind.wrap .i64 (x13 + 1))))
else (
kE0 ())
def p_limelightref6_Tuples (k : Nat) (x0 : (List T_api_Tuple)) (x1 : (List T_api_Tuple)) : Option (Bool) :=
bif ((x0.length : Int)) != ((x1.length : Int)) then (
some (false))
else (
p_limelightref6_Tuples_l0 k (fun (_ : Unit) =>
some (true)) (fun r27_4 =>
some (r27_4)) x0 x1 ((x0.length : Int)) 0)
theorem limelightref6_Tuples_l0_ok {h : H}  {β α : Type} {Q : β → α → Prop} {K : Exit × Env × H → Option α} {kE0 : Unit → Option β} {kE1 : Bool → Option β} (hE0 : ∀ (_u : Unit) (H20 : Go.Ev.H) (_ : Fm 26 h [] [] [] H20), Sim (kE0 ()) (K ((.exit 0), (envL []), H20)) Q) (hE1 : ∀ (q4 : Bool) (H22 : Go.Ev.H) (_ : Fm 26 h [] [] [] H22), Sim (kE1 q4) (K (.ret, (envL [(4, (.p (.bool q4)))]), H22)) Q) (k : Nat) : ∀ (x0 : (List T_api_Tuple)) (x1 : (List T_api_Tuple)) (x12 : Int) (x13 : Int) (v4 : V) (h5 : SlH h dT_api_Tuple x0 v4) (v6 : V) (h7 : SlH h dT_api_Tuple x1 v6) (H2 : Go.Ev.H) (_ : Fm 26 h [] [] [] H2) {σ : Stamp}, Sim (p_limelightref6_Tuples_l0 k kE0 kE1 x0 x1 x12 x13) ((cvL G X0 limelightref6_Tuples_c0 limelightref6_Tuples_l0 σ (envL [(0, v4), (1, v6), (12, (.p (.int .i64 x12))), (13, (.p (.int .i64 x13)))]) H2).bind K) Q := by
  induction k with
  | zero => intros; exact Sim.no
  | succ k ih =>
    intro x0 x1 x12 x13 v4 h5 v6 h7 H2 S3 σ
    rw [p_limelightref6_Tuples_l0]
    refine Sim.round (Sim.ext (limelightref6_Tuples_r0 _ _ _ _ _ _ _ _) ?_)
    refine Sim.cd (fun hc8 => ?_) (fun hc8 => ?_)
    · refine Sim.bd fun a9 h10 => ?_
      refine Sim.op ((S3.low h5).iS h10 rfl) ?_
      obtain ⟨w12, h13, hE11⟩ := (S3.low h5).el h10 rfl
      obtain rfl := dT_api_Tuple.inv h13
      refine Sim.op (hE11.all (by simp)) ?_
      refine Sim.bd fun a14 h15 => ?_
      refine Sim.op ((S3.low h7).iS h15 rfl) ?_
      obtain ⟨w17, h18, hE16⟩ := (S3.low h7).el h15 rfl
      obtain rfl := dT_api_Tuple.inv h18
      refine Sim.op (hE16.all (by simp)) ?_
      refine Sim.op (nqS_ok (by kernel_rfl : _ = andL [a9.Owner == a14.Owner, a9.Rate == a14.Rate, a9.Over == a14.Over])) ?_
      refine Sim.op (asB_p _) ?_
      refine Sim.cd (fun hc19 => ?_) (fun hc19 => ?_)
      · exact hE1 false H2 (S3.wk2 all_nil all_nil)
      exact ih x0 x1 x12 (IntKind.wrap .i64 (x13 + 1)) v4 h5 v6 h7 H2 (S3.wk2 all_nil all_nil)
    exact hE0 () H2 (S3.wk2 all_nil all_nil)
theorem limelightref6_Tuples_ok (k : Nat) {h : H} {σ : Stamp} (x0 : List T_api_Tuple) {u0 : V} (hu0 : SlH h dT_api_Tuple x0 u0) (x1 : List T_api_Tuple) {u1 : V} (hu1 : SlH h dT_api_Tuple x1 u1) : Sim (p_limelightref6_Tuples k x0 x1) (ev G X0 31 σ [u0, u1] h) (fun r s => s = ([.v (.p (.bool r))], h)) := by
  refine Sim.ev rfl (Sim.ext (limelightref6_Tuples_entry _ _ _ _ _ _) ?_)
  rw [p_limelightref6_Tuples]
  have S0 : Fm 26 h [] [] [] (List.replicate 26 [] :: h) := Fm.start0
  refine Sim.op ((S0.low hu0).len) ?_
  refine Sim.op (castI_p _ _) ?_
  refine Sim.op ((S0.low hu1).len) ?_
  refine Sim.op (castI_p _ _) ?_
  refine Sim.cd (fun hc1 => ?_) (fun hc1 => ?_)
  · exact Sim.fin (S0.finN (lv_cons (still_bool _).lv lv_nil)) rfl
  refine Sim.op ((S0.low hu0).len) ?_
  refine Sim.op (castI_p _ _) ?_
  refine Sim.as (limelightref6_Tuples_l0_ok ?_ ?_ k x0 x1 ((x0.length : Int)) 0 u0 hu0 u1 hu1 (List.replicate 26 [] :: h) (S0.wk2 all_nil all_nil)) 
  · intro _u H25 S26
    refine Sim.ext (limelightref6_Tuples_a0_0 _ _ _ _) ?_
    exact Sim.fin (S26.finN (lv_cons (still_bool _).lv lv_nil)) rfl
  · intro r27_4 H28 S29
    refine Sim.ext (limelightref6_Tuples_a0_ret _ _ _ _ _) ?_
    exact Sim.fin (S29.finN (lv_cons (still_bool _).lv lv_nil)) rfl
end Go.Ev
/- Equations, printed by tracer2.py. -/
namespace Go.Ev
open Go.Proofs
set_option linter.unusedVariables false
set_option maxRecDepth 100000
-- 55 limelight/limelightref6.nums
noncomputable def limelightref6_nums_c0 : Code := (codeAt (bodyOf Try.f55) [1, 1, 0, 1, 0, 0])
def limelightref6_nums_l0 : Lv := ⟨0, 16, [(0, 0)]⟩
noncomputable def limelightref6_nums_k0 (rec : CallF) (loop : LoopV) (σ : Stamp) : Exit → Env → H → Option (List C × H) := (kBlock 0 (kSeq G rec loop (codeAt (bodyOf Try.f55) [1, 1, 1]) ⟨16, 16, []⟩ (1 :: 1 :: 0 :: σ) (finC G true Try.f55 (1 :: σ))))
theorem limelightref6_nums_entry (rec : CallF) (loop : LoopV) (σ : Stamp) (x0 : V) (x1 : V) (h : H) : cvBody G rec loop 55 σ [x0, x1] h =
 (lenO x0).bind fun t1 =>
 (castI .i64 t1).bind fun n2 =>
 (lenO x1).bind fun t3 =>
 (castI .i64 t3).bind fun n4 =>
 bif n2 != n4 then (
 fin true σ (List.replicate 26 [] :: h) [(.p (.bool false))])
 else (
 (lenO x0).bind fun t5 =>
 (castI .i64 t5).bind fun n6 =>
 (loop limelightref6_nums_c0 limelightref6_nums_l0 (1 :: 0 :: 1 :: 1 :: 0 :: σ) (envL [(0, x0), (1, x1), (12, (.p (.int .i64 n6))), (13, (.p (.int .i64 0)))]) (List.replicate 26 [] :: h)).bind fun r7 => limelightref6_nums_k0 rec loop σ r7.1 r7.2.1 r7.2.2) := by kernel_rfl
theorem limelightref6_nums_r0 (rec : CallF) (loop : LoopV) (σ : Stamp) (x0 : V) (x1 : V) (x12 : Int) (x13 : Int) (h : H) : cvRound G rec loop limelightref6_nums_c0 limelightref6_nums_l0 σ (envL [(0, x0), (1, x1), (12, (.p (.int .i64 x12))), (13, (.p (.int .i64 x13)))]) h =
 bif decide (x13 < x12) then (
 (iS 1 x0 x13).bind fun t8 =>
 (ldO false 1 h t8).bind fun t9 =>
 (castI .u32 t9).bind fun n10 =>
 (iS 1 x1 x13).bind fun t11 =>
 (ldO false 1 h t11).bind fun t12 =>
 (castI .u32 t12).bind fun n13 =>
 bif n10 != n13 then (
 some (.ret, (envL [(4, (.p (.bool false)))]), h))
 else (
 loop limelightref6_nums_c0 limelightref6_nums_l0 (1 :: σ) (envL [(0, x0), (1, x1), (12, (.p (.int .i64 x12))), (13, (.p (.int .i64 (IntKind.wrap .i64 (x13 + 1)))))]) h))
 else (
 some ((.exit 0), (envL []), h)) := by kernel_rfl
theorem limelightref6_nums_a0_0 (rec : CallF) (loop : LoopV) (σ : Stamp)  (h : H) : limelightref6_nums_k0 rec loop σ (.exit 0) (envL []) h =
 fin true σ h [(.p (.bool true))] := by kernel_rfl
theorem limelightref6_nums_a0_ret (rec : CallF) (loop : LoopV) (σ : Stamp) (x4 : Bool) (h : H) : limelightref6_nums_k0 rec loop σ .ret (envL [(4, (.p (.bool x4)))]) h =
 fin true σ h [(.p (.bool x4))] := by kernel_rfl
end Go.Ev
/- Lifted by lift.py: limelightref6_nums as a plain function. -/
namespace Go.Ev
open Go.Proofs
set_option linter.unusedVariables false
set_option linter.unusedSimpArgs false
set_option maxRecDepth 100000
def p_limelightref6_nums_l0 {β : Type} (k : Nat) (kE0 : Unit → Option β) (kE1 : Bool → Option β) (x0 : (List Int)) (x1 : (List Int)) (x12 : Int) (x13 : Int) : Option β := match k with
| 0 => none
| k + 1 =>
bif decide (x13 < x12) then (
(ix x0 x13).bind fun a9 =>
(ix x1 x13).bind fun a12 =>
bif a9 != a12 then (
kE1 false)
else (
p_limelightref6_nums_l0 k kE0 kE1 x0 x1 x12 (IntKind.wrap .i64 (x13 + 1))))
else (
kE0 ())
def p_limelightref6_nums (k : Nat) (x0 : (List Int)) (x1 : (List Int)) : Option (Bool) :=
bif ((x0.length : Int)) != ((x1.length : Int)) then (
some (false))
else (
p_limelightref6_nums_l0 k (fun (_ : Unit) =>
some (true)) (fun r23_4 =>
some (r23_4)) x0 x1 ((x0.length : Int)) 0)
theorem limelightref6_nums_l0_ok {h : H}  {β α : Type} {Q : β → α → Prop} {K : Exit × Env × H → Option α} {kE0 : Unit → Option β} {kE1 : Bool → Option β} (hE0 : ∀ (_u : Unit) (H16 : Go.Ev.H) (_ : Fm 26 h [] [] [] H16), Sim (kE0 ()) (K ((.exit 0), (envL []), H16)) Q) (hE1 : ∀ (q4 : Bool) (H18 : Go.Ev.H) (_ : Fm 26 h [] [] [] H18), Sim (kE1 q4) (K (.ret, (envL [(4, (.p (.bool q4)))]), H18)) Q) (k : Nat) : ∀ (x0 : (List Int)) (x1 : (List Int)) (x12 : Int) (x13 : Int) (v4 : V) (h5 : SlH h (dI .u32) x0 v4) (v6 : V) (h7 : SlH h (dI .u32) x1 v6) (H2 : Go.Ev.H) (_ : Fm 26 h [] [] [] H2) {σ : Stamp}, Sim (p_limelightref6_nums_l0 k kE0 kE1 x0 x1 x12 x13) ((cvL G X0 limelightref6_nums_c0 limelightref6_nums_l0 σ (envL [(0, v4), (1, v6), (12, (.p (.int .i64 x12))), (13, (.p (.int .i64 x13)))]) H2).bind K) Q := by
  induction k with
  | zero => intros; exact Sim.no
  | succ k ih =>
    intro x0 x1 x12 x13 v4 h5 v6 h7 H2 S3 σ
    rw [p_limelightref6_nums_l0]
    refine Sim.round (Sim.ext (limelightref6_nums_r0 _ _ _ _ _ _ _ _) ?_)
    refine Sim.cd (fun hc8 => ?_) (fun hc8 => ?_)
    · refine Sim.bd fun a9 h10 => ?_
      refine Sim.op ((S3.low h5).iS h10 rfl) ?_
      obtain ⟨_, rfl, hE11⟩ := (S3.low h5).el h10 rfl
      refine Sim.op (hE11.ld (j := 0) rfl) ?_
      refine Sim.op (castI_p _ _) ?_
      refine Sim.bd fun a12 h13 => ?_
      refine Sim.op ((S3.low h7).iS h13 rfl) ?_
      obtain ⟨_, rfl, hE14⟩ := (S3.low h7).el h13 rfl
      refine Sim.op (hE14.ld (j := 0) rfl) ?_
      refine Sim.op (castI_p _ _) ?_
      refine Sim.cd (fun hc15 => ?_) (fun hc15 => ?_)
      · exact hE1 false H2 (S3.wk2 all_nil all_nil)
      exact ih x0 x1 x12 (IntKind.wrap .i64 (x13 + 1)) v4 h5 v6 h7 H2 (S3.wk2 all_nil all_nil)
    exact hE0 () H2 (S3.wk2 all_nil all_nil)
theorem limelightref6_nums_ok (k : Nat) {h : H} {σ : Stamp} (x0 : List Int) {u0 : V} (hu0 : SlH h (dI .u32) x0 u0) (x1 : List Int) {u1 : V} (hu1 : SlH h (dI .u32) x1 u1) : Sim (p_limelightref6_nums k x0 x1) (ev G X0 55 σ [u0, u1] h) (fun r s => s = ([.v (.p (.bool r))], h)) := by
  refine Sim.ev rfl (Sim.ext (limelightref6_nums_entry _ _ _ _ _ _) ?_)
  rw [p_limelightref6_nums]
  have S0 : Fm 26 h [] [] [] (List.replicate 26 [] :: h) := Fm.start0
  refine Sim.op ((S0.low hu0).len) ?_
  refine Sim.op (castI_p _ _) ?_
  refine Sim.op ((S0.low hu1).len) ?_
  refine Sim.op (castI_p _ _) ?_
  refine Sim.cd (fun hc1 => ?_) (fun hc1 => ?_)
  · exact Sim.fin (S0.finN (lv_cons (still_bool _).lv lv_nil)) rfl
  refine Sim.op ((S0.low hu0).len) ?_
  refine Sim.op (castI_p _ _) ?_
  refine Sim.as (limelightref6_nums_l0_ok ?_ ?_ k x0 x1 ((x0.length : Int)) 0 u0 hu0 u1 hu1 (List.replicate 26 [] :: h) (S0.wk2 all_nil all_nil)) 
  · intro _u H21 S22
    refine Sim.ext (limelightref6_nums_a0_0 _ _ _ _) ?_
    exact Sim.fin (S22.finN (lv_cons (still_bool _).lv lv_nil)) rfl
  · intro r23_4 H24 S25
    refine Sim.ext (limelightref6_nums_a0_ret _ _ _ _ _) ?_
    exact Sim.fin (S25.finN (lv_cons (still_bool _).lv lv_nil)) rfl
end Go.Ev
/- Lifted by lift.py: limelightref6_Same as a plain function. -/
namespace Go.Ev
open Go.Proofs
set_option linter.unusedVariables false
set_option linter.unusedSimpArgs false
set_option maxRecDepth 100000
def p_limelightref6_Same_l0 {β : Type} (k : Nat) (kE0 : Unit → Option β) (kE1 : Bool → Option β) (x82 : Int) (x83 : Int) (yg20 : T_api_Report) (yg24 : T_api_Report) : Option β := match k with
| 0 => none
| k + 1 =>
bif decide (x83 < x82) then (
(ix yg20.Numbers x83).bind fun a95 =>
(ix yg24.Numbers x83).bind fun a98 =>
bif a95 != a98 then (
kE1 false)
else (
p_limelightref6_Same_l0 k kE0 kE1 x82 (IntKind.wrap .i64 (x83 + 1)) yg20 yg24))
else (
kE0 ())
def p_limelightref6_Same (k : Nat) (x0 : T_api_Report) (x1 : T_api_Report) : Option (Bool) :=
(bif x0.Kind != x1.Kind then (some true) else (some (x0.From != x1.From))).bind fun b25 =>
(bif b25 then (some true) else (some (x0.About != x1.About))).bind fun b29 =>
(bif b29 then (some true) else (some (x0.Rate != x1.Rate))).bind fun b33 =>
(bif b33 then (some true) else (some (x0.f_Type != x1.f_Type))).bind fun b37 =>
(bif b37 then (some true) else (some (x0.Count != x1.Count))).bind fun b41 =>
(bif b41 then (some true) else (some (!((strB x0.Body).toList == (strB x1.Body).toList)))).bind fun b45 =>
(bif b45 then (some true) else ((p_limelightref6_nums k x0.Abouts x1.Abouts).bind fun r49 =>
some (!r49))).bind fun b54 =>
(bif b54 then (some true) else ((p_limelightref6_Tuples k x0.Tuples x1.Tuples).bind fun r58 =>
some (!r58))).bind fun b63 =>
(bif b63 then (some true) else (some (((x0.Numbers.length : Int)) != ((x1.Numbers.length : Int))))).bind fun b67 =>
bif b67 then (
some (false))
else (
p_limelightref6_Same_l0 k (fun (_ : Unit) =>
some (true)) (fun r109_4 =>
some (r109_4)) ((x0.Numbers.length : Int)) 0 x0 x1)
theorem limelightref6_Same_l0_ok {h : H}  {β α : Type} {Q : β → α → Prop} {K : Exit × Env × H → Option α} {kE0 : Unit → Option β} {kE1 : Bool → Option β} (hE0 : ∀ (_u : Unit) (H102 : Go.Ev.H) (_ : Fm 98 h [] [] [] H102), Sim (kE0 ()) (K ((.exit 0), (envL []), H102)) Q) (hE1 : ∀ (q4 : Bool) (H104 : Go.Ev.H) (_ : Fm 98 h [] [] [] H104), Sim (kE1 q4) (K (.ret, (envL [(4, (.p (.bool q4)))]), H104)) Q) (k : Nat) : ∀ (x82 : Int) (x83 : Int) (yg20 : T_api_Report) (yg24 : T_api_Report) (v74 : V) (h75 : SlF dT_api_Tuple yg20.Tuples v74) (v76 : V) (h77 : SlF (dI .u32) yg20.Abouts v76) (v78 : V) (h79 : SlF (dI .i64) yg20.Numbers v78) (v80 : V) (h81 : SlF (dI .u8) yg20.Body v80) (s82 : Stamp) (v84 : V) (h85 : SlF dT_api_Tuple yg24.Tuples v84) (v86 : V) (h87 : SlF (dI .u32) yg24.Abouts v86) (v88 : V) (h89 : SlF (dI .i64) yg24.Numbers v88) (v90 : V) (h91 : SlF (dI .u8) yg24.Body v90) (s92 : Stamp) (H72 : Go.Ev.H) (_ : Fm 98 h [] [(2, s82, List.map C.v [(.p (.int .i64 yg20.Kind)), (.p (.int .u32 yg20.From)), (.p (.int .u32 yg20.About)), v74, v76, v78, (.p (.int .u64 yg20.Rate)), (.p (.int .i64 yg20.f_Type)), (.p (.int .i64 yg20.Count)), v80]), (3, s92, List.map C.v [(.p (.int .i64 yg24.Kind)), (.p (.int .u32 yg24.From)), (.p (.int .u32 yg24.About)), v84, v86, v88, (.p (.int .u64 yg24.Rate)), (.p (.int .i64 yg24.f_Type)), (.p (.int .i64 yg24.Count)), v90])] [] H72) {σ : Stamp}, Sim (p_limelightref6_Same_l0 k kE0 kE1 x82 x83 yg20 yg24) ((cvL G X0 limelightref6_Same_c0 limelightref6_Same_l0 σ (envL [(2, (.ref ⟨h.length, 2, 0, s82, []⟩ 0)), (3, (.ref ⟨h.length, 3, 0, s92, []⟩ 0)), (82, (.p (.int .i64 x82))), (83, (.p (.int .i64 x83)))]) H72).bind K) Q := by
  induction k with
  | zero => intros; exact Sim.no
  | succ k ih =>
    intro x82 x83 yg20 yg24 v74 h75 v76 h77 v78 h79 v80 h81 s82 v84 h85 v86 h87 v88 h89 v90 h91 s92 H72 S73 σ
    rw [p_limelightref6_Same_l0]
    refine Sim.round (Sim.ext (limelightref6_Same_r0 _ _ _ _ _ _ _ _) ?_)
    refine Sim.cd (fun hc94 => ?_) (fun hc94 => ?_)
    · refine Sim.op (fA_ref _ _ _) ?_
      refine Sim.op ((S73.atG (i := 0) rfl).ld (j := 5) rfl) ?_
      refine Sim.bd fun a95 h96 => ?_
      refine Sim.op ((h79.h H72).iS h96 rfl) ?_
      obtain ⟨_, rfl, hE97⟩ := (h79.h H72).el h96 rfl
      refine Sim.op (hE97.ld (j := 0) rfl) ?_
      refine Sim.op (castI_p _ _) ?_
      refine Sim.op (fA_ref _ _ _) ?_
      refine Sim.op ((S73.atG (i := 1) rfl).ld (j := 5) rfl) ?_
      refine Sim.bd fun a98 h99 => ?_
      refine Sim.op ((h89.h H72).iS h99 rfl) ?_
      obtain ⟨_, rfl, hE100⟩ := (h89.h H72).el h99 rfl
      refine Sim.op (hE100.ld (j := 0) rfl) ?_
      refine Sim.op (castI_p _ _) ?_
      refine Sim.cd (fun hc101 => ?_) (fun hc101 => ?_)
      · exact hE1 false H72 (S73.wk2 all_nil all_nil)
      exact ih x82 (IntKind.wrap .i64 (x83 + 1)) yg20 yg24 v74 h75 v76 h77 v78 h79 v80 h81 s82 v84 h85 v86 h87 v88 h89 v90 h91 s92 H72 (S73.wk2 (all_cons (at_mem 0 rfl) (all_cons (at_mem 1 rfl) all_nil)) all_nil)
    exact hE0 () H72 (S73.wk2 all_nil all_nil)
theorem limelightref6_Same_ok (k : Nat) {h : H} {σ : Stamp} (x0 : T_api_Report) {u0 : List V} (hu0 : dT_api_Report.R x0 u0) (x1 : T_api_Report) {u1 : List V} (hu1 : dT_api_Report.R x1 u1) : Sim (p_limelightref6_Same k x0 x1) (ev G X0 23 σ [(.agg u0), (.agg u1)] h) (fun r s => s = ([.v (.p (.bool r))], h)) := by
  refine Sim.ev rfl (Sim.ext (limelightref6_Same_entry _ _ _ _ _ _) ?_)
  rw [p_limelightref6_Same]
  obtain ⟨v1, v3, v5, v7, rfl, h2, h4, h6, h8⟩ := dT_api_Report.inv hu0
  obtain ⟨v9, v11, v13, v15, rfl, h10, h12, h14, h16⟩ := dT_api_Report.inv hu1
  have S0 : Fm 98 h [] [] [] (List.replicate 98 [] :: h) := Fm.start0
  obtain ⟨H17, e18, S19⟩ := S0.box (own := false) (d := 2) (s := (0 :: 0 :: 0 :: σ)) (xs := [(.p (.int .i64 x0.Kind)), (.p (.int .u32 x0.From)), (.p (.int .u32 x0.About)), v1, v3, v5, (.p (.int .u64 x0.Rate)), (.p (.int .i64 x0.f_Type)), (.p (.int .i64 x0.Count)), v7]) (stills_cons (still_int _ _) (stills_cons (still_int _ _) (stills_cons (still_int _ _) (stills_cons h2.still (stills_cons h4.still (stills_cons h6.still (stills_cons (still_int _ _) (stills_cons (still_int _ _) (stills_cons (still_int _ _) (stills_cons h8.still stills_nil)))))))))) (by decide) rfl
  refine Sim.op (e18) ?_
  obtain ⟨H21, e22, S23⟩ := S19.box (own := false) (d := 3) (s := (1 :: 0 :: 0 :: σ)) (xs := [(.p (.int .i64 x1.Kind)), (.p (.int .u32 x1.From)), (.p (.int .u32 x1.About)), v9, v11, v13, (.p (.int .u64 x1.Rate)), (.p (.int .i64 x1.f_Type)), (.p (.int .i64 x1.Count)), v15]) (stills_cons (still_int _ _) (stills_cons (still_int _ _) (stills_cons (still_int _ _) (stills_cons h10.still (stills_cons h12.still (stills_cons h14.still (stills_cons (still_int _ _) (stills_cons (still_int _ _) (stills_cons (still_int _ _) (stills_cons h16.still stills_nil)))))))))) (by decide) rfl
  refine Sim.op (e22) ?_
  refine Sim.op (fA_ref _ _ _) ?_
  refine Sim.op ((S23.atG (i := 1) rfl).ld (j := 0) rfl) ?_
  refine Sim.op (castI_p _ _) ?_
  refine Sim.op (fA_ref _ _ _) ?_
  refine Sim.op ((S23.atG (i := 0) rfl).ld (j := 0) rfl) ?_
  refine Sim.op (castI_p _ _) ?_
  refine Sim.ch (P := fun r y => r = y) ?_ (fun b25 y26 h27 h28 => ?_)
  · refine Sim.cd (fun hc => ?_) (fun hc => ?_)
    · exact Sim.ret rfl rfl
    · refine Sim.op (fA_ref _ _ _) ?_
      refine Sim.op ((S23.atG (i := 1) rfl).ld (j := 1) rfl) ?_
      refine Sim.op (castI_p _ _) ?_
      refine Sim.op (fA_ref _ _ _) ?_
      refine Sim.op ((S23.atG (i := 0) rfl).ld (j := 1) rfl) ?_
      refine Sim.op (castI_p _ _) ?_
      exact Sim.ret rfl rfl
  subst h28
  refine Sim.ch (P := fun r y => r = y) ?_ (fun b29 y30 h31 h32 => ?_)
  · refine Sim.cd (fun hc => ?_) (fun hc => ?_)
    · exact Sim.ret rfl rfl
    · refine Sim.op (fA_ref _ _ _) ?_
      refine Sim.op ((S23.atG (i := 1) rfl).ld (j := 2) rfl) ?_
      refine Sim.op (castI_p _ _) ?_
      refine Sim.op (fA_ref _ _ _) ?_
      refine Sim.op ((S23.atG (i := 0) rfl).ld (j := 2) rfl) ?_
      refine Sim.op (castI_p _ _) ?_
      exact Sim.ret rfl rfl
  subst h32
  refine Sim.ch (P := fun r y => r = y) ?_ (fun b33 y34 h35 h36 => ?_)
  · refine Sim.cd (fun hc => ?_) (fun hc => ?_)
    · exact Sim.ret rfl rfl
    · refine Sim.op (fA_ref _ _ _) ?_
      refine Sim.op ((S23.atG (i := 1) rfl).ld (j := 6) rfl) ?_
      refine Sim.op (castI_p _ _) ?_
      refine Sim.op (fA_ref _ _ _) ?_
      refine Sim.op ((S23.atG (i := 0) rfl).ld (j := 6) rfl) ?_
      refine Sim.op (castI_p _ _) ?_
      exact Sim.ret rfl rfl
  subst h36
  refine Sim.ch (P := fun r y => r = y) ?_ (fun b37 y38 h39 h40 => ?_)
  · refine Sim.cd (fun hc => ?_) (fun hc => ?_)
    · exact Sim.ret rfl rfl
    · refine Sim.op (fA_ref _ _ _) ?_
      refine Sim.op ((S23.atG (i := 1) rfl).ld (j := 7) rfl) ?_
      refine Sim.op (castI_p _ _) ?_
      refine Sim.op (fA_ref _ _ _) ?_
      refine Sim.op ((S23.atG (i := 0) rfl).ld (j := 7) rfl) ?_
      refine Sim.op (castI_p _ _) ?_
      exact Sim.ret rfl rfl
  subst h40
  refine Sim.ch (P := fun r y => r = y) ?_ (fun b41 y42 h43 h44 => ?_)
  · refine Sim.cd (fun hc => ?_) (fun hc => ?_)
    · exact Sim.ret rfl rfl
    · refine Sim.op (fA_ref _ _ _) ?_
      refine Sim.op ((S23.atG (i := 1) rfl).ld (j := 8) rfl) ?_
      refine Sim.op (castI_p _ _) ?_
      refine Sim.op (fA_ref _ _ _) ?_
      refine Sim.op ((S23.atG (i := 0) rfl).ld (j := 8) rfl) ?_
      refine Sim.op (castI_p _ _) ?_
      exact Sim.ret rfl rfl
  subst h44
  refine Sim.ch (P := fun r y => r = y) ?_ (fun b45 y46 h47 h48 => ?_)
  · refine Sim.cd (fun hc => ?_) (fun hc => ?_)
    · exact Sim.ret rfl rfl
    · refine Sim.op (fA_ref _ _ _) ?_
      refine Sim.op ((S23.atG (i := 1) rfl).ld (j := 9) rfl) ?_
      refine Sim.op ((h8.h H21).str) ?_
      refine Sim.op (castS_p _) ?_
      refine Sim.op (fA_ref _ _ _) ?_
      refine Sim.op ((S23.atG (i := 0) rfl).ld (j := 9) rfl) ?_
      refine Sim.op ((h16.h H21).str) ?_
      refine Sim.op (castS_p _) ?_
      exact Sim.ret rfl rfl
  subst h48
  refine Sim.ch (P := fun r y => (.p (.bool r), H21) = y) ?_ (fun b54 y55 h56 h57 => ?_)
  · refine Sim.cd (fun hc => ?_) (fun hc => ?_)
    · exact Sim.ret rfl rfl
    · refine Sim.op (fA_ref _ _ _) ?_
      refine Sim.op ((S23.atG (i := 1) rfl).ld (j := 4) rfl) ?_
      refine Sim.op (fA_ref _ _ _) ?_
      refine Sim.op ((S23.atG (i := 0) rfl).ld (j := 4) rfl) ?_
      refine Sim.call (limelightref6_nums_ok k x0.Abouts (h4.h H21) x1.Abouts (h12.h H21)) fun r49 cs50 H51 h52 q53 => ?_
      cases q53
      refine Sim.op (asB_p _) ?_
      exact Sim.ret rfl rfl
  subst h57
  refine Sim.op (asB_p _) ?_
  refine Sim.ch (P := fun r y => (.p (.bool r), H21) = y) ?_ (fun b63 y64 h65 h66 => ?_)
  · refine Sim.cd (fun hc => ?_) (fun hc => ?_)
    · exact Sim.ret rfl rfl
    · refine Sim.op (fA_ref _ _ _) ?_
      refine Sim.op ((S23.atG (i := 1) rfl).ld (j := 3) rfl) ?_
      refine Sim.op (fA_ref _ _ _) ?_
      refine Sim.op ((S23.atG (i := 0) rfl).ld (j := 3) rfl) ?_
      refine Sim.call (limelightref6_Tuples_ok k x0.Tuples (h2.h H21) x1.Tuples (h10.h H21)) fun r58 cs59 H60 h61 q62 => ?_
      cases q62
      refine Sim.op (asB_p _) ?_
      exact Sim.ret rfl rfl
  subst h66
  refine Sim.op (asB_p _) ?_
  refine Sim.ch (P := fun r y => r = y) ?_ (fun b67 y68 h69 h70 => ?_)
  · refine Sim.cd (fun hc => ?_) (fun hc => ?_)
    · exact Sim.ret rfl rfl
    · refine Sim.op (fA_ref _ _ _) ?_
      refine Sim.op ((S23.atG (i := 1) rfl).ld (j := 5) rfl) ?_
      refine Sim.op ((h6.h H21).len) ?_
      refine Sim.op (castI_p _ _) ?_
      refine Sim.op (fA_ref _ _ _) ?_
      refine Sim.op ((S23.atG (i := 0) rfl).ld (j := 5) rfl) ?_
      refine Sim.op ((h14.h H21).len) ?_
      refine Sim.op (castI_p _ _) ?_
      exact Sim.ret rfl rfl
  subst h70
  refine Sim.cd (fun hc71 => ?_) (fun hc71 => ?_)
  · exact Sim.fin (S23.finN (lv_cons (still_bool _).lv lv_nil)) rfl
  refine Sim.op (fA_ref _ _ _) ?_
  refine Sim.op ((S23.atG (i := 1) rfl).ld (j := 5) rfl) ?_
  refine Sim.op ((h6.h H21).len) ?_
  refine Sim.op (castI_p _ _) ?_
  refine Sim.as (limelightref6_Same_l0_ok ?_ ?_ k ((x0.Numbers.length : Int)) 0 x0 x1 v1 h2 v3 h4 v5 h6 v7 h8 (0 :: 0 :: 0 :: σ) v9 h10 v11 h12 v13 h14 v15 h16 (1 :: 0 :: 0 :: σ) H21 (S23.wk2 (all_cons (at_mem 1 rfl) (all_cons (at_mem 0 rfl) all_nil)) all_nil)) 
  · intro _u H107 S108
    refine Sim.ext (limelightref6_Same_a0_0 _ _ _ _) ?_
    exact Sim.fin (S108.finN (lv_cons (still_bool _).lv lv_nil)) rfl
  · intro r109_4 H110 S111
    refine Sim.ext (limelightref6_Same_a0_ret _ _ _ _ _) ?_
    exact Sim.fin (S111.finN (lv_cons (still_bool _).lv lv_nil)) rfl
end Go.Ev
/- Lifted by lift.py: limelightref6_All as a plain function. -/
namespace Go.Ev
open Go.Proofs
set_option linter.unusedVariables false
set_option linter.unusedSimpArgs false
set_option maxRecDepth 100000
end Go.Ev
namespace Go.Ev
set_option maxRecDepth 100000
set_option linter.unusedSimpArgs false
/-! ### Reports that are the same -/
theorem bta_loop (s : ByteArray) (i : Nat) (r : List UInt8) : ByteArray.toList.loop s i r = r.reverse ++ s.data.toList.drop i := by
  fun_induction ByteArray.toList.loop s i r with
  | case1 i r h ih =>
    rw [ih, List.reverse_cons, List.append_assoc]
    congr 1
    have h' : i < s.data.toList.length := by rw [Array.length_toList]; exact h
    rw [List.drop_eq_getElem_cons h']
    simp [ByteArray.get!]
    have : s.data.size = s.size := rfl
    rw [getElem!_pos s.data i (by rw [this]; exact h)]
  | case2 i r h =>
    rw [List.drop_of_length_le, List.append_nil]
    have : s.data.toList.length = s.size := by rw [Array.length_toList]; rfl
    omega
theorem bta (s : ByteArray) : s.toList = s.data.toList := by
  unfold ByteArray.toList
  rw [bta_loop]; simp
theorem bt_inj {x y : ByteArray} : (x.toList == y.toList) = true ↔ x = y := by
  rw [bta, bta, beq_iff_eq]
  obtain ⟨x⟩ := x
  obtain ⟨y⟩ := y
  simp only [Array.toList_inj, ByteArray.mk.injEq]
theorem bytesS_strB : ∀ {xs : List Int}, isB xs → bytesS (strB xs) = xs := by
  intro xs h
  unfold bytesS strB
  simp only [List.map_map]
  conv => rhs; rw [← List.map_id xs]
  refine List.map_congr_left fun x hx => ?_
  have := h x hx
  simp only [Function.comp, id]
  rw [UInt8.toNat_ofNat']
  omega
theorem nums_l0 {β : Type} (kE0 : Unit → Option β) (kE1 : Bool → Option β) (x y : List Int) (hn : x.length < 1000) : ∀ (rest rest' pre pre' : List Int) (j : Nat), x = pre ++ rest → y = pre' ++ rest' → pre.length = pre'.length → rest.length = rest'.length →
    ∃ v : Bool, (v = true ↔ rest = rest') ∧ p_limelightref6_nums_l0 (j + rest.length + 1) kE0 kE1 x y (x.length : Int) (pre.length : Int) = bif v then kE0 () else kE1 false
  | [], rest', pre, pre', j, hx, hy, hp, hr => by
    have : rest' = [] := List.length_eq_zero_iff.1 hr.symm
    subst this
    rw [p_limelightref6_nums_l0]
    have h1 : decide ((pre.length : Int) < (x.length : Int)) = false := by subst hx; simp
    rw [h1, cond_false]
    exact ⟨true, by simp, rfl⟩
  | a :: rest, [], pre, pre', j, hx, hy, hp, hr => by simp at hr
  | a :: rest, b :: rest', pre, pre', j, hx, hy, hp, hr => by
    have hplen : pre.length + 1 ≤ x.length := by rw [hx, List.length_append, List.length_cons]; omega
    rw [List.length_cons, List.length_cons] at hr
    rw [List.length_cons, show j + (rest.length + 1) + 1 = (j + rest.length + 1) + 1 from rfl, p_limelightref6_nums_l0]
    have h1 : decide ((pre.length : Int) < (x.length : Int)) = true := decide_eq_true (by omega)
    have h2 : ix x (pre.length : Int) = some a := ix_mid' hx rfl
    have h3 : ix y (pre.length : Int) = some b := ix_mid' hy (by rw [hp])
    have h4 : IntKind.wrap .i64 ((pre.length : Int) + 1) = (((pre ++ [a]).length : Nat) : Int) := by rw [wrap_i64 (by omega) (by omega)]; simp
    rw [h1, cond_true, h2, Option.bind_some, h3, Option.bind_some, h4]
    by_cases hab : a = b
    · subst hab
      obtain ⟨v, hv, he⟩ := nums_l0 kE0 kE1 x y hn rest rest' (pre ++ [a]) (pre' ++ [a]) j (by rw [hx]; simp) (by rw [hy]; simp) (by rw [List.length_append, List.length_append, hp]) (by omega)
      refine ⟨v, by rw [hv]; simp, ?_⟩
      rw [bne_self_eq_false, cond_false, he]
    · refine ⟨false, by simp [hab], ?_⟩
      rw [(bne_iff_ne (a := a) (b := b)).2 hab]
      rfl
theorem nums_ok {k : Nat} (x y : List Int) (hn : x.length < 1000) (hk : 1000 ≤ k) : ∃ v : Bool, (v = true ↔ x = y) ∧ p_limelightref6_nums k x y = some v := by
  unfold p_limelightref6_nums
  by_cases h : x.length = y.length
  · have d : (((x.length : Int)) != ((y.length : Int))) = false := by rw [h]; exact bne_self_eq_false _
    obtain ⟨v, hv, he⟩ := nums_l0 (fun (_ : Unit) => some true) (fun r => some r) x y hn x y [] [] (k - x.length - 1) rfl rfl rfl h
    rw [show k - x.length - 1 + x.length + 1 = k by omega] at he
    refine ⟨v, hv, ?_⟩
    rw [d, cond_false]
    refine he.trans ?_
    cases v <;> rfl
  · have d : (((x.length : Int)) != ((y.length : Int))) = true := by rw [bne_iff_ne]; omega
    refine ⟨false, ?_, by rw [d, cond_true]⟩
    simp only [Bool.false_eq_true, false_iff]
    intro e; exact h (by rw [e])
theorem tuplesE_l0 {β : Type} (kE0 : Unit → Option β) (kE1 : Bool → Option β) (x y : List T_api_Tuple) (hn : x.length < 1000) : ∀ (rest rest' pre pre' : List T_api_Tuple) (j : Nat), x = pre ++ rest → y = pre' ++ rest' → pre.length = pre'.length → rest.length = rest'.length →
    ∃ v : Bool, (v = true ↔ rest = rest') ∧ p_limelightref6_Tuples_l0 (j + rest.length + 1) kE0 kE1 x y (x.length : Int) (pre.length : Int) = bif v then kE0 () else kE1 false
  | [], rest', pre, pre', j, hx, hy, hp, hr => by
    have : rest' = [] := List.length_eq_zero_iff.1 hr.symm
    subst this
    rw [p_limelightref6_Tuples_l0]
    have h1 : decide ((pre.length : Int) < (x.length : Int)) = false := by subst hx; simp
    rw [h1, cond_false]
    exact ⟨true, by simp, rfl⟩
  | a :: rest, [], pre, pre', j, hx, hy, hp, hr => by simp at hr
  | a :: rest, b :: rest', pre, pre', j, hx, hy, hp, hr => by
    have hplen : pre.length + 1 ≤ x.length := by rw [hx, List.length_append, List.length_cons]; omega
    rw [List.length_cons, List.length_cons] at hr
    rw [List.length_cons, show j + (rest.length + 1) + 1 = (j + rest.length + 1) + 1 from rfl, p_limelightref6_Tuples_l0]
    have h1 : decide ((pre.length : Int) < (x.length : Int)) = true := decide_eq_true (by omega)
    have h2 : ix x (pre.length : Int) = some a := ix_mid' hx rfl
    have h3 : ix y (pre.length : Int) = some b := ix_mid' hy (by rw [hp])
    have h4 : IntKind.wrap .i64 ((pre.length : Int) + 1) = (((pre ++ [a]).length : Nat) : Int) := by rw [wrap_i64 (by omega) (by omega)]; simp
    rw [h1, cond_true, h2, Option.bind_some, h3, Option.bind_some, h4]
    by_cases hab : a = b
    · subst hab
      obtain ⟨v, hv, he⟩ := tuplesE_l0 kE0 kE1 x y hn rest rest' (pre ++ [a]) (pre' ++ [a]) j (by rw [hx]; simp) (by rw [hy]; simp) (by rw [List.length_append, List.length_append, hp]) (by omega)
      refine ⟨v, by rw [hv]; simp, ?_⟩
      have e : andB [a.Owner == a.Owner, a.Rate == a.Rate, a.Over == a.Over] = true := by simp [andB]
      rw [e, Bool.not_true, cond_false, he]
    · refine ⟨false, by simp [hab], ?_⟩
      have e : andB [a.Owner == b.Owner, a.Rate == b.Rate, a.Over == b.Over] = false := by
        cases he : andB [a.Owner == b.Owner, a.Rate == b.Rate, a.Over == b.Over] with
        | false => rfl
        | true =>
          refine absurd ?_ hab
          simp [andB] at he
          obtain ⟨a1, a2, a3⟩ := a
          obtain ⟨b1, b2, b3⟩ := b
          simp only at he
          obtain ⟨rfl, rfl, rfl⟩ := he
          rfl
      rw [e]
      rfl
theorem tuplesE_ok {k : Nat} (x y : List T_api_Tuple) (hn : x.length < 1000) (hk : 1000 ≤ k) : ∃ v : Bool, (v = true ↔ x = y) ∧ p_limelightref6_Tuples k x y = some v := by
  unfold p_limelightref6_Tuples
  by_cases h : x.length = y.length
  · have d : (((x.length : Int)) != ((y.length : Int))) = false := by rw [h]; exact bne_self_eq_false _
    obtain ⟨v, hv, he⟩ := tuplesE_l0 (fun (_ : Unit) => some true) (fun r => some r) x y hn x y [] [] (k - x.length - 1) rfl rfl rfl h
    rw [show k - x.length - 1 + x.length + 1 = k by omega] at he
    refine ⟨v, hv, ?_⟩
    rw [d, cond_false]
    refine he.trans ?_
    cases v <;> rfl
  · have d : (((x.length : Int)) != ((y.length : Int))) = true := by rw [bne_iff_ne]; omega
    refine ⟨false, ?_, by rw [d, cond_true]⟩
    simp only [Bool.false_eq_true, false_iff]
    intro e; exact h (by rw [e])
theorem sameN_l0 {β : Type} (kE0 : Unit → Option β) (kE1 : Bool → Option β) (A B : T_api_Report) (x y : List Int) (hA : A.Numbers = x) (hB : B.Numbers = y) (hn : x.length < 1000) : ∀ (rest rest' pre pre' : List Int) (j : Nat), x = pre ++ rest → y = pre' ++ rest' → pre.length = pre'.length → rest.length = rest'.length →
    ∃ v : Bool, (v = true ↔ rest = rest') ∧ p_limelightref6_Same_l0 (j + rest.length + 1) kE0 kE1 (x.length : Int) (pre.length : Int) A B = bif v then kE0 () else kE1 false
  | [], rest', pre, pre', j, hx, hy, hp, hr => by
    have : rest' = [] := List.length_eq_zero_iff.1 hr.symm
    subst this
    rw [p_limelightref6_Same_l0]
    have h1 : decide ((pre.length : Int) < (x.length : Int)) = false := by subst hx; simp
    rw [h1, cond_false]
    exact ⟨true, by simp, rfl⟩
  | a :: rest, [], pre, pre', j, hx, hy, hp, hr => by simp at hr
  | a :: rest, b :: rest', pre, pre', j, hx, hy, hp, hr => by
    have hplen : pre.length + 1 ≤ x.length := by rw [hx, List.length_append, List.length_cons]; omega
    rw [List.length_cons, List.length_cons] at hr
    rw [List.length_cons, show j + (rest.length + 1) + 1 = (j + rest.length + 1) + 1 from rfl, p_limelightref6_Same_l0]
    have h1 : decide ((pre.length : Int) < (x.length : Int)) = true := decide_eq_true (by omega)
    have h2 : ix A.Numbers (pre.length : Int) = some a := ix_mid' (hA.trans hx) rfl
    have h3 : ix B.Numbers (pre.length : Int) = some b := ix_mid' (hB.trans hy) (by rw [hp])
    have h4 : IntKind.wrap .i64 ((pre.length : Int) + 1) = (((pre ++ [a]).length : Nat) : Int) := by rw [wrap_i64 (by omega) (by omega)]; simp
    rw [h1, cond_true, h2, Option.bind_some, h3, Option.bind_some, h4]
    by_cases hab : a = b
    · subst hab
      obtain ⟨v, hv, he⟩ := sameN_l0 kE0 kE1 A B x y hA hB hn rest rest' (pre ++ [a]) (pre' ++ [a]) j (by rw [hx]; simp) (by rw [hy]; simp) (by rw [List.length_append, List.length_append, hp]) (by omega)
      refine ⟨v, by rw [hv]; simp, ?_⟩
      rw [bne_self_eq_false, cond_false, he]
    · refine ⟨false, by simp [hab], ?_⟩
      rw [(bne_iff_ne (a := a) (b := b)).2 hab]
      rfl
theorem sameR {k : Nat} (hk : 1000 ≤ k) (a b : T_api_Report) (h1 : a.Abouts.length < 1000) (h2 : a.Tuples.length < 1000) (h3 : a.Numbers.length < 1000) (ha : isB a.Body) (hb : isB b.Body) : ∃ v : Bool, (v = true ↔ a = b) ∧ p_limelightref6_Same k a b = some v := by
  obtain ⟨u1, hu1, e1⟩ := nums_ok (k := k) a.Abouts b.Abouts h1 hk
  obtain ⟨u2, hu2, e2⟩ := tuplesE_ok (k := k) a.Tuples b.Tuples h2 hk
  have hstr : ((strB a.Body).toList == (strB b.Body).toList) = decide (a.Body = b.Body) := by
    rw [Bool.eq_iff_iff, bt_inj, decide_eq_true_eq]
    exact ⟨fun h => by rw [← bytesS_strB ha, h, bytesS_strB hb], fun h => by rw [h]⟩
  have cN : ∀ (x : Bool) (y : Bool), (bif x then (some true) else (some y)) = some (x || y) := fun x y => by cases x <;> rfl
  have cB : ∀ (x : Bool) (o : Option Bool) (y : Bool), (o = some y) → (bif x then (some true) else o) = some (x || y) := fun x o y h => by rw [h]; exact cN x y
  unfold p_limelightref6_Same
  simp only [cN, Option.bind_some, hstr, e1, e2]
  generalize hP : (((((((((a.Kind != b.Kind || a.From != b.From) || a.About != b.About) || a.Rate != b.Rate) || a.f_Type != b.f_Type) || a.Count != b.Count) || !decide (a.Body = b.Body)) || !u1) || !u2) || ((a.Numbers.length : Int) != (b.Numbers.length : Int))) = P
  have hPf : P = false ↔ (a.Kind = b.Kind ∧ a.From = b.From ∧ a.About = b.About ∧ a.Rate = b.Rate ∧ a.f_Type = b.f_Type ∧ a.Count = b.Count ∧ a.Body = b.Body ∧ a.Abouts = b.Abouts ∧ a.Tuples = b.Tuples ∧ a.Numbers.length = b.Numbers.length) := by
    rw [← hP]
    simp only [Bool.or_eq_false_iff, bne_eq_false_iff_eq, Bool.not_eq_false', decide_eq_true_eq, hu1, hu2, Int.ofNat_inj, and_assoc]
  cases P with
  | true =>
    refine ⟨false, ?_, by rw [cond_true]⟩
    simp only [Bool.false_eq_true, false_iff]
    intro e
    subst e
    simp at hPf
  | false =>
    obtain ⟨q1, q2, q3, q4, q5, q6, q7, q8, q9, q10⟩ := hPf.1 rfl
    obtain ⟨v, hv, he⟩ := sameN_l0 (fun (_ : Unit) => some true) (fun r => some r) a b a.Numbers b.Numbers rfl rfl h3 a.Numbers b.Numbers [] [] (k - a.Numbers.length - 1) rfl rfl rfl q10
    rw [show k - a.Numbers.length - 1 + a.Numbers.length + 1 = k by omega] at he
    refine ⟨v, ?_, ?_⟩
    · rw [hv]
      constructor
      · intro h
        obtain ⟨a1, a2, a3, a4, a5, a6, a7, a8, a9, a10⟩ := a
        obtain ⟨b1, b2, b3, b4, b5, b6, b7, b8, b9, b10⟩ := b
        simp only at q1 q2 q3 q4 q5 q6 q7 q8 q9 h
        subst q1; subst q2; subst q3; subst q4; subst q5; subst q6; subst q7; subst q8; subst q9; subst h
        rfl
      · intro h; rw [h]
    · rw [cond_false]
      refine he.trans ?_
      cases v <;> rfl
theorem rep_small {s : SR} (h : okS s) : (rep s).Abouts.length < 1000 ∧ (rep s).Tuples.length < 1000 ∧ (rep s).Numbers.length < 1000 ∧ isB (rep s).Body := by
  have nb : isB [] := fun x hx => by cases hx
  cases s with
  | tmm K f l => refine ⟨Nat.zero_lt_succ 999, ?_, Nat.zero_lt_succ 999, nb⟩; show (l.map ST.t).length < 1000; rw [List.length_map]; have := h.2.2.1; omega
  | pli f a => exact ⟨Nat.zero_lt_succ 999, Nat.zero_lt_succ 999, Nat.zero_lt_succ 999, nb⟩
  | fir f l => refine ⟨?_, Nat.zero_lt_succ 999, ?_, nb⟩ <;> simp only [rep, List.length_map] <;> have := h.2.1.2 <;> omega
  | remb f e m l => refine ⟨?_, Nat.zero_lt_succ 999, Nat.zero_lt_succ 999, nb⟩; simp only [rep, List.length_map]; have := h.2.2.1; omega
  | other t c b => exact ⟨Nat.zero_lt_succ 999, Nat.zero_lt_succ 999, Nat.zero_lt_succ 999, h.2.2.2.2.1⟩
theorem sameS {k : Nat} (hk : 1000 ≤ k) {s t : SR} (hs : okS s) (ht : okS t) : ∃ v : Bool, (v = true ↔ rep s = rep t) ∧ p_limelightref6_Same k (rep s) (rep t) = some v :=
  sameR hk (rep s) (rep t) (rep_small hs).1 (rep_small hs).2.1 (rep_small hs).2.2.1 (rep_small hs).2.2.2 (rep_small ht).2.2.2
/-- Reports are told by their bytes. -/
theorem bytS_inj {s t : SR} (hs : okS s) (ht : okS t) (h : bytS s = bytS t) : rep s = rep t := by
  have h1 := one_ok (k := 100) (by decide) hs (b := bytS s) (suf := []) (List.append_nil _).symm (bytS_isB hs) (by rw [bytS_len]; have := bodyLen hs; omega)
  have h2 := one_ok (k := 100) (by decide) ht (b := bytS t) (suf := []) (List.append_nil _).symm (bytS_isB ht) (by rw [bytS_len]; have := bodyLen ht; omega)
  rw [h, h2] at h1
  simp only [Option.some.injEq, Prod.mk.injEq] at h1
  exact h1.1.symm
end Go.Ev
/- Equations, printed by tracer2.py. -/
namespace Go.Ev
open Go.Proofs
set_option linter.unusedVariables false
set_option maxRecDepth 100000
-- 20 limelight/limelightlaw6.known
theorem limelightlaw6_known_entry (rec : CallF) (loop : LoopV) (σ : Stamp)  (h : H) : cvBody G rec loop 20 σ [] h =
 (buildV Try.prog 33 [(0, (.p (.int .i64 3))), (1, (.p (.int .u32 1))), (2, (.p (.int .u32 2)))]).bind fun t1 =>
 (some (alO [.p (.int .i64 0), .p (.int .u32 0), .p (.int .u32 0), .p (.slice none 0 0), .p (.slice none 0 0), .p (.slice none 0 0), .p (.int .u64 0), .p (.int .i64 0), .p (.int .i64 0), .p (.slice none 0 0)] (1 :: 0 :: 1 :: 0 :: σ) 1 (List.replicate 105 [] :: h))).bind fun q2 =>
 ((stO false 10 (2 :: 0 :: 1 :: 0 :: σ) q2.2 q2.1 t1).map fun h => (udf, h)).bind fun q3 =>
 (ldO true 10 q3.2 q2.1).bind fun t4 =>
 (buildSliceV Try.prog 29 1 [(0, (.p (.int .u32 5)))]).bind fun t5 =>
 (buildV Try.prog 33 [(0, (.p (.int .i64 5))), (6, (.p (.int .u64 8000))), (4, t5)]).bind fun t6 =>
 (buildSliceV Try.prog 36 2 [(0, t4), (1, t6)]).bind fun t7 =>
 (callFO rec 24 (4 :: 0 :: 1 :: 1 :: 0 :: σ) [t7] q3.2 (some 18)).bind fun q8 =>
 (extV q8.1 0).bind fun t9 =>
 (extV q8.1 1).bind fun t10 =>
 (castI .i64 t10).bind fun n11 =>
 (callFO rec 25 (1 :: 0 :: 1 :: 1 :: 1 :: 0 :: σ) [t9] q8.2 (some 23)).bind fun q12 =>
 (extV q12.1 0).bind fun t13 =>
 (extV q12.1 1).bind fun t14 =>
 (castI .i64 t14).bind fun n15 =>
 (callFO rec 25 (0 :: 0 :: 1 :: 1 :: 1 :: 1 :: 0 :: σ) [(.p (.slice .none 0 0))] q12.2 (some 27)).bind fun q16 =>
 (extV q16.1 0).bind fun t17 =>
 (extV q16.1 1).bind fun t18 =>
 (castI .i64 t18).bind fun n19 =>
 (callFO rec 24 (0 :: 0 :: 1 :: 1 :: 1 :: 1 :: 1 :: 0 :: σ) [(.p (.slice .none 0 0))] q16.2 (some 31)).bind fun q20 =>
 (extV q20.1 0).bind fun t21 =>
 (extV q20.1 1).bind fun t22 =>
 (castI .i64 t22).bind fun n23 =>
 (buildSliceV Try.prog 31 4 [(0, (.p (.int .u8 161))), (1, (.p (.int .u8 206))), (2, (.p (.int .u8 0))), (3, (.p (.int .u8 0)))]).bind fun t24 =>
 (callFO rec 25 (1 :: 0 :: 1 :: 1 :: 1 :: 1 :: 1 :: 1 :: 0 :: σ) [t24] q20.2 (some 36)).bind fun q25 =>
 (extV q25.1 0).bind fun t26 =>
 (extV q25.1 1).bind fun t27 =>
 (castI .i64 t27).bind fun n28 =>
 (bif n11 == 0 then ((lenO t9).bind fun t29 =>
 (castI .i64 t29).bind fun n30 =>
 some (n30 == 36)) else (some false)).bind fun b31 =>
 (bif b31 then ((slS 1 t9 none (some 4) none).bind fun t32 =>
 (strO q25.2 t32).bind fun t33 =>
 (castS t33).bind fun s34 =>
 some (s34.toList == ((⟨#[129, 206, 0, 2]⟩ : ByteArray)).toList)) else (some false)).bind fun b35 =>
 (bif b35 then (some (n15 == 0)) else (some false)).bind fun b36 =>
 (bif b36 then ((lenO t13).bind fun t37 =>
 (castI .i64 t37).bind fun n38 =>
 some (n38 == 2)) else (some false)).bind fun b39 =>
 (bif b39 then ((iS 10 t13 0).bind fun t40 =>
 (ldO true 10 q25.2 t40).bind fun t41 =>
 (ldO true 10 q25.2 q2.1).bind fun t42 =>
 (callO rec 22 (27 :: 0 :: 1 :: 1 :: 1 :: 1 :: 1 :: 1 :: 1 :: 0 :: σ) [t41, t42] q25.2 (some 66)).bind fun q43 =>
 (asB q43.1).bind fun b44 =>
 some ((.p (.bool b44)), q43.2)) else (some ((.p (.bool false)), q25.2))).bind fun q45 =>
 (asB q45.1).bind fun b46 =>
 (bif b46 then ((iS 10 t13 1).bind fun t47 =>
 (fA t47 6).bind fun t48 =>
 (ldO false 1 q45.2 t48).bind fun t49 =>
 (castI .u64 t49).bind fun n50 =>
 some (n50 == 8000)) else (some false)).bind fun b51 =>
 (bif b51 then (some (n19 == 13)) else (some false)).bind fun b52 =>
 (bif b52 then (some (n23 == 1)) else (some false)).bind fun b53 =>
 (bif b53 then (some (n28 == 12)) else (some false)).bind fun b54 =>
 (bif b54 then ((callO rec 29 (50 :: 0 :: 1 :: 1 :: 1 :: 1 :: 1 :: 1 :: 1 :: 0 :: σ) [t9] q45.2 (some 89)).bind fun q55 =>
 (asB q55.1).bind fun b56 =>
 some ((.p (.bool b56)), q55.2)) else (some ((.p (.bool false)), q45.2))).bind fun q57 =>
 (asB q57.1).bind fun b58 =>
 (bif b58 then ((callO rec 29 (53 :: 0 :: 1 :: 1 :: 1 :: 1 :: 1 :: 1 :: 1 :: 0 :: σ) [(.p (.slice .none 0 0))] q57.2 (some 92)).bind fun q59 =>
 (asB q59.1).bind fun b60 =>
 some ((.p (.bool (!b60))), q59.2)) else (some ((.p (.bool false)), q57.2))).bind fun q61 =>
 (asB q61.1).bind fun b62 =>
 (bif b62 then ((buildSliceV Try.prog 31 2 [(0, (.p (.int .u8 128))), (1, (.p (.int .u8 96)))]).bind fun t63 =>
 (callO rec 29 (58 :: 0 :: 1 :: 1 :: 1 :: 1 :: 1 :: 1 :: 1 :: 0 :: σ) [t63] q61.2 (some 97)).bind fun q64 =>
 (asB q64.1).bind fun b65 =>
 some ((.p (.bool (!b65))), q64.2)) else (some ((.p (.bool false)), q61.2))).bind fun q66 =>
 (asB q66.1).bind fun b67 =>
 (bif b67 then ((buildV Try.prog 33 []).bind fun t68 =>
 (callO rec 28 (63 :: 0 :: 1 :: 1 :: 1 :: 1 :: 1 :: 1 :: 1 :: 0 :: σ) [t68] q66.2 (some 102)).bind fun q69 =>
 (castI .i64 q69.1).bind fun n70 =>
 some ((.p (.bool (n70 == 12))), q69.2)) else (some ((.p (.bool false)), q66.2))).bind fun q71 =>
 (asB q71.1).bind fun b72 =>
 fin false σ q71.2 [(.p (.bool b72))] := by kernel_rfl
end Go.Ev
/- Equations, printed by tracer2.py. -/
namespace Go.Ev
open Go.Proofs
set_option linter.unusedVariables false
set_option maxRecDepth 100000
-- 29 limelight/rtcp.Is
theorem rtcp_Is_entry (rec : CallF) (loop : LoopV) (σ : Stamp) (x0 : V) (h : H) : cvBody G rec loop 29 σ [x0] h =
 (lenO x0).bind fun t1 =>
 (castI .i64 t1).bind fun n2 =>
 (bif decide (n2 ≥ 2) then ((iS 1 x0 1).bind fun t3 =>
 (ldO false 1 (List.replicate 18 [] :: h) t3).bind fun t4 =>
 (castI .u8 t4).bind fun n5 =>
 some (decide (n5 ≥ 192))) else (some false)).bind fun b6 =>
 (bif b6 then ((iS 1 x0 1).bind fun t7 =>
 (ldO false 1 (List.replicate 18 [] :: h) t7).bind fun t8 =>
 (castI .u8 t8).bind fun n9 =>
 some (decide (n9 ≤ 223))) else (some false)).bind fun b10 =>
 fin false σ (List.replicate 18 [] :: h) [(.p (.bool b10))] := by kernel_rfl
end Go.Ev
/- Lifted by lift.py: rtcp_Is as a plain function. -/
namespace Go.Ev
open Go.Proofs
set_option linter.unusedVariables false
set_option linter.unusedSimpArgs false
set_option maxRecDepth 100000
def p_rtcp_Is (x0 : (List Int)) : Option (Bool) :=
(bif decide (((x0.length : Int)) ≥ 2) then ((ix x0 1).bind fun a1 =>
some (decide (a1 ≥ 192))) else (some false)).bind fun b4 =>
(bif b4 then ((ix x0 1).bind fun a8 =>
some (decide (a8 ≤ 223))) else (some false)).bind fun b11 =>
some (b11)
theorem rtcp_Is_ok {h : H} {σ : Stamp} (x0 : List Int) {u0 : V} (hu0 : SlH h (dI .u8) x0 u0) : Sim (p_rtcp_Is x0) (ev G X0 29 σ [u0] h) (fun r s => s = ([.v (.p (.bool r))], h)) := by
  refine Sim.ev rfl (Sim.ext (rtcp_Is_entry _ _ _ _ _) ?_)
  rw [p_rtcp_Is]
  have S0 : Fm 18 h [] [] [] (List.replicate 18 [] :: h) := Fm.start0
  refine Sim.op ((S0.low hu0).len) ?_
  refine Sim.op (castI_p _ _) ?_
  refine Sim.ch (P := fun r y => r = y) ?_ (fun b4 y5 h6 h7 => ?_)
  · refine Sim.cd (fun hc => ?_) (fun hc => ?_)
    · refine Sim.bd fun a1 h2 => ?_
      refine Sim.op ((S0.low hu0).iS h2 rfl) ?_
      obtain ⟨_, rfl, hE3⟩ := (S0.low hu0).el h2 rfl
      refine Sim.op (hE3.ld (j := 0) rfl) ?_
      refine Sim.op (castI_p _ _) ?_
      exact Sim.ret rfl rfl
    · exact Sim.ret rfl rfl
  subst h7
  refine Sim.ch (P := fun r y => r = y) ?_ (fun b11 y12 h13 h14 => ?_)
  · refine Sim.cd (fun hc => ?_) (fun hc => ?_)
    · refine Sim.bd fun a8 h9 => ?_
      refine Sim.op ((S0.low hu0).iS h9 rfl) ?_
      obtain ⟨_, rfl, hE10⟩ := (S0.low hu0).el h9 rfl
      refine Sim.op (hE10.ld (j := 0) rfl) ?_
      refine Sim.op (castI_p _ _) ?_
      exact Sim.ret rfl rfl
    · exact Sim.ret rfl rfl
  subst h14
  exact Sim.fin (S0.finN (lv_cons (still_bool _).lv lv_nil)) rfl
end Go.Ev
/- Equations, printed by tracer2.py. -/
namespace Go.Ev
open Go.Proofs
set_option linter.unusedVariables false
set_option maxRecDepth 100000
-- 22 limelight/rtcp.Same
theorem rtcp_Same_entry (rec : CallF) (loop : LoopV) (σ : Stamp) (x0 : V) (x1 : V) (h : H) : cvBody G rec loop 22 σ [x0, x1] h =
 (boxO false (0 :: 0 :: 0 :: σ) 2 (List.replicate 73 [] :: h) x0).bind fun q1 =>
 (boxO false (1 :: 0 :: 0 :: σ) 3 q1.2 x1).bind fun q2 =>
 (fA q1.1 0).bind fun t3 =>
 (ldO false 1 q2.2 t3).bind fun t4 =>
 (castI .i64 t4).bind fun n5 =>
 (fA q2.1 0).bind fun t6 =>
 (ldO false 1 q2.2 t6).bind fun t7 =>
 (castI .i64 t7).bind fun n8 =>
 (bif n5 == n8 then ((fA q1.1 1).bind fun t9 =>
 (ldO false 1 q2.2 t9).bind fun t10 =>
 (castI .u32 t10).bind fun n11 =>
 (fA q2.1 1).bind fun t12 =>
 (ldO false 1 q2.2 t12).bind fun t13 =>
 (castI .u32 t13).bind fun n14 =>
 some (n11 == n14)) else (some false)).bind fun b15 =>
 (bif b15 then ((fA q1.1 2).bind fun t16 =>
 (ldO false 1 q2.2 t16).bind fun t17 =>
 (castI .u32 t17).bind fun n18 =>
 (fA q2.1 2).bind fun t19 =>
 (ldO false 1 q2.2 t19).bind fun t20 =>
 (castI .u32 t20).bind fun n21 =>
 some (n18 == n21)) else (some false)).bind fun b22 =>
 (bif b22 then ((fA q1.1 3).bind fun t23 =>
 (ldO false 1 q2.2 t23).bind fun t24 =>
 (fA q2.1 3).bind fun t25 =>
 (ldO false 1 q2.2 t25).bind fun t26 =>
 (callO rec 51 (24 :: 0 :: 1 :: 0 :: σ) [t24, t26] q2.2 (some 29)).bind fun q27 =>
 (asB q27.1).bind fun b28 =>
 some ((.p (.bool b28)), q27.2)) else (some ((.p (.bool false)), q2.2))).bind fun q29 =>
 (asB q29.1).bind fun b30 =>
 (bif b30 then ((fA q1.1 4).bind fun t31 =>
 (ldO false 1 q29.2 t31).bind fun t32 =>
 (fA q2.1 4).bind fun t33 =>
 (ldO false 1 q29.2 t33).bind fun t34 =>
 (callO rec 52 (31 :: 0 :: 1 :: 0 :: σ) [t32, t34] q29.2 (some 36)).bind fun q35 =>
 (asB q35.1).bind fun b36 =>
 some ((.p (.bool b36)), q35.2)) else (some ((.p (.bool false)), q29.2))).bind fun q37 =>
 (asB q37.1).bind fun b38 =>
 (bif b38 then ((fA q1.1 5).bind fun t39 =>
 (ldO false 1 q37.2 t39).bind fun t40 =>
 (fA q2.1 5).bind fun t41 =>
 (ldO false 1 q37.2 t41).bind fun t42 =>
 (callO rec 53 (38 :: 0 :: 1 :: 0 :: σ) [t40, t42] q37.2 (some 43)).bind fun q43 =>
 (asB q43.1).bind fun b44 =>
 some ((.p (.bool b44)), q43.2)) else (some ((.p (.bool false)), q37.2))).bind fun q45 =>
 (asB q45.1).bind fun b46 =>
 (bif b46 then ((fA q1.1 6).bind fun t47 =>
 (ldO false 1 q45.2 t47).bind fun t48 =>
 (castI .u64 t48).bind fun n49 =>
 (fA q2.1 6).bind fun t50 =>
 (ldO false 1 q45.2 t50).bind fun t51 =>
 (castI .u64 t51).bind fun n52 =>
 some (n49 == n52)) else (some false)).bind fun b53 =>
 (bif b53 then ((fA q1.1 7).bind fun t54 =>
 (ldO false 1 q45.2 t54).bind fun t55 =>
 (castI .i64 t55).bind fun n56 =>
 (fA q2.1 7).bind fun t57 =>
 (ldO false 1 q45.2 t57).bind fun t58 =>
 (castI .i64 t58).bind fun n59 =>
 some (n56 == n59)) else (some false)).bind fun b60 =>
 (bif b60 then ((fA q1.1 8).bind fun t61 =>
 (ldO false 1 q45.2 t61).bind fun t62 =>
 (castI .i64 t62).bind fun n63 =>
 (fA q2.1 8).bind fun t64 =>
 (ldO false 1 q45.2 t64).bind fun t65 =>
 (castI .i64 t65).bind fun n66 =>
 some (n63 == n66)) else (some false)).bind fun b67 =>
 (bif b67 then ((fA q1.1 9).bind fun t68 =>
 (ldO false 1 q45.2 t68).bind fun t69 =>
 (fA q2.1 9).bind fun t70 =>
 (ldO false 1 q45.2 t70).bind fun t71 =>
 (callO rec 54 (66 :: 0 :: 1 :: 0 :: σ) [t69, t71] q45.2 (some 71)).bind fun q72 =>
 (asB q72.1).bind fun b73 =>
 some ((.p (.bool b73)), q72.2)) else (some ((.p (.bool false)), q45.2))).bind fun q74 =>
 (asB q74.1).bind fun b75 =>
 fin false σ q74.2 [(.p (.bool b75))] := by kernel_rfl
end Go.Ev
/- Equations, printed by tracer2.py. -/
namespace Go.Ev
open Go.Proofs
set_option linter.unusedVariables false
set_option maxRecDepth 100000
-- 51 slices.Equal[[]limelight/api.Tuple,limelight/api.Tuple]
noncomputable def slices_Equal_Lapi_Tuple_api_Tuple_c0 : Code := (codeAt (bodyOf Try.f51) [1, 1, 0, 1, 0, 0])
def slices_Equal_Lapi_Tuple_api_Tuple_l0 : Lv := ⟨0, 16, [(0, 0)]⟩
noncomputable def slices_Equal_Lapi_Tuple_api_Tuple_k0 (rec : CallF) (loop : LoopV) (σ : Stamp) : Exit → Env → H → Option (List C × H) := (kBlock 0 (kSeq G rec loop (codeAt (bodyOf Try.f51) [1, 1, 1]) ⟨16, 16, []⟩ (1 :: 1 :: 0 :: σ) (finC G false Try.f51 (1 :: σ))))
theorem slices_Equal_Lapi_Tuple_api_Tuple_entry (rec : CallF) (loop : LoopV) (σ : Stamp) (x0 : V) (x1 : V) (h : H) : cvBody G rec loop 51 σ [x0, x1] h =
 (lenO x0).bind fun t1 =>
 (castI .i64 t1).bind fun n2 =>
 (lenO x1).bind fun t3 =>
 (castI .i64 t3).bind fun n4 =>
 bif n2 != n4 then (
 fin false σ (List.replicate 26 [] :: h) [(.p (.bool false))])
 else (
 (lenO x0).bind fun t5 =>
 (castI .i64 t5).bind fun n6 =>
 (loop slices_Equal_Lapi_Tuple_api_Tuple_c0 slices_Equal_Lapi_Tuple_api_Tuple_l0 (1 :: 0 :: 1 :: 1 :: 0 :: σ) (envL [(0, x0), (1, x1), (12, (.p (.int .i64 n6))), (13, (.p (.int .i64 0)))]) (List.replicate 26 [] :: h)).bind fun r7 => slices_Equal_Lapi_Tuple_api_Tuple_k0 rec loop σ r7.1 r7.2.1 r7.2.2) := by kernel_rfl
theorem slices_Equal_Lapi_Tuple_api_Tuple_r0 (rec : CallF) (loop : LoopV) (σ : Stamp) (x0 : V) (x1 : V) (x12 : Int) (x13 : Int) (h : H) : cvRound G rec loop slices_Equal_Lapi_Tuple_api_Tuple_c0 slices_Equal_Lapi_Tuple_api_Tuple_l0 σ (envL [(0, x0), (1, x1), (12, (.p (.int .i64 x12))), (13, (.p (.int .i64 x13)))]) h =
 bif decide (x13 < x12) then (
 (iS 3 x0 x13).bind fun t8 =>
 (ldO true 3 h t8).bind fun t9 =>
 (iS 3 x1 x13).bind fun t10 =>
 (ldO true 3 h t10).bind fun t11 =>
 (binV Try.prog h .neq 57 t9 t11).bind fun t12 =>
 (asB t12).bind fun b13 =>
 bif b13 then (
 some (.ret, (envL [(4, (.p (.bool false)))]), h))
 else (
 loop slices_Equal_Lapi_Tuple_api_Tuple_c0 slices_Equal_Lapi_Tuple_api_Tuple_l0 (1 :: σ) (envL [(0, x0), (1, x1), (12, (.p (.int .i64 x12))), (13, (.p (.int .i64 (IntKind.wrap .i64 (x13 + 1)))))]) h))
 else (
 some ((.exit 0), (envL []), h)) := by kernel_rfl
theorem slices_Equal_Lapi_Tuple_api_Tuple_a0_0 (rec : CallF) (loop : LoopV) (σ : Stamp)  (h : H) : slices_Equal_Lapi_Tuple_api_Tuple_k0 rec loop σ (.exit 0) (envL []) h =
 fin false σ h [(.p (.bool true))] := by kernel_rfl
theorem slices_Equal_Lapi_Tuple_api_Tuple_a0_ret (rec : CallF) (loop : LoopV) (σ : Stamp) (x4 : Bool) (h : H) : slices_Equal_Lapi_Tuple_api_Tuple_k0 rec loop σ .ret (envL [(4, (.p (.bool x4)))]) h =
 fin false σ h [(.p (.bool x4))] := by kernel_rfl
end Go.Ev
/- Lifted by lift.py: slices_Equal_Lapi_Tuple_api_Tuple as a plain function. -/
namespace Go.Ev
open Go.Proofs
set_option linter.unusedVariables false
set_option linter.unusedSimpArgs false
set_option maxRecDepth 100000
def p_slices_Equal_Lapi_Tuple_api_Tuple_l0 {β : Type} (k : Nat) (kE0 : Unit → Option β) (kE1 : Bool → Option β) (x0 : (List T_api_Tuple)) (x1 : (List T_api_Tuple)) (x12 : Int) (x13 : Int) : Option β := match k with
| 0 => none
| k + 1 =>
bif decide (x13 < x12) then (
(ix x0 x13).bind fun a9 =>
(ix x1 x13).bind fun a14 =>
bif !(andB [a9.Owner == a14.Owner, a9.Rate == a14.Rate, a9.Over == a14.Over]) then (
kE1 false)
else (
p_slices_Equal_Lapi_Tuple_api_Tuple_l0 k kE0 kE1 x0 x1 x12 (IntKind.wrap .i64 (x13 + 1))))
else (
kE0 ())
def p_slices_Equal_Lapi_Tuple_api_Tuple (k : Nat) (x0 : (List T_api_Tuple)) (x1 : (List T_api_Tuple)) : Option (Bool) :=
bif ((x0.length : Int)) != ((x1.length : Int)) then (
some (false))
else (
p_slices_Equal_Lapi_Tuple_api_Tuple_l0 k (fun (_ : Unit) =>
some (true)) (fun r27_4 =>
some (r27_4)) x0 x1 ((x0.length : Int)) 0)
theorem slices_Equal_Lapi_Tuple_api_Tuple_l0_ok {h : H}  {β α : Type} {Q : β → α → Prop} {K : Exit × Env × H → Option α} {kE0 : Unit → Option β} {kE1 : Bool → Option β} (hE0 : ∀ (_u : Unit) (H20 : Go.Ev.H) (_ : Fm 26 h [] [] [] H20), Sim (kE0 ()) (K ((.exit 0), (envL []), H20)) Q) (hE1 : ∀ (q4 : Bool) (H22 : Go.Ev.H) (_ : Fm 26 h [] [] [] H22), Sim (kE1 q4) (K (.ret, (envL [(4, (.p (.bool q4)))]), H22)) Q) (k : Nat) : ∀ (x0 : (List T_api_Tuple)) (x1 : (List T_api_Tuple)) (x12 : Int) (x13 : Int) (v4 : V) (h5 : SlH h dT_api_Tuple x0 v4) (v6 : V) (h7 : SlH h dT_api_Tuple x1 v6) (H2 : Go.Ev.H) (_ : Fm 26 h [] [] [] H2) {σ : Stamp}, Sim (p_slices_Equal_Lapi_Tuple_api_Tuple_l0 k kE0 kE1 x0 x1 x12 x13) ((cvL G X0 slices_Equal_Lapi_Tuple_api_Tuple_c0 slices_Equal_Lapi_Tuple_api_Tuple_l0 σ (envL [(0, v4), (1, v6), (12, (.p (.int .i64 x12))), (13, (.p (.int .i64 x13)))]) H2).bind K) Q := by
  induction k with
  | zero => intros; exact Sim.no
  | succ k ih =>
    intro x0 x1 x12 x13 v4 h5 v6 h7 H2 S3 σ
    rw [p_slices_Equal_Lapi_Tuple_api_Tuple_l0]
    refine Sim.round (Sim.ext (slices_Equal_Lapi_Tuple_api_Tuple_r0 _ _ _ _ _ _ _ _) ?_)
    refine Sim.cd (fun hc8 => ?_) (fun hc8 => ?_)
    · refine Sim.bd fun a9 h10 => ?_
      refine Sim.op ((S3.low h5).iS h10 rfl) ?_
      obtain ⟨w12, h13, hE11⟩ := (S3.low h5).el h10 rfl
      obtain rfl := dT_api_Tuple.inv h13
      refine Sim.op (hE11.all (by simp)) ?_
      refine Sim.bd fun a14 h15 => ?_
      refine Sim.op ((S3.low h7).iS h15 rfl) ?_
      obtain ⟨w17, h18, hE16⟩ := (S3.low h7).el h15 rfl
      obtain rfl := dT_api_Tuple.inv h18
      refine Sim.op (hE16.all (by simp)) ?_
      refine Sim.op (nqS_ok (by kernel_rfl : _ = andL [a9.Owner == a14.Owner, a9.Rate == a14.Rate, a9.Over == a14.Over])) ?_
      refine Sim.op (asB_p _) ?_
      refine Sim.cd (fun hc19 => ?_) (fun hc19 => ?_)
      · exact hE1 false H2 (S3.wk2 all_nil all_nil)
      exact ih x0 x1 x12 (IntKind.wrap .i64 (x13 + 1)) v4 h5 v6 h7 H2 (S3.wk2 all_nil all_nil)
    exact hE0 () H2 (S3.wk2 all_nil all_nil)
theorem slices_Equal_Lapi_Tuple_api_Tuple_ok (k : Nat) {h : H} {σ : Stamp} (x0 : List T_api_Tuple) {u0 : V} (hu0 : SlH h dT_api_Tuple x0 u0) (x1 : List T_api_Tuple) {u1 : V} (hu1 : SlH h dT_api_Tuple x1 u1) : Sim (p_slices_Equal_Lapi_Tuple_api_Tuple k x0 x1) (ev G X0 51 σ [u0, u1] h) (fun r s => s = ([.v (.p (.bool r))], h)) := by
  refine Sim.ev rfl (Sim.ext (slices_Equal_Lapi_Tuple_api_Tuple_entry _ _ _ _ _ _) ?_)
  rw [p_slices_Equal_Lapi_Tuple_api_Tuple]
  have S0 : Fm 26 h [] [] [] (List.replicate 26 [] :: h) := Fm.start0
  refine Sim.op ((S0.low hu0).len) ?_
  refine Sim.op (castI_p _ _) ?_
  refine Sim.op ((S0.low hu1).len) ?_
  refine Sim.op (castI_p _ _) ?_
  refine Sim.cd (fun hc1 => ?_) (fun hc1 => ?_)
  · exact Sim.fin (S0.finN (lv_cons (still_bool _).lv lv_nil)) rfl
  refine Sim.op ((S0.low hu0).len) ?_
  refine Sim.op (castI_p _ _) ?_
  refine Sim.as (slices_Equal_Lapi_Tuple_api_Tuple_l0_ok ?_ ?_ k x0 x1 ((x0.length : Int)) 0 u0 hu0 u1 hu1 (List.replicate 26 [] :: h) (S0.wk2 all_nil all_nil)) 
  · intro _u H25 S26
    refine Sim.ext (slices_Equal_Lapi_Tuple_api_Tuple_a0_0 _ _ _ _) ?_
    exact Sim.fin (S26.finN (lv_cons (still_bool _).lv lv_nil)) rfl
  · intro r27_4 H28 S29
    refine Sim.ext (slices_Equal_Lapi_Tuple_api_Tuple_a0_ret _ _ _ _ _) ?_
    exact Sim.fin (S29.finN (lv_cons (still_bool _).lv lv_nil)) rfl
end Go.Ev
/- Equations, printed by tracer2.py. -/
namespace Go.Ev
open Go.Proofs
set_option linter.unusedVariables false
set_option maxRecDepth 100000
-- 54 slices.Equal[[]byte,byte]
noncomputable def slices_Equal_Lbyte_byte_c0 : Code := (codeAt (bodyOf Try.f54) [1, 1, 0, 1, 0, 0])
def slices_Equal_Lbyte_byte_l0 : Lv := ⟨0, 16, [(0, 0)]⟩
noncomputable def slices_Equal_Lbyte_byte_k0 (rec : CallF) (loop : LoopV) (σ : Stamp) : Exit → Env → H → Option (List C × H) := (kBlock 0 (kSeq G rec loop (codeAt (bodyOf Try.f54) [1, 1, 1]) ⟨16, 16, []⟩ (1 :: 1 :: 0 :: σ) (finC G false Try.f54 (1 :: σ))))
theorem slices_Equal_Lbyte_byte_entry (rec : CallF) (loop : LoopV) (σ : Stamp) (x0 : V) (x1 : V) (h : H) : cvBody G rec loop 54 σ [x0, x1] h =
 (lenO x0).bind fun t1 =>
 (castI .i64 t1).bind fun n2 =>
 (lenO x1).bind fun t3 =>
 (castI .i64 t3).bind fun n4 =>
 bif n2 != n4 then (
 fin false σ (List.replicate 26 [] :: h) [(.p (.bool false))])
 else (
 (lenO x0).bind fun t5 =>
 (castI .i64 t5).bind fun n6 =>
 (loop slices_Equal_Lbyte_byte_c0 slices_Equal_Lbyte_byte_l0 (1 :: 0 :: 1 :: 1 :: 0 :: σ) (envL [(0, x0), (1, x1), (12, (.p (.int .i64 n6))), (13, (.p (.int .i64 0)))]) (List.replicate 26 [] :: h)).bind fun r7 => slices_Equal_Lbyte_byte_k0 rec loop σ r7.1 r7.2.1 r7.2.2) := by kernel_rfl
theorem slices_Equal_Lbyte_byte_r0 (rec : CallF) (loop : LoopV) (σ : Stamp) (x0 : V) (x1 : V) (x12 : Int) (x13 : Int) (h : H) : cvRound G rec loop slices_Equal_Lbyte_byte_c0 slices_Equal_Lbyte_byte_l0 σ (envL [(0, x0), (1, x1), (12, (.p (.int .i64 x12))), (13, (.p (.int .i64 x13)))]) h =
 bif decide (x13 < x12) then (
 (iS 1 x0 x13).bind fun t8 =>
 (ldO false 1 h t8).bind fun t9 =>
 (castI .u8 t9).bind fun n10 =>
 (iS 1 x1 x13).bind fun t11 =>
 (ldO false 1 h t11).bind fun t12 =>
 (castI .u8 t12).bind fun n13 =>
 bif n10 != n13 then (
 some (.ret, (envL [(4, (.p (.bool false)))]), h))
 else (
 loop slices_Equal_Lbyte_byte_c0 slices_Equal_Lbyte_byte_l0 (1 :: σ) (envL [(0, x0), (1, x1), (12, (.p (.int .i64 x12))), (13, (.p (.int .i64 (IntKind.wrap .i64 (x13 + 1)))))]) h))
 else (
 some ((.exit 0), (envL []), h)) := by kernel_rfl
theorem slices_Equal_Lbyte_byte_a0_0 (rec : CallF) (loop : LoopV) (σ : Stamp)  (h : H) : slices_Equal_Lbyte_byte_k0 rec loop σ (.exit 0) (envL []) h =
 fin false σ h [(.p (.bool true))] := by kernel_rfl
theorem slices_Equal_Lbyte_byte_a0_ret (rec : CallF) (loop : LoopV) (σ : Stamp) (x4 : Bool) (h : H) : slices_Equal_Lbyte_byte_k0 rec loop σ .ret (envL [(4, (.p (.bool x4)))]) h =
 fin false σ h [(.p (.bool x4))] := by kernel_rfl
end Go.Ev
/- Lifted by lift.py: slices_Equal_Lbyte_byte as a plain function. -/
namespace Go.Ev
open Go.Proofs
set_option linter.unusedVariables false
set_option linter.unusedSimpArgs false
set_option maxRecDepth 100000
def p_slices_Equal_Lbyte_byte_l0 {β : Type} (k : Nat) (kE0 : Unit → Option β) (kE1 : Bool → Option β) (x0 : (List Int)) (x1 : (List Int)) (x12 : Int) (x13 : Int) : Option β := match k with
| 0 => none
| k + 1 =>
bif decide (x13 < x12) then (
(ix x0 x13).bind fun a9 =>
(ix x1 x13).bind fun a12 =>
bif a9 != a12 then (
kE1 false)
else (
p_slices_Equal_Lbyte_byte_l0 k kE0 kE1 x0 x1 x12 (IntKind.wrap .i64 (x13 + 1))))
else (
kE0 ())
def p_slices_Equal_Lbyte_byte (k : Nat) (x0 : (List Int)) (x1 : (List Int)) : Option (Bool) :=
bif ((x0.length : Int)) != ((x1.length : Int)) then (
some (false))
else (
p_slices_Equal_Lbyte_byte_l0 k (fun (_ : Unit) =>
some (true)) (fun r23_4 =>
some (r23_4)) x0 x1 ((x0.length : Int)) 0)
theorem slices_Equal_Lbyte_byte_l0_ok {h : H}  {β α : Type} {Q : β → α → Prop} {K : Exit × Env × H → Option α} {kE0 : Unit → Option β} {kE1 : Bool → Option β} (hE0 : ∀ (_u : Unit) (H16 : Go.Ev.H) (_ : Fm 26 h [] [] [] H16), Sim (kE0 ()) (K ((.exit 0), (envL []), H16)) Q) (hE1 : ∀ (q4 : Bool) (H18 : Go.Ev.H) (_ : Fm 26 h [] [] [] H18), Sim (kE1 q4) (K (.ret, (envL [(4, (.p (.bool q4)))]), H18)) Q) (k : Nat) : ∀ (x0 : (List Int)) (x1 : (List Int)) (x12 : Int) (x13 : Int) (v4 : V) (h5 : SlH h (dI .u8) x0 v4) (v6 : V) (h7 : SlH h (dI .u8) x1 v6) (H2 : Go.Ev.H) (_ : Fm 26 h [] [] [] H2) {σ : Stamp}, Sim (p_slices_Equal_Lbyte_byte_l0 k kE0 kE1 x0 x1 x12 x13) ((cvL G X0 slices_Equal_Lbyte_byte_c0 slices_Equal_Lbyte_byte_l0 σ (envL [(0, v4), (1, v6), (12, (.p (.int .i64 x12))), (13, (.p (.int .i64 x13)))]) H2).bind K) Q := by
  induction k with
  | zero => intros; exact Sim.no
  | succ k ih =>
    intro x0 x1 x12 x13 v4 h5 v6 h7 H2 S3 σ
    rw [p_slices_Equal_Lbyte_byte_l0]
    refine Sim.round (Sim.ext (slices_Equal_Lbyte_byte_r0 _ _ _ _ _ _ _ _) ?_)
    refine Sim.cd (fun hc8 => ?_) (fun hc8 => ?_)
    · refine Sim.bd fun a9 h10 => ?_
      refine Sim.op ((S3.low h5).iS h10 rfl) ?_
      obtain ⟨_, rfl, hE11⟩ := (S3.low h5).el h10 rfl
      refine Sim.op (hE11.ld (j := 0) rfl) ?_
      refine Sim.op (castI_p _ _) ?_
      refine Sim.bd fun a12 h13 => ?_
      refine Sim.op ((S3.low h7).iS h13 rfl) ?_
      obtain ⟨_, rfl, hE14⟩ := (S3.low h7).el h13 rfl
      refine Sim.op (hE14.ld (j := 0) rfl) ?_
      refine Sim.op (castI_p _ _) ?_
      refine Sim.cd (fun hc15 => ?_) (fun hc15 => ?_)
      · exact hE1 false H2 (S3.wk2 all_nil all_nil)
      exact ih x0 x1 x12 (IntKind.wrap .i64 (x13 + 1)) v4 h5 v6 h7 H2 (S3.wk2 all_nil all_nil)
    exact hE0 () H2 (S3.wk2 all_nil all_nil)
theorem slices_Equal_Lbyte_byte_ok (k : Nat) {h : H} {σ : Stamp} (x0 : List Int) {u0 : V} (hu0 : SlH h (dI .u8) x0 u0) (x1 : List Int) {u1 : V} (hu1 : SlH h (dI .u8) x1 u1) : Sim (p_slices_Equal_Lbyte_byte k x0 x1) (ev G X0 54 σ [u0, u1] h) (fun r s => s = ([.v (.p (.bool r))], h)) := by
  refine Sim.ev rfl (Sim.ext (slices_Equal_Lbyte_byte_entry _ _ _ _ _ _) ?_)
  rw [p_slices_Equal_Lbyte_byte]
  have S0 : Fm 26 h [] [] [] (List.replicate 26 [] :: h) := Fm.start0
  refine Sim.op ((S0.low hu0).len) ?_
  refine Sim.op (castI_p _ _) ?_
  refine Sim.op ((S0.low hu1).len) ?_
  refine Sim.op (castI_p _ _) ?_
  refine Sim.cd (fun hc1 => ?_) (fun hc1 => ?_)
  · exact Sim.fin (S0.finN (lv_cons (still_bool _).lv lv_nil)) rfl
  refine Sim.op ((S0.low hu0).len) ?_
  refine Sim.op (castI_p _ _) ?_
  refine Sim.as (slices_Equal_Lbyte_byte_l0_ok ?_ ?_ k x0 x1 ((x0.length : Int)) 0 u0 hu0 u1 hu1 (List.replicate 26 [] :: h) (S0.wk2 all_nil all_nil)) 
  · intro _u H21 S22
    refine Sim.ext (slices_Equal_Lbyte_byte_a0_0 _ _ _ _) ?_
    exact Sim.fin (S22.finN (lv_cons (still_bool _).lv lv_nil)) rfl
  · intro r23_4 H24 S25
    refine Sim.ext (slices_Equal_Lbyte_byte_a0_ret _ _ _ _ _) ?_
    exact Sim.fin (S25.finN (lv_cons (still_bool _).lv lv_nil)) rfl
end Go.Ev
/- Equations, printed by tracer2.py. -/
namespace Go.Ev
open Go.Proofs
set_option linter.unusedVariables false
set_option maxRecDepth 100000
-- 53 slices.Equal[[]int,int]
noncomputable def slices_Equal_Lint_int_c0 : Code := (codeAt (bodyOf Try.f53) [1, 1, 0, 1, 0, 0])
def slices_Equal_Lint_int_l0 : Lv := ⟨0, 16, [(0, 0)]⟩
noncomputable def slices_Equal_Lint_int_k0 (rec : CallF) (loop : LoopV) (σ : Stamp) : Exit → Env → H → Option (List C × H) := (kBlock 0 (kSeq G rec loop (codeAt (bodyOf Try.f53) [1, 1, 1]) ⟨16, 16, []⟩ (1 :: 1 :: 0 :: σ) (finC G false Try.f53 (1 :: σ))))
theorem slices_Equal_Lint_int_entry (rec : CallF) (loop : LoopV) (σ : Stamp) (x0 : V) (x1 : V) (h : H) : cvBody G rec loop 53 σ [x0, x1] h =
 (lenO x0).bind fun t1 =>
 (castI .i64 t1).bind fun n2 =>
 (lenO x1).bind fun t3 =>
 (castI .i64 t3).bind fun n4 =>
 bif n2 != n4 then (
 fin false σ (List.replicate 26 [] :: h) [(.p (.bool false))])
 else (
 (lenO x0).bind fun t5 =>
 (castI .i64 t5).bind fun n6 =>
 (loop slices_Equal_Lint_int_c0 slices_Equal_Lint_int_l0 (1 :: 0 :: 1 :: 1 :: 0 :: σ) (envL [(0, x0), (1, x1), (12, (.p (.int .i64 n6))), (13, (.p (.int .i64 0)))]) (List.replicate 26 [] :: h)).bind fun r7 => slices_Equal_Lint_int_k0 rec loop σ r7.1 r7.2.1 r7.2.2) := by kernel_rfl
theorem slices_Equal_Lint_int_r0 (rec : CallF) (loop : LoopV) (σ : Stamp) (x0 : V) (x1 : V) (x12 : Int) (x13 : Int) (h : H) : cvRound G rec loop slices_Equal_Lint_int_c0 slices_Equal_Lint_int_l0 σ (envL [(0, x0), (1, x1), (12, (.p (.int .i64 x12))), (13, (.p (.int .i64 x13)))]) h =
 bif decide (x13 < x12) then (
 (iS 1 x0 x13).bind fun t8 =>
 (ldO false 1 h t8).bind fun t9 =>
 (castI .i64 t9).bind fun n10 =>
 (iS 1 x1 x13).bind fun t11 =>
 (ldO false 1 h t11).bind fun t12 =>
 (castI .i64 t12).bind fun n13 =>
 bif n10 != n13 then (
 some (.ret, (envL [(4, (.p (.bool false)))]), h))
 else (
 loop slices_Equal_Lint_int_c0 slices_Equal_Lint_int_l0 (1 :: σ) (envL [(0, x0), (1, x1), (12, (.p (.int .i64 x12))), (13, (.p (.int .i64 (IntKind.wrap .i64 (x13 + 1)))))]) h))
 else (
 some ((.exit 0), (envL []), h)) := by kernel_rfl
theorem slices_Equal_Lint_int_a0_0 (rec : CallF) (loop : LoopV) (σ : Stamp)  (h : H) : slices_Equal_Lint_int_k0 rec loop σ (.exit 0) (envL []) h =
 fin false σ h [(.p (.bool true))] := by kernel_rfl
theorem slices_Equal_Lint_int_a0_ret (rec : CallF) (loop : LoopV) (σ : Stamp) (x4 : Bool) (h : H) : slices_Equal_Lint_int_k0 rec loop σ .ret (envL [(4, (.p (.bool x4)))]) h =
 fin false σ h [(.p (.bool x4))] := by kernel_rfl
end Go.Ev
/- Lifted by lift.py: slices_Equal_Lint_int as a plain function. -/
namespace Go.Ev
open Go.Proofs
set_option linter.unusedVariables false
set_option linter.unusedSimpArgs false
set_option maxRecDepth 100000
def p_slices_Equal_Lint_int_l0 {β : Type} (k : Nat) (kE0 : Unit → Option β) (kE1 : Bool → Option β) (x0 : (List Int)) (x1 : (List Int)) (x12 : Int) (x13 : Int) : Option β := match k with
| 0 => none
| k + 1 =>
bif decide (x13 < x12) then (
(ix x0 x13).bind fun a9 =>
(ix x1 x13).bind fun a12 =>
bif a9 != a12 then (
kE1 false)
else (
p_slices_Equal_Lint_int_l0 k kE0 kE1 x0 x1 x12 (IntKind.wrap .i64 (x13 + 1))))
else (
kE0 ())
def p_slices_Equal_Lint_int (k : Nat) (x0 : (List Int)) (x1 : (List Int)) : Option (Bool) :=
bif ((x0.length : Int)) != ((x1.length : Int)) then (
some (false))
else (
p_slices_Equal_Lint_int_l0 k (fun (_ : Unit) =>
some (true)) (fun r23_4 =>
some (r23_4)) x0 x1 ((x0.length : Int)) 0)
theorem slices_Equal_Lint_int_l0_ok {h : H}  {β α : Type} {Q : β → α → Prop} {K : Exit × Env × H → Option α} {kE0 : Unit → Option β} {kE1 : Bool → Option β} (hE0 : ∀ (_u : Unit) (H16 : Go.Ev.H) (_ : Fm 26 h [] [] [] H16), Sim (kE0 ()) (K ((.exit 0), (envL []), H16)) Q) (hE1 : ∀ (q4 : Bool) (H18 : Go.Ev.H) (_ : Fm 26 h [] [] [] H18), Sim (kE1 q4) (K (.ret, (envL [(4, (.p (.bool q4)))]), H18)) Q) (k : Nat) : ∀ (x0 : (List Int)) (x1 : (List Int)) (x12 : Int) (x13 : Int) (v4 : V) (h5 : SlH h (dI .i64) x0 v4) (v6 : V) (h7 : SlH h (dI .i64) x1 v6) (H2 : Go.Ev.H) (_ : Fm 26 h [] [] [] H2) {σ : Stamp}, Sim (p_slices_Equal_Lint_int_l0 k kE0 kE1 x0 x1 x12 x13) ((cvL G X0 slices_Equal_Lint_int_c0 slices_Equal_Lint_int_l0 σ (envL [(0, v4), (1, v6), (12, (.p (.int .i64 x12))), (13, (.p (.int .i64 x13)))]) H2).bind K) Q := by
  induction k with
  | zero => intros; exact Sim.no
  | succ k ih =>
    intro x0 x1 x12 x13 v4 h5 v6 h7 H2 S3 σ
    rw [p_slices_Equal_Lint_int_l0]
    refine Sim.round (Sim.ext (slices_Equal_Lint_int_r0 _ _ _ _ _ _ _ _) ?_)
    refine Sim.cd (fun hc8 => ?_) (fun hc8 => ?_)
    · refine Sim.bd fun a9 h10 => ?_
      refine Sim.op ((S3.low h5).iS h10 rfl) ?_
      obtain ⟨_, rfl, hE11⟩ := (S3.low h5).el h10 rfl
      refine Sim.op (hE11.ld (j := 0) rfl) ?_
      refine Sim.op (castI_p _ _) ?_
      refine Sim.bd fun a12 h13 => ?_
      refine Sim.op ((S3.low h7).iS h13 rfl) ?_
      obtain ⟨_, rfl, hE14⟩ := (S3.low h7).el h13 rfl
      refine Sim.op (hE14.ld (j := 0) rfl) ?_
      refine Sim.op (castI_p _ _) ?_
      refine Sim.cd (fun hc15 => ?_) (fun hc15 => ?_)
      · exact hE1 false H2 (S3.wk2 all_nil all_nil)
      exact ih x0 x1 x12 (IntKind.wrap .i64 (x13 + 1)) v4 h5 v6 h7 H2 (S3.wk2 all_nil all_nil)
    exact hE0 () H2 (S3.wk2 all_nil all_nil)
theorem slices_Equal_Lint_int_ok (k : Nat) {h : H} {σ : Stamp} (x0 : List Int) {u0 : V} (hu0 : SlH h (dI .i64) x0 u0) (x1 : List Int) {u1 : V} (hu1 : SlH h (dI .i64) x1 u1) : Sim (p_slices_Equal_Lint_int k x0 x1) (ev G X0 53 σ [u0, u1] h) (fun r s => s = ([.v (.p (.bool r))], h)) := by
  refine Sim.ev rfl (Sim.ext (slices_Equal_Lint_int_entry _ _ _ _ _ _) ?_)
  rw [p_slices_Equal_Lint_int]
  have S0 : Fm 26 h [] [] [] (List.replicate 26 [] :: h) := Fm.start0
  refine Sim.op ((S0.low hu0).len) ?_
  refine Sim.op (castI_p _ _) ?_
  refine Sim.op ((S0.low hu1).len) ?_
  refine Sim.op (castI_p _ _) ?_
  refine Sim.cd (fun hc1 => ?_) (fun hc1 => ?_)
  · exact Sim.fin (S0.finN (lv_cons (still_bool _).lv lv_nil)) rfl
  refine Sim.op ((S0.low hu0).len) ?_
  refine Sim.op (castI_p _ _) ?_
  refine Sim.as (slices_Equal_Lint_int_l0_ok ?_ ?_ k x0 x1 ((x0.length : Int)) 0 u0 hu0 u1 hu1 (List.replicate 26 [] :: h) (S0.wk2 all_nil all_nil)) 
  · intro _u H21 S22
    refine Sim.ext (slices_Equal_Lint_int_a0_0 _ _ _ _) ?_
    exact Sim.fin (S22.finN (lv_cons (still_bool _).lv lv_nil)) rfl
  · intro r23_4 H24 S25
    refine Sim.ext (slices_Equal_Lint_int_a0_ret _ _ _ _ _) ?_
    exact Sim.fin (S25.finN (lv_cons (still_bool _).lv lv_nil)) rfl
end Go.Ev
/- Equations, printed by tracer2.py. -/
namespace Go.Ev
open Go.Proofs
set_option linter.unusedVariables false
set_option maxRecDepth 100000
-- 52 slices.Equal[[]uint32,uint32]
noncomputable def slices_Equal_Luint32_uint32_c0 : Code := (codeAt (bodyOf Try.f52) [1, 1, 0, 1, 0, 0])
def slices_Equal_Luint32_uint32_l0 : Lv := ⟨0, 16, [(0, 0)]⟩
noncomputable def slices_Equal_Luint32_uint32_k0 (rec : CallF) (loop : LoopV) (σ : Stamp) : Exit → Env → H → Option (List C × H) := (kBlock 0 (kSeq G rec loop (codeAt (bodyOf Try.f52) [1, 1, 1]) ⟨16, 16, []⟩ (1 :: 1 :: 0 :: σ) (finC G false Try.f52 (1 :: σ))))
theorem slices_Equal_Luint32_uint32_entry (rec : CallF) (loop : LoopV) (σ : Stamp) (x0 : V) (x1 : V) (h : H) : cvBody G rec loop 52 σ [x0, x1] h =
 (lenO x0).bind fun t1 =>
 (castI .i64 t1).bind fun n2 =>
 (lenO x1).bind fun t3 =>
 (castI .i64 t3).bind fun n4 =>
 bif n2 != n4 then (
 fin false σ (List.replicate 26 [] :: h) [(.p (.bool false))])
 else (
 (lenO x0).bind fun t5 =>
 (castI .i64 t5).bind fun n6 =>
 (loop slices_Equal_Luint32_uint32_c0 slices_Equal_Luint32_uint32_l0 (1 :: 0 :: 1 :: 1 :: 0 :: σ) (envL [(0, x0), (1, x1), (12, (.p (.int .i64 n6))), (13, (.p (.int .i64 0)))]) (List.replicate 26 [] :: h)).bind fun r7 => slices_Equal_Luint32_uint32_k0 rec loop σ r7.1 r7.2.1 r7.2.2) := by kernel_rfl
theorem slices_Equal_Luint32_uint32_r0 (rec : CallF) (loop : LoopV) (σ : Stamp) (x0 : V) (x1 : V) (x12 : Int) (x13 : Int) (h : H) : cvRound G rec loop slices_Equal_Luint32_uint32_c0 slices_Equal_Luint32_uint32_l0 σ (envL [(0, x0), (1, x1), (12, (.p (.int .i64 x12))), (13, (.p (.int .i64 x13)))]) h =
 bif decide (x13 < x12) then (
 (iS 1 x0 x13).bind fun t8 =>
 (ldO false 1 h t8).bind fun t9 =>
 (castI .u32 t9).bind fun n10 =>
 (iS 1 x1 x13).bind fun t11 =>
 (ldO false 1 h t11).bind fun t12 =>
 (castI .u32 t12).bind fun n13 =>
 bif n10 != n13 then (
 some (.ret, (envL [(4, (.p (.bool false)))]), h))
 else (
 loop slices_Equal_Luint32_uint32_c0 slices_Equal_Luint32_uint32_l0 (1 :: σ) (envL [(0, x0), (1, x1), (12, (.p (.int .i64 x12))), (13, (.p (.int .i64 (IntKind.wrap .i64 (x13 + 1)))))]) h))
 else (
 some ((.exit 0), (envL []), h)) := by kernel_rfl
theorem slices_Equal_Luint32_uint32_a0_0 (rec : CallF) (loop : LoopV) (σ : Stamp)  (h : H) : slices_Equal_Luint32_uint32_k0 rec loop σ (.exit 0) (envL []) h =
 fin false σ h [(.p (.bool true))] := by kernel_rfl
theorem slices_Equal_Luint32_uint32_a0_ret (rec : CallF) (loop : LoopV) (σ : Stamp) (x4 : Bool) (h : H) : slices_Equal_Luint32_uint32_k0 rec loop σ .ret (envL [(4, (.p (.bool x4)))]) h =
 fin false σ h [(.p (.bool x4))] := by kernel_rfl
end Go.Ev
/- Lifted by lift.py: slices_Equal_Luint32_uint32 as a plain function. -/
namespace Go.Ev
open Go.Proofs
set_option linter.unusedVariables false
set_option linter.unusedSimpArgs false
set_option maxRecDepth 100000
def p_slices_Equal_Luint32_uint32_l0 {β : Type} (k : Nat) (kE0 : Unit → Option β) (kE1 : Bool → Option β) (x0 : (List Int)) (x1 : (List Int)) (x12 : Int) (x13 : Int) : Option β := match k with
| 0 => none
| k + 1 =>
bif decide (x13 < x12) then (
(ix x0 x13).bind fun a9 =>
(ix x1 x13).bind fun a12 =>
bif a9 != a12 then (
kE1 false)
else (
p_slices_Equal_Luint32_uint32_l0 k kE0 kE1 x0 x1 x12 (IntKind.wrap .i64 (x13 + 1))))
else (
kE0 ())
def p_slices_Equal_Luint32_uint32 (k : Nat) (x0 : (List Int)) (x1 : (List Int)) : Option (Bool) :=
bif ((x0.length : Int)) != ((x1.length : Int)) then (
some (false))
else (
p_slices_Equal_Luint32_uint32_l0 k (fun (_ : Unit) =>
some (true)) (fun r23_4 =>
some (r23_4)) x0 x1 ((x0.length : Int)) 0)
theorem slices_Equal_Luint32_uint32_l0_ok {h : H}  {β α : Type} {Q : β → α → Prop} {K : Exit × Env × H → Option α} {kE0 : Unit → Option β} {kE1 : Bool → Option β} (hE0 : ∀ (_u : Unit) (H16 : Go.Ev.H) (_ : Fm 26 h [] [] [] H16), Sim (kE0 ()) (K ((.exit 0), (envL []), H16)) Q) (hE1 : ∀ (q4 : Bool) (H18 : Go.Ev.H) (_ : Fm 26 h [] [] [] H18), Sim (kE1 q4) (K (.ret, (envL [(4, (.p (.bool q4)))]), H18)) Q) (k : Nat) : ∀ (x0 : (List Int)) (x1 : (List Int)) (x12 : Int) (x13 : Int) (v4 : V) (h5 : SlH h (dI .u32) x0 v4) (v6 : V) (h7 : SlH h (dI .u32) x1 v6) (H2 : Go.Ev.H) (_ : Fm 26 h [] [] [] H2) {σ : Stamp}, Sim (p_slices_Equal_Luint32_uint32_l0 k kE0 kE1 x0 x1 x12 x13) ((cvL G X0 slices_Equal_Luint32_uint32_c0 slices_Equal_Luint32_uint32_l0 σ (envL [(0, v4), (1, v6), (12, (.p (.int .i64 x12))), (13, (.p (.int .i64 x13)))]) H2).bind K) Q := by
  induction k with
  | zero => intros; exact Sim.no
  | succ k ih =>
    intro x0 x1 x12 x13 v4 h5 v6 h7 H2 S3 σ
    rw [p_slices_Equal_Luint32_uint32_l0]
    refine Sim.round (Sim.ext (slices_Equal_Luint32_uint32_r0 _ _ _ _ _ _ _ _) ?_)
    refine Sim.cd (fun hc8 => ?_) (fun hc8 => ?_)
    · refine Sim.bd fun a9 h10 => ?_
      refine Sim.op ((S3.low h5).iS h10 rfl) ?_
      obtain ⟨_, rfl, hE11⟩ := (S3.low h5).el h10 rfl
      refine Sim.op (hE11.ld (j := 0) rfl) ?_
      refine Sim.op (castI_p _ _) ?_
      refine Sim.bd fun a12 h13 => ?_
      refine Sim.op ((S3.low h7).iS h13 rfl) ?_
      obtain ⟨_, rfl, hE14⟩ := (S3.low h7).el h13 rfl
      refine Sim.op (hE14.ld (j := 0) rfl) ?_
      refine Sim.op (castI_p _ _) ?_
      refine Sim.cd (fun hc15 => ?_) (fun hc15 => ?_)
      · exact hE1 false H2 (S3.wk2 all_nil all_nil)
      exact ih x0 x1 x12 (IntKind.wrap .i64 (x13 + 1)) v4 h5 v6 h7 H2 (S3.wk2 all_nil all_nil)
    exact hE0 () H2 (S3.wk2 all_nil all_nil)
theorem slices_Equal_Luint32_uint32_ok (k : Nat) {h : H} {σ : Stamp} (x0 : List Int) {u0 : V} (hu0 : SlH h (dI .u32) x0 u0) (x1 : List Int) {u1 : V} (hu1 : SlH h (dI .u32) x1 u1) : Sim (p_slices_Equal_Luint32_uint32 k x0 x1) (ev G X0 52 σ [u0, u1] h) (fun r s => s = ([.v (.p (.bool r))], h)) := by
  refine Sim.ev rfl (Sim.ext (slices_Equal_Luint32_uint32_entry _ _ _ _ _ _) ?_)
  rw [p_slices_Equal_Luint32_uint32]
  have S0 : Fm 26 h [] [] [] (List.replicate 26 [] :: h) := Fm.start0
  refine Sim.op ((S0.low hu0).len) ?_
  refine Sim.op (castI_p _ _) ?_
  refine Sim.op ((S0.low hu1).len) ?_
  refine Sim.op (castI_p _ _) ?_
  refine Sim.cd (fun hc1 => ?_) (fun hc1 => ?_)
  · exact Sim.fin (S0.finN (lv_cons (still_bool _).lv lv_nil)) rfl
  refine Sim.op ((S0.low hu0).len) ?_
  refine Sim.op (castI_p _ _) ?_
  refine Sim.as (slices_Equal_Luint32_uint32_l0_ok ?_ ?_ k x0 x1 ((x0.length : Int)) 0 u0 hu0 u1 hu1 (List.replicate 26 [] :: h) (S0.wk2 all_nil all_nil)) 
  · intro _u H21 S22
    refine Sim.ext (slices_Equal_Luint32_uint32_a0_0 _ _ _ _) ?_
    exact Sim.fin (S22.finN (lv_cons (still_bool _).lv lv_nil)) rfl
  · intro r23_4 H24 S25
    refine Sim.ext (slices_Equal_Luint32_uint32_a0_ret _ _ _ _ _) ?_
    exact Sim.fin (S25.finN (lv_cons (still_bool _).lv lv_nil)) rfl
end Go.Ev
/- Lifted by lift.py: rtcp_Same as a plain function. -/
namespace Go.Ev
open Go.Proofs
set_option linter.unusedVariables false
set_option linter.unusedSimpArgs false
set_option maxRecDepth 100000
def p_rtcp_Same (k : Nat) (x0 : T_api_Report) (x1 : T_api_Report) : Option (Bool) :=
(bif x0.Kind == x1.Kind then (some (x0.From == x1.From)) else (some false)).bind fun b25 =>
(bif b25 then (some (x0.About == x1.About)) else (some false)).bind fun b29 =>
(bif b29 then ((p_slices_Equal_Lapi_Tuple_api_Tuple k x0.Tuples x1.Tuples).bind fun r33 =>
some r33) else (some false)).bind fun b38 =>
(bif b38 then ((p_slices_Equal_Luint32_uint32 k x0.Abouts x1.Abouts).bind fun r42 =>
some r42) else (some false)).bind fun b47 =>
(bif b47 then ((p_slices_Equal_Lint_int k x0.Numbers x1.Numbers).bind fun r51 =>
some r51) else (some false)).bind fun b56 =>
(bif b56 then (some (x0.Rate == x1.Rate)) else (some false)).bind fun b60 =>
(bif b60 then (some (x0.f_Type == x1.f_Type)) else (some false)).bind fun b64 =>
(bif b64 then (some (x0.Count == x1.Count)) else (some false)).bind fun b68 =>
(bif b68 then ((p_slices_Equal_Lbyte_byte k x0.Body x1.Body).bind fun r72 =>
some r72) else (some false)).bind fun b77 =>
some (b77)
theorem rtcp_Same_ok (k : Nat) {h : H} {σ : Stamp} (x0 : T_api_Report) {u0 : List V} (hu0 : dT_api_Report.R x0 u0) (x1 : T_api_Report) {u1 : List V} (hu1 : dT_api_Report.R x1 u1) : Sim (p_rtcp_Same k x0 x1) (ev G X0 22 σ [(.agg u0), (.agg u1)] h) (fun r s => s = ([.v (.p (.bool r))], h)) := by
  refine Sim.ev rfl (Sim.ext (rtcp_Same_entry _ _ _ _ _ _) ?_)
  rw [p_rtcp_Same]
  obtain ⟨v1, v3, v5, v7, rfl, h2, h4, h6, h8⟩ := dT_api_Report.inv hu0
  obtain ⟨v9, v11, v13, v15, rfl, h10, h12, h14, h16⟩ := dT_api_Report.inv hu1
  have S0 : Fm 73 h [] [] [] (List.replicate 73 [] :: h) := Fm.start0
  obtain ⟨H17, e18, S19⟩ := S0.box (own := false) (d := 2) (s := (0 :: 0 :: 0 :: σ)) (xs := [(.p (.int .i64 x0.Kind)), (.p (.int .u32 x0.From)), (.p (.int .u32 x0.About)), v1, v3, v5, (.p (.int .u64 x0.Rate)), (.p (.int .i64 x0.f_Type)), (.p (.int .i64 x0.Count)), v7]) (stills_cons (still_int _ _) (stills_cons (still_int _ _) (stills_cons (still_int _ _) (stills_cons h2.still (stills_cons h4.still (stills_cons h6.still (stills_cons (still_int _ _) (stills_cons (still_int _ _) (stills_cons (still_int _ _) (stills_cons h8.still stills_nil)))))))))) (by decide) rfl
  refine Sim.op (e18) ?_
  obtain ⟨H21, e22, S23⟩ := S19.box (own := false) (d := 3) (s := (1 :: 0 :: 0 :: σ)) (xs := [(.p (.int .i64 x1.Kind)), (.p (.int .u32 x1.From)), (.p (.int .u32 x1.About)), v9, v11, v13, (.p (.int .u64 x1.Rate)), (.p (.int .i64 x1.f_Type)), (.p (.int .i64 x1.Count)), v15]) (stills_cons (still_int _ _) (stills_cons (still_int _ _) (stills_cons (still_int _ _) (stills_cons h10.still (stills_cons h12.still (stills_cons h14.still (stills_cons (still_int _ _) (stills_cons (still_int _ _) (stills_cons (still_int _ _) (stills_cons h16.still stills_nil)))))))))) (by decide) rfl
  refine Sim.op (e22) ?_
  refine Sim.op (fA_ref _ _ _) ?_
  refine Sim.op ((S23.atG (i := 1) rfl).ld (j := 0) rfl) ?_
  refine Sim.op (castI_p _ _) ?_
  refine Sim.op (fA_ref _ _ _) ?_
  refine Sim.op ((S23.atG (i := 0) rfl).ld (j := 0) rfl) ?_
  refine Sim.op (castI_p _ _) ?_
  refine Sim.ch (P := fun r y => r = y) ?_ (fun b25 y26 h27 h28 => ?_)
  · refine Sim.cd (fun hc => ?_) (fun hc => ?_)
    · refine Sim.op (fA_ref _ _ _) ?_
      refine Sim.op ((S23.atG (i := 1) rfl).ld (j := 1) rfl) ?_
      refine Sim.op (castI_p _ _) ?_
      refine Sim.op (fA_ref _ _ _) ?_
      refine Sim.op ((S23.atG (i := 0) rfl).ld (j := 1) rfl) ?_
      refine Sim.op (castI_p _ _) ?_
      exact Sim.ret rfl rfl
    · exact Sim.ret rfl rfl
  subst h28
  refine Sim.ch (P := fun r y => r = y) ?_ (fun b29 y30 h31 h32 => ?_)
  · refine Sim.cd (fun hc => ?_) (fun hc => ?_)
    · refine Sim.op (fA_ref _ _ _) ?_
      refine Sim.op ((S23.atG (i := 1) rfl).ld (j := 2) rfl) ?_
      refine Sim.op (castI_p _ _) ?_
      refine Sim.op (fA_ref _ _ _) ?_
      refine Sim.op ((S23.atG (i := 0) rfl).ld (j := 2) rfl) ?_
      refine Sim.op (castI_p _ _) ?_
      exact Sim.ret rfl rfl
    · exact Sim.ret rfl rfl
  subst h32
  refine Sim.ch (P := fun r y => (.p (.bool r), H21) = y) ?_ (fun b38 y39 h40 h41 => ?_)
  · refine Sim.cd (fun hc => ?_) (fun hc => ?_)
    · refine Sim.op (fA_ref _ _ _) ?_
      refine Sim.op ((S23.atG (i := 1) rfl).ld (j := 3) rfl) ?_
      refine Sim.op (fA_ref _ _ _) ?_
      refine Sim.op ((S23.atG (i := 0) rfl).ld (j := 3) rfl) ?_
      refine Sim.call (slices_Equal_Lapi_Tuple_api_Tuple_ok k x0.Tuples (h2.h H21) x1.Tuples (h10.h H21)) fun r33 cs34 H35 h36 q37 => ?_
      cases q37
      refine Sim.op (asB_p _) ?_
      exact Sim.ret rfl rfl
    · exact Sim.ret rfl rfl
  subst h41
  refine Sim.op (asB_p _) ?_
  refine Sim.ch (P := fun r y => (.p (.bool r), H21) = y) ?_ (fun b47 y48 h49 h50 => ?_)
  · refine Sim.cd (fun hc => ?_) (fun hc => ?_)
    · refine Sim.op (fA_ref _ _ _) ?_
      refine Sim.op ((S23.atG (i := 1) rfl).ld (j := 4) rfl) ?_
      refine Sim.op (fA_ref _ _ _) ?_
      refine Sim.op ((S23.atG (i := 0) rfl).ld (j := 4) rfl) ?_
      refine Sim.call (slices_Equal_Luint32_uint32_ok k x0.Abouts (h4.h H21) x1.Abouts (h12.h H21)) fun r42 cs43 H44 h45 q46 => ?_
      cases q46
      refine Sim.op (asB_p _) ?_
      exact Sim.ret rfl rfl
    · exact Sim.ret rfl rfl
  subst h50
  refine Sim.op (asB_p _) ?_
  refine Sim.ch (P := fun r y => (.p (.bool r), H21) = y) ?_ (fun b56 y57 h58 h59 => ?_)
  · refine Sim.cd (fun hc => ?_) (fun hc => ?_)
    · refine Sim.op (fA_ref _ _ _) ?_
      refine Sim.op ((S23.atG (i := 1) rfl).ld (j := 5) rfl) ?_
      refine Sim.op (fA_ref _ _ _) ?_
      refine Sim.op ((S23.atG (i := 0) rfl).ld (j := 5) rfl) ?_
      refine Sim.call (slices_Equal_Lint_int_ok k x0.Numbers (h6.h H21) x1.Numbers (h14.h H21)) fun r51 cs52 H53 h54 q55 => ?_
      cases q55
      refine Sim.op (asB_p _) ?_
      exact Sim.ret rfl rfl
    · exact Sim.ret rfl rfl
  subst h59
  refine Sim.op (asB_p _) ?_
  refine Sim.ch (P := fun r y => r = y) ?_ (fun b60 y61 h62 h63 => ?_)
  · refine Sim.cd (fun hc => ?_) (fun hc => ?_)
    · refine Sim.op (fA_ref _ _ _) ?_
      refine Sim.op ((S23.atG (i := 1) rfl).ld (j := 6) rfl) ?_
      refine Sim.op (castI_p _ _) ?_
      refine Sim.op (fA_ref _ _ _) ?_
      refine Sim.op ((S23.atG (i := 0) rfl).ld (j := 6) rfl) ?_
      refine Sim.op (castI_p _ _) ?_
      exact Sim.ret rfl rfl
    · exact Sim.ret rfl rfl
  subst h63
  refine Sim.ch (P := fun r y => r = y) ?_ (fun b64 y65 h66 h67 => ?_)
  · refine Sim.cd (fun hc => ?_) (fun hc => ?_)
    · refine Sim.op (fA_ref _ _ _) ?_
      refine Sim.op ((S23.atG (i := 1) rfl).ld (j := 7) rfl) ?_
      refine Sim.op (castI_p _ _) ?_
      refine Sim.op (fA_ref _ _ _) ?_
      refine Sim.op ((S23.atG (i := 0) rfl).ld (j := 7) rfl) ?_
      refine Sim.op (castI_p _ _) ?_
      exact Sim.ret rfl rfl
    · exact Sim.ret rfl rfl
  subst h67
  refine Sim.ch (P := fun r y => r = y) ?_ (fun b68 y69 h70 h71 => ?_)
  · refine Sim.cd (fun hc => ?_) (fun hc => ?_)
    · refine Sim.op (fA_ref _ _ _) ?_
      refine Sim.op ((S23.atG (i := 1) rfl).ld (j := 8) rfl) ?_
      refine Sim.op (castI_p _ _) ?_
      refine Sim.op (fA_ref _ _ _) ?_
      refine Sim.op ((S23.atG (i := 0) rfl).ld (j := 8) rfl) ?_
      refine Sim.op (castI_p _ _) ?_
      exact Sim.ret rfl rfl
    · exact Sim.ret rfl rfl
  subst h71
  refine Sim.ch (P := fun r y => (.p (.bool r), H21) = y) ?_ (fun b77 y78 h79 h80 => ?_)
  · refine Sim.cd (fun hc => ?_) (fun hc => ?_)
    · refine Sim.op (fA_ref _ _ _) ?_
      refine Sim.op ((S23.atG (i := 1) rfl).ld (j := 9) rfl) ?_
      refine Sim.op (fA_ref _ _ _) ?_
      refine Sim.op ((S23.atG (i := 0) rfl).ld (j := 9) rfl) ?_
      refine Sim.call (slices_Equal_Lbyte_byte_ok k x0.Body (h8.h H21) x1.Body (h16.h H21)) fun r72 cs73 H74 h75 q76 => ?_
      cases q76
      refine Sim.op (asB_p _) ?_
      exact Sim.ret rfl rfl
    · exact Sim.ret rfl rfl
  subst h80
  refine Sim.op (asB_p _) ?_
  exact Sim.fin (S23.finN (lv_cons (still_bool _).lv lv_nil)) rfl
end Go.Ev
/- Lifted by lift.py: limelightlaw6_known as a plain function. -/
namespace Go.Ev
open Go.Proofs
set_option linter.unusedVariables false
set_option linter.unusedSimpArgs false
set_option maxRecDepth 100000
def p_limelightlaw6_known (k : Nat)  : Option (Bool) :=
(p_rtcp_Bytes k ([((⟨3, 1, 2, (([] : List T_api_Tuple)), (([] : List Int)), (([] : List Int)), 0, 0, 0, (([] : List Int))⟩ : T_api_Report)), ((⟨5, 0, 0, (([] : List T_api_Tuple)), ([5]), (([] : List Int)), 8000, 0, 0, (([] : List Int))⟩ : T_api_Report))])).bind fun r10 =>
(p_rtcp_Read k r10.1).bind fun r17 =>
(p_rtcp_Read k (([] : List Int))).bind fun r24 =>
(p_rtcp_Bytes k (([] : List T_api_Report))).bind fun r31 =>
(p_rtcp_Read k ([161, 206, 0, 0])).bind fun r39 =>
(bif r10.2 == 0 then (some (((r10.1.length : Int)) == 36)) else (some false)).bind fun b46 =>
(bif b46 then ((sub r10.1 0 4).bind fun a50 =>
some ((strB a50).toList == ((⟨#[129, 206, 0, 2]⟩ : ByteArray)).toList)) else (some false)).bind fun b52 =>
(bif b52 then (some (r17.2 == 0)) else (some false)).bind fun b56 =>
(bif b56 then (some (((r17.1.length : Int)) == 2)) else (some false)).bind fun b60 =>
(bif b60 then ((ix r17.1 0).bind fun a64 =>
(p_rtcp_Same k a64 ((⟨3, 1, 2, (([] : List T_api_Tuple)), (([] : List Int)), (([] : List Int)), 0, 0, 0, (([] : List Int))⟩ : T_api_Report))).bind fun r77 =>
some r77) else (some false)).bind fun b82 =>
(bif b82 then ((ix r17.1 1).bind fun a86 =>
some (a86.Rate == 8000)) else (some false)).bind fun b110 =>
(bif b110 then (some (r24.2 == 13)) else (some false)).bind fun b114 =>
(bif b114 then (some (r31.2 == 1)) else (some false)).bind fun b118 =>
(bif b118 then (some (r39.2 == 12)) else (some false)).bind fun b122 =>
(bif b122 then ((p_rtcp_Is r10.1).bind fun r126 =>
some r126) else (some false)).bind fun b131 =>
(bif b131 then ((p_rtcp_Is (([] : List Int))).bind fun r135 =>
some (!r135)) else (some false)).bind fun b140 =>
(bif b140 then ((p_rtcp_Is ([128, 96])).bind fun r145 =>
some (!r145)) else (some false)).bind fun b150 =>
(bif b150 then ((p_rtcp_Right k ((⟨0, 0, 0, (([] : List T_api_Tuple)), (([] : List Int)), (([] : List Int)), 0, 0, 0, (([] : List Int))⟩ : T_api_Report))).bind fun r154 =>
some (r154 == 12)) else (some false)).bind fun b159 =>
some (b159)
theorem limelightlaw6_known_ok (k : Nat) {h : H} {σ : Stamp}  : Sim (p_limelightlaw6_known k ) (ev G X0 20 σ [] h) (fun r s => s = ([.v (.p (.bool r))], h)) := by
  refine Sim.ev rfl (Sim.ext (limelightlaw6_known_entry _ _ _ _) ?_)
  rw [p_limelightlaw6_known]
  have S0 : Fm 105 h [] [] [] (List.replicate 105 [] :: h) := Fm.start0
  refine Sim.op (bldV (pt_cons rfl (pt_cons rfl (pt_cons rfl pt_nil))) (by kernel_rfl : _ = some (.agg [.p (.int .i64 3), .p (.int .u32 1), .p (.int .u32 2), .p (.slice none 0 0), .p (.slice none 0 0), .p (.slice none 0 0), .p (.int .u64 0), .p (.int .i64 0), .p (.int .i64 0), .p (.slice none 0 0)]))) ?_
  obtain ⟨H1, e2, S3⟩ := S0.al (d := 1) (s := (1 :: 0 :: 1 :: 0 :: σ)) (z := [(.p (.int .i64 0)), (.p (.int .u32 0)), (.p (.int .u32 0)), (.p (.slice none 0 0)), (.p (.slice none 0 0)), (.p (.slice none 0 0)), (.p (.int .u64 0)), (.p (.int .i64 0)), (.p (.int .i64 0)), (.p (.slice none 0 0))]) (by decide) rfl
  refine Sim.op (congrArg some e2) ?_
  obtain ⟨H5, e6, S7⟩ := S3.stGv (i := 0) (j := 0) (own := false) (σ := (2 :: 0 :: 1 :: 0 :: σ)) (xs := [.p (.int .i64 3), .p (.int .u32 1), .p (.int .u32 2), .p (.slice none 0 0), .p (.slice none 0 0), .p (.slice none 0 0), .p (.int .u64 0), .p (.int .i64 0), .p (.int .i64 0), .p (.slice none 0 0)]) rfl rfl (stills_cons (still_int _ _) (stills_cons (still_int _ _) (stills_cons (still_int _ _) (stills_cons (SlF.nil dT_api_Tuple).still (stills_cons (SlF.nil (dI .u32)).still (stills_cons (SlF.nil (dI .i64)).still (stills_cons (still_int _ _) (stills_cons (still_int _ _) (stills_cons (still_int _ _) (stills_cons (SlF.nil (dI .u8)).still stills_nil)))))))))) rfl rfl
  refine Sim.op (st_map e6) ?_
  refine Sim.op ((S7.atG (i := 0) rfl).ldVs (j := 0) (xs := [.p (.int .i64 3), .p (.int .u32 1), .p (.int .u32 2), .p (.slice none 0 0), .p (.slice none 0 0), .p (.slice none 0 0), .p (.int .u64 0), .p (.int .i64 0), .p (.int .i64 0), .p (.slice none 0 0)]) rfl rfl (by decide)) ?_
  have h8 : SlF (dI .u32) [5] (.fz [(.p (.int .u32 5))] 1 1 true) := SlF.lit (cs := [(.p (.int .u32 5))]) (RL.cons (show (dI .u32).R 5 [(.p (.int .u32 5))] from rfl) RL.nil) rfl rfl true
  refine Sim.op (bldS (pt_cons rfl pt_nil) (by kernel_rfl : _ = some (.fz [(.p (.int .u32 5))] 1 1 true))) ?_
  refine Sim.op (bldV (pt_cons rfl (pt_cons rfl (pt_cons h8.still.cells pt_nil))) (by kernel_rfl : _ = some (.agg [.p (.int .i64 5), .p (.int .u32 0), .p (.int .u32 0), .p (.slice none 0 0), .fz [(.p (.int .u32 5))] 1 1 true, .p (.slice none 0 0), .p (.int .u64 8000), .p (.int .i64 0), .p (.int .i64 0), .p (.slice none 0 0)]))) ?_
  have h9 : SlF dT_api_Report [((⟨3, 1, 2, (([] : List T_api_Tuple)), (([] : List Int)), (([] : List Int)), 0, 0, 0, (([] : List Int))⟩ : T_api_Report)), ((⟨5, 0, 0, (([] : List T_api_Tuple)), ([5]), (([] : List Int)), 8000, 0, 0, (([] : List Int))⟩ : T_api_Report))] (.fz [(.p (.int .i64 3)), (.p (.int .u32 1)), (.p (.int .u32 2)), (.p (.slice none 0 0)), (.p (.slice none 0 0)), (.p (.slice none 0 0)), (.p (.int .u64 0)), (.p (.int .i64 0)), (.p (.int .i64 0)), (.p (.slice none 0 0)), (.p (.int .i64 5)), (.p (.int .u32 0)), (.p (.int .u32 0)), (.p (.slice none 0 0)), (.fz [(.p (.int .u32 5))] 1 1 true), (.p (.slice none 0 0)), (.p (.int .u64 8000)), (.p (.int .i64 0)), (.p (.int .i64 0)), (.p (.slice none 0 0))] 2 10 true) := SlF.lit (cs := [(.p (.int .i64 3)), (.p (.int .u32 1)), (.p (.int .u32 2)), (.p (.slice none 0 0)), (.p (.slice none 0 0)), (.p (.slice none 0 0)), (.p (.int .u64 0)), (.p (.int .i64 0)), (.p (.int .i64 0)), (.p (.slice none 0 0)), (.p (.int .i64 5)), (.p (.int .u32 0)), (.p (.int .u32 0)), (.p (.slice none 0 0)), (.fz [(.p (.int .u32 5))] 1 1 true), (.p (.slice none 0 0)), (.p (.int .u64 8000)), (.p (.int .i64 0)), (.p (.int .i64 0)), (.p (.slice none 0 0))]) (RL.cons (show dT_api_Report.R ((⟨3, 1, 2, (([] : List T_api_Tuple)), (([] : List Int)), (([] : List Int)), 0, 0, 0, (([] : List Int))⟩ : T_api_Report)) [.p (.int .i64 3), .p (.int .u32 1), .p (.int .u32 2), .p (.slice none 0 0), .p (.slice none 0 0), .p (.slice none 0 0), .p (.int .u64 0), .p (.int .i64 0), .p (.int .i64 0), .p (.slice none 0 0)] from (dT_api_Report.mk (SlF.nil dT_api_Tuple) (SlF.nil (dI .u32)) (SlF.nil (dI .i64)) (SlF.nil (dI .u8)))) (RL.cons (show dT_api_Report.R ((⟨5, 0, 0, (([] : List T_api_Tuple)), ([5]), (([] : List Int)), 8000, 0, 0, (([] : List Int))⟩ : T_api_Report)) [.p (.int .i64 5), .p (.int .u32 0), .p (.int .u32 0), .p (.slice none 0 0), .fz [(.p (.int .u32 5))] 1 1 true, .p (.slice none 0 0), .p (.int .u64 8000), .p (.int .i64 0), .p (.int .i64 0), .p (.slice none 0 0)] from (dT_api_Report.mk (SlF.nil dT_api_Tuple) h8 (SlF.nil (dI .i64)) (SlF.nil (dI .u8)))) RL.nil)) rfl rfl true
  refine Sim.op (bldS (pt_cons (c := [.p (.int .i64 3), .p (.int .u32 1), .p (.int .u32 2), .p (.slice none 0 0), .p (.slice none 0 0), .p (.slice none 0 0), .p (.int .u64 0), .p (.int .i64 0), .p (.int .i64 0), .p (.slice none 0 0)]) rfl (pt_cons (c := [.p (.int .i64 5), .p (.int .u32 0), .p (.int .u32 0), .p (.slice none 0 0), .fz [(.p (.int .u32 5))] 1 1 true, .p (.slice none 0 0), .p (.int .u64 8000), .p (.int .i64 0), .p (.int .i64 0), .p (.slice none 0 0)]) rfl pt_nil)) (by kernel_rfl : _ = some (.fz [(.p (.int .i64 3)), (.p (.int .u32 1)), (.p (.int .u32 2)), (.p (.slice none 0 0)), (.p (.slice none 0 0)), (.p (.slice none 0 0)), (.p (.int .u64 0)), (.p (.int .i64 0)), (.p (.int .i64 0)), (.p (.slice none 0 0)), (.p (.int .i64 5)), (.p (.int .u32 0)), (.p (.int .u32 0)), (.p (.slice none 0 0)), (.fz [(.p (.int .u32 5))] 1 1 true), (.p (.slice none 0 0)), (.p (.int .u64 8000)), (.p (.int .i64 0)), (.p (.int .i64 0)), (.p (.slice none 0 0))] 2 10 true))) ?_
  erw [callFO_eq (frzAs_cons (frzA_F h9) frzAs_nil)]
  refine Sim.call (rtcp_Bytes_ok k ([((⟨3, 1, 2, (([] : List T_api_Tuple)), (([] : List Int)), (([] : List Int)), 0, 0, 0, (([] : List Int))⟩ : T_api_Report)), ((⟨5, 0, 0, (([] : List T_api_Tuple)), ([5]), (([] : List Int)), 8000, 0, 0, (([] : List Int))⟩ : T_api_Report))]) (h9.h H5)) fun r10 cs11 H12 h13 q14 => ?_
  obtain ⟨v15, h16, q14⟩ := q14
  cases q14
  refine Sim.op (rfl) ?_
  refine Sim.op (rfl) ?_
  refine Sim.op (castI_p _ _) ?_
  erw [callFO_eq (frzAs_cons (frzA_F h16) frzAs_nil)]
  refine Sim.call (rtcp_Read_ok k r10.1 h16) fun r17 cs18 H19 h20 q21 => ?_
  obtain ⟨v22, h23, q21⟩ := q21
  cases q21
  refine Sim.op (rfl) ?_
  refine Sim.op (rfl) ?_
  refine Sim.op (castI_p _ _) ?_
  erw [callFO_eq (frzAs_cons (frzA_F (SlF.nil (dI .u8))) frzAs_nil)]
  refine Sim.call (rtcp_Read_ok k (([] : List Int)) (SlF.nil (dI .u8))) fun r24 cs25 H26 h27 q28 => ?_
  obtain ⟨v29, h30, q28⟩ := q28
  cases q28
  refine Sim.op (rfl) ?_
  refine Sim.op (rfl) ?_
  refine Sim.op (castI_p _ _) ?_
  erw [callFO_eq (frzAs_cons (frzA_F (SlF.nil dT_api_Report)) frzAs_nil)]
  refine Sim.call (rtcp_Bytes_ok k (([] : List T_api_Report)) ((SlF.nil dT_api_Report).h H5)) fun r31 cs32 H33 h34 q35 => ?_
  obtain ⟨v36, h37, q35⟩ := q35
  cases q35
  refine Sim.op (rfl) ?_
  refine Sim.op (rfl) ?_
  refine Sim.op (castI_p _ _) ?_
  have h38 : SlF (dI .u8) [161, 206, 0, 0] (.fz [(.p (.int .u8 161)), (.p (.int .u8 206)), (.p (.int .u8 0)), (.p (.int .u8 0))] 4 1 true) := SlF.lit (cs := [(.p (.int .u8 161)), (.p (.int .u8 206)), (.p (.int .u8 0)), (.p (.int .u8 0))]) (RL.cons (show (dI .u8).R 161 [(.p (.int .u8 161))] from rfl) (RL.cons (show (dI .u8).R 206 [(.p (.int .u8 206))] from rfl) (RL.cons (show (dI .u8).R 0 [(.p (.int .u8 0))] from rfl) (RL.cons (show (dI .u8).R 0 [(.p (.int .u8 0))] from rfl) RL.nil)))) rfl rfl true
  refine Sim.op (bldS (pt_cons rfl (pt_cons rfl (pt_cons rfl (pt_cons rfl pt_nil)))) (by kernel_rfl : _ = some (.fz [(.p (.int .u8 161)), (.p (.int .u8 206)), (.p (.int .u8 0)), (.p (.int .u8 0))] 4 1 true))) ?_
  erw [callFO_eq (frzAs_cons (frzA_F h38) frzAs_nil)]
  refine Sim.call (rtcp_Read_ok k ([161, 206, 0, 0]) h38) fun r39 cs40 H41 h42 q43 => ?_
  obtain ⟨v44, h45, q43⟩ := q43
  cases q43
  refine Sim.op (rfl) ?_
  refine Sim.op (rfl) ?_
  refine Sim.op (castI_p _ _) ?_
  refine Sim.ch (P := fun r y => r = y) ?_ (fun b46 y47 h48 h49 => ?_)
  · refine Sim.cd (fun hc => ?_) (fun hc => ?_)
    · refine Sim.op ((h16.h H5).len) ?_
      refine Sim.op (castI_p _ _) ?_
      exact Sim.ret rfl rfl
    · exact Sim.ret rfl rfl
  subst h49
  refine Sim.ch (P := fun r y => r = y) ?_ (fun b52 y53 h54 h55 => ?_)
  · refine Sim.cd (fun hc => ?_) (fun hc => ?_)
    · refine Sim.bd fun a50 h51 => ?_
      refine Sim.op ((h16.h H5).slS h51 rfl rfl rfl) ?_
      refine Sim.op (((h16.h H5).sub h51 (e := 1) rfl).str) ?_
      refine Sim.op (castS_p _) ?_
      exact Sim.ret rfl rfl
    · exact Sim.ret rfl rfl
  subst h55
  refine Sim.ch (P := fun r y => r = y) ?_ (fun b56 y57 h58 h59 => ?_)
  · refine Sim.cd (fun hc => ?_) (fun hc => ?_)
    · exact Sim.ret rfl rfl
    · exact Sim.ret rfl rfl
  subst h59
  refine Sim.ch (P := fun r y => r = y) ?_ (fun b60 y61 h62 h63 => ?_)
  · refine Sim.cd (fun hc => ?_) (fun hc => ?_)
    · refine Sim.op ((h23.h H5).len) ?_
      refine Sim.op (castI_p _ _) ?_
      exact Sim.ret rfl rfl
    · exact Sim.ret rfl rfl
  subst h63
  refine Sim.ch (P := fun r y => (.p (.bool r), H5) = y) ?_ (fun b82 y83 h84 h85 => ?_)
  · refine Sim.cd (fun hc => ?_) (fun hc => ?_)
    · refine Sim.bd fun a64 h65 => ?_
      refine Sim.op ((h23.h H5).iS h65 rfl) ?_
      obtain ⟨w67, h68, hE66⟩ := (h23.h H5).el h65 rfl
      obtain ⟨v69, v71, v73, v75, rfl, h70, h72, h74, h76⟩ := dT_api_Report.inv h68
      refine Sim.op (hE66.all (by simp)) ?_
      refine Sim.op ((S7.atG (i := 0) rfl).ldVs (j := 0) (xs := [.p (.int .i64 3), .p (.int .u32 1), .p (.int .u32 2), .p (.slice none 0 0), .p (.slice none 0 0), .p (.slice none 0 0), .p (.int .u64 0), .p (.int .i64 0), .p (.int .i64 0), .p (.slice none 0 0)]) rfl rfl (by decide)) ?_
      refine Sim.call (rtcp_Same_ok k a64 (show dT_api_Report.R a64 [.p (.int .i64 a64.Kind), .p (.int .u32 a64.From), .p (.int .u32 a64.About), v69, v71, v73, .p (.int .u64 a64.Rate), .p (.int .i64 a64.f_Type), .p (.int .i64 a64.Count), v75] from (dT_api_Report.mk h70 h72 h74 h76)) ((⟨3, 1, 2, (([] : List T_api_Tuple)), (([] : List Int)), (([] : List Int)), 0, 0, 0, (([] : List Int))⟩ : T_api_Report)) (show dT_api_Report.R ((⟨3, 1, 2, (([] : List T_api_Tuple)), (([] : List Int)), (([] : List Int)), 0, 0, 0, (([] : List Int))⟩ : T_api_Report)) [.p (.int .i64 3), .p (.int .u32 1), .p (.int .u32 2), .p (.slice none 0 0), .p (.slice none 0 0), .p (.slice none 0 0), .p (.int .u64 0), .p (.int .i64 0), .p (.int .i64 0), .p (.slice none 0 0)] from (dT_api_Report.mk (SlF.nil dT_api_Tuple) (SlF.nil (dI .u32)) (SlF.nil (dI .i64)) (SlF.nil (dI .u8))))) fun r77 cs78 H79 h80 q81 => ?_
      cases q81
      refine Sim.op (asB_p _) ?_
      exact Sim.ret rfl rfl
    · exact Sim.ret rfl rfl
  subst h85
  refine Sim.op (asB_p _) ?_
  refine Sim.ch (P := fun r y => r = y) ?_ (fun b110 y111 h112 h113 => ?_)
  · refine Sim.cd (fun hc => ?_) (fun hc => ?_)
    · refine Sim.bd fun a86 h87 => ?_
      refine Sim.op ((h23.h H5).iS h87 rfl) ?_
      obtain ⟨w89, h90, hE88⟩ := (h23.h H5).el h87 rfl
      obtain ⟨v91, v93, v95, v97, rfl, h92, h94, h96, h98⟩ := dT_api_Report.inv h90
      refine Sim.op (hE88.fa (j := 6) (by simp)) ?_
      obtain ⟨w100, h101, hE99⟩ := (h23.h H5).el h87 rfl
      obtain ⟨v102, v104, v106, v108, rfl, h103, h105, h107, h109⟩ := dT_api_Report.inv h101
      refine Sim.op (hE99.ld (j := 6) rfl) ?_
      refine Sim.op (castI_p _ _) ?_
      exact Sim.ret rfl rfl
    · exact Sim.ret rfl rfl
  subst h113
  refine Sim.ch (P := fun r y => r = y) ?_ (fun b114 y115 h116 h117 => ?_)
  · refine Sim.cd (fun hc => ?_) (fun hc => ?_)
    · exact Sim.ret rfl rfl
    · exact Sim.ret rfl rfl
  subst h117
  refine Sim.ch (P := fun r y => r = y) ?_ (fun b118 y119 h120 h121 => ?_)
  · refine Sim.cd (fun hc => ?_) (fun hc => ?_)
    · exact Sim.ret rfl rfl
    · exact Sim.ret rfl rfl
  subst h121
  refine Sim.ch (P := fun r y => r = y) ?_ (fun b122 y123 h124 h125 => ?_)
  · refine Sim.cd (fun hc => ?_) (fun hc => ?_)
    · exact Sim.ret rfl rfl
    · exact Sim.ret rfl rfl
  subst h125
  refine Sim.ch (P := fun r y => (.p (.bool r), H5) = y) ?_ (fun b131 y132 h133 h134 => ?_)
  · refine Sim.cd (fun hc => ?_) (fun hc => ?_)
    · refine Sim.call (rtcp_Is_ok r10.1 (h16.h H5)) fun r126 cs127 H128 h129 q130 => ?_
      cases q130
      refine Sim.op (asB_p _) ?_
      exact Sim.ret rfl rfl
    · exact Sim.ret rfl rfl
  subst h134
  refine Sim.op (asB_p _) ?_
  refine Sim.ch (P := fun r y => (.p (.bool r), H5) = y) ?_ (fun b140 y141 h142 h143 => ?_)
  · refine Sim.cd (fun hc => ?_) (fun hc => ?_)
    · refine Sim.call (rtcp_Is_ok (([] : List Int)) ((SlF.nil (dI .u8)).h H5)) fun r135 cs136 H137 h138 q139 => ?_
      cases q139
      refine Sim.op (asB_p _) ?_
      exact Sim.ret rfl rfl
    · exact Sim.ret rfl rfl
  subst h143
  refine Sim.op (asB_p _) ?_
  refine Sim.ch (P := fun r y => (.p (.bool r), H5) = y) ?_ (fun b150 y151 h152 h153 => ?_)
  · refine Sim.cd (fun hc => ?_) (fun hc => ?_)
    · have h144 : SlF (dI .u8) [128, 96] (.fz [(.p (.int .u8 128)), (.p (.int .u8 96))] 2 1 true) := SlF.lit (cs := [(.p (.int .u8 128)), (.p (.int .u8 96))]) (RL.cons (show (dI .u8).R 128 [(.p (.int .u8 128))] from rfl) (RL.cons (show (dI .u8).R 96 [(.p (.int .u8 96))] from rfl) RL.nil)) rfl rfl true
      refine Sim.op (bldS (pt_cons rfl (pt_cons rfl pt_nil)) (by kernel_rfl : _ = some (.fz [(.p (.int .u8 128)), (.p (.int .u8 96))] 2 1 true))) ?_
      refine Sim.call (rtcp_Is_ok ([128, 96]) (h144.h H5)) fun r145 cs146 H147 h148 q149 => ?_
      cases q149
      refine Sim.op (asB_p _) ?_
      exact Sim.ret rfl rfl
    · exact Sim.ret rfl rfl
  subst h153
  refine Sim.op (asB_p _) ?_
  refine Sim.ch (P := fun r y => (.p (.bool r), H5) = y) ?_ (fun b159 y160 h161 h162 => ?_)
  · refine Sim.cd (fun hc => ?_) (fun hc => ?_)
    · refine Sim.op (bldV pt_nil (by kernel_rfl : _ = some (.agg [.p (.int .i64 0), .p (.int .u32 0), .p (.int .u32 0), .p (.slice none 0 0), .p (.slice none 0 0), .p (.slice none 0 0), .p (.int .u64 0), .p (.int .i64 0), .p (.int .i64 0), .p (.slice none 0 0)]))) ?_
      refine Sim.call (rtcp_Right_ok k ((⟨0, 0, 0, (([] : List T_api_Tuple)), (([] : List Int)), (([] : List Int)), 0, 0, 0, (([] : List Int))⟩ : T_api_Report)) (show dT_api_Report.R ((⟨0, 0, 0, (([] : List T_api_Tuple)), (([] : List Int)), (([] : List Int)), 0, 0, 0, (([] : List Int))⟩ : T_api_Report)) [.p (.int .i64 0), .p (.int .u32 0), .p (.int .u32 0), .p (.slice none 0 0), .p (.slice none 0 0), .p (.slice none 0 0), .p (.int .u64 0), .p (.int .i64 0), .p (.int .i64 0), .p (.slice none 0 0)] from (dT_api_Report.mk (SlF.nil dT_api_Tuple) (SlF.nil (dI .u32)) (SlF.nil (dI .i64)) (SlF.nil (dI .u8))))) fun r154 cs155 H156 h157 q158 => ?_
      cases q158
      refine Sim.op (castI_p _ _) ?_
      exact Sim.ret rfl rfl
    · exact Sim.ret rfl rfl
  subst h162
  refine Sim.op (asB_p _) ?_
  exact Sim.fin (S7.finN (lv_cons (still_bool _).lv lv_nil)) rfl
end Go.Ev
namespace Go.Ev
set_option maxRecDepth 100000
end Go.Ev
/- Equations, printed by tracer2.py. -/
namespace Go.Ev
open Go.Proofs
set_option linter.unusedVariables false
set_option maxRecDepth 100000
-- 5 limelight/limelightlaw6.RtcpBack
end Go.Ev
/- Lifted by lift.py: limelightlaw6_RtcpBack as a plain function. -/
namespace Go.Ev
open Go.Proofs
set_option linter.unusedVariables false
set_option linter.unusedSimpArgs false
set_option maxRecDepth 100000
end Go.Ev
/- Equations, printed by tracer2.py. -/
namespace Go.Ev
open Go.Proofs
set_option linter.unusedVariables false
set_option maxRecDepth 100000
-- 7 limelight/limelightlaw6.RtcpApart
theorem limelightlaw6_RtcpApart_entry (rec : CallF) (loop : LoopV) (σ : Stamp) (x0 : V) (x1 : V) (h : H) : cvBody G rec loop 7 σ [x0, x1] h =
 (buildV Try.prog 26 [(0, x0)]).bind fun t1 =>
 (boxO false (2 :: 0 :: 1 :: 0 :: σ) 15 (List.replicate 83 [] :: h) t1).bind fun q2 =>
 (callO rec 15 (3 :: 0 :: 1 :: 0 :: σ) [q2.1] q2.2 (some 16)).bind fun q3 =>
 (buildV Try.prog 26 [(0, x1)]).bind fun t4 =>
 (boxO false (6 :: 0 :: 1 :: 0 :: σ) 19 q3.2 t4).bind fun q5 =>
 (callO rec 15 (7 :: 0 :: 1 :: 0 :: σ) [q5.1] q5.2 (some 20)).bind fun q6 =>
 (some (alO [.p (.int .i64 0), .p (.int .u32 0), .p (.int .u32 0), .p (.slice none 0 0), .p (.slice none 0 0), .p (.slice none 0 0), .p (.int .u64 0), .p (.int .i64 0), .p (.int .i64 0), .p (.slice none 0 0)] (8 :: 0 :: 1 :: 0 :: σ) 5 q6.2)).bind fun q7 =>
 (some (alO [.p (.int .i64 0), .p (.int .u32 0), .p (.int .u32 0), .p (.slice none 0 0), .p (.slice none 0 0), .p (.slice none 0 0), .p (.int .u64 0), .p (.int .i64 0), .p (.int .i64 0), .p (.slice none 0 0)] (9 :: 0 :: 1 :: 0 :: σ) 6 q7.2)).bind fun q8 =>
 ((stO false 10 (10 :: 0 :: 1 :: 0 :: σ) q8.2 q7.1 q3.1).map fun h => (udf, h)).bind fun q9 =>
 ((stO false 10 (11 :: 0 :: 1 :: 0 :: σ) q9.2 q8.1 q6.1).map fun h => (udf, h)).bind fun q10 =>
 (ldO true 10 q10.2 q7.1).bind fun t11 =>
 (buildSliceV Try.prog 36 1 [(0, t11)]).bind fun t12 =>
 (callFO rec 24 (2 :: 0 :: 1 :: 1 :: 0 :: σ) [t12] q10.2 (some 24)).bind fun q13 =>
 (extV q13.1 0).bind fun t14 =>
 (extV q13.1 1).bind fun t15 =>
 (castI .i64 t15).bind fun n16 =>
 (ldO true 10 q13.2 q8.1).bind fun t17 =>
 (buildSliceV Try.prog 36 1 [(0, t17)]).bind fun t18 =>
 (callFO rec 24 (2 :: 0 :: 1 :: 1 :: 1 :: 0 :: σ) [t18] q13.2 (some 30)).bind fun q19 =>
 (extV q19.1 0).bind fun t20 =>
 (extV q19.1 1).bind fun t21 =>
 (castI .i64 t21).bind fun n22 =>
 (ldO true 10 q19.2 q7.1).bind fun t23 =>
 (ldO true 10 q19.2 q8.1).bind fun t24 =>
 (buildSliceV Try.prog 36 2 [(0, t23), (1, t24)]).bind fun t25 =>
 (callFO rec 24 (3 :: 0 :: 1 :: 1 :: 1 :: 1 :: 0 :: σ) [t25] q19.2 (some 37)).bind fun q26 =>
 (extV q26.1 0).bind fun t27 =>
 (extV q26.1 1).bind fun t28 =>
 (castI .i64 t28).bind fun n29 =>
 (bif n16 == 0 then (some (n22 == 0)) else (some false)).bind fun b30 =>
 (bif b30 then (some (n29 == 0)) else (some false)).bind fun b31 =>
 (bif b31 then ((strO q26.2 t14).bind fun t32 =>
 (castS t32).bind fun s33 =>
 (strO q26.2 t20).bind fun t34 =>
 (castS t34).bind fun s35 =>
 (ldO true 10 q26.2 q7.1).bind fun t36 =>
 (ldO true 10 q26.2 q8.1).bind fun t37 =>
 (callO rec 23 (18 :: 0 :: 1 :: 1 :: 1 :: 1 :: 1 :: 0 :: σ) [t36, t37] q26.2 (some 58)).bind fun q38 =>
 (asB q38.1).bind fun b39 =>
 need ((some (.p (.bool (s33.toList == s35.toList))) : Option V) = some (.p (.bool (s33.toList == s35.toList)))) (
 need (strO q38.2 t20 = some (.p (.string s35))) (
 need (strO q38.2 t14 = some (.p (.string s33))) (
 some ((.p (.bool ((s33.toList == s35.toList) == b39))), q38.2))))) else (some ((.p (.bool false)), q26.2))).bind fun q40 =>
 (asB q40.1).bind fun b41 =>
 (bif b41 then ((strO q40.2 t27).bind fun t42 =>
 (castS t42).bind fun s43 =>
 (strO q40.2 t14).bind fun t44 =>
 (castS t44).bind fun s45 =>
 (strO q40.2 t20).bind fun t46 =>
 (castS t46).bind fun s47 =>
 (strBin .add s45 s47).bind fun t48 =>
 (castS t48).bind fun s49 =>
 some (s43.toList == s49.toList)) else (some false)).bind fun b50 =>
 (bif b50 then ((ldO true 10 q40.2 q7.1).bind fun t51 =>
 (callO rec 28 (33 :: 0 :: 1 :: 1 :: 1 :: 1 :: 1 :: 0 :: σ) [t51] q40.2 (some 73)).bind fun q52 =>
 (castI .i64 q52.1).bind fun n53 =>
 some ((.p (.bool (n53 == 0))), q52.2)) else (some ((.p (.bool false)), q40.2))).bind fun q54 =>
 (asB q54.1).bind fun b55 =>
 (bif b55 then ((callO rec 29 (38 :: 0 :: 1 :: 1 :: 1 :: 1 :: 1 :: 0 :: σ) [t14] q54.2 (some 78)).bind fun q56 =>
 (asB q56.1).bind fun b57 =>
 some ((.p (.bool b57)), q56.2)) else (some ((.p (.bool false)), q54.2))).bind fun q58 =>
 (asB q58.1).bind fun b59 =>
 (bif b59 then ((callO rec 20 (41 :: 0 :: 1 :: 1 :: 1 :: 1 :: 1 :: 0 :: σ) [] q58.2 (some 81)).bind fun q60 =>
 (asB q60.1).bind fun b61 =>
 some ((.p (.bool b61)), q60.2)) else (some ((.p (.bool false)), q58.2))).bind fun q62 =>
 (asB q62.1).bind fun b63 =>
 fin false σ q62.2 [(.p (.bool b63))] := by kernel_rfl
end Go.Ev
