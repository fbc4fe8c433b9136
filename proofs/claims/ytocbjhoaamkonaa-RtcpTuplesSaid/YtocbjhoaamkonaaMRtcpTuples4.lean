/- A part of the proof that follows: Tuples are told as they are, in order, with their owners. -/
import Derived.Test.YtocbjhoaamkonaaMRtcpTuples3
import Derived.KernelRfl
namespace Go.Ev
set_option maxRecDepth 100000
set_option linter.unusedSimpArgs false
/-! ### Reports, read -/
abbrev RD (b p : List Int) : T_rtcp_reader := ⟨b, (p.length : Int), false⟩
theorem num_put {k : Nat} (hk : 10 ≤ k) {b pre suf : List Int} {v : Int} {s : Nat} (hb : b = pre ++ (putB v s ++ suf)) (hB : isB b) (hl : b.length < 2000) (h1 : 1 ≤ s) (h8 : s ≤ 8) (h0 : 0 ≤ v) (hv : v < 256 ^ s) :
    p_rtcp_reader_num k (RD b pre) (s : Int) = some (v, RD b (pre ++ putB v s)) := by
  have hlen : b.length = pre.length + (s + suf.length) := by rw [hb, List.length_append, List.length_append, putB_len]
  have g := get_ok (k := k) hk (xs := b) hB (by omega) (a := pre.length) (n := s) (by omega) h1 h8
  have e : ((b.drop pre.length).take s) = putB v s := by rw [hb, List.drop_left, List.take_left' (putB_len v s)]
  have e2 : getB 0 (putB v s) = v := by rw [getB_putB v h0, Int.emod_eq_of_lt h0 hv]; omega
  rw [e, e2] at g
  have w : IntKind.wrap .i64 ((pre.length : Int) + (s : Int)) = (((pre ++ putB v s).length : Nat) : Int) := by rw [wrap_i64 (by omega) (by omega), List.length_append, putB_len]; rfl
  unfold p_rtcp_reader_num
  rw [g, Option.bind_some]
  simp only [cond_false, Option.bind_some, Bool.not_true, w]
theorem num_any {k : Nat} (hk : 10 ≤ k) {b pre mid suf : List Int} {s : Nat} (hb : b = pre ++ (mid ++ suf)) (hm : mid.length = s) (hB : isB b) (hl : b.length < 2000) (h1 : 1 ≤ s) (h8 : s ≤ 8) :
    p_rtcp_reader_num k (RD b pre) (s : Int) = some (getB 0 mid, RD b (pre ++ mid)) := by
  have hlen : b.length = pre.length + (s + suf.length) := by rw [hb, List.length_append, List.length_append, hm]
  have g := get_ok (k := k) hk (xs := b) hB (by omega) (a := pre.length) (n := s) (by omega) h1 h8
  have e : ((b.drop pre.length).take s) = mid := by rw [hb, List.drop_left, List.take_left' hm]
  rw [e] at g
  have w : IntKind.wrap .i64 ((pre.length : Int) + (s : Int)) = (((pre ++ mid).length : Nat) : Int) := by rw [wrap_i64 (by omega) (by omega), List.length_append, hm]; rfl
  unfold p_rtcp_reader_num
  rw [g, Option.bind_some]
  simp only [cond_false, Option.bind_some, Bool.not_true, w]
theorem nought_put {k : Nat} (hk : 10 ≤ k) {b pre suf : List Int} {s : Nat} (hb : b = pre ++ (putB 0 s ++ suf)) (hB : isB b) (hl : b.length < 2000) (h1 : 1 ≤ s) (h8 : s ≤ 8) :
    p_rtcp_reader_nought k (RD b pre) (s : Int) = some (RD b (pre ++ putB 0 s)) := by
  unfold p_rtcp_reader_nought
  have := num_put hk hb hB hl h1 h8 (by decide) (Int.pow_pos (by decide))
  rw [this, Option.bind_some]
  rfl
theorem left_mid {b pre suf : List Int} (hb : b = pre ++ suf) : p_rtcp_reader_left (RD b pre) = some (decide (0 < suf.length)) := by
  unfold p_rtcp_reader_left
  have : decide ((pre.length : Int) < (b.length : Int)) = decide (0 < suf.length) := by
    rw [hb, List.length_append]
    refine decide_eq_decide.2 ?_
    omega
  simp only [Bool.not_false, cond_true, Option.bind_some, this]
theorem and511 (n v : Nat) (hv : v < 512) : intBits .and .u64 ((n * 2 ^ 9 + v : Nat) : Int) 511 = (v : Int) := by
  rw [and_mask (n := 9) (m := 511) _ rfl (by decide)]
  omega
theorem tuple_put {k : Nat} (hk : 10 ≤ k) {b pre suf : List Int} {s : ST} (hs : s.ok) (hb : b = pre ++ (encT s ++ suf)) (hB : isB b) (hl : b.length < 2000) :
    p_rtcp_reader_tuple k (RD b pre) = some (s.t, RD b (pre ++ encT s)) := by
  unfold p_rtcp_reader_tuple
  have hw : s.w < 2 ^ 32 := by
    have h1 := hs.hr.hm
    have h2 := hs.hr.he
    have h3 := hs.hv
    unfold ST.w
    omega
  have n1 := num_put (k := k) (pre := pre) hk (v := (s.o : Int)) (s := 4) (suf := putB (s.w : Int) 4 ++ suf) (by rw [hb, encT]; simp only [List.append_assoc]) hB hl (by decide) (by decide) (by omega) (by have := hs.ho; omega)
  have n2 := num_put (k := k) (pre := pre ++ putB (s.o : Int) 4) hk (v := (s.w : Int)) (s := 4) (suf := suf) (by rw [hb, encT]; simp only [List.append_assoc]) hB hl (by decide) (by decide) (by omega) (by omega)
  have f9 : Int.fdiv (s.w : Int) (2 ^ 9) = ((s.e * 2 ^ 17 + s.m : Nat) : Int) := by
    rw [fdiv_nat]
    have h3 := hs.hv
    have : s.w / 2 ^ 9 = s.e * 2 ^ 17 + s.m := by unfold ST.w; omega
    rw [this]
  have r1 := readRate (b := 17) (by decide) (by decide) hs.hr (RD b ((pre ++ putB (s.o : Int) 4) ++ putB (s.w : Int) 4))
  have w1 : IntKind.wrap .u32 (s.o : Int) = (s.o : Int) := wrap_u32 (by omega) (by have := hs.ho; omega)
  have w2 : IntKind.wrap .i64 (intBits .and .u64 (s.w : Int) 511) = (s.v : Int) := by
    unfold ST.w
    rw [and511 _ _ hs.hv]
    exact wrap_i64 (by omega) (by have := hs.hv; omega)
  erw [n1, Option.bind_some]
  erw [n2, Option.bind_some, f9]
  erw [r1, Option.bind_some]
  rw [w1, w2, encT, ← List.append_assoc]
  rfl
theorem parse_l0 {β : Type} (kE0 : List Int → T_api_Report → T_api_Report → T_rtcp_reader → Option β) (x2 b : List Int) (y : T_api_Report) (hB : isB b) (hl : b.length < 2000) : ∀ (rest : List ST) (pre : List Int) (j : Nat) (g : T_api_Report), (∀ s ∈ rest, s.ok) → b = pre ++ rest.flatMap encT → g.Tuples.length + rest.length < 1000 → 10 ≤ j →
    p_rtcp_parse_l0 (j + rest.length + 1) kE0 x2 y g (RD b pre) = kE0 x2 y { g with Tuples := g.Tuples ++ rest.map ST.t } (RD b b)
  | [], pre, j, g, _, hb, _, _ => by
    rw [List.flatMap_nil, List.append_nil] at hb
    subst hb
    rw [p_rtcp_parse_l0]
    erw [left_mid (suf := []) (List.append_nil b).symm, Option.bind_some]
    simp only [List.length_nil, Nat.lt_irrefl, decide_false, cond_false, List.map_nil, List.append_nil]
  | s :: rest, pre, j, g, hs, hb, hn, hj => by
    have hb' : b = pre ++ (encT s ++ rest.flatMap encT) := by rw [hb, List.flatMap_cons]
    rw [List.length_cons] at hn
    rw [List.length_cons, show j + (rest.length + 1) + 1 = (j + rest.length + 1) + 1 from rfl, p_rtcp_parse_l0]
    erw [left_mid hb', Option.bind_some]
    rw [List.length_append, encT_len, decide_eq_true (by omega), cond_true]
    erw [tuple_put (k := j + rest.length + 1) (by omega) (hs s (List.mem_cons_self ..)) hb' hB hl, Option.bind_some, ap_eq2 (by decide) (by simp only [List.length_cons, List.length_nil]; omega), Option.bind_some]
    refine (parse_l0 kE0 x2 b y hB hl rest (pre ++ encT s) j { g with Tuples := g.Tuples ++ [s.t] } (fun x hx => hs x (List.mem_cons_of_mem _ hx)) (by rw [hb', List.append_assoc]) (by simp only [List.length_append, List.length_cons, List.length_nil]; omega) hj).trans ?_
    simp only [List.append_assoc, List.map_cons, List.cons_append, List.nil_append]
theorem parse_l1 {β : Type} (kE0 : List Int → T_api_Report → T_api_Report → T_rtcp_reader → Option β) (x2 b : List Int) (y : T_api_Report) (hB : isB b) (hl : b.length < 2000) : ∀ (rest : List (Nat × Nat)) (pre : List Int) (j : Nat) (g : T_api_Report), (∀ p ∈ rest, p.1 < 2 ^ 32 ∧ p.2 < 256) → b = pre ++ rest.flatMap encA → g.Abouts.length + rest.length < 1000 → g.Numbers.length + rest.length < 1000 → 10 ≤ j →
    p_rtcp_parse_l1 (j + rest.length + 1) kE0 x2 y g (RD b pre) = kE0 x2 y { g with Abouts := g.Abouts ++ rest.map (fun p => (p.1 : Int)), Numbers := g.Numbers ++ rest.map (fun p => (p.2 : Int)) } (RD b b)
  | [], pre, j, g, _, hb, _, _, _ => by
    rw [List.flatMap_nil, List.append_nil] at hb
    subst hb
    rw [p_rtcp_parse_l1]
    erw [left_mid (suf := []) (List.append_nil b).symm, Option.bind_some]
    simp only [List.length_nil, Nat.lt_irrefl, decide_false, cond_false, List.map_nil, List.append_nil]
  | s :: rest, pre, j, g, hs, hb, hn, hm, hj => by
    have hb' : b = pre ++ (encA s ++ rest.flatMap encA) := by rw [hb, List.flatMap_cons]
    obtain ⟨h1, h2⟩ := hs s (List.mem_cons_self ..)
    rw [List.length_cons] at hn hm
    rw [List.length_cons, show j + (rest.length + 1) + 1 = (j + rest.length + 1) + 1 from rfl, p_rtcp_parse_l1]
    have n1 := num_put (k := j + rest.length + 1) (pre := pre) (by omega) (v := (s.1 : Int)) (s := 4) (suf := putB (s.2 : Int) 1 ++ (putB 0 3 ++ rest.flatMap encA)) (by rw [hb', encA]; simp only [List.append_assoc]) hB hl (by decide) (by decide) (by omega) (by omega)
    have n2 := num_put (k := j + rest.length + 1) (pre := pre ++ putB (s.1 : Int) 4) (by omega) (v := (s.2 : Int)) (s := 1) (suf := putB 0 3 ++ rest.flatMap encA) (by rw [hb', encA]; simp only [List.append_assoc]) hB hl (by decide) (by decide) (by omega) (by omega)
    have n3 := nought_put (k := j + rest.length + 1) (pre := (pre ++ putB (s.1 : Int) 4) ++ putB (s.2 : Int) 1) (by omega) (s := 3) (suf := rest.flatMap encA) (by rw [hb', encA]; simp only [List.append_assoc]) hB hl (by decide) (by decide)
    have w1 : IntKind.wrap .u32 (s.1 : Int) = (s.1 : Int) := wrap_u32 (by omega) (by omega)
    have w2 : IntKind.wrap .i64 (s.2 : Int) = (s.2 : Int) := wrap_i64 (by omega) (by omega)
    erw [left_mid hb', Option.bind_some]
    rw [List.length_append, encA_len, decide_eq_true (by omega), cond_true]
    erw [n1, Option.bind_some, w1, ap_eq2 (by decide) (by simp only [List.length_cons, List.length_nil]; omega), Option.bind_some, n2, Option.bind_some, w2, ap_eq2 (by decide) (by simp only [List.length_cons, List.length_nil]; omega), Option.bind_some, n3, Option.bind_some]
    have hpe : ((pre ++ putB (s.1 : Int) 4) ++ putB (s.2 : Int) 1) ++ putB 0 3 = pre ++ encA s := by rw [encA]; simp only [List.append_assoc]
    rw [hpe]
    refine (parse_l1 kE0 x2 b y hB hl rest (pre ++ encA s) j { g with Abouts := g.Abouts ++ [(s.1 : Int)], Numbers := g.Numbers ++ [(s.2 : Int)] } (fun x hx => hs x (List.mem_cons_of_mem _ hx)) (by rw [hb', List.append_assoc]) (by simp only [List.length_append, List.length_cons, List.length_nil]; omega) (by simp only [List.length_append, List.length_cons, List.length_nil]; omega) hj).trans ?_
    simp only [List.append_assoc, List.map_cons, List.cons_append, List.nil_append]
theorem remb_l0 {β : Type} (kE0 : Int → T_rtcp_reader → T_api_Report → Option β) (c : Int) (b : List Int) (hB : isB b) (hl : b.length < 2000) : ∀ (rest : List Nat) (pre : List Int) (j : Nat) (g : T_api_Report), (∀ n ∈ rest, n < 2 ^ 32) → (b = pre ++ rest.flatMap fun n : Nat => putB (n : Int) 4) → g.Abouts.length + rest.length < 1000 → 10 ≤ j →
    p_rtcp_reader_remb_l0 (j + rest.length + 1) kE0 c (RD b pre) g = kE0 c (RD b b) { g with Abouts := g.Abouts ++ rest.map (fun n : Nat => (n : Int)) }
  | [], pre, j, g, _, hb, _, _ => by
    rw [List.flatMap_nil, List.append_nil] at hb
    subst hb
    rw [p_rtcp_reader_remb_l0]
    erw [left_mid (suf := []) (List.append_nil b).symm, Option.bind_some]
    simp only [List.length_nil, Nat.lt_irrefl, decide_false, cond_false, List.map_nil, List.append_nil]
  | s :: rest, pre, j, g, hs, hb, hn, hj => by
    have hb' : b = pre ++ (putB (s : Int) 4 ++ rest.flatMap fun n : Nat => putB (n : Int) 4) := by rw [hb, List.flatMap_cons]
    have h1 := hs s (List.mem_cons_self ..)
    rw [List.length_cons] at hn
    rw [List.length_cons, show j + (rest.length + 1) + 1 = (j + rest.length + 1) + 1 from rfl, p_rtcp_reader_remb_l0]
    have n1 := num_put (k := j + rest.length + 1) (by omega) (v := (s : Int)) (s := 4) hb' hB hl (by decide) (by decide) (by omega) (by omega)
    have w1 : IntKind.wrap .u32 (s : Int) = (s : Int) := wrap_u32 (by omega) (by omega)
    erw [left_mid hb', Option.bind_some]
    rw [List.length_append, putB_len, decide_eq_true (by omega), cond_true]
    erw [n1, Option.bind_some, w1, ap_eq2 (by decide) (by simp only [List.length_cons, List.length_nil]; omega), Option.bind_some]
    refine (remb_l0 kE0 c b hB hl rest (pre ++ putB (s : Int) 4) j { g with Abouts := g.Abouts ++ [(s : Int)] } (fun x hx => hs x (List.mem_cons_of_mem _ hx)) (by rw [hb', List.append_assoc]) (by simp only [List.length_append, List.length_cons, List.length_nil]; omega) hj).trans ?_
    simp only [List.append_assoc, List.map_cons, List.cons_append, List.nil_append]
theorem remb_ok {k : Nat} (hk : 40 ≤ k) {b pre : List Int} {e m : Nat} (hF : FR 18 e m) {l : List Nat} (hn : l.length ≤ 16) (hs : ∀ n ∈ l, n < 2 ^ 32) (hb : b = pre ++ (mark ++ (putB (l.length : Int) 1 ++ (putB ((e * 2 ^ 18 + m : Nat) : Int) 3 ++ l.flatMap fun n : Nat => putB (n : Int) 4)))) (hB : isB b) (hl : b.length < 2000) (g : T_api_Report) (hg : g.Abouts = []) :
    p_rtcp_reader_remb k (RD b pre) g = some (RD b b, { g with Abouts := l.map (fun n : Nat => (n : Int)), Rate := ((m * 2 ^ e : Nat) : Int) }) := by
  unfold p_rtcp_reader_remb
  have hw : e * 2 ^ 18 + m < 2 ^ 24 := by
    have h1 := hF.hm
    have h2 := hF.he
    omega
  have n1 := num_any (k := k) (b := b) (pre := pre) (mid := mark) (s := 4) (by omega) hb rfl hB hl (by decide) (by decide)
  have n2 := num_put (k := k) (b := b) (pre := pre ++ mark) (by omega) (v := (l.length : Int)) (s := 1) (by rw [hb, List.append_assoc]) hB hl (by decide) (by decide) (by omega) (by omega)
  have n3 := num_put (k := k) (b := b) (pre := (pre ++ mark) ++ putB (l.length : Int) 1) (by omega) (v := ((e * 2 ^ 18 + m : Nat) : Int)) (s := 3) (by rw [hb, List.append_assoc, List.append_assoc]) hB hl (by decide) (by decide) (by omega) (by omega)
  have r1 := readRate (b := 18) (by decide) (by decide) hF (RD b (((pre ++ mark) ++ putB (l.length : Int) 1) ++ putB ((e * 2 ^ 18 + m : Nat) : Int) 3))
  have m4 : getB 0 mark = 1380273474 := by decide
  have lp := fun (kE0 : Int → T_rtcp_reader → T_api_Report → Option (T_rtcp_reader × T_api_Report)) => remb_l0 kE0 (l.length : Int) b hB hl l (((pre ++ mark) ++ putB (l.length : Int) 1) ++ putB ((e * 2 ^ 18 + m : Nat) : Int) 3) (k - l.length - 1) { g with Rate := ((m * 2 ^ e : Nat) : Int) } hs (by rw [hb]; simp only [List.append_assoc]) (by rw [hg]; simp only [List.length_nil]; omega) (by omega)
  rw [show k - l.length - 1 + l.length + 1 = k by omega] at lp
  have i0 : ixS (⟨#[82, 69, 77, 66]⟩ : ByteArray) 0 = some 82 := rfl
  have i1 : ixS (⟨#[82, 69, 77, 66]⟩ : ByteArray) 1 = some 69 := rfl
  have i2 : ixS (⟨#[82, 69, 77, 66]⟩ : ByteArray) 2 = some 77 := rfl
  have i3 : ixS (⟨#[82, 69, 77, 66]⟩ : ByteArray) 3 = some 66 := rfl
  have v4 : intBits .or .u64 (intBits .or .u64 (intBits .or .u64 (IntKind.wrap .u64 ((IntKind.wrap .u64 82) * 2 ^ 24)) (IntKind.wrap .u64 ((IntKind.wrap .u64 69) * 2 ^ 16))) (IntKind.wrap .u64 ((IntKind.wrap .u64 77) * 2 ^ 8))) (IntKind.wrap .u64 66) = 1380273474 := by decide
  have w1 : IntKind.wrap .u64 (l.length : Int) = (l.length : Int) := wrap_u64 (by omega) (by omega)
  rw [i0, Option.bind_some, i1, Option.bind_some, i2, Option.bind_some, i3, Option.bind_some]
  erw [n1, Option.bind_some]
  rw [v4]
  simp only [m4, bne_self_eq_false, cond_false, Option.bind_some]
  erw [n2, Option.bind_some, n3, Option.bind_some, r1, Option.bind_some, lp]
  have d16 : decide ((l.length : Int) > 16) = false := decide_eq_false (by omega)
  simp only [cond_false, Option.bind_some, hg, List.nil_append, List.length_map, w1, bne_self_eq_false, d16]
theorem kind_ours {s : SR} (h : okS s) : p_rtcp_kind (typ s : Int) (cnt s : Int) = some (rep s).Kind := by
  cases s with
  | tmm K f l => rcases h.1 with rfl | rfl <;> rfl
  | pli f a => rfl
  | fir f l => rfl
  | remb f e m l => rfl
  | other t c b => exact h.2.2.2.2.2
theorem parse_ok {k : Nat} (hk : 100 ≤ k) {s : SR} (h : okS s) : p_rtcp_parse k (typ s : Int) (cnt s : Int) (bodyS s) = some (rep s, true) := by
  have hB := body_isB h
  have hL := bodyLen h
  have hl2 : (bodyS s).length < 2000 := by omega
  unfold p_rtcp_parse
  rw [kind_ours h, Option.bind_some]
  cases s with
  | tmm K f l =>
    obtain ⟨hK, hf, hn, hs⟩ := h
    have w1 : IntKind.wrap .u32 (f : Int) = (f : Int) := wrap_u32 (by omega) (by omega)
    have n1 := num_put (k := k) (b := bodyS (.tmm K f l)) (pre := []) (by omega) (v := (f : Int)) (s := 4) rfl hB hl2 (by decide) (by decide) (by omega) (by omega)
    have n2 := nought_put (k := k) (b := bodyS (.tmm K f l)) (pre := [] ++ putB (f : Int) 4) (by omega) (s := 4) rfl hB hl2 (by decide) (by decide)
    have lp := fun (kE0 : List Int → T_api_Report → T_api_Report → T_rtcp_reader → Option (T_api_Report × Bool)) y g hg => parse_l0 kE0 (bodyS (.tmm K f l)) (bodyS (.tmm K f l)) y hB hl2 l (([] ++ putB (f : Int) 4) ++ putB 0 4) (k - l.length - 1) g hs (by rw [bodyS]; simp only [List.append_assoc, List.nil_append]) hg (by omega)
    rw [show k - l.length - 1 + l.length + 1 = k by omega] at lp
    have d6 : decide (((l.map ST.t).length : Int) > 6) = false := decide_eq_false (by rw [List.length_map]; omega)
    rcases hK with rfl | rfl
    · simp only [rep, show (((1 : Nat)) : Int) = 1 from rfl, show ((1 : Int) == 6) = false from rfl, show ((1 : Int) == 1) = true from rfl, show ((1 : Int) != 3) = true from rfl, cond_true, cond_false]
      erw [n1, Option.bind_some, n2, Option.bind_some, w1, lp _ _ _ (by simp only [List.length_nil]; omega)]
      simp only [List.nil_append, d6, cond_false, Option.bind_some, Bool.not_false, cond_true, beq_self_eq_true]
    · simp only [rep, show (((2 : Nat)) : Int) = 2 from rfl, show ((2 : Int) == 6) = false from rfl, show ((2 : Int) == 1) = false from rfl, show ((2 : Int) == 2) = true from rfl, show ((2 : Int) != 3) = true from rfl, cond_true, cond_false]
      erw [n1, Option.bind_some, n2, Option.bind_some, w1, lp _ _ _ (by simp only [List.length_nil]; omega)]
      simp only [List.nil_append, d6, cond_false, Option.bind_some, Bool.not_false, cond_true, beq_self_eq_true]
  | pli f a =>
    obtain ⟨hf, ha⟩ := h
    have w1 : IntKind.wrap .u32 (f : Int) = (f : Int) := wrap_u32 (by omega) (by omega)
    have w2 : IntKind.wrap .u32 (a : Int) = (a : Int) := wrap_u32 (by omega) (by omega)
    have n1 := num_put (k := k) (b := bodyS (.pli f a)) (pre := []) (by omega) (v := (f : Int)) (s := 4) rfl hB hl2 (by decide) (by decide) (by omega) (by omega)
    have n2 := num_put (k := k) (b := bodyS (.pli f a)) (pre := [] ++ putB (f : Int) 4) (by omega) (v := (a : Int)) (s := 4) (suf := []) (by rw [bodyS, List.append_nil, List.nil_append]) hB hl2 (by decide) (by decide) (by omega) (by omega)
    simp only [rep, show ((3 : Int) == 6) = false from rfl, show ((3 : Int) == 1) = false from rfl, show ((3 : Int) == 2) = false from rfl, show ((3 : Int) == 3) = true from rfl, show ((3 : Int) != 3) = false from rfl, cond_true, cond_false]
    erw [n1, Option.bind_some, n2, Option.bind_some, w1, w2]
    rfl
  | fir f l =>
    obtain ⟨hf, ⟨hn1, hn⟩, hs⟩ := h
    have w1 : IntKind.wrap .u32 (f : Int) = (f : Int) := wrap_u32 (by omega) (by omega)
    have n1 := num_put (k := k) (b := bodyS (.fir f l)) (pre := []) (by omega) (v := (f : Int)) (s := 4) rfl hB hl2 (by decide) (by decide) (by omega) (by omega)
    have n2 := nought_put (k := k) (b := bodyS (.fir f l)) (pre := [] ++ putB (f : Int) 4) (by omega) (s := 4) rfl hB hl2 (by decide) (by decide)
    have lp := fun (kE0 : List Int → T_api_Report → T_api_Report → T_rtcp_reader → Option (T_api_Report × Bool)) y g hg hg2 => parse_l1 kE0 (bodyS (.fir f l)) (bodyS (.fir f l)) y hB hl2 l (([] ++ putB (f : Int) 4) ++ putB 0 4) (k - l.length - 1) g hs (by rw [bodyS]; simp only [List.append_assoc, List.nil_append]) hg hg2 (by omega)
    rw [show k - l.length - 1 + l.length + 1 = k by omega] at lp
    have d1 : decide (((l.map (fun p => (p.1 : Int))).length : Int) < 1) = false := decide_eq_false (by rw [List.length_map]; omega)
    have d2 : decide (((l.map (fun p => (p.1 : Int))).length : Int) > 16) = false := decide_eq_false (by rw [List.length_map]; omega)
    simp only [rep, show ((4 : Int) == 6) = false from rfl, show ((4 : Int) == 1) = false from rfl, show ((4 : Int) == 2) = false from rfl, show ((4 : Int) == 3) = false from rfl, show ((4 : Int) == 4) = true from rfl, show ((4 : Int) != 3) = true from rfl, cond_true, cond_false]
    erw [n1, Option.bind_some, n2, Option.bind_some, w1, lp _ _ _ (by simp only [List.length_nil]; omega) (by simp only [List.length_nil]; omega)]
    simp only [List.nil_append, d1, d2, cond_false, Option.bind_some, Bool.not_false, cond_true, beq_self_eq_true]
  | remb f e m l =>
    obtain ⟨hf, hF, hn, hs⟩ := h
    have w1 : IntKind.wrap .u32 (f : Int) = (f : Int) := wrap_u32 (by omega) (by omega)
    have n1 := num_put (k := k) (b := bodyS (.remb f e m l)) (pre := []) (by omega) (v := (f : Int)) (s := 4) rfl hB hl2 (by decide) (by decide) (by omega) (by omega)
    have n2 := nought_put (k := k) (b := bodyS (.remb f e m l)) (pre := [] ++ putB (f : Int) 4) (by omega) (s := 4) rfl hB hl2 (by decide) (by decide)
    have rm := fun g hg => remb_ok (k := k) (b := bodyS (.remb f e m l)) (pre := ([] ++ putB (f : Int) 4) ++ putB 0 4) (by omega) hF hn hs (by rw [bodyS]; simp only [List.append_assoc, List.nil_append]) hB hl2 g hg
    simp only [rep, show ((5 : Int) == 6) = false from rfl, show ((5 : Int) == 1) = false from rfl, show ((5 : Int) == 2) = false from rfl, show ((5 : Int) == 3) = false from rfl, show ((5 : Int) == 4) = false from rfl, show ((5 : Int) == 5) = true from rfl, show ((5 : Int) != 3) = true from rfl, cond_true, cond_false]
    erw [n1, Option.bind_some, n2, Option.bind_some, w1, rm _ rfl, Option.bind_some]
    simp only [Bool.not_false, cond_true, beq_self_eq_true]
  | other t c b =>
    obtain ⟨h1, h2, h3, h4, h5, h6⟩ := h
    have c1 : p_clone 1 b = some b := clone_eq (by decide) (by omega)
    simp only [rep, show ((6 : Int) == 6) = true from rfl, cond_true, bodyS, typ, cnt]
    rw [c1]
    rfl
end Go.Ev
namespace Go.Ev
set_option maxRecDepth 100000
set_option linter.unusedSimpArgs false
theorem first_byte : ∀ c : Fin 32, (intBits .and .u8 ((128 + c.val : Nat) : Int) 192 = 128 ∧ intBits .and .u8 ((128 + c.val : Nat) : Int) 32 = 0) ∧ intBits .and .u8 ((128 + c.val : Nat) : Int) 31 = (c.val : Int) := by decide
theorem bytS_isB {s : SR} (h : okS s) : isB (bytS s) := by
  have hc := cnt_le h
  have ht := typ_le h
  refine isB_app (fun x hx => ?_) (isB_app (putB_isB _ _) (body_isB h))
  simp only [List.mem_cons, List.not_mem_nil, or_false] at hx
  rcases hx with rfl | rfl <;> omega
theorem words_ok {k : Nat} (hk : 10 ≤ k) {s : SR} (h : okS s) {b suf : List Int} (hb : b = bytS s ++ suf) {x : List Int} (hB : isB x) {m : Nat} (hx : x = b.take m) (hm : 4 ≤ m) (hmb : m ≤ b.length) (hl : b.length < 2000) :
    p_octet_Get k x 2 2 = some ((((bodyS s).length / 4 : Nat) : Int), true) := by
  have hbl := bodyLen h
  have hxl : x.length = m := by rw [hx, List.length_take]; omega
  have g := get_ok (k := k) hk (xs := x) hB (by omega) (a := 2) (n := 2) (by omega) (by decide) (by decide)
  have e : ((x.drop 2).take 2) = putB (((bodyS s).length / 4 : Nat) : Int) 2 := by
    obtain ⟨m', rfl⟩ : ∃ m', m = m' + 4 := ⟨m - 4, by omega⟩
    rw [hx, hb, bytS]
    simp only [putB, List.cons_append, List.nil_append, List.take_succ_cons, List.drop_succ_cons, List.drop_zero, List.take_zero]
  rw [e, getB_putB _ (by omega)] at g
  rw [show (2 : Int) = ((2 : Nat) : Int) from rfl, g]
  congr 2
  omega
theorem one_ok {k : Nat} (hk : 100 ≤ k) {s : SR} (h : okS s) {b suf : List Int} (hb : b = bytS s ++ suf) (hB : isB b) (hl : b.length < 2000) :
    p_rtcp_one k b = some (rep s, ((bytS s).length : Int), 0) := by
  have hbl := bodyLen h
  have hs := bytS_len s
  have hlen : b.length = (bytS s).length + suf.length := by rw [hb, List.length_append]
  have hc := cnt_le h
  have ht := typ_le h
  have g := words_ok (k := k) (by omega) h hb hB (m := b.length) (by rw [List.take_length]) (by omega) (by omega) hl
  have d4 : decide ((b.length : Int) < 4) = false := decide_eq_false (by omega)
  have wn : IntKind.wrap .i64 (4 + IntKind.wrap .i64 (4 * IntKind.wrap .i64 (((bodyS s).length / 4 : Nat) : Int))) = ((bytS s).length : Int) := by
    rw [wrap_i64 (n := (((bodyS s).length / 4 : Nat) : Int)) (by omega) (by omega), wrap_i64 (n := 4 * (((bodyS s).length / 4 : Nat) : Int)) (by omega) (by omega), wrap_i64 (by omega) (by omega)]
    omega
  have dn : decide (((bytS s).length : Int) > (b.length : Int)) = false := decide_eq_false (by omega)
  have i0 : ix b 0 = some ((128 + cnt s : Nat) : Int) := by rw [hb, bytS]; rfl
  have i1 : ix b 1 = some (typ s : Int) := by rw [hb, bytS]; rfl
  obtain ⟨⟨f1, f2⟩, f3⟩ := first_byte ⟨cnt s, by omega⟩
  simp only at f1 f2 f3
  have d5 : decide ((typ s : Int) < 192) = false := decide_eq_false (by omega)
  have d6 : decide ((typ s : Int) > 223) = false := decide_eq_false (by omega)
  have w1 : IntKind.wrap .i64 (typ s : Int) = (typ s : Int) := wrap_i64 (by omega) (by omega)
  have w2 : IntKind.wrap .i64 (cnt s : Int) = (cnt s : Int) := wrap_i64 (by omega) (by omega)
  have hsub : sub b 4 ((bytS s).length : Int) = some (bodyS s) := by
    have := sub_eq (xs := b) (a := 4) (n := (bodyS s).length) (by omega)
    rw [show ((bytS s).length : Int) = ((4 + (bodyS s).length : Nat) : Int) by rw [hs], show (4 : Int) = ((4 : Nat) : Int) from rfl, this]
    congr 1
    rw [hb, bytS]
    simp only [putB, List.cons_append, List.nil_append, List.drop_succ_cons, List.drop_zero, List.take_left]
  unfold p_rtcp_one
  rw [d4, cond_false, g, Option.bind_some]
  simp only [wn, dn, cond_false, i0, i1, Option.bind_some, f1, f2, f3, bne_self_eq_false, d5, d6, w1, w2, hsub, parse_ok hk h, Bool.not_true]
theorem read_steps {β : Type} (kE0 : List T_api_Report → Option β) (kE1 : Int → Option β) {b t : List Int} (hB : isB b) (hl : b.length < 2000) : ∀ (rest : List SR) (pre : List Int) (j : Nat) (out : List T_api_Report), (∀ s ∈ rest, okS s) → b = pre ++ (rest.flatMap bytS ++ t) → 100 ≤ j → out.length + rest.length < 1000 →
    p_rtcp_Read_l0 (j + rest.length) kE0 kE1 b out (pre.length : Int) = p_rtcp_Read_l0 j kE0 kE1 b (out ++ rest.map rep) ((pre ++ rest.flatMap bytS).length : Int)
  | [], pre, j, out, _, _, _, _ => by simp
  | s :: rest, pre, j, out, hs, hb, hj, ho => by
    have hb' : b = pre ++ (bytS s ++ (rest.flatMap bytS ++ t)) := by rw [hb, List.flatMap_cons, List.append_assoc]
    have h := hs s (List.mem_cons_self ..)
    have hlen : b.length = pre.length + ((bytS s).length + (rest.flatMap bytS ++ t).length) := by rw [hb', List.length_append, List.length_append]
    have hsl := bytS_len s
    rw [List.length_cons] at ho
    rw [List.length_cons, show j + (rest.length + 1) = (j + rest.length) + 1 from rfl, p_rtcp_Read_l0]
    have d : decide ((pre.length : Int) < (b.length : Int)) = true := decide_eq_true (by omega)
    have hsub : sub b (pre.length : Int) (b.length : Int) = some (bytS s ++ (rest.flatMap bytS ++ t)) := by
      have := sub_eq (xs := b) (a := pre.length) (n := b.length - pre.length) (by omega)
      rw [show pre.length + (b.length - pre.length) = b.length by omega] at this
      rw [this]
      congr 1
      rw [List.take_of_length_le (by rw [List.length_drop]; omega), hb', List.drop_left]
    have ho1 := one_ok (k := j + rest.length) (by omega) h (b := bytS s ++ (rest.flatMap bytS ++ t)) rfl (fun y hy => hB y (by rw [hb']; exact List.mem_append_right _ hy)) (by rw [List.length_append]; omega)
    have w : IntKind.wrap .i64 ((pre.length : Int) + ((bytS s).length : Int)) = (((pre ++ bytS s).length : Nat) : Int) := by rw [wrap_i64 (by omega) (by omega), List.length_append]; rfl
    have a1 : ap 136 out [rep s] = some (out ++ [rep s]) := ap_eq2 (by decide) (by simp only [List.length_cons, List.length_nil]; omega)
    rw [d, cond_true, hsub, Option.bind_some, ho1, Option.bind_some]
    simp only [show ((0 : Int) != 0) = false from rfl, cond_false, w]
    erw [a1, Option.bind_some]
    refine (read_steps kE0 kE1 hB hl rest (pre ++ bytS s) j (out ++ [rep s]) (fun x hx => hs x (List.mem_cons_of_mem _ hx)) (by rw [hb', List.append_assoc]) hj (by simp only [List.length_append, List.length_cons, List.length_nil]; omega)).trans ?_
    simp only [List.append_assoc, List.map_cons, List.cons_append, List.nil_append, List.flatMap_cons]
theorem flat_isBS {L : List SR} (h : ∀ s ∈ L, okS s) : isB (L.flatMap bytS) := fun x hx => by
  obtain ⟨a, h1, h2⟩ := List.mem_flatMap.1 hx
  exact bytS_isB (h a h1) x h2
theorem flatS_len : ∀ {L : List SR}, (∀ s ∈ L, okS s) → (L.flatMap bytS).length ≤ 204 * L.length ∧ (L.flatMap bytS).length % 4 = 0 ∧ 4 * L.length ≤ (L.flatMap bytS).length
  | [], _ => by simp
  | s :: L, h => by
    have := flatS_len (L := L) fun x hx => h x (List.mem_cons_of_mem _ hx)
    have h1 := bodyLen (h s (List.mem_cons_self ..))
    have h2 := bytS_len s
    rw [List.flatMap_cons, List.length_append, List.length_cons]
    omega
theorem read_all {k : Nat} (hk : 110 ≤ k) {L : List SR} (h : ∀ s ∈ L, okS s) (h1 : 1 ≤ L.length) (h6 : L.length ≤ 6) : p_rtcp_Read k (L.flatMap bytS) = some (L.map rep, 0) := by
  have hl := flatS_len h
  unfold p_rtcp_Read
  have d1 : decide (((L.flatMap bytS).length : Int) > 1500) = false := decide_eq_false (by omega)
  have d2 : (((L.flatMap bytS).length : Int) == 0) = false := by rw [beq_eq_false_iff_ne]; omega
  rw [d1, cond_false, d2, cond_false]
  have := read_steps (fun r => some (r, 0)) (fun r => some ([], r)) (b := L.flatMap bytS) (t := []) (flat_isBS h) (by omega) L [] (k - L.length) [] h (by rw [List.nil_append, List.append_nil]) (by omega) (by simp only [List.length_nil]; omega)
  rw [show k - L.length + L.length = k by omega] at this
  refine this.trans ?_
  obtain ⟨j, hj⟩ : ∃ j, k - L.length = j + 1 := ⟨k - L.length - 1, by omega⟩
  rw [hj, p_rtcp_Read_l0, List.nil_append]
  have d3 : decide ((((L.flatMap bytS).length : Nat) : Int) < ((L.flatMap bytS).length : Int)) = false := decide_eq_false (by omega)
  rw [d3, cond_false, List.nil_append]
end Go.Ev
namespace Go.Ev
set_option maxRecDepth 100000
set_option linter.unusedSimpArgs false
theorem wrapN64 (n : Nat) (h : n < 2 ^ 32) : IntKind.wrap .u64 (n : Int) = (n : Int) := wrap_u64 (by omega) (by omega)
theorem body_l0 {β : Type} (kE0 : List Int → T_api_Report → Option β) (y : T_api_Report) (L : List ST) (hL : ∀ s ∈ L, s.ok ∧ NR 17 s.e s.m) (hn : L.length ≤ 6) : ∀ (rest pre : List ST) (j : Nat) (out : List Int), L = pre ++ rest → 70 ≤ j → out.length + 8 * rest.length < 900 →
    p_rtcp_body_l0 (j + rest.length + 1) kE0 out (L.map ST.t) (L.length : Int) (pre.length : Int) y = kE0 (out ++ rest.flatMap encT) y
  | [], pre, j, out, h, _, _ => by
    rw [p_rtcp_body_l0]
    have h1 : decide ((pre.length : Int) < (L.length : Int)) = false := by subst h; simp
    rw [h1, cond_false, List.flatMap_nil, List.append_nil]
  | a :: rest, pre, j, out, h, hj, ho => by
    have hplen : pre.length + 1 ≤ L.length := by rw [h, List.length_append, List.length_cons]; omega
    rw [List.length_cons] at ho
    rw [List.length_cons, show j + (rest.length + 1) + 1 = (j + rest.length + 1) + 1 from rfl, p_rtcp_body_l0]
    have h1 : decide ((pre.length : Int) < (L.length : Int)) = true := decide_eq_true (by omega)
    have h2 : ix (L.map ST.t) (pre.length : Int) = some a.t := ix_mid' (xs := pre.map ST.t) (ys := rest.map ST.t) (by rw [h, List.map_append, List.map_cons]) (by rw [List.length_map])
    have h4 : IntKind.wrap .i64 ((pre.length : Int) + 1) = (((pre ++ [a]).length : Nat) : Int) := by rw [wrap_i64 (by omega) (by omega)]; simp
    obtain ⟨ha, hN⟩ := hL a (by rw [h]; simp)
    have w1 : IntKind.wrap .u64 a.t.Owner = (a.o : Int) := wrapN64 _ ha.ho
    have w2 : IntKind.wrap .u64 a.t.Over = (a.v : Int) := wrapN64 _ (by have := ha.hv; omega)
    have p1 : p_octet_Put (j + rest.length + 1) out (a.o : Int) 4 = some (out ++ putB (a.o : Int) 4) := putO_ok (s := 4) (by omega) (by omega) (by omega) (by decide) (by decide)
    have p2 : p_rtcp_packed (j + rest.length + 1) a.t.Rate 17 9 (a.v : Int) = some (a.w : Int) := packedN (b := 17) (c := 9) (by omega) (by decide) (by decide) hN (by have := ha.hv; omega) (by decide) (by decide)
    have p3 : p_octet_Put (j + rest.length + 1) (out ++ putB (a.o : Int) 4) (a.w : Int) 4 = some ((out ++ putB (a.o : Int) 4) ++ putB (a.w : Int) 4) := putO_ok (s := 4) (by omega) (by rw [List.length_append, putB_len]; omega) (by omega) (by decide) (by decide)
    rw [h1, cond_true, h2, Option.bind_some, w1, p1, Option.bind_some, w2, p2, Option.bind_some, p3, Option.bind_some, h4]
    refine (body_l0 kE0 y L hL hn rest (pre ++ [a]) j _ (by rw [h]; simp) hj (by rw [List.length_append, List.length_append, putB_len, putB_len]; omega)).trans ?_
    rw [List.flatMap_cons, encT]
    simp only [List.append_assoc]
theorem body_l1 {β : Type} (kE0 : List Int → Option β) (y : T_api_Report) (L : List (Nat × Nat)) (hy : y.Numbers = L.map (fun p => (p.2 : Int))) (hL : ∀ p ∈ L, p.1 < 2 ^ 32 ∧ p.2 < 256) (hn : L.length ≤ 16) : ∀ (rest pre : List (Nat × Nat)) (j : Nat) (out : List Int), L = pre ++ rest → 70 ≤ j → out.length + 8 * rest.length < 900 →
    p_rtcp_body_l1 (j + rest.length + 1) kE0 out (L.map (fun p => (p.1 : Int))) (L.length : Int) (pre.length : Int) y = kE0 (out ++ rest.flatMap encA)
  | [], pre, j, out, h, _, _ => by
    rw [p_rtcp_body_l1]
    have h1 : decide ((pre.length : Int) < (L.length : Int)) = false := by subst h; simp
    rw [h1, cond_false, List.flatMap_nil, List.append_nil]
  | a :: rest, pre, j, out, h, hj, ho => by
    have hplen : pre.length + 1 ≤ L.length := by rw [h, List.length_append, List.length_cons]; omega
    rw [List.length_cons] at ho
    rw [List.length_cons, show j + (rest.length + 1) + 1 = (j + rest.length + 1) + 1 from rfl, p_rtcp_body_l1]
    have h1 : decide ((pre.length : Int) < (L.length : Int)) = true := decide_eq_true (by omega)
    have h2 : ix (L.map (fun p => (p.1 : Int))) (pre.length : Int) = some (a.1 : Int) := ix_mid' (xs := pre.map (fun p => (p.1 : Int))) (ys := rest.map (fun p => (p.1 : Int))) (by rw [h, List.map_append, List.map_cons]) (by rw [List.length_map])
    have h3 : ix y.Numbers (pre.length : Int) = some (a.2 : Int) := ix_mid' (xs := pre.map (fun p => (p.2 : Int))) (ys := rest.map (fun p => (p.2 : Int))) (by rw [hy, h, List.map_append, List.map_cons]) (by rw [List.length_map])
    have h4 : IntKind.wrap .i64 ((pre.length : Int) + 1) = (((pre ++ [a]).length : Nat) : Int) := by rw [wrap_i64 (by omega) (by omega)]; simp
    obtain ⟨ha, hb⟩ := hL a (by rw [h]; simp)
    have p1 : p_octet_Put (j + rest.length + 1) out (a.1 : Int) 4 = some (out ++ putB (a.1 : Int) 4) := putO_ok (s := 4) (by omega) (by omega) (by omega) (by decide) (by decide)
    have p2 : p_octet_Put (j + rest.length + 1) (out ++ putB (a.1 : Int) 4) (a.2 : Int) 1 = some ((out ++ putB (a.1 : Int) 4) ++ putB (a.2 : Int) 1) := putO_ok (s := 1) (by omega) (by rw [List.length_append, putB_len]; omega) (by omega) (by decide) (by decide)
    have p3 : p_octet_Put (j + rest.length + 1) ((out ++ putB (a.1 : Int) 4) ++ putB (a.2 : Int) 1) 0 3 = some (((out ++ putB (a.1 : Int) 4) ++ putB (a.2 : Int) 1) ++ putB 0 3) := putO_ok (s := 3) (by omega) (by rw [List.length_append, List.length_append, putB_len, putB_len]; omega) (by omega) (by decide) (by decide)
    rw [h1, cond_true, h2, Option.bind_some, h3, Option.bind_some, wrapN64 _ ha, p1, Option.bind_some, wrapN64 _ (by omega), p2, Option.bind_some, p3, Option.bind_some, h4]
    refine (body_l1 kE0 y L hy hL hn rest (pre ++ [a]) j _ (by rw [h]; simp) hj (by rw [List.length_append, List.length_append, List.length_append, putB_len, putB_len, putB_len]; omega)).trans ?_
    rw [List.flatMap_cons, encA]
    simp only [List.append_assoc]
theorem body_l2 {β : Type} (kE0 : List Int → Option β) (L : List Nat) (hL : ∀ n ∈ L, n < 2 ^ 32) (hn : L.length ≤ 16) : ∀ (rest pre : List Nat) (j : Nat) (out : List Int), L = pre ++ rest → 70 ≤ j → out.length + 8 * rest.length < 900 →
    p_rtcp_body_l2 (j + rest.length + 1) kE0 out (L.map (fun n : Nat => (n : Int))) (L.length : Int) (pre.length : Int) = kE0 (out ++ rest.flatMap fun n : Nat => putB (n : Int) 4)
  | [], pre, j, out, h, _, _ => by
    rw [p_rtcp_body_l2]
    have h1 : decide ((pre.length : Int) < (L.length : Int)) = false := by subst h; simp
    rw [h1, cond_false, List.flatMap_nil, List.append_nil]
  | a :: rest, pre, j, out, h, hj, ho => by
    have hplen : pre.length + 1 ≤ L.length := by rw [h, List.length_append, List.length_cons]; omega
    rw [List.length_cons] at ho
    rw [List.length_cons, show j + (rest.length + 1) + 1 = (j + rest.length + 1) + 1 from rfl, p_rtcp_body_l2]
    have h1 : decide ((pre.length : Int) < (L.length : Int)) = true := decide_eq_true (by omega)
    have h2 : ix (L.map (fun n : Nat => (n : Int))) (pre.length : Int) = some (a : Int) := ix_mid' (xs := pre.map (fun n : Nat => (n : Int))) (ys := rest.map (fun n : Nat => (n : Int))) (by rw [h, List.map_append, List.map_cons]) (by rw [List.length_map])
    have h4 : IntKind.wrap .i64 ((pre.length : Int) + 1) = (((pre ++ [a]).length : Nat) : Int) := by rw [wrap_i64 (by omega) (by omega)]; simp
    have ha := hL a (by rw [h]; simp)
    have p1 : p_octet_Put (j + rest.length + 1) out (a : Int) 4 = some (out ++ putB (a : Int) 4) := putO_ok (s := 4) (by omega) (by omega) (by omega) (by decide) (by decide)
    rw [h1, cond_true, h2, Option.bind_some, wrapN64 _ ha, p1, Option.bind_some, h4]
    refine (body_l2 kE0 L hL hn rest (pre ++ [a]) j _ (by rw [h]; simp) hj (by rw [List.length_append, putB_len]; omega)).trans ?_
    rw [List.flatMap_cons]
    simp only [List.append_assoc]
theorem body_ok {k : Nat} (hk : 100 ≤ k) {s : SR} (h : okS s) (hw : okW s) : p_rtcp_body k (rep s) = some (bodyS s, (typ s : Int), (cnt s : Int)) := by
  have p4 : ∀ (out : List Int) (n : Nat) (s : Nat), out.length < 900 → 1 ≤ s → s ≤ 8 → p_octet_Put k out (n : Int) (s : Int) = some (out ++ putB (n : Int) s) := fun out n s ho h1 h8 => putO_ok (by omega) (by omega) (by omega) h1 h8
  cases s with
  | tmm K f l =>
    obtain ⟨hK, hf, hn, hl⟩ := h
    have q0 := p4 [] f 4 (by simp) (by decide) (by decide)
    have q1 := p4 (putB (f : Int) 4) 0 4 (by rw [putB_len]; omega) (by decide) (by decide)
    have bl := fun (kE0 : List Int → T_api_Report → Option (List Int × Int × Int)) (y : T_api_Report) => body_l0 kE0 y l (fun s hs => ⟨hl s hs, hw s hs⟩) hn l [] (k - l.length - 1) (putB (f : Int) 4 ++ putB 0 4) rfl (by omega) (by rw [List.length_append, putB_len, putB_len]; omega)
    rw [show k - l.length - 1 + l.length + 1 = k by omega] at bl
    rcases hK with rfl | rfl
    · show p_rtcp_body k (⟨1, (f : Int), 0, l.map ST.t, [], [], 0, 0, 0, []⟩ : T_api_Report) = _
      unfold p_rtcp_body
      simp only [wrapN64 f hf]
      simp only [show ((1 : Int) == 1) = true from rfl, show ((1 : Int) != 3) = true from rfl, show ((1 : Int) != 6) = true from rfl, cond_true]
      erw [q0, Option.bind_some, Option.bind_some, q1, Option.bind_some, List.length_map, bl]
      rw [bodyS, List.append_assoc]
      rfl
    · show p_rtcp_body k (⟨2, (f : Int), 0, l.map ST.t, [], [], 0, 0, 0, []⟩ : T_api_Report) = _
      unfold p_rtcp_body
      simp only [wrapN64 f hf]
      simp only [show ((2 : Int) == 1) = false from rfl, show ((2 : Int) == 2) = true from rfl, show ((2 : Int) != 3) = true from rfl, show ((2 : Int) != 6) = true from rfl, cond_true, cond_false]
      erw [q0, Option.bind_some, Option.bind_some, q1, Option.bind_some, List.length_map, bl]
      rw [bodyS, List.append_assoc]
      rfl
  | pli f a =>
    obtain ⟨hf, ha⟩ := h
    have q0 := p4 [] f 4 (by simp) (by decide) (by decide)
    have q1 := p4 (putB (f : Int) 4) a 4 (by rw [putB_len]; omega) (by decide) (by decide)
    show p_rtcp_body k (⟨3, (f : Int), (a : Int), [], [], [], 0, 0, 0, []⟩ : T_api_Report) = _
    unfold p_rtcp_body
    simp only [wrapN64 f hf, wrapN64 a ha]
    simp only [show ((3 : Int) == 1) = false from rfl, show ((3 : Int) == 2) = false from rfl, show ((3 : Int) == 3) = true from rfl, show ((3 : Int) != 3) = false from rfl, cond_true, cond_false]
    erw [q0, Option.bind_some, Option.bind_some, cond_false, q1, Option.bind_some]
    rfl
  | fir f l =>
    obtain ⟨hf, ⟨hn1, hn⟩, hl⟩ := h
    have q0 := p4 [] f 4 (by simp) (by decide) (by decide)
    have q1 := p4 (putB (f : Int) 4) 0 4 (by rw [putB_len]; omega) (by decide) (by decide)
    have bl := fun (kE0 : List Int → Option (List Int × Int × Int)) => body_l1 kE0 (⟨4, (f : Int), 0, [], l.map (fun p => (p.1 : Int)), l.map (fun p => (p.2 : Int)), 0, 0, 0, []⟩ : T_api_Report) l rfl hl hn l [] (k - l.length - 1) (putB (f : Int) 4 ++ putB 0 4) rfl (by omega) (by rw [List.length_append, putB_len, putB_len]; omega)
    rw [show k - l.length - 1 + l.length + 1 = k by omega] at bl
    show p_rtcp_body k (⟨4, (f : Int), 0, [], l.map (fun p => (p.1 : Int)), l.map (fun p => (p.2 : Int)), 0, 0, 0, []⟩ : T_api_Report) = _
    unfold p_rtcp_body
    simp only [wrapN64 f hf]
    simp only [show ((4 : Int) == 1) = false from rfl, show ((4 : Int) == 2) = false from rfl, show ((4 : Int) == 3) = false from rfl, show ((4 : Int) == 4) = true from rfl, show ((4 : Int) != 3) = true from rfl, show ((4 : Int) != 6) = true from rfl, cond_true, cond_false]
    erw [q0, Option.bind_some, Option.bind_some, q1, Option.bind_some, List.length_map, bl]
    rw [bodyS, List.append_assoc]
    rfl
  | remb f e m l =>
    obtain ⟨hf, hF, hn, hl⟩ := h
    have q0 := p4 [] f 4 (by simp) (by decide) (by decide)
    have q1 := p4 (putB (f : Int) 4) 0 4 (by rw [putB_len]; omega) (by decide) (by decide)
    have a1 : ap 1 (putB (f : Int) 4 ++ putB 0 4) (bytesS (⟨#[82, 69, 77, 66]⟩ : ByteArray)) = some ((putB (f : Int) 4 ++ putB 0 4) ++ mark) := ap_eq2 (by decide) (by rw [List.length_append, putB_len, putB_len, bytesS_len]; decide)
    have q2 := p4 ((putB (f : Int) 4 ++ putB 0 4) ++ mark) l.length 1 (by rw [List.length_append, List.length_append, putB_len, putB_len]; decide) (by decide) (by decide)
    have q3 := p4 (((putB (f : Int) 4 ++ putB 0 4) ++ mark) ++ putB (l.length : Int) 1) (e * 2 ^ 18 + m) 3 (by rw [List.length_append, List.length_append, List.length_append, putB_len, putB_len, putB_len]; decide) (by decide) (by decide)
    have pk : p_rtcp_packed k ((m * 2 ^ e : Nat) : Int) 18 0 0 = some ((e * 2 ^ 18 + m : Nat) : Int) := by
      have := packedN (k := k) (b := 18) (c := 0) (low := 0) (by omega) (by decide) (by decide) hw (by decide) (by decide) (by decide)
      rwa [Nat.pow_zero, Nat.mul_one, Nat.add_zero] at this
    have bl := fun (kE0 : List Int → Option (List Int × Int × Int)) => body_l2 kE0 l hl hn l [] (k - l.length - 1) ((((putB (f : Int) 4 ++ putB 0 4) ++ mark) ++ putB (l.length : Int) 1) ++ putB ((e * 2 ^ 18 + m : Nat) : Int) 3) rfl (by omega) (by simp only [List.length_append, putB_len, mark, List.length_cons, List.length_nil]; omega)
    rw [show k - l.length - 1 + l.length + 1 = k by omega] at bl
    show p_rtcp_body k (⟨5, (f : Int), 0, [], l.map (fun n : Nat => (n : Int)), [], ((m * 2 ^ e : Nat) : Int), 0, 0, []⟩ : T_api_Report) = _
    unfold p_rtcp_body
    simp only [wrapN64 f hf, List.length_map, wrapN64 l.length (by omega)]
    simp only [show ((5 : Int) == 1) = false from rfl, show ((5 : Int) == 2) = false from rfl, show ((5 : Int) == 3) = false from rfl, show ((5 : Int) == 4) = false from rfl, show ((5 : Int) == 5) = true from rfl, show ((5 : Int) != 3) = true from rfl, show ((5 : Int) != 6) = true from rfl, cond_true, cond_false]
    erw [q0, Option.bind_some, Option.bind_some, q1, Option.bind_some, a1, Option.bind_some, q2, Option.bind_some, pk, Option.bind_some, q3, Option.bind_some, bl]
    rw [bodyS]
    simp only [List.append_assoc]
    rfl
  | other t c b =>
    obtain ⟨h1, h2, h3, h4, h5, h6⟩ := h
    have q0 := p4 [] 0 4 (by simp) (by decide) (by decide)
    have c1 : p_clone 1 b = some b := clone_eq (by decide) (by omega)
    show p_rtcp_body k (⟨6, 0, 0, [], [], [], 0, (t : Int), (c : Int), b⟩ : T_api_Report) = _
    unfold p_rtcp_body
    simp only [show IntKind.wrap .u64 0 = 0 from rfl]
    simp only [show ((6 : Int) == 1) = false from rfl, show ((6 : Int) == 2) = false from rfl, show ((6 : Int) == 3) = false from rfl, show ((6 : Int) == 4) = false from rfl, show ((6 : Int) == 5) = false from rfl, show ((6 : Int) != 3) = true from rfl, show ((6 : Int) != 6) = false from rfl, cond_true, cond_false]
    erw [q0, Option.bind_some, Option.bind_some, cond_false, c1, Option.bind_some]
    rfl
theorem bytes_l0 {β : Type} (kE0 : List T_api_Report → Option β) (kE1 : Int → Option β) (x0 : List T_api_Report) (L : List SR) (hL : ∀ s ∈ L, okS s ∧ okW s) (hn : L.length ≤ 6) : ∀ (rest pre : List SR) (j : Nat), L = pre ++ rest → 90 ≤ j →
    p_rtcp_Bytes_l0 (j + rest.length + 1) kE0 kE1 x0 (L.map rep) (L.length : Int) (pre.length : Int) = kE0 x0
  | [], pre, j, h, _ => by
    rw [p_rtcp_Bytes_l0]
    have h1 : decide ((pre.length : Int) < (L.length : Int)) = false := by subst h; simp
    rw [h1, cond_false]
  | a :: rest, pre, j, h, hj => by
    have hplen : pre.length + 1 ≤ L.length := by rw [h, List.length_append, List.length_cons]; omega
    rw [List.length_cons, show j + (rest.length + 1) + 1 = (j + rest.length + 1) + 1 from rfl, p_rtcp_Bytes_l0]
    have h1 : decide ((pre.length : Int) < (L.length : Int)) = true := decide_eq_true (by omega)
    have h2 : ix (L.map rep) (pre.length : Int) = some (rep a) := ix_mid' (xs := pre.map rep) (ys := rest.map rep) (by rw [h, List.map_append, List.map_cons]) (by rw [List.length_map])
    have h4 : IntKind.wrap .i64 ((pre.length : Int) + 1) = (((pre ++ [a]).length : Nat) : Int) := by rw [wrap_i64 (by omega) (by omega)]; simp
    obtain ⟨ha, hb⟩ := hL a (by rw [h]; simp)
    rw [h1, cond_true, h2, Option.bind_some, right_okR (by omega) ha hb, Option.bind_some, show ((0 : Int) != 0) = false from rfl, cond_false, h4]
    exact bytes_l0 kE0 kE1 x0 L hL hn rest (pre ++ [a]) j (by rw [h]; simp) hj
theorem or128 {c : Nat} (h : c ≤ 31) : intBits .or .i64 128 (c : Int) = ((128 + c : Nat) : Int) := by
  have := or_add .i64 (j := 5) (a := 4) (b := (c : Int)) (by decide) (by omega) (by omega) (by show (4 : Int) * 2 ^ 5 + c < 2 ^ 64; omega) (wrap_i64 (by omega) (by omega))
  rw [show ((128 : Int)) = 4 * 2 ^ 5 from rfl, this]
  omega
theorem bytes_l1 {β : Type} (kE0 : List Int → Option β) (kE1 : Int → Option β) (L : List SR) (hL : ∀ s ∈ L, okS s ∧ okW s) (hn : L.length ≤ 4) : ∀ (rest pre : List SR) (j : Nat) (out : List Int), L = pre ++ rest → 100 ≤ j → out.length + 204 * rest.length < 900 →
    p_rtcp_Bytes_l1 (j + rest.length + 1) kE0 kE1 out (L.map rep) (L.length : Int) (pre.length : Int) = kE0 (out ++ rest.flatMap bytS)
  | [], pre, j, out, h, _, _ => by
    rw [p_rtcp_Bytes_l1]
    have h1 : decide ((pre.length : Int) < (L.length : Int)) = false := by subst h; simp
    rw [h1, cond_false, List.flatMap_nil, List.append_nil]
  | a :: rest, pre, j, out, h, hj, ho => by
    have hplen : pre.length + 1 ≤ L.length := by rw [h, List.length_append, List.length_cons]; omega
    rw [List.length_cons] at ho
    rw [List.length_cons, show j + (rest.length + 1) + 1 = (j + rest.length + 1) + 1 from rfl, p_rtcp_Bytes_l1]
    have h1 : decide ((pre.length : Int) < (L.length : Int)) = true := decide_eq_true (by omega)
    have h2 : ix (L.map rep) (pre.length : Int) = some (rep a) := ix_mid' (xs := pre.map rep) (ys := rest.map rep) (by rw [h, List.map_append, List.map_cons]) (by rw [List.length_map])
    have h4 : IntKind.wrap .i64 ((pre.length : Int) + 1) = (((pre ++ [a]).length : Nat) : Int) := by rw [wrap_i64 (by omega) (by omega)]; simp
    obtain ⟨ha, hb⟩ := hL a (by rw [h]; simp)
    have hc := cnt_le ha
    have ht := typ_le ha
    have hl := bodyLen ha
    have w1 : IntKind.wrap .u8 ((128 + cnt a : Nat) : Int) = ((128 + cnt a : Nat) : Int) := wrap_u8 (by omega) (by omega)
    have w2 : IntKind.wrap .u8 (typ a : Int) = (typ a : Int) := wrap_u8 (by omega) (by omega)
    have w3 : IntKind.wrap .i64 (Int.tdiv ((bodyS a).length : Int) 4) = (((bodyS a).length / 4 : Nat) : Int) := by
      rw [show Int.tdiv ((bodyS a).length : Int) 4 = (((bodyS a).length / 4 : Nat) : Int) from rfl]
      exact wrap_i64 (by omega) (by omega)
    have w4 : IntKind.wrap .u64 (((bodyS a).length / 4 : Nat) : Int) = (((bodyS a).length / 4 : Nat) : Int) := wrapN64 _ (by omega)
    have a1 : ap 1 out [((128 + cnt a : Nat) : Int), (typ a : Int)] = some (out ++ [((128 + cnt a : Nat) : Int), (typ a : Int)]) := ap_eq2 (by decide) (by simp only [List.length_cons, List.length_nil]; omega)
    have p1 : p_octet_Put (j + rest.length + 1) (out ++ [((128 + cnt a : Nat) : Int), (typ a : Int)]) (((bodyS a).length / 4 : Nat) : Int) 2 = some ((out ++ [((128 + cnt a : Nat) : Int), (typ a : Int)]) ++ putB (((bodyS a).length / 4 : Nat) : Int) 2) := putO_ok (s := 2) (by omega) (by rw [List.length_append]; simp only [List.length_cons, List.length_nil]; omega) (by omega) (by decide) (by decide)
    have a2 : ap 1 ((out ++ [((128 + cnt a : Nat) : Int), (typ a : Int)]) ++ putB (((bodyS a).length / 4 : Nat) : Int) 2) (bodyS a) = some (out ++ bytS a) := by
      rw [ap_eq2 (by decide) (by rw [List.length_append, List.length_append, putB_len]; simp only [List.length_cons, List.length_nil]; omega), bytS]
      simp only [List.append_assoc]
    have hbl := bytS_len a
    have d1 : decide ((((out ++ bytS a).length : Nat) : Int) > 1500) = false := decide_eq_false (by rw [List.length_append]; omega)
    rw [h1, cond_true, h2, Option.bind_some, body_ok (by omega) ha hb, Option.bind_some]
    simp only [or128 hc, w1, w2, w3, w4]
    rw [a1, Option.bind_some, p1, Option.bind_some, a2, Option.bind_some, d1, cond_false, h4]
    refine (bytes_l1 kE0 kE1 L hL hn rest (pre ++ [a]) j _ (by rw [h]; simp) hj (by rw [List.length_append]; omega)).trans ?_
    rw [List.flatMap_cons, List.append_assoc]
theorem bytes_okR {k : Nat} (hk : 110 ≤ k) {L : List SR} (hL : ∀ s ∈ L, okS s ∧ okW s) (h1 : 1 ≤ L.length) (hn : L.length ≤ 3) : p_rtcp_Bytes k (L.map rep) = some (L.flatMap bytS, 0) := by
  unfold p_rtcp_Bytes
  have d : (((L.map rep).length : Int) == 0) = false := by rw [List.length_map, beq_eq_false_iff_ne]; omega
  have b0 := fun (kE0 : List T_api_Report → Option (List Int × Int)) kE1 x0 => bytes_l0 kE0 kE1 x0 L hL (by omega) L [] (k - L.length - 1) rfl (by omega)
  have b1 := fun (kE0 : List Int → Option (List Int × Int)) kE1 => bytes_l1 kE0 kE1 L hL (by omega) L [] (k - L.length - 1) [] rfl (by omega) (by simp only [List.length_nil]; omega)
  rw [show k - L.length - 1 + L.length + 1 = k by omega] at b0 b1
  rw [d, cond_false]
  rw [show (((L.map rep).length : Nat) : Int) = (L.length : Int) by rw [List.length_map]]
  refine (b0 _ _ _).trans ?_
  simp only [List.length_map]
  refine (b1 _ _).trans ?_
  rw [List.nil_append]
end Go.Ev
/- Equations, printed by tracer2.py. -/
namespace Go.Ev
open Go.Proofs
set_option linter.unusedVariables false
set_option maxRecDepth 100000
-- 15 (*limelight/limelightkeep.Tape).Report
end Go.Ev
/- Equations, printed by tracer2.py. -/
namespace Go.Ev
open Go.Proofs
set_option linter.unusedVariables false
set_option maxRecDepth 100000
-- 46 (*limelight/limelightkeep.Tape).Bytes
end Go.Ev
/- Lifted by lift.py: limelightkeep_Tape_Bytes as a plain function. -/
namespace Go.Ev
open Go.Proofs
set_option linter.unusedVariables false
set_option linter.unusedSimpArgs false
set_option maxRecDepth 100000
end Go.Ev
/- Equations, printed by tracer2.py. -/
namespace Go.Ev
open Go.Proofs
set_option linter.unusedVariables false
set_option maxRecDepth 100000
-- 30 (*limelight/limelightkeep.Tape).Tuple
theorem limelightkeep_Tape_Tuple_entry (rec : CallF) (loop : LoopV) (σ : Stamp) (x0 : V) (h : H) : cvBody G rec loop 30 σ [x0] h =
 (some (alO [.p (.int .u32 0), .p (.int .u64 0), .p (.int .i64 0)] (0 :: 0 :: 0 :: σ) 2 (List.replicate 21 [] :: h))).bind fun q1 =>
 (callO rec 42 (1 :: 0 :: 1 :: 0 :: σ) [x0, (.p (.int .i64 9))] q1.2 (some 4)).bind fun q2 =>
 (castI .i64 q2.1).bind fun n3 =>
 (callO rec 42 (4 :: 0 :: 1 :: 0 :: σ) [x0, (.p (.int .i64 2000))] q2.2 (some 7)).bind fun q4 =>
 (castI .i64 q4.1).bind fun n5 =>
 (buildSliceV Try.prog 23 3 [(0, (.p (.int .i64 1))), (1, (.p (.int .i64 100))), (2, (.p (.int .i64 8000)))]).bind fun t6 =>
 (callO rec 42 (9 :: 0 :: 1 :: 0 :: σ) [x0, (.p (.int .i64 3))] q4.2 (some 12)).bind fun q7 =>
 (castI .i64 q7.1).bind fun n8 =>
 (iS 1 t6 n8).bind fun t9 =>
 (ldO false 1 q7.2 t9).bind fun t10 =>
 (castI .i64 t10).bind fun n11 =>
 (callO rec 44 (14 :: 0 :: 1 :: 0 :: σ) [(.p (.int .u64 (IntKind.wrap .u64 ((IntKind.wrap .u64 (IntKind.wrap .i64 (1 + n5))) * (IntKind.wrap .u64 n11))))), (.p (.int .i64 17))] q7.2 (some 17)).bind fun q12 =>
 (castI .u64 q12.1).bind fun n13 =>
 (callO rec 42 (16 :: 0 :: 1 :: 0 :: σ) [x0, (.p (.int .i64 120))] q12.2 (some 19)).bind fun q14 =>
 (castI .i64 q14.1).bind fun n15 =>
 (buildV Try.prog 57 [(0, (.p (.int .u32 (IntKind.wrap .u32 n3)))), (1, (.p (.int .u64 n13))), (2, (.p (.int .i64 n15)))]).bind fun t16 =>
 ((stO false 3 (18 :: 0 :: 1 :: 0 :: σ) q14.2 q1.1 t16).map fun h => (udf, h)).bind fun q17 =>
 ((ldO true 3 q17.2 q1.1).bind fun t18 => (some []).map (t18 :: ·)).bind fun t19 => fin false σ q17.2 t19 := by kernel_rfl
end Go.Ev
/- Lifted by lift.py: limelightkeep_Tape_Tuple as a plain function. -/
namespace Go.Ev
open Go.Proofs
set_option linter.unusedVariables false
set_option linter.unusedSimpArgs false
set_option maxRecDepth 100000
def p_limelightkeep_Tape_Tuple (k : Nat) (x0 : T_limelightkeep_Tape) : Option (T_api_Tuple × T_limelightkeep_Tape) :=
(p_limelightkeep_Tape_Next x0 9).bind fun r5 =>
(p_limelightkeep_Tape_Next r5.2 2000).bind fun r13 =>
(p_limelightkeep_Tape_Next r13.2 3).bind fun r22 =>
(ix ([1, 100, 8000]) r22.1).bind fun a30 =>
(p_limelightref1_Down k (IntKind.wrap .u64 ((IntKind.wrap .u64 (IntKind.wrap .i64 (1 + r13.1))) * (IntKind.wrap .u64 a30))) 17).bind fun r33 =>
(p_limelightkeep_Tape_Next r22.2 120).bind fun r38 =>
some (((⟨(IntKind.wrap .u32 r5.1), r33, r38.1⟩ : T_api_Tuple)), r38.2)
theorem limelightkeep_Tape_Tuple_ok (k : Nat) {h : H} {σ : Stamp} (x0 : T_limelightkeep_Tape) {u0_0 : V} (hu0_0 : SlF (dI .i64) x0.f_L u0_0) {l0 : Loc} {o0 : Nat} (ha0 : AtC h l0 o0 (List.map C.v [u0_0, (.p (.int .i64 x0.f_At))])) : Sim (p_limelightkeep_Tape_Tuple k x0) (ev G X0 30 σ [(.ref l0 o0)] h) (fun r s => ∃ (w0 : List V), ∃ (vb0_0 : V), dT_api_Tuple.R r.1 w0 ∧ SlF (dI .i64) r.2.f_L vb0_0 ∧ s = ([.v (.agg w0)], pts h [⟨l0, o0, [.v vb0_0, .v (.p (.int .i64 r.2.f_At))]⟩])) := by
  refine Sim.ev rfl (Sim.ext (limelightkeep_Tape_Tuple_entry _ _ _ _ _) ?_)
  rw [p_limelightkeep_Tape_Tuple]
  have S0 : Fm 21 h [⟨l0, o0, List.map C.v [u0_0, (.p (.int .i64 x0.f_At))]⟩] [] [] (List.replicate 21 [] :: h) := Fm.start1 ha0
  obtain ⟨H1, e2, S3⟩ := S0.al (d := 2) (s := (0 :: 0 :: 0 :: σ)) (z := [(.p (.int .u32 0)), (.p (.int .u64 0)), (.p (.int .i64 0))]) (by decide) rfl
  refine Sim.op (congrArg some e2) ?_
  refine Sim.call (limelightkeep_Tape_Next_ok x0 hu0_0 (S3.atB (i := 0) rfl) 9) fun r5 cs6 H7 h8 q9 => ?_
  obtain ⟨v10, h11, q9⟩ := q9
  cases q9
  have S12 := S3.setB (i := 0) (cs := List.map C.v [v10, (.p (.int .i64 r5.2.f_At))]) rfl rfl
  refine Sim.op (castI_p _ _) ?_
  refine Sim.call (limelightkeep_Tape_Next_ok r5.2 h11 (S12.atB (i := 0) rfl) 2000) fun r13 cs14 H15 h16 q17 => ?_
  obtain ⟨v18, h19, q17⟩ := q17
  cases q17
  have S20 := S12.setB (i := 0) (cs := List.map C.v [v18, (.p (.int .i64 r13.2.f_At))]) rfl rfl
  refine Sim.op (castI_p _ _) ?_
  have h21 : SlF (dI .i64) [1, 100, 8000] (.fz [(.p (.int .i64 1)), (.p (.int .i64 100)), (.p (.int .i64 8000))] 3 1 true) := SlF.lit (cs := [(.p (.int .i64 1)), (.p (.int .i64 100)), (.p (.int .i64 8000))]) (RL.cons (show (dI .i64).R 1 [(.p (.int .i64 1))] from rfl) (RL.cons (show (dI .i64).R 100 [(.p (.int .i64 100))] from rfl) (RL.cons (show (dI .i64).R 8000 [(.p (.int .i64 8000))] from rfl) RL.nil))) rfl rfl true
  refine Sim.op (bldS (pt_cons rfl (pt_cons rfl (pt_cons rfl pt_nil))) (by kernel_rfl : _ = some (.fz [(.p (.int .i64 1)), (.p (.int .i64 100)), (.p (.int .i64 8000))] 3 1 true))) ?_
  refine Sim.call (limelightkeep_Tape_Next_ok r13.2 h19 (S20.atB (i := 0) rfl) 3) fun r22 cs23 H24 h25 q26 => ?_
  obtain ⟨v27, h28, q26⟩ := q26
  cases q26
  have S29 := S20.setB (i := 0) (cs := List.map C.v [v27, (.p (.int .i64 r22.2.f_At))]) rfl rfl
  refine Sim.op (castI_p _ _) ?_
  refine Sim.bd fun a30 h31 => ?_
  refine Sim.op ((h21.h (ptC (ptC (ptC H1 l0 o0 (List.map C.v [v10, (.p (.int .i64 r5.2.f_At))])) l0 o0 (List.map C.v [v18, (.p (.int .i64 r13.2.f_At))])) l0 o0 (List.map C.v [v27, (.p (.int .i64 r22.2.f_At))]))).iS h31 rfl) ?_
  obtain ⟨_, rfl, hE32⟩ := (h21.h (ptC (ptC (ptC H1 l0 o0 (List.map C.v [v10, (.p (.int .i64 r5.2.f_At))])) l0 o0 (List.map C.v [v18, (.p (.int .i64 r13.2.f_At))])) l0 o0 (List.map C.v [v27, (.p (.int .i64 r22.2.f_At))]))).el h31 rfl
  refine Sim.op (hE32.ld (j := 0) rfl) ?_
  refine Sim.op (castI_p _ _) ?_
  refine Sim.call (limelightref1_Down_ok k (IntKind.wrap .u64 ((IntKind.wrap .u64 (IntKind.wrap .i64 (1 + r13.1))) * (IntKind.wrap .u64 a30))) 17) fun r33 cs34 H35 h36 q37 => ?_
  cases q37
  refine Sim.op (castI_p _ _) ?_
  refine Sim.call (limelightkeep_Tape_Next_ok r22.2 h28 (S29.atB (i := 0) rfl) 120) fun r38 cs39 H40 h41 q42 => ?_
  obtain ⟨v43, h44, q42⟩ := q42
  cases q42
  have S45 := S29.setB (i := 0) (cs := List.map C.v [v43, (.p (.int .i64 r38.2.f_At))]) rfl rfl
  refine Sim.op (castI_p _ _) ?_
  refine Sim.op (bldV (pt_cons rfl (pt_cons rfl (pt_cons rfl pt_nil))) (by kernel_rfl : _ = some (.agg [.p (.int .u32 (IntKind.wrap .u32 r5.1)), .p (.int .u64 r33), .p (.int .i64 r38.1)]))) ?_
  obtain ⟨H46, e47, S48⟩ := S45.stGv (i := 0) (j := 0) (own := false) (σ := (18 :: 0 :: 1 :: 0 :: σ)) (xs := [.p (.int .u32 (IntKind.wrap .u32 r5.1)), .p (.int .u64 r33), .p (.int .i64 r38.1)]) rfl rfl (stills_cons (still_int _ _) (stills_cons (still_int _ _) (stills_cons (still_int _ _) stills_nil))) rfl rfl
  refine Sim.op (st_map e47) ?_
  have e49 : ldO true 3 H46 (.ref ⟨h.length, 2, 0, (0 :: 0 :: 0 :: σ), []⟩ 0) = some (.agg [.p (.int .u32 (IntKind.wrap .u32 r5.1)), .p (.int .u64 r33), .p (.int .i64 r38.1)]) := (S48.atG (i := 0) rfl).ldVs (j := 0) (xs := [.p (.int .u32 (IntKind.wrap .u32 r5.1)), .p (.int .u64 r33), .p (.int .i64 r38.1)]) rfl rfl (by decide)
  refine Sim.op (show _ = some [(.agg [.p (.int .u32 (IntKind.wrap .u32 r5.1)), .p (.int .u64 r33), .p (.int .i64 r38.1)])] from by simp only [e49, Option.bind_some, Option.map_some]) ?_
  exact Sim.fin (S48.finN (lv_cons (Stills.lv (dT_api_Tuple.still (dT_api_Tuple.mk))) lv_nil)) ⟨[.p (.int .u32 (IntKind.wrap .u32 r5.1)), .p (.int .u64 r33), .p (.int .i64 r38.1)], v43, (show dT_api_Tuple.R ((⟨(IntKind.wrap .u32 r5.1), r33, r38.1⟩ : T_api_Tuple)) [.p (.int .u32 (IntKind.wrap .u32 r5.1)), .p (.int .u64 r33), .p (.int .i64 r38.1)] from (dT_api_Tuple.mk)), h44, rfl⟩
end Go.Ev
/- Equations, printed by tracer2.py. -/
namespace Go.Ev
open Go.Proofs
set_option linter.unusedVariables false
set_option maxRecDepth 100000
-- 43 (*limelight/limelightkeep.Tape).Word
end Go.Ev
/- Lifted by lift.py: limelightkeep_Tape_Word as a plain function. -/
namespace Go.Ev
open Go.Proofs
set_option linter.unusedVariables false
set_option linter.unusedSimpArgs false
set_option maxRecDepth 100000
end Go.Ev
/- Equations, printed by tracer2.py. -/
namespace Go.Ev
open Go.Proofs
set_option linter.unusedVariables false
set_option maxRecDepth 100000
-- 45 limelight/limelightref1.Pad
end Go.Ev
/- Lifted by lift.py: limelightref1_Pad as a plain function. -/
namespace Go.Ev
open Go.Proofs
set_option linter.unusedVariables false
set_option linter.unusedSimpArgs false
set_option maxRecDepth 100000
end Go.Ev
/- Lifted by lift.py: limelightkeep_Tape_Report as a plain function. -/
namespace Go.Ev
open Go.Proofs
set_option linter.unusedVariables false
set_option linter.unusedSimpArgs false
set_option maxRecDepth 100000
end Go.Ev
namespace Go.Ev
set_option maxRecDepth 100000
set_option linter.unusedSimpArgs false
theorem wrapU64_bd (x : Int) : ∃ n : Nat, IntKind.wrap .u64 x = (n : Int) ∧ n < 2 ^ 64 := by
  have h : 0 ≤ IntKind.wrap .u64 x ∧ IntKind.wrap .u64 x < 2 ^ 64 := by rw [wrapU64_eq]; omega
  exact ⟨(IntKind.wrap .u64 x).toNat, by omega, by omega⟩
theorem tape_tuple {t : T_limelightkeep_Tape} (h : TP t) {k : Nat} (hk : 70 ≤ k) : ∃ s t', p_limelightkeep_Tape_Tuple k t = some (ST.t s, t') ∧ s.ok ∧ NR 17 s.e s.m ∧ TP t' := by
  obtain ⟨r1, t1, h1, ⟨a1, b1⟩, ht1⟩ := next_tape h (n := 9) (by decide)
  obtain ⟨r2, t2, h2, _, ht2⟩ := next_tape ht1 (n := 2000) (by decide)
  obtain ⟨r3, t3, h3, ⟨a3, b3⟩, ht3⟩ := next_tape ht2 (n := 3) (by decide)
  obtain ⟨r4, t4, h4, ⟨a4, b4⟩, ht4⟩ := next_tape ht3 (n := 120) (by decide)
  obtain ⟨z, hz⟩ : ∃ z, ix ([1, 100, 8000] : List Int) r3 = some z := by
    obtain rfl | rfl | rfl : r3 = 0 ∨ r3 = 1 ∨ r3 = 2 := by omega
    · exact ⟨_, rfl⟩
    · exact ⟨_, rfl⟩
    · exact ⟨_, rfl⟩
  obtain ⟨x, hx, hx2⟩ := wrapU64_bd ((IntKind.wrap .u64 (IntKind.wrap .i64 (1 + r2))) * (IntKind.wrap .u64 z))
  obtain ⟨n, hn, e, m, hN, hm⟩ := refDown (k := k) (b := 17) hk (by decide) (by decide) x hx2
  obtain ⟨o, rfl⟩ : ∃ o : Nat, r1 = o := ⟨r1.toNat, by omega⟩
  obtain ⟨v, rfl⟩ : ∃ v : Nat, r4 = v := ⟨r4.toNat, by omega⟩
  refine ⟨⟨o, e, m, v⟩, t4, ?_, ⟨by show o < _; omega, hN.toFR, by show v < _; omega⟩, hN, ht4⟩
  have w1 : IntKind.wrap .u32 (o : Int) = (o : Int) := wrap_u32 (by omega) (by omega)
  have hn' : p_limelightref1_Down k (x : Int) 17 = some n := hn
  unfold p_limelightkeep_Tape_Tuple
  erw [h1, Option.bind_some, h2, Option.bind_some, h3, Option.bind_some, hz, Option.bind_some, hx, hn', Option.bind_some, h4, Option.bind_some, w1, hm]
  rfl
end Go.Ev
/- Equations, printed by tracer2.py. -/
namespace Go.Ev
open Go.Proofs
set_option linter.unusedVariables false
set_option maxRecDepth 100000
-- 26 limelight/limelightref6.All
end Go.Ev
/- Equations, printed by tracer2.py. -/
namespace Go.Ev
open Go.Proofs
set_option linter.unusedVariables false
set_option maxRecDepth 100000
-- 23 limelight/limelightref6.Same
end Go.Ev
/- Equations, printed by tracer2.py. -/
namespace Go.Ev
open Go.Proofs
set_option linter.unusedVariables false
set_option maxRecDepth 100000
-- 31 limelight/limelightref6.Tuples
noncomputable def limelightref6_Tuples_c0 : Code := (codeAt (bodyOf Try.f31) [1, 1, 0, 1, 0, 0])
def limelightref6_Tuples_l0 : Lv := ⟨0, 16, [(0, 0)]⟩
noncomputable def limelightref6_Tuples_k0 (rec : CallF) (loop : LoopV) (σ : Stamp) : Exit → Env → H → Option (List C × H) := (kBlock 0 (kSeq G rec loop (codeAt (bodyOf Try.f31) [1, 1, 1]) ⟨16, 16, []⟩ (1 :: 1 :: 0 :: σ) (finC G false Try.f31 (1 :: σ))))
theorem limelightref6_Tuples_entry (rec : CallF) (loop : LoopV) (σ : Stamp) (x0 : V) (x1 : V) (h : H) : cvBody G rec loop 31 σ [x0, x1] h =
 (lenO x0).bind fun t1 =>
 (castI .i64 t1).bind fun n2 =>
 (lenO x1).bind fun t3 =>
 (castI .i64 t3).bind fun n4 =>
 bif n2 != n4 then (
 fin false σ (List.replicate 26 [] :: h) [(.p (.bool false))])
 else (
 (lenO x0).bind fun t5 =>
 (castI .i64 t5).bind fun n6 =>
 (loop limelightref6_Tuples_c0 limelightref6_Tuples_l0 (1 :: 0 :: 1 :: 1 :: 0 :: σ) (envL [(0, x0), (1, x1), (12, (.p (.int .i64 n6))), (13, (.p (.int .i64 0)))]) (List.replicate 26 [] :: h)).bind fun r7 => limelightref6_Tuples_k0 rec loop σ r7.1 r7.2.1 r7.2.2) := by kernel_rfl
theorem limelightref6_Tuples_r0 (rec : CallF) (loop : LoopV) (σ : Stamp) (x0 : V) (x1 : V) (x12 : Int) (x13 : Int) (h : H) : cvRound G rec loop limelightref6_Tuples_c0 limelightref6_Tuples_l0 σ (envL [(0, x0), (1, x1), (12, (.p (.int .i64 x12))), (13, (.p (.int .i64 x13)))]) h =
 bif decide (x13 < x12) then (
 (iS 3 x0 x13).bind fun t8 =>
 (ldO true 3 h t8).bind fun t9 =>
 (iS 3 x1 x13).bind fun t10 =>
 (ldO true 3 h t10).bind fun t11 =>
 (binV Try.prog h .neq 57 t9 t11).bind fun t12 =>
 (asB t12).bind fun b13 =>
 bif b13 then (
 some (.ret, (envL [(4, (.p (.bool false)))]), h))
 else (
 loop limelightref6_Tuples_c0 limelightref6_Tuples_l0 (1 :: σ) (envL [(0, x0), (1, x1), (12, (.p (.int .i64 x12))), (13, (.p (.int .i64 (IntKind.wrap .i64 (x13 + 1)))))]) h))
 else (
 some ((.exit 0), (envL []), h)) := by kernel_rfl
theorem limelightref6_Tuples_a0_0 (rec : CallF) (loop : LoopV) (σ : Stamp)  (h : H) : limelightref6_Tuples_k0 rec loop σ (.exit 0) (envL []) h =
 fin false σ h [(.p (.bool true))] := by kernel_rfl
theorem limelightref6_Tuples_a0_ret (rec : CallF) (loop : LoopV) (σ : Stamp) (x4 : Bool) (h : H) : limelightref6_Tuples_k0 rec loop σ .ret (envL [(4, (.p (.bool x4)))]) h =
 fin false σ h [(.p (.bool x4))] := by kernel_rfl
end Go.Ev
/- Lifted by lift.py: limelightref6_Tuples as a plain function. -/
namespace Go.Ev
open Go.Proofs
set_option linter.unusedVariables false
set_option linter.unusedSimpArgs false
set_option maxRecDepth 100000
def p_limelightref6_Tuples_l0 {β : Type} (k : Nat) (kE0 : Unit → Option β) (kE1 : Bool → Option β) (x0 : (List T_api_Tuple)) (x1 : (List T_api_Tuple)) (x12 : Int) (x13 : Int) : Option β := match k with
| 0 => none
| k + 1 =>
bif decide (x13 < x12) then (
(ix x0 x13).bind fun a9 =>
(ix x1 x13).bind fun a14 =>
bif !(andB [a9.Owner == a14.Owner, a9.Rate == a14.Rate, a9.Over == a14.Over]) then (
kE1 false)
else (
p_limelightref6_Tuples_l0 k kE0 kE1 x0 x1 x12 (IntKind.wrap .i64 (x13 + 1))))
else (
kE0 ())
def p_limelightref6_Tuples (k : Nat) (x0 : (List T_api_Tuple)) (x1 : (List T_api_Tuple)) : Option (Bool) :=
bif ((x0.length : Int)) != ((x1.length : Int)) then (
some (false))
else (
p_limelightref6_Tuples_l0 k (fun (_ : Unit) =>
some (true)) (fun r27_4 =>
some (r27_4)) x0 x1 ((x0.length : Int)) 0)
theorem limelightref6_Tuples_l0_ok {h : H}  {β α : Type} {Q : β → α → Prop} {K : Exit × Env × H → Option α} {kE0 : Unit → Option β} {kE1 : Bool → Option β} (hE0 : ∀ (_u : Unit) (H20 : Go.Ev.H) (_ : Fm 26 h [] [] [] H20), Sim (kE0 ()) (K ((.exit 0), (envL []), H20)) Q) (hE1 : ∀ (q4 : Bool) (H22 : Go.Ev.H) (_ : Fm 26 h [] [] [] H22), Sim (kE1 q4) (K (.ret, (envL [(4, (.p (.bool q4)))]), H22)) Q) (k : Nat) : ∀ (x0 : (List T_api_Tuple)) (x1 : (List T_api_Tuple)) (x12 : Int) (x13 : Int) (v4 : V) (h5 : SlH h dT_api_Tuple x0 v4) (v6 : V) (h7 : SlH h dT_api_Tuple x1 v6) (H2 : Go.Ev.H) (_ : Fm 26 h [] [] [] H2) {σ : Stamp}, Sim (p_limelightref6_Tuples_l0 k kE0 kE1 x0 x1 x12 x13) ((cvL G X0 limelightref6_Tuples_c0 limelightref6_Tuples_l0 σ (envL [(0, v4), (1, v6), (12, (.p (.int .i64 x12))), (13, (.p (.int .i64 x13)))]) H2).bind K) Q := by
  induction k with
  | zero => intros; exact Sim.no
  | succ k ih =>
    intro x0 x1 x12 x13 v4 h5 v6 h7 H2 S3 σ
    rw [p_limelightref6_Tuples_l0]
    refine Sim.round (Sim.ext (limelightref6_Tuples_r0 _ _ _ _ _ _ _ _) ?_)
    refine Sim.cd (fun hc8 => ?_) (fun hc8 => ?_)
    · refine Sim.bd fun a9 h10 => ?_
      refine Sim.op ((S3.low h5).iS h10 rfl) ?_
      obtain ⟨w12, h13, hE11⟩ := (S3.low h5).el h10 rfl
      obtain rfl := dT_api_Tuple.inv h13
      refine Sim.op (hE11.all (by simp)) ?_
      refine Sim.bd fun a14 h15 => ?_
      refine Sim.op ((S3.low h7).iS h15 rfl) ?_
      obtain ⟨w17, h18, hE16⟩ := (S3.low h7).el h15 rfl
      obtain rfl := dT_api_Tuple.inv h18
      refine Sim.op (hE16.all (by simp)) ?_
      refine Sim.op (nqS_ok (by kernel_rfl : _ = andL [a9.Owner == a14.Owner, a9.Rate == a14.Rate, a9.Over == a14.Over])) ?_
      refine Sim.op (asB_p _) ?_
      refine Sim.cd (fun hc19 => ?_) (fun hc19 => ?_)
      · exact hE1 false H2 (S3.wk2 all_nil all_nil)
      exact ih x0 x1 x12 (IntKind.wrap .i64 (x13 + 1)) v4 h5 v6 h7 H2 (S3.wk2 all_nil all_nil)
    exact hE0 () H2 (S3.wk2 all_nil all_nil)
theorem limelightref6_Tuples_ok (k : Nat) {h : H} {σ : Stamp} (x0 : List T_api_Tuple) {u0 : V} (hu0 : SlH h dT_api_Tuple x0 u0) (x1 : List T_api_Tuple) {u1 : V} (hu1 : SlH h dT_api_Tuple x1 u1) : Sim (p_limelightref6_Tuples k x0 x1) (ev G X0 31 σ [u0, u1] h) (fun r s => s = ([.v (.p (.bool r))], h)) := by
  refine Sim.ev rfl (Sim.ext (limelightref6_Tuples_entry _ _ _ _ _ _) ?_)
  rw [p_limelightref6_Tuples]
  have S0 : Fm 26 h [] [] [] (List.replicate 26 [] :: h) := Fm.start0
  refine Sim.op ((S0.low hu0).len) ?_
  refine Sim.op (castI_p _ _) ?_
  refine Sim.op ((S0.low hu1).len) ?_
  refine Sim.op (castI_p _ _) ?_
  refine Sim.cd (fun hc1 => ?_) (fun hc1 => ?_)
  · exact Sim.fin (S0.finN (lv_cons (still_bool _).lv lv_nil)) rfl
  refine Sim.op ((S0.low hu0).len) ?_
  refine Sim.op (castI_p _ _) ?_
  refine Sim.as (limelightref6_Tuples_l0_ok ?_ ?_ k x0 x1 ((x0.length : Int)) 0 u0 hu0 u1 hu1 (List.replicate 26 [] :: h) (S0.wk2 all_nil all_nil)) 
  · intro _u H25 S26
    refine Sim.ext (limelightref6_Tuples_a0_0 _ _ _ _) ?_
    exact Sim.fin (S26.finN (lv_cons (still_bool _).lv lv_nil)) rfl
  · intro r27_4 H28 S29
    refine Sim.ext (limelightref6_Tuples_a0_ret _ _ _ _ _) ?_
    exact Sim.fin (S29.finN (lv_cons (still_bool _).lv lv_nil)) rfl
end Go.Ev
/- Equations, printed by tracer2.py. -/
namespace Go.Ev
open Go.Proofs
set_option linter.unusedVariables false
set_option maxRecDepth 100000
-- 55 limelight/limelightref6.nums
end Go.Ev
/- Lifted by lift.py: limelightref6_nums as a plain function. -/
namespace Go.Ev
open Go.Proofs
set_option linter.unusedVariables false
set_option linter.unusedSimpArgs false
set_option maxRecDepth 100000
end Go.Ev
/- Lifted by lift.py: limelightref6_Same as a plain function. -/
namespace Go.Ev
open Go.Proofs
set_option linter.unusedVariables false
set_option linter.unusedSimpArgs false
set_option maxRecDepth 100000
end Go.Ev
/- Lifted by lift.py: limelightref6_All as a plain function. -/
namespace Go.Ev
open Go.Proofs
set_option linter.unusedVariables false
set_option linter.unusedSimpArgs false
set_option maxRecDepth 100000
end Go.Ev
namespace Go.Ev
set_option maxRecDepth 100000
set_option linter.unusedSimpArgs false
/-! ### Reports that are the same -/
theorem tuplesE_l0 {β : Type} (kE0 : Unit → Option β) (kE1 : Bool → Option β) (x y : List T_api_Tuple) (hn : x.length < 1000) : ∀ (rest rest' pre pre' : List T_api_Tuple) (j : Nat), x = pre ++ rest → y = pre' ++ rest' → pre.length = pre'.length → rest.length = rest'.length →
    ∃ v : Bool, (v = true ↔ rest = rest') ∧ p_limelightref6_Tuples_l0 (j + rest.length + 1) kE0 kE1 x y (x.length : Int) (pre.length : Int) = bif v then kE0 () else kE1 false
  | [], rest', pre, pre', j, hx, hy, hp, hr => by
    have : rest' = [] := List.length_eq_zero_iff.1 hr.symm
    subst this
    rw [p_limelightref6_Tuples_l0]
    have h1 : decide ((pre.length : Int) < (x.length : Int)) = false := by subst hx; simp
    rw [h1, cond_false]
    exact ⟨true, by simp, rfl⟩
  | a :: rest, [], pre, pre', j, hx, hy, hp, hr => by simp at hr
  | a :: rest, b :: rest', pre, pre', j, hx, hy, hp, hr => by
    have hplen : pre.length + 1 ≤ x.length := by rw [hx, List.length_append, List.length_cons]; omega
    rw [List.length_cons, List.length_cons] at hr
    rw [List.length_cons, show j + (rest.length + 1) + 1 = (j + rest.length + 1) + 1 from rfl, p_limelightref6_Tuples_l0]
    have h1 : decide ((pre.length : Int) < (x.length : Int)) = true := decide_eq_true (by omega)
    have h2 : ix x (pre.length : Int) = some a := ix_mid' hx rfl
    have h3 : ix y (pre.length : Int) = some b := ix_mid' hy (by rw [hp])
    have h4 : IntKind.wrap .i64 ((pre.length : Int) + 1) = (((pre ++ [a]).length : Nat) : Int) := by rw [wrap_i64 (by omega) (by omega)]; simp
    rw [h1, cond_true, h2, Option.bind_some, h3, Option.bind_some, h4]
    by_cases hab : a = b
    · subst hab
      obtain ⟨v, hv, he⟩ := tuplesE_l0 kE0 kE1 x y hn rest rest' (pre ++ [a]) (pre' ++ [a]) j (by rw [hx]; simp) (by rw [hy]; simp) (by rw [List.length_append, List.length_append, hp]) (by omega)
      refine ⟨v, by rw [hv]; simp, ?_⟩
      have e : andB [a.Owner == a.Owner, a.Rate == a.Rate, a.Over == a.Over] = true := by simp [andB]
      rw [e, Bool.not_true, cond_false, he]
    · refine ⟨false, by simp [hab], ?_⟩
      have e : andB [a.Owner == b.Owner, a.Rate == b.Rate, a.Over == b.Over] = false := by
        cases he : andB [a.Owner == b.Owner, a.Rate == b.Rate, a.Over == b.Over] with
        | false => rfl
        | true =>
          refine absurd ?_ hab
          simp [andB] at he
          obtain ⟨a1, a2, a3⟩ := a
          obtain ⟨b1, b2, b3⟩ := b
          simp only at he
          obtain ⟨rfl, rfl, rfl⟩ := he
          rfl
      rw [e]
      rfl
theorem tuplesE_ok {k : Nat} (x y : List T_api_Tuple) (hn : x.length < 1000) (hk : 1000 ≤ k) : ∃ v : Bool, (v = true ↔ x = y) ∧ p_limelightref6_Tuples k x y = some v := by
  unfold p_limelightref6_Tuples
  by_cases h : x.length = y.length
  · have d : (((x.length : Int)) != ((y.length : Int))) = false := by rw [h]; exact bne_self_eq_false _
    obtain ⟨v, hv, he⟩ := tuplesE_l0 (fun (_ : Unit) => some true) (fun r => some r) x y hn x y [] [] (k - x.length - 1) rfl rfl rfl h
    rw [show k - x.length - 1 + x.length + 1 = k by omega] at he
    refine ⟨v, hv, ?_⟩
    rw [d, cond_false]
    refine he.trans ?_
    cases v <;> rfl
  · have d : (((x.length : Int)) != ((y.length : Int))) = true := by rw [bne_iff_ne]; omega
    refine ⟨false, ?_, by rw [d, cond_true]⟩
    simp only [Bool.false_eq_true, false_iff]
    intro e; exact h (by rw [e])
end Go.Ev
/- Equations, printed by tracer2.py. -/
namespace Go.Ev
open Go.Proofs
set_option linter.unusedVariables false
set_option maxRecDepth 100000
-- 20 limelight/limelightlaw6.known
theorem limelightlaw6_known_entry (rec : CallF) (loop : LoopV) (σ : Stamp)  (h : H) : cvBody G rec loop 20 σ [] h =
 (buildV Try.prog 33 [(0, (.p (.int .i64 3))), (1, (.p (.int .u32 1))), (2, (.p (.int .u32 2)))]).bind fun t1 =>
 (some (alO [.p (.int .i64 0), .p (.int .u32 0), .p (.int .u32 0), .p (.slice none 0 0), .p (.slice none 0 0), .p (.slice none 0 0), .p (.int .u64 0), .p (.int .i64 0), .p (.int .i64 0), .p (.slice none 0 0)] (1 :: 0 :: 1 :: 0 :: σ) 1 (List.replicate 105 [] :: h))).bind fun q2 =>
 ((stO false 10 (2 :: 0 :: 1 :: 0 :: σ) q2.2 q2.1 t1).map fun h => (udf, h)).bind fun q3 =>
 (ldO true 10 q3.2 q2.1).bind fun t4 =>
 (buildSliceV Try.prog 29 1 [(0, (.p (.int .u32 5)))]).bind fun t5 =>
 (buildV Try.prog 33 [(0, (.p (.int .i64 5))), (6, (.p (.int .u64 8000))), (4, t5)]).bind fun t6 =>
 (buildSliceV Try.prog 36 2 [(0, t4), (1, t6)]).bind fun t7 =>
 (callFO rec 24 (4 :: 0 :: 1 :: 1 :: 0 :: σ) [t7] q3.2 (some 18)).bind fun q8 =>
 (extV q8.1 0).bind fun t9 =>
 (extV q8.1 1).bind fun t10 =>
 (castI .i64 t10).bind fun n11 =>
 (callFO rec 25 (1 :: 0 :: 1 :: 1 :: 1 :: 0 :: σ) [t9] q8.2 (some 23)).bind fun q12 =>
 (extV q12.1 0).bind fun t13 =>
 (extV q12.1 1).bind fun t14 =>
 (castI .i64 t14).bind fun n15 =>
 (callFO rec 25 (0 :: 0 :: 1 :: 1 :: 1 :: 1 :: 0 :: σ) [(.p (.slice .none 0 0))] q12.2 (some 27)).bind fun q16 =>
 (extV q16.1 0).bind fun t17 =>
 (extV q16.1 1).bind fun t18 =>
 (castI .i64 t18).bind fun n19 =>
 (callFO rec 24 (0 :: 0 :: 1 :: 1 :: 1 :: 1 :: 1 :: 0 :: σ) [(.p (.slice .none 0 0))] q16.2 (some 31)).bind fun q20 =>
 (extV q20.1 0).bind fun t21 =>
 (extV q20.1 1).bind fun t22 =>
 (castI .i64 t22).bind fun n23 =>
 (buildSliceV Try.prog 31 4 [(0, (.p (.int .u8 161))), (1, (.p (.int .u8 206))), (2, (.p (.int .u8 0))), (3, (.p (.int .u8 0)))]).bind fun t24 =>
 (callFO rec 25 (1 :: 0 :: 1 :: 1 :: 1 :: 1 :: 1 :: 1 :: 0 :: σ) [t24] q20.2 (some 36)).bind fun q25 =>
 (extV q25.1 0).bind fun t26 =>
 (extV q25.1 1).bind fun t27 =>
 (castI .i64 t27).bind fun n28 =>
 (bif n11 == 0 then ((lenO t9).bind fun t29 =>
 (castI .i64 t29).bind fun n30 =>
 some (n30 == 36)) else (some false)).bind fun b31 =>
 (bif b31 then ((slS 1 t9 none (some 4) none).bind fun t32 =>
 (strO q25.2 t32).bind fun t33 =>
 (castS t33).bind fun s34 =>
 some (s34.toList == ((⟨#[129, 206, 0, 2]⟩ : ByteArray)).toList)) else (some false)).bind fun b35 =>
 (bif b35 then (some (n15 == 0)) else (some false)).bind fun b36 =>
 (bif b36 then ((lenO t13).bind fun t37 =>
 (castI .i64 t37).bind fun n38 =>
 some (n38 == 2)) else (some false)).bind fun b39 =>
 (bif b39 then ((iS 10 t13 0).bind fun t40 =>
 (ldO true 10 q25.2 t40).bind fun t41 =>
 (ldO true 10 q25.2 q2.1).bind fun t42 =>
 (callO rec 22 (27 :: 0 :: 1 :: 1 :: 1 :: 1 :: 1 :: 1 :: 1 :: 0 :: σ) [t41, t42] q25.2 (some 66)).bind fun q43 =>
 (asB q43.1).bind fun b44 =>
 some ((.p (.bool b44)), q43.2)) else (some ((.p (.bool false)), q25.2))).bind fun q45 =>
 (asB q45.1).bind fun b46 =>
 (bif b46 then ((iS 10 t13 1).bind fun t47 =>
 (fA t47 6).bind fun t48 =>
 (ldO false 1 q45.2 t48).bind fun t49 =>
 (castI .u64 t49).bind fun n50 =>
 some (n50 == 8000)) else (some false)).bind fun b51 =>
 (bif b51 then (some (n19 == 13)) else (some false)).bind fun b52 =>
 (bif b52 then (some (n23 == 1)) else (some false)).bind fun b53 =>
 (bif b53 then (some (n28 == 12)) else (some false)).bind fun b54 =>
 (bif b54 then ((callO rec 29 (50 :: 0 :: 1 :: 1 :: 1 :: 1 :: 1 :: 1 :: 1 :: 0 :: σ) [t9] q45.2 (some 89)).bind fun q55 =>
 (asB q55.1).bind fun b56 =>
 some ((.p (.bool b56)), q55.2)) else (some ((.p (.bool false)), q45.2))).bind fun q57 =>
 (asB q57.1).bind fun b58 =>
 (bif b58 then ((callO rec 29 (53 :: 0 :: 1 :: 1 :: 1 :: 1 :: 1 :: 1 :: 1 :: 0 :: σ) [(.p (.slice .none 0 0))] q57.2 (some 92)).bind fun q59 =>
 (asB q59.1).bind fun b60 =>
 some ((.p (.bool (!b60))), q59.2)) else (some ((.p (.bool false)), q57.2))).bind fun q61 =>
 (asB q61.1).bind fun b62 =>
 (bif b62 then ((buildSliceV Try.prog 31 2 [(0, (.p (.int .u8 128))), (1, (.p (.int .u8 96)))]).bind fun t63 =>
 (callO rec 29 (58 :: 0 :: 1 :: 1 :: 1 :: 1 :: 1 :: 1 :: 1 :: 0 :: σ) [t63] q61.2 (some 97)).bind fun q64 =>
 (asB q64.1).bind fun b65 =>
 some ((.p (.bool (!b65))), q64.2)) else (some ((.p (.bool false)), q61.2))).bind fun q66 =>
 (asB q66.1).bind fun b67 =>
 (bif b67 then ((buildV Try.prog 33 []).bind fun t68 =>
 (callO rec 28 (63 :: 0 :: 1 :: 1 :: 1 :: 1 :: 1 :: 1 :: 1 :: 0 :: σ) [t68] q66.2 (some 102)).bind fun q69 =>
 (castI .i64 q69.1).bind fun n70 =>
 some ((.p (.bool (n70 == 12))), q69.2)) else (some ((.p (.bool false)), q66.2))).bind fun q71 =>
 (asB q71.1).bind fun b72 =>
 fin false σ q71.2 [(.p (.bool b72))] := by kernel_rfl
end Go.Ev
/- Equations, printed by tracer2.py. -/
namespace Go.Ev
open Go.Proofs
set_option linter.unusedVariables false
set_option maxRecDepth 100000
-- 29 limelight/rtcp.Is
theorem rtcp_Is_entry (rec : CallF) (loop : LoopV) (σ : Stamp) (x0 : V) (h : H) : cvBody G rec loop 29 σ [x0] h =
 (lenO x0).bind fun t1 =>
 (castI .i64 t1).bind fun n2 =>
 (bif decide (n2 ≥ 2) then ((iS 1 x0 1).bind fun t3 =>
 (ldO false 1 (List.replicate 18 [] :: h) t3).bind fun t4 =>
 (castI .u8 t4).bind fun n5 =>
 some (decide (n5 ≥ 192))) else (some false)).bind fun b6 =>
 (bif b6 then ((iS 1 x0 1).bind fun t7 =>
 (ldO false 1 (List.replicate 18 [] :: h) t7).bind fun t8 =>
 (castI .u8 t8).bind fun n9 =>
 some (decide (n9 ≤ 223))) else (some false)).bind fun b10 =>
 fin false σ (List.replicate 18 [] :: h) [(.p (.bool b10))] := by kernel_rfl
end Go.Ev
/- Lifted by lift.py: rtcp_Is as a plain function. -/
namespace Go.Ev
open Go.Proofs
set_option linter.unusedVariables false
set_option linter.unusedSimpArgs false
set_option maxRecDepth 100000
def p_rtcp_Is (x0 : (List Int)) : Option (Bool) :=
(bif decide (((x0.length : Int)) ≥ 2) then ((ix x0 1).bind fun a1 =>
some (decide (a1 ≥ 192))) else (some false)).bind fun b4 =>
(bif b4 then ((ix x0 1).bind fun a8 =>
some (decide (a8 ≤ 223))) else (some false)).bind fun b11 =>
some (b11)
theorem rtcp_Is_ok {h : H} {σ : Stamp} (x0 : List Int) {u0 : V} (hu0 : SlH h (dI .u8) x0 u0) : Sim (p_rtcp_Is x0) (ev G X0 29 σ [u0] h) (fun r s => s = ([.v (.p (.bool r))], h)) := by
  refine Sim.ev rfl (Sim.ext (rtcp_Is_entry _ _ _ _ _) ?_)
  rw [p_rtcp_Is]
  have S0 : Fm 18 h [] [] [] (List.replicate 18 [] :: h) := Fm.start0
  refine Sim.op ((S0.low hu0).len) ?_
  refine Sim.op (castI_p _ _) ?_
  refine Sim.ch (P := fun r y => r = y) ?_ (fun b4 y5 h6 h7 => ?_)
  · refine Sim.cd (fun hc => ?_) (fun hc => ?_)
    · refine Sim.bd fun a1 h2 => ?_
      refine Sim.op ((S0.low hu0).iS h2 rfl) ?_
      obtain ⟨_, rfl, hE3⟩ := (S0.low hu0).el h2 rfl
      refine Sim.op (hE3.ld (j := 0) rfl) ?_
      refine Sim.op (castI_p _ _) ?_
      exact Sim.ret rfl rfl
    · exact Sim.ret rfl rfl
  subst h7
  refine Sim.ch (P := fun r y => r = y) ?_ (fun b11 y12 h13 h14 => ?_)
  · refine Sim.cd (fun hc => ?_) (fun hc => ?_)
    · refine Sim.bd fun a8 h9 => ?_
      refine Sim.op ((S0.low hu0).iS h9 rfl) ?_
      obtain ⟨_, rfl, hE10⟩ := (S0.low hu0).el h9 rfl
      refine Sim.op (hE10.ld (j := 0) rfl) ?_
      refine Sim.op (castI_p _ _) ?_
      exact Sim.ret rfl rfl
    · exact Sim.ret rfl rfl
  subst h14
  exact Sim.fin (S0.finN (lv_cons (still_bool _).lv lv_nil)) rfl
end Go.Ev
/- Equations, printed by tracer2.py. -/
namespace Go.Ev
open Go.Proofs
set_option linter.unusedVariables false
set_option maxRecDepth 100000
-- 22 limelight/rtcp.Same
theorem rtcp_Same_entry (rec : CallF) (loop : LoopV) (σ : Stamp) (x0 : V) (x1 : V) (h : H) : cvBody G rec loop 22 σ [x0, x1] h =
 (boxO false (0 :: 0 :: 0 :: σ) 2 (List.replicate 73 [] :: h) x0).bind fun q1 =>
 (boxO false (1 :: 0 :: 0 :: σ) 3 q1.2 x1).bind fun q2 =>
 (fA q1.1 0).bind fun t3 =>
 (ldO false 1 q2.2 t3).bind fun t4 =>
 (castI .i64 t4).bind fun n5 =>
 (fA q2.1 0).bind fun t6 =>
 (ldO false 1 q2.2 t6).bind fun t7 =>
 (castI .i64 t7).bind fun n8 =>
 (bif n5 == n8 then ((fA q1.1 1).bind fun t9 =>
 (ldO false 1 q2.2 t9).bind fun t10 =>
 (castI .u32 t10).bind fun n11 =>
 (fA q2.1 1).bind fun t12 =>
 (ldO false 1 q2.2 t12).bind fun t13 =>
 (castI .u32 t13).bind fun n14 =>
 some (n11 == n14)) else (some false)).bind fun b15 =>
 (bif b15 then ((fA q1.1 2).bind fun t16 =>
 (ldO false 1 q2.2 t16).bind fun t17 =>
 (castI .u32 t17).bind fun n18 =>
 (fA q2.1 2).bind fun t19 =>
 (ldO false 1 q2.2 t19).bind fun t20 =>
 (castI .u32 t20).bind fun n21 =>
 some (n18 == n21)) else (some false)).bind fun b22 =>
 (bif b22 then ((fA q1.1 3).bind fun t23 =>
 (ldO false 1 q2.2 t23).bind fun t24 =>
 (fA q2.1 3).bind fun t25 =>
 (ldO false 1 q2.2 t25).bind fun t26 =>
 (callO rec 51 (24 :: 0 :: 1 :: 0 :: σ) [t24, t26] q2.2 (some 29)).bind fun q27 =>
 (asB q27.1).bind fun b28 =>
 some ((.p (.bool b28)), q27.2)) else (some ((.p (.bool false)), q2.2))).bind fun q29 =>
 (asB q29.1).bind fun b30 =>
 (bif b30 then ((fA q1.1 4).bind fun t31 =>
 (ldO false 1 q29.2 t31).bind fun t32 =>
 (fA q2.1 4).bind fun t33 =>
 (ldO false 1 q29.2 t33).bind fun t34 =>
 (callO rec 52 (31 :: 0 :: 1 :: 0 :: σ) [t32, t34] q29.2 (some 36)).bind fun q35 =>
 (asB q35.1).bind fun b36 =>
 some ((.p (.bool b36)), q35.2)) else (some ((.p (.bool false)), q29.2))).bind fun q37 =>
 (asB q37.1).bind fun b38 =>
 (bif b38 then ((fA q1.1 5).bind fun t39 =>
 (ldO false 1 q37.2 t39).bind fun t40 =>
 (fA q2.1 5).bind fun t41 =>
 (ldO false 1 q37.2 t41).bind fun t42 =>
 (callO rec 53 (38 :: 0 :: 1 :: 0 :: σ) [t40, t42] q37.2 (some 43)).bind fun q43 =>
 (asB q43.1).bind fun b44 =>
 some ((.p (.bool b44)), q43.2)) else (some ((.p (.bool false)), q37.2))).bind fun q45 =>
 (asB q45.1).bind fun b46 =>
 (bif b46 then ((fA q1.1 6).bind fun t47 =>
 (ldO false 1 q45.2 t47).bind fun t48 =>
 (castI .u64 t48).bind fun n49 =>
 (fA q2.1 6).bind fun t50 =>
 (ldO false 1 q45.2 t50).bind fun t51 =>
 (castI .u64 t51).bind fun n52 =>
 some (n49 == n52)) else (some false)).bind fun b53 =>
 (bif b53 then ((fA q1.1 7).bind fun t54 =>
 (ldO false 1 q45.2 t54).bind fun t55 =>
 (castI .i64 t55).bind fun n56 =>
 (fA q2.1 7).bind fun t57 =>
 (ldO false 1 q45.2 t57).bind fun t58 =>
 (castI .i64 t58).bind fun n59 =>
 some (n56 == n59)) else (some false)).bind fun b60 =>
 (bif b60 then ((fA q1.1 8).bind fun t61 =>
 (ldO false 1 q45.2 t61).bind fun t62 =>
 (castI .i64 t62).bind fun n63 =>
 (fA q2.1 8).bind fun t64 =>
 (ldO false 1 q45.2 t64).bind fun t65 =>
 (castI .i64 t65).bind fun n66 =>
 some (n63 == n66)) else (some false)).bind fun b67 =>
 (bif b67 then ((fA q1.1 9).bind fun t68 =>
 (ldO false 1 q45.2 t68).bind fun t69 =>
 (fA q2.1 9).bind fun t70 =>
 (ldO false 1 q45.2 t70).bind fun t71 =>
 (callO rec 54 (66 :: 0 :: 1 :: 0 :: σ) [t69, t71] q45.2 (some 71)).bind fun q72 =>
 (asB q72.1).bind fun b73 =>
 some ((.p (.bool b73)), q72.2)) else (some ((.p (.bool false)), q45.2))).bind fun q74 =>
 (asB q74.1).bind fun b75 =>
 fin false σ q74.2 [(.p (.bool b75))] := by kernel_rfl
end Go.Ev
/- Equations, printed by tracer2.py. -/
namespace Go.Ev
open Go.Proofs
set_option linter.unusedVariables false
set_option maxRecDepth 100000
-- 51 slices.Equal[[]limelight/api.Tuple,limelight/api.Tuple]
noncomputable def slices_Equal_Lapi_Tuple_api_Tuple_c0 : Code := (codeAt (bodyOf Try.f51) [1, 1, 0, 1, 0, 0])
def slices_Equal_Lapi_Tuple_api_Tuple_l0 : Lv := ⟨0, 16, [(0, 0)]⟩
noncomputable def slices_Equal_Lapi_Tuple_api_Tuple_k0 (rec : CallF) (loop : LoopV) (σ : Stamp) : Exit → Env → H → Option (List C × H) := (kBlock 0 (kSeq G rec loop (codeAt (bodyOf Try.f51) [1, 1, 1]) ⟨16, 16, []⟩ (1 :: 1 :: 0 :: σ) (finC G false Try.f51 (1 :: σ))))
theorem slices_Equal_Lapi_Tuple_api_Tuple_entry (rec : CallF) (loop : LoopV) (σ : Stamp) (x0 : V) (x1 : V) (h : H) : cvBody G rec loop 51 σ [x0, x1] h =
 (lenO x0).bind fun t1 =>
 (castI .i64 t1).bind fun n2 =>
 (lenO x1).bind fun t3 =>
 (castI .i64 t3).bind fun n4 =>
 bif n2 != n4 then (
 fin false σ (List.replicate 26 [] :: h) [(.p (.bool false))])
 else (
 (lenO x0).bind fun t5 =>
 (castI .i64 t5).bind fun n6 =>
 (loop slices_Equal_Lapi_Tuple_api_Tuple_c0 slices_Equal_Lapi_Tuple_api_Tuple_l0 (1 :: 0 :: 1 :: 1 :: 0 :: σ) (envL [(0, x0), (1, x1), (12, (.p (.int .i64 n6))), (13, (.p (.int .i64 0)))]) (List.replicate 26 [] :: h)).bind fun r7 => slices_Equal_Lapi_Tuple_api_Tuple_k0 rec loop σ r7.1 r7.2.1 r7.2.2) := by kernel_rfl
theorem slices_Equal_Lapi_Tuple_api_Tuple_r0 (rec : CallF) (loop : LoopV) (σ : Stamp) (x0 : V) (x1 : V) (x12 : Int) (x13 : Int) (h : H) : cvRound G rec loop slices_Equal_Lapi_Tuple_api_Tuple_c0 slices_Equal_Lapi_Tuple_api_Tuple_l0 σ (envL [(0, x0), (1, x1), (12, (.p (.int .i64 x12))), (13, (.p (.int .i64 x13)))]) h =
 bif decide (x13 < x12) then (
 (iS 3 x0 x13).bind fun t8 =>
 (ldO true 3 h t8).bind fun t9 =>
 (iS 3 x1 x13).bind fun t10 =>
 (ldO true 3 h t10).bind fun t11 =>
 (binV Try.prog h .neq 57 t9 t11).bind fun t12 =>
 (asB t12).bind fun b13 =>
 bif b13 then (
 some (.ret, (envL [(4, (.p (.bool false)))]), h))
 else (
 loop slices_Equal_Lapi_Tuple_api_Tuple_c0 slices_Equal_Lapi_Tuple_api_Tuple_l0 (1 :: σ) (envL [(0, x0), (1, x1), (12, (.p (.int .i64 x12))), (13, (.p (.int .i64 (IntKind.wrap .i64 (x13 + 1)))))]) h))
 else (
 some ((.exit 0), (envL []), h)) := by kernel_rfl
theorem slices_Equal_Lapi_Tuple_api_Tuple_a0_0 (rec : CallF) (loop : LoopV) (σ : Stamp)  (h : H) : slices_Equal_Lapi_Tuple_api_Tuple_k0 rec loop σ (.exit 0) (envL []) h =
 fin false σ h [(.p (.bool true))] := by kernel_rfl
theorem slices_Equal_Lapi_Tuple_api_Tuple_a0_ret (rec : CallF) (loop : LoopV) (σ : Stamp) (x4 : Bool) (h : H) : slices_Equal_Lapi_Tuple_api_Tuple_k0 rec loop σ .ret (envL [(4, (.p (.bool x4)))]) h =
 fin false σ h [(.p (.bool x4))] := by kernel_rfl
end Go.Ev
/- Lifted by lift.py: slices_Equal_Lapi_Tuple_api_Tuple as a plain function. -/
namespace Go.Ev
open Go.Proofs
set_option linter.unusedVariables false
set_option linter.unusedSimpArgs false
set_option maxRecDepth 100000
def p_slices_Equal_Lapi_Tuple_api_Tuple_l0 {β : Type} (k : Nat) (kE0 : Unit → Option β) (kE1 : Bool → Option β) (x0 : (List T_api_Tuple)) (x1 : (List T_api_Tuple)) (x12 : Int) (x13 : Int) : Option β := match k with
| 0 => none
| k + 1 =>
bif decide (x13 < x12) then (
(ix x0 x13).bind fun a9 =>
(ix x1 x13).bind fun a14 =>
bif !(andB [a9.Owner == a14.Owner, a9.Rate == a14.Rate, a9.Over == a14.Over]) then (
kE1 false)
else (
p_slices_Equal_Lapi_Tuple_api_Tuple_l0 k kE0 kE1 x0 x1 x12 (IntKind.wrap .i64 (x13 + 1))))
else (
kE0 ())
def p_slices_Equal_Lapi_Tuple_api_Tuple (k : Nat) (x0 : (List T_api_Tuple)) (x1 : (List T_api_Tuple)) : Option (Bool) :=
bif ((x0.length : Int)) != ((x1.length : Int)) then (
some (false))
else (
p_slices_Equal_Lapi_Tuple_api_Tuple_l0 k (fun (_ : Unit) =>
some (true)) (fun r27_4 =>
some (r27_4)) x0 x1 ((x0.length : Int)) 0)
theorem slices_Equal_Lapi_Tuple_api_Tuple_l0_ok {h : H}  {β α : Type} {Q : β → α → Prop} {K : Exit × Env × H → Option α} {kE0 : Unit → Option β} {kE1 : Bool → Option β} (hE0 : ∀ (_u : Unit) (H20 : Go.Ev.H) (_ : Fm 26 h [] [] [] H20), Sim (kE0 ()) (K ((.exit 0), (envL []), H20)) Q) (hE1 : ∀ (q4 : Bool) (H22 : Go.Ev.H) (_ : Fm 26 h [] [] [] H22), Sim (kE1 q4) (K (.ret, (envL [(4, (.p (.bool q4)))]), H22)) Q) (k : Nat) : ∀ (x0 : (List T_api_Tuple)) (x1 : (List T_api_Tuple)) (x12 : Int) (x13 : Int) (v4 : V) (h5 : SlH h dT_api_Tuple x0 v4) (v6 : V) (h7 : SlH h dT_api_Tuple x1 v6) (H2 : Go.Ev.H) (_ : Fm 26 h [] [] [] H2) {σ : Stamp}, Sim (p_slices_Equal_Lapi_Tuple_api_Tuple_l0 k kE0 kE1 x0 x1 x12 x13) ((cvL G X0 slices_Equal_Lapi_Tuple_api_Tuple_c0 slices_Equal_Lapi_Tuple_api_Tuple_l0 σ (envL [(0, v4), (1, v6), (12, (.p (.int .i64 x12))), (13, (.p (.int .i64 x13)))]) H2).bind K) Q := by
  induction k with
  | zero => intros; exact Sim.no
  | succ k ih =>
    intro x0 x1 x12 x13 v4 h5 v6 h7 H2 S3 σ
    rw [p_slices_Equal_Lapi_Tuple_api_Tuple_l0]
    refine Sim.round (Sim.ext (slices_Equal_Lapi_Tuple_api_Tuple_r0 _ _ _ _ _ _ _ _) ?_)
    refine Sim.cd (fun hc8 => ?_) (fun hc8 => ?_)
    · refine Sim.bd fun a9 h10 => ?_
      refine Sim.op ((S3.low h5).iS h10 rfl) ?_
      obtain ⟨w12, h13, hE11⟩ := (S3.low h5).el h10 rfl
      obtain rfl := dT_api_Tuple.inv h13
      refine Sim.op (hE11.all (by simp)) ?_
      refine Sim.bd fun a14 h15 => ?_
      refine Sim.op ((S3.low h7).iS h15 rfl) ?_
      obtain ⟨w17, h18, hE16⟩ := (S3.low h7).el h15 rfl
      obtain rfl := dT_api_Tuple.inv h18
      refine Sim.op (hE16.all (by simp)) ?_
      refine Sim.op (nqS_ok (by kernel_rfl : _ = andL [a9.Owner == a14.Owner, a9.Rate == a14.Rate, a9.Over == a14.Over])) ?_
      refine Sim.op (asB_p _) ?_
      refine Sim.cd (fun hc19 => ?_) (fun hc19 => ?_)
      · exact hE1 false H2 (S3.wk2 all_nil all_nil)
      exact ih x0 x1 x12 (IntKind.wrap .i64 (x13 + 1)) v4 h5 v6 h7 H2 (S3.wk2 all_nil all_nil)
    exact hE0 () H2 (S3.wk2 all_nil all_nil)
theorem slices_Equal_Lapi_Tuple_api_Tuple_ok (k : Nat) {h : H} {σ : Stamp} (x0 : List T_api_Tuple) {u0 : V} (hu0 : SlH h dT_api_Tuple x0 u0) (x1 : List T_api_Tuple) {u1 : V} (hu1 : SlH h dT_api_Tuple x1 u1) : Sim (p_slices_Equal_Lapi_Tuple_api_Tuple k x0 x1) (ev G X0 51 σ [u0, u1] h) (fun r s => s = ([.v (.p (.bool r))], h)) := by
  refine Sim.ev rfl (Sim.ext (slices_Equal_Lapi_Tuple_api_Tuple_entry _ _ _ _ _ _) ?_)
  rw [p_slices_Equal_Lapi_Tuple_api_Tuple]
  have S0 : Fm 26 h [] [] [] (List.replicate 26 [] :: h) := Fm.start0
  refine Sim.op ((S0.low hu0).len) ?_
  refine Sim.op (castI_p _ _) ?_
  refine Sim.op ((S0.low hu1).len) ?_
  refine Sim.op (castI_p _ _) ?_
  refine Sim.cd (fun hc1 => ?_) (fun hc1 => ?_)
  · exact Sim.fin (S0.finN (lv_cons (still_bool _).lv lv_nil)) rfl
  refine Sim.op ((S0.low hu0).len) ?_
  refine Sim.op (castI_p _ _) ?_
  refine Sim.as (slices_Equal_Lapi_Tuple_api_Tuple_l0_ok ?_ ?_ k x0 x1 ((x0.length : Int)) 0 u0 hu0 u1 hu1 (List.replicate 26 [] :: h) (S0.wk2 all_nil all_nil)) 
  · intro _u H25 S26
    refine Sim.ext (slices_Equal_Lapi_Tuple_api_Tuple_a0_0 _ _ _ _) ?_
    exact Sim.fin (S26.finN (lv_cons (still_bool _).lv lv_nil)) rfl
  · intro r27_4 H28 S29
    refine Sim.ext (slices_Equal_Lapi_Tuple_api_Tuple_a0_ret _ _ _ _ _) ?_
    exact Sim.fin (S29.finN (lv_cons (still_bool _).lv lv_nil)) rfl
end Go.Ev
/- Equations, printed by tracer2.py. -/
namespace Go.Ev
open Go.Proofs
set_option linter.unusedVariables false
set_option maxRecDepth 100000
-- 54 slices.Equal[[]byte,byte]
noncomputable def slices_Equal_Lbyte_byte_c0 : Code := (codeAt (bodyOf Try.f54) [1, 1, 0, 1, 0, 0])
def slices_Equal_Lbyte_byte_l0 : Lv := ⟨0, 16, [(0, 0)]⟩
noncomputable def slices_Equal_Lbyte_byte_k0 (rec : CallF) (loop : LoopV) (σ : Stamp) : Exit → Env → H → Option (List C × H) := (kBlock 0 (kSeq G rec loop (codeAt (bodyOf Try.f54) [1, 1, 1]) ⟨16, 16, []⟩ (1 :: 1 :: 0 :: σ) (finC G false Try.f54 (1 :: σ))))
theorem slices_Equal_Lbyte_byte_entry (rec : CallF) (loop : LoopV) (σ : Stamp) (x0 : V) (x1 : V) (h : H) : cvBody G rec loop 54 σ [x0, x1] h =
 (lenO x0).bind fun t1 =>
 (castI .i64 t1).bind fun n2 =>
 (lenO x1).bind fun t3 =>
 (castI .i64 t3).bind fun n4 =>
 bif n2 != n4 then (
 fin false σ (List.replicate 26 [] :: h) [(.p (.bool false))])
 else (
 (lenO x0).bind fun t5 =>
 (castI .i64 t5).bind fun n6 =>
 (loop slices_Equal_Lbyte_byte_c0 slices_Equal_Lbyte_byte_l0 (1 :: 0 :: 1 :: 1 :: 0 :: σ) (envL [(0, x0), (1, x1), (12, (.p (.int .i64 n6))), (13, (.p (.int .i64 0)))]) (List.replicate 26 [] :: h)).bind fun r7 => slices_Equal_Lbyte_byte_k0 rec loop σ r7.1 r7.2.1 r7.2.2) := by kernel_rfl
theorem slices_Equal_Lbyte_byte_r0 (rec : CallF) (loop : LoopV) (σ : Stamp) (x0 : V) (x1 : V) (x12 : Int) (x13 : Int) (h : H) : cvRound G rec loop slices_Equal_Lbyte_byte_c0 slices_Equal_Lbyte_byte_l0 σ (envL [(0, x0), (1, x1), (12, (.p (.int .i64 x12))), (13, (.p (.int .i64 x13)))]) h =
 bif decide (x13 < x12) then (
 (iS 1 x0 x13).bind fun t8 =>
 (ldO false 1 h t8).bind fun t9 =>
 (castI .u8 t9).bind fun n10 =>
 (iS 1 x1 x13).bind fun t11 =>
 (ldO false 1 h t11).bind fun t12 =>
 (castI .u8 t12).bind fun n13 =>
 bif n10 != n13 then (
 some (.ret, (envL [(4, (.p (.bool false)))]), h))
 else (
 loop slices_Equal_Lbyte_byte_c0 slices_Equal_Lbyte_byte_l0 (1 :: σ) (envL [(0, x0), (1, x1), (12, (.p (.int .i64 x12))), (13, (.p (.int .i64 (IntKind.wrap .i64 (x13 + 1)))))]) h))
 else (
 some ((.exit 0), (envL []), h)) := by kernel_rfl
theorem slices_Equal_Lbyte_byte_a0_0 (rec : CallF) (loop : LoopV) (σ : Stamp)  (h : H) : slices_Equal_Lbyte_byte_k0 rec loop σ (.exit 0) (envL []) h =
 fin false σ h [(.p (.bool true))] := by kernel_rfl
theorem slices_Equal_Lbyte_byte_a0_ret (rec : CallF) (loop : LoopV) (σ : Stamp) (x4 : Bool) (h : H) : slices_Equal_Lbyte_byte_k0 rec loop σ .ret (envL [(4, (.p (.bool x4)))]) h =
 fin false σ h [(.p (.bool x4))] := by kernel_rfl
end Go.Ev
/- Lifted by lift.py: slices_Equal_Lbyte_byte as a plain function. -/
namespace Go.Ev
open Go.Proofs
set_option linter.unusedVariables false
set_option linter.unusedSimpArgs false
set_option maxRecDepth 100000
def p_slices_Equal_Lbyte_byte_l0 {β : Type} (k : Nat) (kE0 : Unit → Option β) (kE1 : Bool → Option β) (x0 : (List Int)) (x1 : (List Int)) (x12 : Int) (x13 : Int) : Option β := match k with
| 0 => none
| k + 1 =>
bif decide (x13 < x12) then (
(ix x0 x13).bind fun a9 =>
(ix x1 x13).bind fun a12 =>
bif a9 != a12 then (
kE1 false)
else (
p_slices_Equal_Lbyte_byte_l0 k kE0 kE1 x0 x1 x12 (IntKind.wrap .i64 (x13 + 1))))
else (
kE0 ())
def p_slices_Equal_Lbyte_byte (k : Nat) (x0 : (List Int)) (x1 : (List Int)) : Option (Bool) :=
bif ((x0.length : Int)) != ((x1.length : Int)) then (
some (false))
else (
p_slices_Equal_Lbyte_byte_l0 k (fun (_ : Unit) =>
some (true)) (fun r23_4 =>
some (r23_4)) x0 x1 ((x0.length : Int)) 0)
theorem slices_Equal_Lbyte_byte_l0_ok {h : H}  {β α : Type} {Q : β → α → Prop} {K : Exit × Env × H → Option α} {kE0 : Unit → Option β} {kE1 : Bool → Option β} (hE0 : ∀ (_u : Unit) (H16 : Go.Ev.H) (_ : Fm 26 h [] [] [] H16), Sim (kE0 ()) (K ((.exit 0), (envL []), H16)) Q) (hE1 : ∀ (q4 : Bool) (H18 : Go.Ev.H) (_ : Fm 26 h [] [] [] H18), Sim (kE1 q4) (K (.ret, (envL [(4, (.p (.bool q4)))]), H18)) Q) (k : Nat) : ∀ (x0 : (List Int)) (x1 : (List Int)) (x12 : Int) (x13 : Int) (v4 : V) (h5 : SlH h (dI .u8) x0 v4) (v6 : V) (h7 : SlH h (dI .u8) x1 v6) (H2 : Go.Ev.H) (_ : Fm 26 h [] [] [] H2) {σ : Stamp}, Sim (p_slices_Equal_Lbyte_byte_l0 k kE0 kE1 x0 x1 x12 x13) ((cvL G X0 slices_Equal_Lbyte_byte_c0 slices_Equal_Lbyte_byte_l0 σ (envL [(0, v4), (1, v6), (12, (.p (.int .i64 x12))), (13, (.p (.int .i64 x13)))]) H2).bind K) Q := by
  induction k with
  | zero => intros; exact Sim.no
  | succ k ih =>
    intro x0 x1 x12 x13 v4 h5 v6 h7 H2 S3 σ
    rw [p_slices_Equal_Lbyte_byte_l0]
    refine Sim.round (Sim.ext (slices_Equal_Lbyte_byte_r0 _ _ _ _ _ _ _ _) ?_)
    refine Sim.cd (fun hc8 => ?_) (fun hc8 => ?_)
    · refine Sim.bd fun a9 h10 => ?_
      refine Sim.op ((S3.low h5).iS h10 rfl) ?_
      obtain ⟨_, rfl, hE11⟩ := (S3.low h5).el h10 rfl
      refine Sim.op (hE11.ld (j := 0) rfl) ?_
      refine Sim.op (castI_p _ _) ?_
      refine Sim.bd fun a12 h13 => ?_
      refine Sim.op ((S3.low h7).iS h13 rfl) ?_
      obtain ⟨_, rfl, hE14⟩ := (S3.low h7).el h13 rfl
      refine Sim.op (hE14.ld (j := 0) rfl) ?_
      refine Sim.op (castI_p _ _) ?_
      refine Sim.cd (fun hc15 => ?_) (fun hc15 => ?_)
      · exact hE1 false H2 (S3.wk2 all_nil all_nil)
      exact ih x0 x1 x12 (IntKind.wrap .i64 (x13 + 1)) v4 h5 v6 h7 H2 (S3.wk2 all_nil all_nil)
    exact hE0 () H2 (S3.wk2 all_nil all_nil)
theorem slices_Equal_Lbyte_byte_ok (k : Nat) {h : H} {σ : Stamp} (x0 : List Int) {u0 : V} (hu0 : SlH h (dI .u8) x0 u0) (x1 : List Int) {u1 : V} (hu1 : SlH h (dI .u8) x1 u1) : Sim (p_slices_Equal_Lbyte_byte k x0 x1) (ev G X0 54 σ [u0, u1] h) (fun r s => s = ([.v (.p (.bool r))], h)) := by
  refine Sim.ev rfl (Sim.ext (slices_Equal_Lbyte_byte_entry _ _ _ _ _ _) ?_)
  rw [p_slices_Equal_Lbyte_byte]
  have S0 : Fm 26 h [] [] [] (List.replicate 26 [] :: h) := Fm.start0
  refine Sim.op ((S0.low hu0).len) ?_
  refine Sim.op (castI_p _ _) ?_
  refine Sim.op ((S0.low hu1).len) ?_
  refine Sim.op (castI_p _ _) ?_
  refine Sim.cd (fun hc1 => ?_) (fun hc1 => ?_)
  · exact Sim.fin (S0.finN (lv_cons (still_bool _).lv lv_nil)) rfl
  refine Sim.op ((S0.low hu0).len) ?_
  refine Sim.op (castI_p _ _) ?_
  refine Sim.as (slices_Equal_Lbyte_byte_l0_ok ?_ ?_ k x0 x1 ((x0.length : Int)) 0 u0 hu0 u1 hu1 (List.replicate 26 [] :: h) (S0.wk2 all_nil all_nil)) 
  · intro _u H21 S22
    refine Sim.ext (slices_Equal_Lbyte_byte_a0_0 _ _ _ _) ?_
    exact Sim.fin (S22.finN (lv_cons (still_bool _).lv lv_nil)) rfl
  · intro r23_4 H24 S25
    refine Sim.ext (slices_Equal_Lbyte_byte_a0_ret _ _ _ _ _) ?_
    exact Sim.fin (S25.finN (lv_cons (still_bool _).lv lv_nil)) rfl
end Go.Ev
/- Equations, printed by tracer2.py. -/
namespace Go.Ev
open Go.Proofs
set_option linter.unusedVariables false
set_option maxRecDepth 100000
-- 53 slices.Equal[[]int,int]
noncomputable def slices_Equal_Lint_int_c0 : Code := (codeAt (bodyOf Try.f53) [1, 1, 0, 1, 0, 0])
def slices_Equal_Lint_int_l0 : Lv := ⟨0, 16, [(0, 0)]⟩
noncomputable def slices_Equal_Lint_int_k0 (rec : CallF) (loop : LoopV) (σ : Stamp) : Exit → Env → H → Option (List C × H) := (kBlock 0 (kSeq G rec loop (codeAt (bodyOf Try.f53) [1, 1, 1]) ⟨16, 16, []⟩ (1 :: 1 :: 0 :: σ) (finC G false Try.f53 (1 :: σ))))
theorem slices_Equal_Lint_int_entry (rec : CallF) (loop : LoopV) (σ : Stamp) (x0 : V) (x1 : V) (h : H) : cvBody G rec loop 53 σ [x0, x1] h =
 (lenO x0).bind fun t1 =>
 (castI .i64 t1).bind fun n2 =>
 (lenO x1).bind fun t3 =>
 (castI .i64 t3).bind fun n4 =>
 bif n2 != n4 then (
 fin false σ (List.replicate 26 [] :: h) [(.p (.bool false))])
 else (
 (lenO x0).bind fun t5 =>
 (castI .i64 t5).bind fun n6 =>
 (loop slices_Equal_Lint_int_c0 slices_Equal_Lint_int_l0 (1 :: 0 :: 1 :: 1 :: 0 :: σ) (envL [(0, x0), (1, x1), (12, (.p (.int .i64 n6))), (13, (.p (.int .i64 0)))]) (List.replicate 26 [] :: h)).bind fun r7 => slices_Equal_Lint_int_k0 rec loop σ r7.1 r7.2.1 r7.2.2) := by kernel_rfl
theorem slices_Equal_Lint_int_r0 (rec : CallF) (loop : LoopV) (σ : Stamp) (x0 : V) (x1 : V) (x12 : Int) (x13 : Int) (h : H) : cvRound G rec loop slices_Equal_Lint_int_c0 slices_Equal_Lint_int_l0 σ (envL [(0, x0), (1, x1), (12, (.p (.int .i64 x12))), (13, (.p (.int .i64 x13)))]) h =
 bif decide (x13 < x12) then (
 (iS 1 x0 x13).bind fun t8 =>
 (ldO false 1 h t8).bind fun t9 =>
 (castI .i64 t9).bind fun n10 =>
 (iS 1 x1 x13).bind fun t11 =>
 (ldO false 1 h t11).bind fun t12 =>
 (castI .i64 t12).bind fun n13 =>
 bif n10 != n13 then (
 some (.ret, (envL [(4, (.p (.bool false)))]), h))
 else (
 loop slices_Equal_Lint_int_c0 slices_Equal_Lint_int_l0 (1 :: σ) (envL [(0, x0), (1, x1), (12, (.p (.int .i64 x12))), (13, (.p (.int .i64 (IntKind.wrap .i64 (x13 + 1)))))]) h))
 else (
 some ((.exit 0), (envL []), h)) := by kernel_rfl
theorem slices_Equal_Lint_int_a0_0 (rec : CallF) (loop : LoopV) (σ : Stamp)  (h : H) : slices_Equal_Lint_int_k0 rec loop σ (.exit 0) (envL []) h =
 fin false σ h [(.p (.bool true))] := by kernel_rfl
theorem slices_Equal_Lint_int_a0_ret (rec : CallF) (loop : LoopV) (σ : Stamp) (x4 : Bool) (h : H) : slices_Equal_Lint_int_k0 rec loop σ .ret (envL [(4, (.p (.bool x4)))]) h =
 fin false σ h [(.p (.bool x4))] := by kernel_rfl
end Go.Ev
/- Lifted by lift.py: slices_Equal_Lint_int as a plain function. -/
namespace Go.Ev
open Go.Proofs
set_option linter.unusedVariables false
set_option linter.unusedSimpArgs false
set_option maxRecDepth 100000
def p_slices_Equal_Lint_int_l0 {β : Type} (k : Nat) (kE0 : Unit → Option β) (kE1 : Bool → Option β) (x0 : (List Int)) (x1 : (List Int)) (x12 : Int) (x13 : Int) : Option β := match k with
| 0 => none
| k + 1 =>
bif decide (x13 < x12) then (
(ix x0 x13).bind fun a9 =>
(ix x1 x13).bind fun a12 =>
bif a9 != a12 then (
kE1 false)
else (
p_slices_Equal_Lint_int_l0 k kE0 kE1 x0 x1 x12 (IntKind.wrap .i64 (x13 + 1))))
else (
kE0 ())
def p_slices_Equal_Lint_int (k : Nat) (x0 : (List Int)) (x1 : (List Int)) : Option (Bool) :=
bif ((x0.length : Int)) != ((x1.length : Int)) then (
some (false))
else (
p_slices_Equal_Lint_int_l0 k (fun (_ : Unit) =>
some (true)) (fun r23_4 =>
some (r23_4)) x0 x1 ((x0.length : Int)) 0)
theorem slices_Equal_Lint_int_l0_ok {h : H}  {β α : Type} {Q : β → α → Prop} {K : Exit × Env × H → Option α} {kE0 : Unit → Option β} {kE1 : Bool → Option β} (hE0 : ∀ (_u : Unit) (H16 : Go.Ev.H) (_ : Fm 26 h [] [] [] H16), Sim (kE0 ()) (K ((.exit 0), (envL []), H16)) Q) (hE1 : ∀ (q4 : Bool) (H18 : Go.Ev.H) (_ : Fm 26 h [] [] [] H18), Sim (kE1 q4) (K (.ret, (envL [(4, (.p (.bool q4)))]), H18)) Q) (k : Nat) : ∀ (x0 : (List Int)) (x1 : (List Int)) (x12 : Int) (x13 : Int) (v4 : V) (h5 : SlH h (dI .i64) x0 v4) (v6 : V) (h7 : SlH h (dI .i64) x1 v6) (H2 : Go.Ev.H) (_ : Fm 26 h [] [] [] H2) {σ : Stamp}, Sim (p_slices_Equal_Lint_int_l0 k kE0 kE1 x0 x1 x12 x13) ((cvL G X0 slices_Equal_Lint_int_c0 slices_Equal_Lint_int_l0 σ (envL [(0, v4), (1, v6), (12, (.p (.int .i64 x12))), (13, (.p (.int .i64 x13)))]) H2).bind K) Q := by
  induction k with
  | zero => intros; exact Sim.no
  | succ k ih =>
    intro x0 x1 x12 x13 v4 h5 v6 h7 H2 S3 σ
    rw [p_slices_Equal_Lint_int_l0]
    refine Sim.round (Sim.ext (slices_Equal_Lint_int_r0 _ _ _ _ _ _ _ _) ?_)
    refine Sim.cd (fun hc8 => ?_) (fun hc8 => ?_)
    · refine Sim.bd fun a9 h10 => ?_
      refine Sim.op ((S3.low h5).iS h10 rfl) ?_
      obtain ⟨_, rfl, hE11⟩ := (S3.low h5).el h10 rfl
      refine Sim.op (hE11.ld (j := 0) rfl) ?_
      refine Sim.op (castI_p _ _) ?_
      refine Sim.bd fun a12 h13 => ?_
      refine Sim.op ((S3.low h7).iS h13 rfl) ?_
      obtain ⟨_, rfl, hE14⟩ := (S3.low h7).el h13 rfl
      refine Sim.op (hE14.ld (j := 0) rfl) ?_
      refine Sim.op (castI_p _ _) ?_
      refine Sim.cd (fun hc15 => ?_) (fun hc15 => ?_)
      · exact hE1 false H2 (S3.wk2 all_nil all_nil)
      exact ih x0 x1 x12 (IntKind.wrap .i64 (x13 + 1)) v4 h5 v6 h7 H2 (S3.wk2 all_nil all_nil)
    exact hE0 () H2 (S3.wk2 all_nil all_nil)
theorem slices_Equal_Lint_int_ok (k : Nat) {h : H} {σ : Stamp} (x0 : List Int) {u0 : V} (hu0 : SlH h (dI .i64) x0 u0) (x1 : List Int) {u1 : V} (hu1 : SlH h (dI .i64) x1 u1) : Sim (p_slices_Equal_Lint_int k x0 x1) (ev G X0 53 σ [u0, u1] h) (fun r s => s = ([.v (.p (.bool r))], h)) := by
  refine Sim.ev rfl (Sim.ext (slices_Equal_Lint_int_entry _ _ _ _ _ _) ?_)
  rw [p_slices_Equal_Lint_int]
  have S0 : Fm 26 h [] [] [] (List.replicate 26 [] :: h) := Fm.start0
  refine Sim.op ((S0.low hu0).len) ?_
  refine Sim.op (castI_p _ _) ?_
  refine Sim.op ((S0.low hu1).len) ?_
  refine Sim.op (castI_p _ _) ?_
  refine Sim.cd (fun hc1 => ?_) (fun hc1 => ?_)
  · exact Sim.fin (S0.finN (lv_cons (still_bool _).lv lv_nil)) rfl
  refine Sim.op ((S0.low hu0).len) ?_
  refine Sim.op (castI_p _ _) ?_
  refine Sim.as (slices_Equal_Lint_int_l0_ok ?_ ?_ k x0 x1 ((x0.length : Int)) 0 u0 hu0 u1 hu1 (List.replicate 26 [] :: h) (S0.wk2 all_nil all_nil)) 
  · intro _u H21 S22
    refine Sim.ext (slices_Equal_Lint_int_a0_0 _ _ _ _) ?_
    exact Sim.fin (S22.finN (lv_cons (still_bool _).lv lv_nil)) rfl
  · intro r23_4 H24 S25
    refine Sim.ext (slices_Equal_Lint_int_a0_ret _ _ _ _ _) ?_
    exact Sim.fin (S25.finN (lv_cons (still_bool _).lv lv_nil)) rfl
end Go.Ev
/- Equations, printed by tracer2.py. -/
namespace Go.Ev
open Go.Proofs
set_option linter.unusedVariables false
set_option maxRecDepth 100000
-- 52 slices.Equal[[]uint32,uint32]
noncomputable def slices_Equal_Luint32_uint32_c0 : Code := (codeAt (bodyOf Try.f52) [1, 1, 0, 1, 0, 0])
def slices_Equal_Luint32_uint32_l0 : Lv := ⟨0, 16, [(0, 0)]⟩
noncomputable def slices_Equal_Luint32_uint32_k0 (rec : CallF) (loop : LoopV) (σ : Stamp) : Exit → Env → H → Option (List C × H) := (kBlock 0 (kSeq G rec loop (codeAt (bodyOf Try.f52) [1, 1, 1]) ⟨16, 16, []⟩ (1 :: 1 :: 0 :: σ) (finC G false Try.f52 (1 :: σ))))
theorem slices_Equal_Luint32_uint32_entry (rec : CallF) (loop : LoopV) (σ : Stamp) (x0 : V) (x1 : V) (h : H) : cvBody G rec loop 52 σ [x0, x1] h =
 (lenO x0).bind fun t1 =>
 (castI .i64 t1).bind fun n2 =>
 (lenO x1).bind fun t3 =>
 (castI .i64 t3).bind fun n4 =>
 bif n2 != n4 then (
 fin false σ (List.replicate 26 [] :: h) [(.p (.bool false))])
 else (
 (lenO x0).bind fun t5 =>
 (castI .i64 t5).bind fun n6 =>
 (loop slices_Equal_Luint32_uint32_c0 slices_Equal_Luint32_uint32_l0 (1 :: 0 :: 1 :: 1 :: 0 :: σ) (envL [(0, x0), (1, x1), (12, (.p (.int .i64 n6))), (13, (.p (.int .i64 0)))]) (List.replicate 26 [] :: h)).bind fun r7 => slices_Equal_Luint32_uint32_k0 rec loop σ r7.1 r7.2.1 r7.2.2) := by kernel_rfl
theorem slices_Equal_Luint32_uint32_r0 (rec : CallF) (loop : LoopV) (σ : Stamp) (x0 : V) (x1 : V) (x12 : Int) (x13 : Int) (h : H) : cvRound G rec loop slices_Equal_Luint32_uint32_c0 slices_Equal_Luint32_uint32_l0 σ (envL [(0, x0), (1, x1), (12, (.p (.int .i64 x12))), (13, (.p (.int .i64 x13)))]) h =
 bif decide (x13 < x12) then (
 (iS 1 x0 x13).bind fun t8 =>
 (ldO false 1 h t8).bind fun t9 =>
 (castI .u32 t9).bind fun n10 =>
 (iS 1 x1 x13).bind fun t11 =>
 (ldO false 1 h t11).bind fun t12 =>
 (castI .u32 t12).bind fun n13 =>
 bif n10 != n13 then (
 some (.ret, (envL [(4, (.p (.bool false)))]), h))
 else (
 loop slices_Equal_Luint32_uint32_c0 slices_Equal_Luint32_uint32_l0 (1 :: σ) (envL [(0, x0), (1, x1), (12, (.p (.int .i64 x12))), (13, (.p (.int .i64 (IntKind.wrap .i64 (x13 + 1)))))]) h))
 else (
 some ((.exit 0), (envL []), h)) := by kernel_rfl
theorem slices_Equal_Luint32_uint32_a0_0 (rec : CallF) (loop : LoopV) (σ : Stamp)  (h : H) : slices_Equal_Luint32_uint32_k0 rec loop σ (.exit 0) (envL []) h =
 fin false σ h [(.p (.bool true))] := by kernel_rfl
theorem slices_Equal_Luint32_uint32_a0_ret (rec : CallF) (loop : LoopV) (σ : Stamp) (x4 : Bool) (h : H) : slices_Equal_Luint32_uint32_k0 rec loop σ .ret (envL [(4, (.p (.bool x4)))]) h =
 fin false σ h [(.p (.bool x4))] := by kernel_rfl
end Go.Ev
/- Lifted by lift.py: slices_Equal_Luint32_uint32 as a plain function. -/
namespace Go.Ev
open Go.Proofs
set_option linter.unusedVariables false
set_option linter.unusedSimpArgs false
set_option maxRecDepth 100000
def p_slices_Equal_Luint32_uint32_l0 {β : Type} (k : Nat) (kE0 : Unit → Option β) (kE1 : Bool → Option β) (x0 : (List Int)) (x1 : (List Int)) (x12 : Int) (x13 : Int) : Option β := match k with
| 0 => none
| k + 1 =>
bif decide (x13 < x12) then (
(ix x0 x13).bind fun a9 =>
(ix x1 x13).bind fun a12 =>
bif a9 != a12 then (
kE1 false)
else (
p_slices_Equal_Luint32_uint32_l0 k kE0 kE1 x0 x1 x12 (IntKind.wrap .i64 (x13 + 1))))
else (
kE0 ())
def p_slices_Equal_Luint32_uint32 (k : Nat) (x0 : (List Int)) (x1 : (List Int)) : Option (Bool) :=
bif ((x0.length : Int)) != ((x1.length : Int)) then (
some (false))
else (
p_slices_Equal_Luint32_uint32_l0 k (fun (_ : Unit) =>
some (true)) (fun r23_4 =>
some (r23_4)) x0 x1 ((x0.length : Int)) 0)
theorem slices_Equal_Luint32_uint32_l0_ok {h : H}  {β α : Type} {Q : β → α → Prop} {K : Exit × Env × H → Option α} {kE0 : Unit → Option β} {kE1 : Bool → Option β} (hE0 : ∀ (_u : Unit) (H16 : Go.Ev.H) (_ : Fm 26 h [] [] [] H16), Sim (kE0 ()) (K ((.exit 0), (envL []), H16)) Q) (hE1 : ∀ (q4 : Bool) (H18 : Go.Ev.H) (_ : Fm 26 h [] [] [] H18), Sim (kE1 q4) (K (.ret, (envL [(4, (.p (.bool q4)))]), H18)) Q) (k : Nat) : ∀ (x0 : (List Int)) (x1 : (List Int)) (x12 : Int) (x13 : Int) (v4 : V) (h5 : SlH h (dI .u32) x0 v4) (v6 : V) (h7 : SlH h (dI .u32) x1 v6) (H2 : Go.Ev.H) (_ : Fm 26 h [] [] [] H2) {σ : Stamp}, Sim (p_slices_Equal_Luint32_uint32_l0 k kE0 kE1 x0 x1 x12 x13) ((cvL G X0 slices_Equal_Luint32_uint32_c0 slices_Equal_Luint32_uint32_l0 σ (envL [(0, v4), (1, v6), (12, (.p (.int .i64 x12))), (13, (.p (.int .i64 x13)))]) H2).bind K) Q := by
  induction k with
  | zero => intros; exact Sim.no
  | succ k ih =>
    intro x0 x1 x12 x13 v4 h5 v6 h7 H2 S3 σ
    rw [p_slices_Equal_Luint32_uint32_l0]
    refine Sim.round (Sim.ext (slices_Equal_Luint32_uint32_r0 _ _ _ _ _ _ _ _) ?_)
    refine Sim.cd (fun hc8 => ?_) (fun hc8 => ?_)
    · refine Sim.bd fun a9 h10 => ?_
      refine Sim.op ((S3.low h5).iS h10 rfl) ?_
      obtain ⟨_, rfl, hE11⟩ := (S3.low h5).el h10 rfl
      refine Sim.op (hE11.ld (j := 0) rfl) ?_
      refine Sim.op (castI_p _ _) ?_
      refine Sim.bd fun a12 h13 => ?_
      refine Sim.op ((S3.low h7).iS h13 rfl) ?_
      obtain ⟨_, rfl, hE14⟩ := (S3.low h7).el h13 rfl
      refine Sim.op (hE14.ld (j := 0) rfl) ?_
      refine Sim.op (castI_p _ _) ?_
      refine Sim.cd (fun hc15 => ?_) (fun hc15 => ?_)
      · exact hE1 false H2 (S3.wk2 all_nil all_nil)
      exact ih x0 x1 x12 (IntKind.wrap .i64 (x13 + 1)) v4 h5 v6 h7 H2 (S3.wk2 all_nil all_nil)
    exact hE0 () H2 (S3.wk2 all_nil all_nil)
theorem slices_Equal_Luint32_uint32_ok (k : Nat) {h : H} {σ : Stamp} (x0 : List Int) {u0 : V} (hu0 : SlH h (dI .u32) x0 u0) (x1 : List Int) {u1 : V} (hu1 : SlH h (dI .u32) x1 u1) : Sim (p_slices_Equal_Luint32_uint32 k x0 x1) (ev G X0 52 σ [u0, u1] h) (fun r s => s = ([.v (.p (.bool r))], h)) := by
  refine Sim.ev rfl (Sim.ext (slices_Equal_Luint32_uint32_entry _ _ _ _ _ _) ?_)
  rw [p_slices_Equal_Luint32_uint32]
  have S0 : Fm 26 h [] [] [] (List.replicate 26 [] :: h) := Fm.start0
  refine Sim.op ((S0.low hu0).len) ?_
  refine Sim.op (castI_p _ _) ?_
  refine Sim.op ((S0.low hu1).len) ?_
  refine Sim.op (castI_p _ _) ?_
  refine Sim.cd (fun hc1 => ?_) (fun hc1 => ?_)
  · exact Sim.fin (S0.finN (lv_cons (still_bool _).lv lv_nil)) rfl
  refine Sim.op ((S0.low hu0).len) ?_
  refine Sim.op (castI_p _ _) ?_
  refine Sim.as (slices_Equal_Luint32_uint32_l0_ok ?_ ?_ k x0 x1 ((x0.length : Int)) 0 u0 hu0 u1 hu1 (List.replicate 26 [] :: h) (S0.wk2 all_nil all_nil)) 
  · intro _u H21 S22
    refine Sim.ext (slices_Equal_Luint32_uint32_a0_0 _ _ _ _) ?_
    exact Sim.fin (S22.finN (lv_cons (still_bool _).lv lv_nil)) rfl
  · intro r23_4 H24 S25
    refine Sim.ext (slices_Equal_Luint32_uint32_a0_ret _ _ _ _ _) ?_
    exact Sim.fin (S25.finN (lv_cons (still_bool _).lv lv_nil)) rfl
end Go.Ev
/- Lifted by lift.py: rtcp_Same as a plain function. -/
namespace Go.Ev
open Go.Proofs
set_option linter.unusedVariables false
set_option linter.unusedSimpArgs false
set_option maxRecDepth 100000
def p_rtcp_Same (k : Nat) (x0 : T_api_Report) (x1 : T_api_Report) : Option (Bool) :=
(bif x0.Kind == x1.Kind then (some (x0.From == x1.From)) else (some false)).bind fun b25 =>
(bif b25 then (some (x0.About == x1.About)) else (some false)).bind fun b29 =>
(bif b29 then ((p_slices_Equal_Lapi_Tuple_api_Tuple k x0.Tuples x1.Tuples).bind fun r33 =>
some r33) else (some false)).bind fun b38 =>
(bif b38 then ((p_slices_Equal_Luint32_uint32 k x0.Abouts x1.Abouts).bind fun r42 =>
some r42) else (some false)).bind fun b47 =>
(bif b47 then ((p_slices_Equal_Lint_int k x0.Numbers x1.Numbers).bind fun r51 =>
some r51) else (some false)).bind fun b56 =>
(bif b56 then (some (x0.Rate == x1.Rate)) else (some false)).bind fun b60 =>
(bif b60 then (some (x0.f_Type == x1.f_Type)) else (some false)).bind fun b64 =>
(bif b64 then (some (x0.Count == x1.Count)) else (some false)).bind fun b68 =>
(bif b68 then ((p_slices_Equal_Lbyte_byte k x0.Body x1.Body).bind fun r72 =>
some r72) else (some false)).bind fun b77 =>
some (b77)
theorem rtcp_Same_ok (k : Nat) {h : H} {σ : Stamp} (x0 : T_api_Report) {u0 : List V} (hu0 : dT_api_Report.R x0 u0) (x1 : T_api_Report) {u1 : List V} (hu1 : dT_api_Report.R x1 u1) : Sim (p_rtcp_Same k x0 x1) (ev G X0 22 σ [(.agg u0), (.agg u1)] h) (fun r s => s = ([.v (.p (.bool r))], h)) := by
  refine Sim.ev rfl (Sim.ext (rtcp_Same_entry _ _ _ _ _ _) ?_)
  rw [p_rtcp_Same]
  obtain ⟨v1, v3, v5, v7, rfl, h2, h4, h6, h8⟩ := dT_api_Report.inv hu0
  obtain ⟨v9, v11, v13, v15, rfl, h10, h12, h14, h16⟩ := dT_api_Report.inv hu1
  have S0 : Fm 73 h [] [] [] (List.replicate 73 [] :: h) := Fm.start0
  obtain ⟨H17, e18, S19⟩ := S0.box (own := false) (d := 2) (s := (0 :: 0 :: 0 :: σ)) (xs := [(.p (.int .i64 x0.Kind)), (.p (.int .u32 x0.From)), (.p (.int .u32 x0.About)), v1, v3, v5, (.p (.int .u64 x0.Rate)), (.p (.int .i64 x0.f_Type)), (.p (.int .i64 x0.Count)), v7]) (stills_cons (still_int _ _) (stills_cons (still_int _ _) (stills_cons (still_int _ _) (stills_cons h2.still (stills_cons h4.still (stills_cons h6.still (stills_cons (still_int _ _) (stills_cons (still_int _ _) (stills_cons (still_int _ _) (stills_cons h8.still stills_nil)))))))))) (by decide) rfl
  refine Sim.op (e18) ?_
  obtain ⟨H21, e22, S23⟩ := S19.box (own := false) (d := 3) (s := (1 :: 0 :: 0 :: σ)) (xs := [(.p (.int .i64 x1.Kind)), (.p (.int .u32 x1.From)), (.p (.int .u32 x1.About)), v9, v11, v13, (.p (.int .u64 x1.Rate)), (.p (.int .i64 x1.f_Type)), (.p (.int .i64 x1.Count)), v15]) (stills_cons (still_int _ _) (stills_cons (still_int _ _) (stills_cons (still_int _ _) (stills_cons h10.still (stills_cons h12.still (stills_cons h14.still (stills_cons (still_int _ _) (stills_cons (still_int _ _) (stills_cons (still_int _ _) (stills_cons h16.still stills_nil)))))))))) (by decide) rfl
  refine Sim.op (e22) ?_
  refine Sim.op (fA_ref _ _ _) ?_
  refine Sim.op ((S23.atG (i := 1) rfl).ld (j := 0) rfl) ?_
  refine Sim.op (castI_p _ _) ?_
  refine Sim.op (fA_ref _ _ _) ?_
  refine Sim.op ((S23.atG (i := 0) rfl).ld (j := 0) rfl) ?_
  refine Sim.op (castI_p _ _) ?_
  refine Sim.ch (P := fun r y => r = y) ?_ (fun b25 y26 h27 h28 => ?_)
  · refine Sim.cd (fun hc => ?_) (fun hc => ?_)
    · refine Sim.op (fA_ref _ _ _) ?_
      refine Sim.op ((S23.atG (i := 1) rfl).ld (j := 1) rfl) ?_
      refine Sim.op (castI_p _ _) ?_
      refine Sim.op (fA_ref _ _ _) ?_
      refine Sim.op ((S23.atG (i := 0) rfl).ld (j := 1) rfl) ?_
      refine Sim.op (castI_p _ _) ?_
      exact Sim.ret rfl rfl
    · exact Sim.ret rfl rfl
  subst h28
  refine Sim.ch (P := fun r y => r = y) ?_ (fun b29 y30 h31 h32 => ?_)
  · refine Sim.cd (fun hc => ?_) (fun hc => ?_)
    · refine Sim.op (fA_ref _ _ _) ?_
      refine Sim.op ((S23.atG (i := 1) rfl).ld (j := 2) rfl) ?_
      refine Sim.op (castI_p _ _) ?_
      refine Sim.op (fA_ref _ _ _) ?_
      refine Sim.op ((S23.atG (i := 0) rfl).ld (j := 2) rfl) ?_
      refine Sim.op (castI_p _ _) ?_
      exact Sim.ret rfl rfl
    · exact Sim.ret rfl rfl
  subst h32
  refine Sim.ch (P := fun r y => (.p (.bool r), H21) = y) ?_ (fun b38 y39 h40 h41 => ?_)
  · refine Sim.cd (fun hc => ?_) (fun hc => ?_)
    · refine Sim.op (fA_ref _ _ _) ?_
      refine Sim.op ((S23.atG (i := 1) rfl).ld (j := 3) rfl) ?_
      refine Sim.op (fA_ref _ _ _) ?_
      refine Sim.op ((S23.atG (i := 0) rfl).ld (j := 3) rfl) ?_
      refine Sim.call (slices_Equal_Lapi_Tuple_api_Tuple_ok k x0.Tuples (h2.h H21) x1.Tuples (h10.h H21)) fun r33 cs34 H35 h36 q37 => ?_
      cases q37
      refine Sim.op (asB_p _) ?_
      exact Sim.ret rfl rfl
    · exact Sim.ret rfl rfl
  subst h41
  refine Sim.op (asB_p _) ?_
  refine Sim.ch (P := fun r y => (.p (.bool r), H21) = y) ?_ (fun b47 y48 h49 h50 => ?_)
  · refine Sim.cd (fun hc => ?_) (fun hc => ?_)
    · refine Sim.op (fA_ref _ _ _) ?_
      refine Sim.op ((S23.atG (i := 1) rfl).ld (j := 4) rfl) ?_
      refine Sim.op (fA_ref _ _ _) ?_
      refine Sim.op ((S23.atG (i := 0) rfl).ld (j := 4) rfl) ?_
      refine Sim.call (slices_Equal_Luint32_uint32_ok k x0.Abouts (h4.h H21) x1.Abouts (h12.h H21)) fun r42 cs43 H44 h45 q46 => ?_
      cases q46
      refine Sim.op (asB_p _) ?_
      exact Sim.ret rfl rfl
    · exact Sim.ret rfl rfl
  subst h50
  refine Sim.op (asB_p _) ?_
  refine Sim.ch (P := fun r y => (.p (.bool r), H21) = y) ?_ (fun b56 y57 h58 h59 => ?_)
  · refine Sim.cd (fun hc => ?_) (fun hc => ?_)
    · refine Sim.op (fA_ref _ _ _) ?_
      refine Sim.op ((S23.atG (i := 1) rfl).ld (j := 5) rfl) ?_
      refine Sim.op (fA_ref _ _ _) ?_
      refine Sim.op ((S23.atG (i := 0) rfl).ld (j := 5) rfl) ?_
      refine Sim.call (slices_Equal_Lint_int_ok k x0.Numbers (h6.h H21) x1.Numbers (h14.h H21)) fun r51 cs52 H53 h54 q55 => ?_
      cases q55
      refine Sim.op (asB_p _) ?_
      exact Sim.ret rfl rfl
    · exact Sim.ret rfl rfl
  subst h59
  refine Sim.op (asB_p _) ?_
  refine Sim.ch (P := fun r y => r = y) ?_ (fun b60 y61 h62 h63 => ?_)
  · refine Sim.cd (fun hc => ?_) (fun hc => ?_)
    · refine Sim.op (fA_ref _ _ _) ?_
      refine Sim.op ((S23.atG (i := 1) rfl).ld (j := 6) rfl) ?_
      refine Sim.op (castI_p _ _) ?_
      refine Sim.op (fA_ref _ _ _) ?_
      refine Sim.op ((S23.atG (i := 0) rfl).ld (j := 6) rfl) ?_
      refine Sim.op (castI_p _ _) ?_
      exact Sim.ret rfl rfl
    · exact Sim.ret rfl rfl
  subst h63
  refine Sim.ch (P := fun r y => r = y) ?_ (fun b64 y65 h66 h67 => ?_)
  · refine Sim.cd (fun hc => ?_) (fun hc => ?_)
    · refine Sim.op (fA_ref _ _ _) ?_
      refine Sim.op ((S23.atG (i := 1) rfl).ld (j := 7) rfl) ?_
      refine Sim.op (castI_p _ _) ?_
      refine Sim.op (fA_ref _ _ _) ?_
      refine Sim.op ((S23.atG (i := 0) rfl).ld (j := 7) rfl) ?_
      refine Sim.op (castI_p _ _) ?_
      exact Sim.ret rfl rfl
    · exact Sim.ret rfl rfl
  subst h67
  refine Sim.ch (P := fun r y => r = y) ?_ (fun b68 y69 h70 h71 => ?_)
  · refine Sim.cd (fun hc => ?_) (fun hc => ?_)
    · refine Sim.op (fA_ref _ _ _) ?_
      refine Sim.op ((S23.atG (i := 1) rfl).ld (j := 8) rfl) ?_
      refine Sim.op (castI_p _ _) ?_
      refine Sim.op (fA_ref _ _ _) ?_
      refine Sim.op ((S23.atG (i := 0) rfl).ld (j := 8) rfl) ?_
      refine Sim.op (castI_p _ _) ?_
      exact Sim.ret rfl rfl
    · exact Sim.ret rfl rfl
  subst h71
  refine Sim.ch (P := fun r y => (.p (.bool r), H21) = y) ?_ (fun b77 y78 h79 h80 => ?_)
  · refine Sim.cd (fun hc => ?_) (fun hc => ?_)
    · refine Sim.op (fA_ref _ _ _) ?_
      refine Sim.op ((S23.atG (i := 1) rfl).ld (j := 9) rfl) ?_
      refine Sim.op (fA_ref _ _ _) ?_
      refine Sim.op ((S23.atG (i := 0) rfl).ld (j := 9) rfl) ?_
      refine Sim.call (slices_Equal_Lbyte_byte_ok k x0.Body (h8.h H21) x1.Body (h16.h H21)) fun r72 cs73 H74 h75 q76 => ?_
      cases q76
      refine Sim.op (asB_p _) ?_
      exact Sim.ret rfl rfl
    · exact Sim.ret rfl rfl
  subst h80
  refine Sim.op (asB_p _) ?_
  exact Sim.fin (S23.finN (lv_cons (still_bool _).lv lv_nil)) rfl
end Go.Ev
/- Lifted by lift.py: limelightlaw6_known as a plain function. -/
namespace Go.Ev
open Go.Proofs
set_option linter.unusedVariables false
set_option linter.unusedSimpArgs false
set_option maxRecDepth 100000
def p_limelightlaw6_known (k : Nat)  : Option (Bool) :=
(p_rtcp_Bytes k ([((⟨3, 1, 2, (([] : List T_api_Tuple)), (([] : List Int)), (([] : List Int)), 0, 0, 0, (([] : List Int))⟩ : T_api_Report)), ((⟨5, 0, 0, (([] : List T_api_Tuple)), ([5]), (([] : List Int)), 8000, 0, 0, (([] : List Int))⟩ : T_api_Report))])).bind fun r10 =>
(p_rtcp_Read k r10.1).bind fun r17 =>
(p_rtcp_Read k (([] : List Int))).bind fun r24 =>
(p_rtcp_Bytes k (([] : List T_api_Report))).bind fun r31 =>
(p_rtcp_Read k ([161, 206, 0, 0])).bind fun r39 =>
(bif r10.2 == 0 then (some (((r10.1.length : Int)) == 36)) else (some false)).bind fun b46 =>
(bif b46 then ((sub r10.1 0 4).bind fun a50 =>
some ((strB a50).toList == ((⟨#[129, 206, 0, 2]⟩ : ByteArray)).toList)) else (some false)).bind fun b52 =>
(bif b52 then (some (r17.2 == 0)) else (some false)).bind fun b56 =>
(bif b56 then (some (((r17.1.length : Int)) == 2)) else (some false)).bind fun b60 =>
(bif b60 then ((ix r17.1 0).bind fun a64 =>
(p_rtcp_Same k a64 ((⟨3, 1, 2, (([] : List T_api_Tuple)), (([] : List Int)), (([] : List Int)), 0, 0, 0, (([] : List Int))⟩ : T_api_Report))).bind fun r77 =>
some r77) else (some false)).bind fun b82 =>
(bif b82 then ((ix r17.1 1).bind fun a86 =>
some (a86.Rate == 8000)) else (some false)).bind fun b110 =>
(bif b110 then (some (r24.2 == 13)) else (some false)).bind fun b114 =>
(bif b114 then (some (r31.2 == 1)) else (some false)).bind fun b118 =>
(bif b118 then (some (r39.2 == 12)) else (some false)).bind fun b122 =>
(bif b122 then ((p_rtcp_Is r10.1).bind fun r126 =>
some r126) else (some false)).bind fun b131 =>
(bif b131 then ((p_rtcp_Is (([] : List Int))).bind fun r135 =>
some (!r135)) else (some false)).bind fun b140 =>
(bif b140 then ((p_rtcp_Is ([128, 96])).bind fun r145 =>
some (!r145)) else (some false)).bind fun b150 =>
(bif b150 then ((p_rtcp_Right k ((⟨0, 0, 0, (([] : List T_api_Tuple)), (([] : List Int)), (([] : List Int)), 0, 0, 0, (([] : List Int))⟩ : T_api_Report))).bind fun r154 =>
some (r154 == 12)) else (some false)).bind fun b159 =>
some (b159)
theorem limelightlaw6_known_ok (k : Nat) {h : H} {σ : Stamp}  : Sim (p_limelightlaw6_known k ) (ev G X0 20 σ [] h) (fun r s => s = ([.v (.p (.bool r))], h)) := by
  refine Sim.ev rfl (Sim.ext (limelightlaw6_known_entry _ _ _ _) ?_)
  rw [p_limelightlaw6_known]
  have S0 : Fm 105 h [] [] [] (List.replicate 105 [] :: h) := Fm.start0
  refine Sim.op (bldV (pt_cons rfl (pt_cons rfl (pt_cons rfl pt_nil))) (by kernel_rfl : _ = some (.agg [.p (.int .i64 3), .p (.int .u32 1), .p (.int .u32 2), .p (.slice none 0 0), .p (.slice none 0 0), .p (.slice none 0 0), .p (.int .u64 0), .p (.int .i64 0), .p (.int .i64 0), .p (.slice none 0 0)]))) ?_
  obtain ⟨H1, e2, S3⟩ := S0.al (d := 1) (s := (1 :: 0 :: 1 :: 0 :: σ)) (z := [(.p (.int .i64 0)), (.p (.int .u32 0)), (.p (.int .u32 0)), (.p (.slice none 0 0)), (.p (.slice none 0 0)), (.p (.slice none 0 0)), (.p (.int .u64 0)), (.p (.int .i64 0)), (.p (.int .i64 0)), (.p (.slice none 0 0))]) (by decide) rfl
  refine Sim.op (congrArg some e2) ?_
  obtain ⟨H5, e6, S7⟩ := S3.stGv (i := 0) (j := 0) (own := false) (σ := (2 :: 0 :: 1 :: 0 :: σ)) (xs := [.p (.int .i64 3), .p (.int .u32 1), .p (.int .u32 2), .p (.slice none 0 0), .p (.slice none 0 0), .p (.slice none 0 0), .p (.int .u64 0), .p (.int .i64 0), .p (.int .i64 0), .p (.slice none 0 0)]) rfl rfl (stills_cons (still_int _ _) (stills_cons (still_int _ _) (stills_cons (still_int _ _) (stills_cons (SlF.nil dT_api_Tuple).still (stills_cons (SlF.nil (dI .u32)).still (stills_cons (SlF.nil (dI .i64)).still (stills_cons (still_int _ _) (stills_cons (still_int _ _) (stills_cons (still_int _ _) (stills_cons (SlF.nil (dI .u8)).still stills_nil)))))))))) rfl rfl
  refine Sim.op (st_map e6) ?_
  refine Sim.op ((S7.atG (i := 0) rfl).ldVs (j := 0) (xs := [.p (.int .i64 3), .p (.int .u32 1), .p (.int .u32 2), .p (.slice none 0 0), .p (.slice none 0 0), .p (.slice none 0 0), .p (.int .u64 0), .p (.int .i64 0), .p (.int .i64 0), .p (.slice none 0 0)]) rfl rfl (by decide)) ?_
  have h8 : SlF (dI .u32) [5] (.fz [(.p (.int .u32 5))] 1 1 true) := SlF.lit (cs := [(.p (.int .u32 5))]) (RL.cons (show (dI .u32).R 5 [(.p (.int .u32 5))] from rfl) RL.nil) rfl rfl true
  refine Sim.op (bldS (pt_cons rfl pt_nil) (by kernel_rfl : _ = some (.fz [(.p (.int .u32 5))] 1 1 true))) ?_
  refine Sim.op (bldV (pt_cons rfl (pt_cons rfl (pt_cons h8.still.cells pt_nil))) (by kernel_rfl : _ = some (.agg [.p (.int .i64 5), .p (.int .u32 0), .p (.int .u32 0), .p (.slice none 0 0), .fz [(.p (.int .u32 5))] 1 1 true, .p (.slice none 0 0), .p (.int .u64 8000), .p (.int .i64 0), .p (.int .i64 0), .p (.slice none 0 0)]))) ?_
  have h9 : SlF dT_api_Report [((⟨3, 1, 2, (([] : List T_api_Tuple)), (([] : List Int)), (([] : List Int)), 0, 0, 0, (([] : List Int))⟩ : T_api_Report)), ((⟨5, 0, 0, (([] : List T_api_Tuple)), ([5]), (([] : List Int)), 8000, 0, 0, (([] : List Int))⟩ : T_api_Report))] (.fz [(.p (.int .i64 3)), (.p (.int .u32 1)), (.p (.int .u32 2)), (.p (.slice none 0 0)), (.p (.slice none 0 0)), (.p (.slice none 0 0)), (.p (.int .u64 0)), (.p (.int .i64 0)), (.p (.int .i64 0)), (.p (.slice none 0 0)), (.p (.int .i64 5)), (.p (.int .u32 0)), (.p (.int .u32 0)), (.p (.slice none 0 0)), (.fz [(.p (.int .u32 5))] 1 1 true), (.p (.slice none 0 0)), (.p (.int .u64 8000)), (.p (.int .i64 0)), (.p (.int .i64 0)), (.p (.slice none 0 0))] 2 10 true) := SlF.lit (cs := [(.p (.int .i64 3)), (.p (.int .u32 1)), (.p (.int .u32 2)), (.p (.slice none 0 0)), (.p (.slice none 0 0)), (.p (.slice none 0 0)), (.p (.int .u64 0)), (.p (.int .i64 0)), (.p (.int .i64 0)), (.p (.slice none 0 0)), (.p (.int .i64 5)), (.p (.int .u32 0)), (.p (.int .u32 0)), (.p (.slice none 0 0)), (.fz [(.p (.int .u32 5))] 1 1 true), (.p (.slice none 0 0)), (.p (.int .u64 8000)), (.p (.int .i64 0)), (.p (.int .i64 0)), (.p (.slice none 0 0))]) (RL.cons (show dT_api_Report.R ((⟨3, 1, 2, (([] : List T_api_Tuple)), (([] : List Int)), (([] : List Int)), 0, 0, 0, (([] : List Int))⟩ : T_api_Report)) [.p (.int .i64 3), .p (.int .u32 1), .p (.int .u32 2), .p (.slice none 0 0), .p (.slice none 0 0), .p (.slice none 0 0), .p (.int .u64 0), .p (.int .i64 0), .p (.int .i64 0), .p (.slice none 0 0)] from (dT_api_Report.mk (SlF.nil dT_api_Tuple) (SlF.nil (dI .u32)) (SlF.nil (dI .i64)) (SlF.nil (dI .u8)))) (RL.cons (show dT_api_Report.R ((⟨5, 0, 0, (([] : List T_api_Tuple)), ([5]), (([] : List Int)), 8000, 0, 0, (([] : List Int))⟩ : T_api_Report)) [.p (.int .i64 5), .p (.int .u32 0), .p (.int .u32 0), .p (.slice none 0 0), .fz [(.p (.int .u32 5))] 1 1 true, .p (.slice none 0 0), .p (.int .u64 8000), .p (.int .i64 0), .p (.int .i64 0), .p (.slice none 0 0)] from (dT_api_Report.mk (SlF.nil dT_api_Tuple) h8 (SlF.nil (dI .i64)) (SlF.nil (dI .u8)))) RL.nil)) rfl rfl true
  refine Sim.op (bldS (pt_cons (c := [.p (.int .i64 3), .p (.int .u32 1), .p (.int .u32 2), .p (.slice none 0 0), .p (.slice none 0 0), .p (.slice none 0 0), .p (.int .u64 0), .p (.int .i64 0), .p (.int .i64 0), .p (.slice none 0 0)]) rfl (pt_cons (c := [.p (.int .i64 5), .p (.int .u32 0), .p (.int .u32 0), .p (.slice none 0 0), .fz [(.p (.int .u32 5))] 1 1 true, .p (.slice none 0 0), .p (.int .u64 8000), .p (.int .i64 0), .p (.int .i64 0), .p (.slice none 0 0)]) rfl pt_nil)) (by kernel_rfl : _ = some (.fz [(.p (.int .i64 3)), (.p (.int .u32 1)), (.p (.int .u32 2)), (.p (.slice none 0 0)), (.p (.slice none 0 0)), (.p (.slice none 0 0)), (.p (.int .u64 0)), (.p (.int .i64 0)), (.p (.int .i64 0)), (.p (.slice none 0 0)), (.p (.int .i64 5)), (.p (.int .u32 0)), (.p (.int .u32 0)), (.p (.slice none 0 0)), (.fz [(.p (.int .u32 5))] 1 1 true), (.p (.slice none 0 0)), (.p (.int .u64 8000)), (.p (.int .i64 0)), (.p (.int .i64 0)), (.p (.slice none 0 0))] 2 10 true))) ?_
  erw [callFO_eq (frzAs_cons (frzA_F h9) frzAs_nil)]
  refine Sim.call (rtcp_Bytes_ok k ([((⟨3, 1, 2, (([] : List T_api_Tuple)), (([] : List Int)), (([] : List Int)), 0, 0, 0, (([] : List Int))⟩ : T_api_Report)), ((⟨5, 0, 0, (([] : List T_api_Tuple)), ([5]), (([] : List Int)), 8000, 0, 0, (([] : List Int))⟩ : T_api_Report))]) (h9.h H5)) fun r10 cs11 H12 h13 q14 => ?_
  obtain ⟨v15, h16, q14⟩ := q14
  cases q14
  refine Sim.op (rfl) ?_
  refine Sim.op (rfl) ?_
  refine Sim.op (castI_p _ _) ?_
  erw [callFO_eq (frzAs_cons (frzA_F h16) frzAs_nil)]
  refine Sim.call (rtcp_Read_ok k r10.1 h16) fun r17 cs18 H19 h20 q21 => ?_
  obtain ⟨v22, h23, q21⟩ := q21
  cases q21
  refine Sim.op (rfl) ?_
  refine Sim.op (rfl) ?_
  refine Sim.op (castI_p _ _) ?_
  erw [callFO_eq (frzAs_cons (frzA_F (SlF.nil (dI .u8))) frzAs_nil)]
  refine Sim.call (rtcp_Read_ok k (([] : List Int)) (SlF.nil (dI .u8))) fun r24 cs25 H26 h27 q28 => ?_
  obtain ⟨v29, h30, q28⟩ := q28
  cases q28
  refine Sim.op (rfl) ?_
  refine Sim.op (rfl) ?_
  refine Sim.op (castI_p _ _) ?_
  erw [callFO_eq (frzAs_cons (frzA_F (SlF.nil dT_api_Report)) frzAs_nil)]
  refine Sim.call (rtcp_Bytes_ok k (([] : List T_api_Report)) ((SlF.nil dT_api_Report).h H5)) fun r31 cs32 H33 h34 q35 => ?_
  obtain ⟨v36, h37, q35⟩ := q35
  cases q35
  refine Sim.op (rfl) ?_
  refine Sim.op (rfl) ?_
  refine Sim.op (castI_p _ _) ?_
  have h38 : SlF (dI .u8) [161, 206, 0, 0] (.fz [(.p (.int .u8 161)), (.p (.int .u8 206)), (.p (.int .u8 0)), (.p (.int .u8 0))] 4 1 true) := SlF.lit (cs := [(.p (.int .u8 161)), (.p (.int .u8 206)), (.p (.int .u8 0)), (.p (.int .u8 0))]) (RL.cons (show (dI .u8).R 161 [(.p (.int .u8 161))] from rfl) (RL.cons (show (dI .u8).R 206 [(.p (.int .u8 206))] from rfl) (RL.cons (show (dI .u8).R 0 [(.p (.int .u8 0))] from rfl) (RL.cons (show (dI .u8).R 0 [(.p (.int .u8 0))] from rfl) RL.nil)))) rfl rfl true
  refine Sim.op (bldS (pt_cons rfl (pt_cons rfl (pt_cons rfl (pt_cons rfl pt_nil)))) (by kernel_rfl : _ = some (.fz [(.p (.int .u8 161)), (.p (.int .u8 206)), (.p (.int .u8 0)), (.p (.int .u8 0))] 4 1 true))) ?_
  erw [callFO_eq (frzAs_cons (frzA_F h38) frzAs_nil)]
  refine Sim.call (rtcp_Read_ok k ([161, 206, 0, 0]) h38) fun r39 cs40 H41 h42 q43 => ?_
  obtain ⟨v44, h45, q43⟩ := q43
  cases q43
  refine Sim.op (rfl) ?_
  refine Sim.op (rfl) ?_
  refine Sim.op (castI_p _ _) ?_
  refine Sim.ch (P := fun r y => r = y) ?_ (fun b46 y47 h48 h49 => ?_)
  · refine Sim.cd (fun hc => ?_) (fun hc => ?_)
    · refine Sim.op ((h16.h H5).len) ?_
      refine Sim.op (castI_p _ _) ?_
      exact Sim.ret rfl rfl
    · exact Sim.ret rfl rfl
  subst h49
  refine Sim.ch (P := fun r y => r = y) ?_ (fun b52 y53 h54 h55 => ?_)
  · refine Sim.cd (fun hc => ?_) (fun hc => ?_)
    · refine Sim.bd fun a50 h51 => ?_
      refine Sim.op ((h16.h H5).slS h51 rfl rfl rfl) ?_
      refine Sim.op (((h16.h H5).sub h51 (e := 1) rfl).str) ?_
      refine Sim.op (castS_p _) ?_
      exact Sim.ret rfl rfl
    · exact Sim.ret rfl rfl
  subst h55
  refine Sim.ch (P := fun r y => r = y) ?_ (fun b56 y57 h58 h59 => ?_)
  · refine Sim.cd (fun hc => ?_) (fun hc => ?_)
    · exact Sim.ret rfl rfl
    · exact Sim.ret rfl rfl
  subst h59
  refine Sim.ch (P := fun r y => r = y) ?_ (fun b60 y61 h62 h63 => ?_)
  · refine Sim.cd (fun hc => ?_) (fun hc => ?_)
    · refine Sim.op ((h23.h H5).len) ?_
      refine Sim.op (castI_p _ _) ?_
      exact Sim.ret rfl rfl
    · exact Sim.ret rfl rfl
  subst h63
  refine Sim.ch (P := fun r y => (.p (.bool r), H5) = y) ?_ (fun b82 y83 h84 h85 => ?_)
  · refine Sim.cd (fun hc => ?_) (fun hc => ?_)
    · refine Sim.bd fun a64 h65 => ?_
      refine Sim.op ((h23.h H5).iS h65 rfl) ?_
      obtain ⟨w67, h68, hE66⟩ := (h23.h H5).el h65 rfl
      obtain ⟨v69, v71, v73, v75, rfl, h70, h72, h74, h76⟩ := dT_api_Report.inv h68
      refine Sim.op (hE66.all (by simp)) ?_
      refine Sim.op ((S7.atG (i := 0) rfl).ldVs (j := 0) (xs := [.p (.int .i64 3), .p (.int .u32 1), .p (.int .u32 2), .p (.slice none 0 0), .p (.slice none 0 0), .p (.slice none 0 0), .p (.int .u64 0), .p (.int .i64 0), .p (.int .i64 0), .p (.slice none 0 0)]) rfl rfl (by decide)) ?_
      refine Sim.call (rtcp_Same_ok k a64 (show dT_api_Report.R a64 [.p (.int .i64 a64.Kind), .p (.int .u32 a64.From), .p (.int .u32 a64.About), v69, v71, v73, .p (.int .u64 a64.Rate), .p (.int .i64 a64.f_Type), .p (.int .i64 a64.Count), v75] from (dT_api_Report.mk h70 h72 h74 h76)) ((⟨3, 1, 2, (([] : List T_api_Tuple)), (([] : List Int)), (([] : List Int)), 0, 0, 0, (([] : List Int))⟩ : T_api_Report)) (show dT_api_Report.R ((⟨3, 1, 2, (([] : List T_api_Tuple)), (([] : List Int)), (([] : List Int)), 0, 0, 0, (([] : List Int))⟩ : T_api_Report)) [.p (.int .i64 3), .p (.int .u32 1), .p (.int .u32 2), .p (.slice none 0 0), .p (.slice none 0 0), .p (.slice none 0 0), .p (.int .u64 0), .p (.int .i64 0), .p (.int .i64 0), .p (.slice none 0 0)] from (dT_api_Report.mk (SlF.nil dT_api_Tuple) (SlF.nil (dI .u32)) (SlF.nil (dI .i64)) (SlF.nil (dI .u8))))) fun r77 cs78 H79 h80 q81 => ?_
      cases q81
      refine Sim.op (asB_p _) ?_
      exact Sim.ret rfl rfl
    · exact Sim.ret rfl rfl
  subst h85
  refine Sim.op (asB_p _) ?_
  refine Sim.ch (P := fun r y => r = y) ?_ (fun b110 y111 h112 h113 => ?_)
  · refine Sim.cd (fun hc => ?_) (fun hc => ?_)
    · refine Sim.bd fun a86 h87 => ?_
      refine Sim.op ((h23.h H5).iS h87 rfl) ?_
      obtain ⟨w89, h90, hE88⟩ := (h23.h H5).el h87 rfl
      obtain ⟨v91, v93, v95, v97, rfl, h92, h94, h96, h98⟩ := dT_api_Report.inv h90
      refine Sim.op (hE88.fa (j := 6) (by simp)) ?_
      obtain ⟨w100, h101, hE99⟩ := (h23.h H5).el h87 rfl
      obtain ⟨v102, v104, v106, v108, rfl, h103, h105, h107, h109⟩ := dT_api_Report.inv h101
      refine Sim.op (hE99.ld (j := 6) rfl) ?_
      refine Sim.op (castI_p _ _) ?_
      exact Sim.ret rfl rfl
    · exact Sim.ret rfl rfl
  subst h113
  refine Sim.ch (P := fun r y => r = y) ?_ (fun b114 y115 h116 h117 => ?_)
  · refine Sim.cd (fun hc => ?_) (fun hc => ?_)
    · exact Sim.ret rfl rfl
    · exact Sim.ret rfl rfl
  subst h117
  refine Sim.ch (P := fun r y => r = y) ?_ (fun b118 y119 h120 h121 => ?_)
  · refine Sim.cd (fun hc => ?_) (fun hc => ?_)
    · exact Sim.ret rfl rfl
    · exact Sim.ret rfl rfl
  subst h121
  refine Sim.ch (P := fun r y => r = y) ?_ (fun b122 y123 h124 h125 => ?_)
  · refine Sim.cd (fun hc => ?_) (fun hc => ?_)
    · exact Sim.ret rfl rfl
    · exact Sim.ret rfl rfl
  subst h125
  refine Sim.ch (P := fun r y => (.p (.bool r), H5) = y) ?_ (fun b131 y132 h133 h134 => ?_)
  · refine Sim.cd (fun hc => ?_) (fun hc => ?_)
    · refine Sim.call (rtcp_Is_ok r10.1 (h16.h H5)) fun r126 cs127 H128 h129 q130 => ?_
      cases q130
      refine Sim.op (asB_p _) ?_
      exact Sim.ret rfl rfl
    · exact Sim.ret rfl rfl
  subst h134
  refine Sim.op (asB_p _) ?_
  refine Sim.ch (P := fun r y => (.p (.bool r), H5) = y) ?_ (fun b140 y141 h142 h143 => ?_)
  · refine Sim.cd (fun hc => ?_) (fun hc => ?_)
    · refine Sim.call (rtcp_Is_ok (([] : List Int)) ((SlF.nil (dI .u8)).h H5)) fun r135 cs136 H137 h138 q139 => ?_
      cases q139
      refine Sim.op (asB_p _) ?_
      exact Sim.ret rfl rfl
    · exact Sim.ret rfl rfl
  subst h143
  refine Sim.op (asB_p _) ?_
  refine Sim.ch (P := fun r y => (.p (.bool r), H5) = y) ?_ (fun b150 y151 h152 h153 => ?_)
  · refine Sim.cd (fun hc => ?_) (fun hc => ?_)
    · have h144 : SlF (dI .u8) [128, 96] (.fz [(.p (.int .u8 128)), (.p (.int .u8 96))] 2 1 true) := SlF.lit (cs := [(.p (.int .u8 128)), (.p (.int .u8 96))]) (RL.cons (show (dI .u8).R 128 [(.p (.int .u8 128))] from rfl) (RL.cons (show (dI .u8).R 96 [(.p (.int .u8 96))] from rfl) RL.nil)) rfl rfl true
      refine Sim.op (bldS (pt_cons rfl (pt_cons rfl pt_nil)) (by kernel_rfl : _ = some (.fz [(.p (.int .u8 128)), (.p (.int .u8 96))] 2 1 true))) ?_
      refine Sim.call (rtcp_Is_ok ([128, 96]) (h144.h H5)) fun r145 cs146 H147 h148 q149 => ?_
      cases q149
      refine Sim.op (asB_p _) ?_
      exact Sim.ret rfl rfl
    · exact Sim.ret rfl rfl
  subst h153
  refine Sim.op (asB_p _) ?_
  refine Sim.ch (P := fun r y => (.p (.bool r), H5) = y) ?_ (fun b159 y160 h161 h162 => ?_)
  · refine Sim.cd (fun hc => ?_) (fun hc => ?_)
    · refine Sim.op (bldV pt_nil (by kernel_rfl : _ = some (.agg [.p (.int .i64 0), .p (.int .u32 0), .p (.int .u32 0), .p (.slice none 0 0), .p (.slice none 0 0), .p (.slice none 0 0), .p (.int .u64 0), .p (.int .i64 0), .p (.int .i64 0), .p (.slice none 0 0)]))) ?_
      refine Sim.call (rtcp_Right_ok k ((⟨0, 0, 0, (([] : List T_api_Tuple)), (([] : List Int)), (([] : List Int)), 0, 0, 0, (([] : List Int))⟩ : T_api_Report)) (show dT_api_Report.R ((⟨0, 0, 0, (([] : List T_api_Tuple)), (([] : List Int)), (([] : List Int)), 0, 0, 0, (([] : List Int))⟩ : T_api_Report)) [.p (.int .i64 0), .p (.int .u32 0), .p (.int .u32 0), .p (.slice none 0 0), .p (.slice none 0 0), .p (.slice none 0 0), .p (.int .u64 0), .p (.int .i64 0), .p (.int .i64 0), .p (.slice none 0 0)] from (dT_api_Report.mk (SlF.nil dT_api_Tuple) (SlF.nil (dI .u32)) (SlF.nil (dI .i64)) (SlF.nil (dI .u8))))) fun r154 cs155 H156 h157 q158 => ?_
      cases q158
      refine Sim.op (castI_p _ _) ?_
      exact Sim.ret rfl rfl
    · exact Sim.ret rfl rfl
  subst h162
  refine Sim.op (asB_p _) ?_
  exact Sim.fin (S7.finN (lv_cons (still_bool _).lv lv_nil)) rfl
end Go.Ev
namespace Go.Ev
set_option maxRecDepth 100000
end Go.Ev
/- Equations, printed by tracer2.py. -/
namespace Go.Ev
open Go.Proofs
set_option linter.unusedVariables false
set_option maxRecDepth 100000
-- 8 limelight/limelightlaw6.RtcpTuples
noncomputable def limelightlaw6_RtcpTuples_c0 : Code := (codeAt (bodyOf Try.f8) [1, 1, 1, 0, 1, 0, 0])
def limelightlaw6_RtcpTuples_l0 : Lv := ⟨260, 64, [(0, 260)]⟩
noncomputable def limelightlaw6_RtcpTuples_k0 (rec : CallF) (loop : LoopV) (σ : Stamp) : Exit → Env → H → Option (List C × H) := (kBlock 0 (kSeq G rec loop (codeAt (bodyOf Try.f8) [1, 1, 1, 1]) ⟨64, 64, []⟩ (1 :: 1 :: 1 :: 0 :: σ) (finC G false Try.f8 (1 :: σ))))
theorem limelightlaw6_RtcpTuples_entry (rec : CallF) (loop : LoopV) (σ : Stamp) (x0 : V) (x1 : Int) (x2 : Int) (h : H) : cvBody G rec loop 8 σ [x0, (.p (.int .i64 x1)), (.p (.int .u32 x2))] h =
 (buildV Try.prog 26 [(0, x0)]).bind fun t1 =>
 (boxO false (2 :: 0 :: 1 :: 0 :: σ) 16 (List.replicate 96 [] :: h) t1).bind fun q2 =>
 (buildV Try.prog 33 [(0, (.p (.int .i64 (IntKind.wrap .i64 (1 + (intBits .and .i64 x1 1)))))), (1, (.p (.int .u32 x2)))]).bind fun t3 =>
 (some (alO [.p (.int .i64 0), .p (.int .u32 0), .p (.int .u32 0), .p (.slice none 0 0), .p (.slice none 0 0), .p (.slice none 0 0), .p (.int .u64 0), .p (.int .i64 0), .p (.int .i64 0), .p (.slice none 0 0)] (5 :: 0 :: 1 :: 1 :: 0 :: σ) 8 q2.2)).bind fun q4 =>
 ((stO false 10 (6 :: 0 :: 1 :: 1 :: 0 :: σ) q4.2 q4.1 t3).map fun h => (udf, h)).bind fun q5 =>
 (loop limelightlaw6_RtcpTuples_c0 limelightlaw6_RtcpTuples_l0 (1 :: 0 :: 1 :: 1 :: 1 :: 0 :: σ) (envL [(1, (.p (.int .i64 x1))), (2, (.p (.int .u32 x2))), (7, q2.1), (8, q4.1), (9, (.p (.int .i64 0)))]) q5.2).bind fun r6 => limelightlaw6_RtcpTuples_k0 rec loop σ r6.1 r6.2.1 r6.2.2 := by kernel_rfl
theorem limelightlaw6_RtcpTuples_r0 (rec : CallF) (loop : LoopV) (σ : Stamp) (x1 : Int) (x2 : Int) (x7 : V) (x8 : V) (x9 : Int) (h : H) : cvRound G rec loop limelightlaw6_RtcpTuples_c0 limelightlaw6_RtcpTuples_l0 σ (envL [(1, (.p (.int .i64 x1))), (2, (.p (.int .u32 x2))), (7, x7), (8, x8), (9, (.p (.int .i64 x9)))]) h =
 (callO rec 21 (2 :: 0 :: 0 :: 0 :: σ) [(.p (.int .i64 x1)), (.p (.int .i64 0)), (.p (.int .i64 6))] h (some 24)).bind fun q7 =>
 (castI .i64 q7.1).bind fun n8 =>
 bif decide (x9 < n8) then (
 (fA x8 3).bind fun t9 =>
 (ldO false 1 q7.2 t9).bind fun t10 =>
 (callO rec 30 (3 :: 0 :: 1 :: 0 :: σ) [x7] q7.2 (some 31)).bind fun q11 =>
 need (ldO false 1 q11.2 t9 = some t10) (
 (buildSliceV Try.prog 28 1 [(0, q11.1)]).bind fun t12 =>
 (apO false 3 24 (5 :: 0 :: 1 :: 0 :: σ) 33 q11.2 t10 t12).bind fun q13 =>
 (fA x8 3).bind fun t14 =>
 ((stO true 1 (7 :: 0 :: 1 :: 0 :: σ) q13.2 t14 q13.1).map fun h => (udf, h)).bind fun q15 =>
 loop limelightlaw6_RtcpTuples_c0 limelightlaw6_RtcpTuples_l0 (1 :: σ) (envL [(1, (.p (.int .i64 x1))), (2, (.p (.int .u32 x2))), (7, x7), (8, x8), (9, (.p (.int .i64 (IntKind.wrap .i64 (x9 + 1)))))]) q15.2))
 else (
 some ((.exit 0), (envL [(2, (.p (.int .u32 x2))), (8, x8)]), q7.2)) := by kernel_rfl
theorem limelightlaw6_RtcpTuples_a0_0 (rec : CallF) (loop : LoopV) (σ : Stamp) (x2 : Int) (x8 : V) (h : H) : limelightlaw6_RtcpTuples_k0 rec loop σ (.exit 0) (envL [(2, (.p (.int .u32 x2))), (8, x8)]) h =
 (ldO true 10 h x8).bind fun t16 =>
 (buildSliceV Try.prog 36 1 [(0, t16)]).bind fun t17 =>
 (callFO rec 24 (2 :: 0 :: 1 :: 1 :: 1 :: 1 :: 0 :: σ) [t17] h (some 38)).bind fun q18 =>
 (extV q18.1 0).bind fun t19 =>
 (extV q18.1 1).bind fun t20 =>
 (castI .i64 t20).bind fun n21 =>
 (callFO rec 25 (1 :: 0 :: 1 :: 1 :: 1 :: 1 :: 1 :: 0 :: σ) [t19] q18.2 (some 43)).bind fun q22 =>
 (extV q22.1 0).bind fun t23 =>
 (extV q22.1 1).bind fun t24 =>
 (castI .i64 t24).bind fun n25 =>
 (bif n21 == 0 then (some (n25 == 0)) else (some false)).bind fun b26 =>
 (bif b26 then ((lenO t19).bind fun t27 =>
 (castI .i64 t27).bind fun n28 =>
 (fA x8 3).bind fun t29 =>
 (ldO false 1 q22.2 t29).bind fun t30 =>
 (lenO t30).bind fun t31 =>
 (castI .i64 t31).bind fun n32 =>
 some (n28 == (IntKind.wrap .i64 (12 + (IntKind.wrap .i64 (8 * n32)))))) else (some false)).bind fun b33 =>
 (bif b33 then ((lenO t23).bind fun t34 =>
 (castI .i64 t34).bind fun n35 =>
 some (n35 == 1)) else (some false)).bind fun b36 =>
 (bif b36 then ((iS 10 t23 0).bind fun t37 =>
 (fA t37 0).bind fun t38 =>
 (ldO false 1 q22.2 t38).bind fun t39 =>
 (castI .i64 t39).bind fun n40 =>
 (fA x8 0).bind fun t41 =>
 (ldO false 1 q22.2 t41).bind fun t42 =>
 (castI .i64 t42).bind fun n43 =>
 some (n40 == n43)) else (some false)).bind fun b44 =>
 (bif b44 then ((iS 10 t23 0).bind fun t45 =>
 (fA t45 1).bind fun t46 =>
 (ldO false 1 q22.2 t46).bind fun t47 =>
 (castI .u32 t47).bind fun n48 =>
 some (n48 == x2)) else (some false)).bind fun b49 =>
 (bif b49 then ((iS 10 t23 0).bind fun t50 =>
 (fA t50 3).bind fun t51 =>
 (ldO false 1 q22.2 t51).bind fun t52 =>
 (fA x8 3).bind fun t53 =>
 (ldO false 1 q22.2 t53).bind fun t54 =>
 (callO rec 31 (45 :: 0 :: 1 :: 1 :: 1 :: 1 :: 1 :: 1 :: 0 :: σ) [t52, t54] q22.2 (some 91)).bind fun q55 =>
 (asB q55.1).bind fun b56 =>
 some ((.p (.bool b56)), q55.2)) else (some ((.p (.bool false)), q22.2))).bind fun q57 =>
 (asB q57.1).bind fun b58 =>
 (bif b58 then ((callO rec 20 (48 :: 0 :: 1 :: 1 :: 1 :: 1 :: 1 :: 1 :: 0 :: σ) [] q57.2 (some 94)).bind fun q59 =>
 (asB q59.1).bind fun b60 =>
 some ((.p (.bool b60)), q59.2)) else (some ((.p (.bool false)), q57.2))).bind fun q61 =>
 (asB q61.1).bind fun b62 =>
 fin false σ q61.2 [(.p (.bool b62))] := by kernel_rfl
end Go.Ev
/- Lifted by lift.py: limelightlaw6_RtcpTuples as a plain function. -/
namespace Go.Ev
open Go.Proofs
set_option linter.unusedVariables false
set_option linter.unusedSimpArgs false
set_option maxRecDepth 100000
def p_limelightlaw6_RtcpTuples_l0 {β : Type} (k : Nat) (kE0 : Int → T_api_Report → Option β) (x1 : Int) (x2 : Int) (x9 : Int) (yg4 : T_limelightkeep_Tape) (yg8 : T_api_Report) : Option β := match k with
| 0 => none
| k + 1 =>
(p_limelightbook_Within x1 0 6).bind fun r29 =>
bif decide (x9 < r29) then (
(p_limelightkeep_Tape_Tuple k yg4).bind fun r35 =>
(ap 24 yg8.Tuples ([r35.1])).bind fun a46 =>
p_limelightlaw6_RtcpTuples_l0 k kE0 x1 x2 (IntKind.wrap .i64 (x9 + 1)) r35.2 ((⟨yg8.Kind, yg8.From, yg8.About, a46, yg8.Abouts, yg8.Numbers, yg8.Rate, yg8.f_Type, yg8.Count, yg8.Body⟩ : T_api_Report)))
else (
kE0 x2 yg8)
def p_limelightlaw6_RtcpTuples (k : Nat) (x0 : (List Int)) (x1 : Int) (x2 : Int) : Option (Bool) :=
p_limelightlaw6_RtcpTuples_l0 k (fun r73_2 yg28 =>
(p_rtcp_Bytes k ([yg28])).bind fun r98 =>
(p_rtcp_Read k r98.1).bind fun r105 =>
(bif r98.2 == 0 then (some (r105.2 == 0)) else (some false)).bind fun b112 =>
(bif b112 then (some (((r98.1.length : Int)) == (IntKind.wrap .i64 (12 + (IntKind.wrap .i64 (8 * ((yg28.Tuples.length : Int)))))))) else (some false)).bind fun b116 =>
(bif b116 then (some (((r105.1.length : Int)) == 1)) else (some false)).bind fun b120 =>
(bif b120 then ((ix r105.1 0).bind fun a124 =>
some (a124.Kind == yg28.Kind)) else (some false)).bind fun b148 =>
(bif b148 then ((ix r105.1 0).bind fun a152 =>
some (a152.From == r73_2)) else (some false)).bind fun b176 =>
(bif b176 then ((ix r105.1 0).bind fun a180 =>
(p_limelightref6_Tuples k a180.Tuples yg28.Tuples).bind fun r204 =>
some r204) else (some false)).bind fun b209 =>
(bif b209 then ((p_limelightlaw6_known k).bind fun r213 =>
some r213) else (some false)).bind fun b218 =>
some (b218)) x1 x2 0 ((⟨x0, 0⟩ : T_limelightkeep_Tape)) ((⟨(IntKind.wrap .i64 (1 + (intBits .and .i64 x1 1))), x2, 0, (([] : List T_api_Tuple)), (([] : List Int)), (([] : List Int)), 0, 0, 0, (([] : List Int))⟩ : T_api_Report))
theorem limelightlaw6_RtcpTuples_l0_ok {h : H}  {β α : Type} {Q : β → α → Prop} {K : Exit × Env × H → Option α} {kE0 : Int → T_api_Report → Option β} (hE0 : ∀ (q2 : Int) (yg28 : T_api_Report) (c62 : C) (h63 : SoC dT_api_Tuple yg28.Tuples c62) (h64 : ∀ v, c62 = .v v → v = .p (.slice none 0 0) ∨ v = .fz [] 0 3 true) (v65 : V) (h66 : SlF (dI .u32) yg28.Abouts v65) (v67 : V) (h68 : SlF (dI .i64) yg28.Numbers v67) (v69 : V) (h70 : SlF (dI .u8) yg28.Body v69) (s71 : Stamp) (H60 : Go.Ev.H) (_ : Fm 96 h [] [(8, s71, [.v (.p (.int .i64 yg28.Kind)), .v (.p (.int .u32 yg28.From)), .v (.p (.int .u32 yg28.About)), c62, .v v65, .v v67, .v (.p (.int .u64 yg28.Rate)), .v (.p (.int .i64 yg28.f_Type)), .v (.p (.int .i64 yg28.Count)), .v v69])] [] H60), Sim (kE0 q2 yg28) (K ((.exit 0), (envL [(2, (.p (.int .u32 q2))), (8, (.ref ⟨h.length, 8, 0, s71, []⟩ 0))]), H60)) Q) (k : Nat) : ∀ (x1 : Int) (x2 : Int) (x9 : Int) (yg4 : T_limelightkeep_Tape) (yg8 : T_api_Report) (v14 : V) (h15 : SlF (dI .i64) yg4.f_L v14) (s16 : Stamp) (c18 : C) (h19 : SoC dT_api_Tuple yg8.Tuples c18) (h20 : ∀ v, c18 = .v v → v = .p (.slice none 0 0) ∨ v = .fz [] 0 3 true) (v21 : V) (h22 : SlF (dI .u32) yg8.Abouts v21) (v23 : V) (h24 : SlF (dI .i64) yg8.Numbers v23) (v25 : V) (h26 : SlF (dI .u8) yg8.Body v25) (s27 : Stamp) (H12 : Go.Ev.H) (_ : Fm 96 h [] [(16, s16, List.map C.v [v14, (.p (.int .i64 yg4.f_At))]), (8, s27, [.v (.p (.int .i64 yg8.Kind)), .v (.p (.int .u32 yg8.From)), .v (.p (.int .u32 yg8.About)), c18, .v v21, .v v23, .v (.p (.int .u64 yg8.Rate)), .v (.p (.int .i64 yg8.f_Type)), .v (.p (.int .i64 yg8.Count)), .v v25])] [] H12) {σ : Stamp}, Sim (p_limelightlaw6_RtcpTuples_l0 k kE0 x1 x2 x9 yg4 yg8) ((cvL G X0 limelightlaw6_RtcpTuples_c0 limelightlaw6_RtcpTuples_l0 σ (envL [(1, (.p (.int .i64 x1))), (2, (.p (.int .u32 x2))), (7, (.ref ⟨h.length, 16, 0, s16, []⟩ 0)), (8, (.ref ⟨h.length, 8, 0, s27, []⟩ 0)), (9, (.p (.int .i64 x9)))]) H12).bind K) Q := by
  induction k with
  | zero => intros; exact Sim.no
  | succ k ih =>
    intro x1 x2 x9 yg4 yg8 v14 h15 s16 c18 h19 h20 v21 h22 v23 h24 v25 h26 s27 H12 S13 σ
    rw [p_limelightlaw6_RtcpTuples_l0]
    refine Sim.round (Sim.ext (limelightlaw6_RtcpTuples_r0 _ _ _ _ _ _ _ _ _) ?_)
    refine Sim.call (limelightbook_Within_ok x1 0 6) fun r29 cs30 H31 h32 q33 => ?_
    cases q33
    refine Sim.op (castI_p _ _) ?_
    refine Sim.cd (fun hc34 => ?_) (fun hc34 => ?_)
    · refine Sim.op (fA_ref _ _ _) ?_
      refine Sim.op (h19.ld (S13.atG (i := 1) rfl) (j := 3) rfl) ?_
      refine Sim.call (limelightkeep_Tape_Tuple_ok k yg4 h15 (S13.atG (i := 0) rfl)) fun r35 cs36 H37 h38 q39 => ?_
      obtain ⟨w40, v42, h41, h43, q39⟩ := q39
      cases q39
      obtain rfl := dT_api_Tuple.inv h41
      have S44 := S13.setG (i := 0) (cs' := List.map C.v [v42, (.p (.int .i64 r35.2.f_At))]) rfl rfl rfl
      refine Sim.nd (h19.ld (S44.atG (i := 1) rfl) (j := 3) rfl) ?_
      have h45 : SlF dT_api_Tuple [r35.1] (.fz [(.p (.int .u32 r35.1.Owner)), (.p (.int .u64 r35.1.Rate)), (.p (.int .i64 r35.1.Over))] 1 3 true) := SlF.lit (cs := [(.p (.int .u32 r35.1.Owner)), (.p (.int .u64 r35.1.Rate)), (.p (.int .i64 r35.1.Over))]) (RL.cons (show dT_api_Tuple.R r35.1 [(.p (.int .u32 r35.1.Owner)), (.p (.int .u64 r35.1.Rate)), (.p (.int .i64 r35.1.Over))] from h41) RL.nil) rfl rfl true
      refine Sim.op (bldS (pt_cons (c := [(.p (.int .u32 r35.1.Owner)), (.p (.int .u64 r35.1.Rate)), (.p (.int .i64 r35.1.Over))]) rfl pt_nil) (by kernel_rfl : _ = some (.fz [(.p (.int .u32 r35.1.Owner)), (.p (.int .u64 r35.1.Rate)), (.p (.int .i64 r35.1.Over))] 1 3 true))) ?_
      refine Sim.bd fun a46 h47 => ?_
      obtain ⟨v48, c49, H50, e51, S52⟩ := S44.appG (i := 1) (j := 3) (d := 33) (e := 3) (own := false) (σ := (5 :: 0 :: 1 :: 0 :: σ)) rfl rfl h19 h20 (h45.h (ptC H12 ⟨h.length, 16, 0, s16, []⟩ 0 (List.map C.v [v42, (.p (.int .i64 r35.2.f_At))]))).y h47 (by simp) rfl (by decide) (by decide) rfl rfl
      refine Sim.op (e51) ?_
      refine Sim.op (fA_ref _ _ _) ?_
      obtain ⟨c57, H54, e55, h58, h59, S56⟩ := S52.mvG (i := 1) (j := 3) (k := 0) (σ := (7 :: 0 :: 1 :: 0 :: σ)) rfl rfl rfl rfl rfl rfl
      refine Sim.op (st_map e55) ?_
      exact ih x1 x2 (IntKind.wrap .i64 (x9 + 1)) r35.2 ((⟨yg8.Kind, yg8.From, yg8.About, a46, yg8.Abouts, yg8.Numbers, yg8.Rate, yg8.f_Type, yg8.Count, yg8.Body⟩ : T_api_Report)) v42 h43 s16 c57 h58 h59 v21 h22 v23 h24 v25 h26 s27 H54 (S56.wk2 (all_cons (at_mem 0 rfl) (all_cons (at_mem 1 rfl) all_nil)) all_nil)
    exact hE0 x2 yg8 c18 h19 h20 v21 h22 v23 h24 v25 h26 s27 H12 (S13.wk2 (all_cons (at_mem 1 rfl) all_nil) all_nil)
theorem limelightlaw6_RtcpTuples_ok (k : Nat) {h : H} {σ : Stamp} (x0 : List Int) {u0 : V} (hu0 : SlF (dI .i64) x0 u0) (x1 : Int) (x2 : Int) : Sim (p_limelightlaw6_RtcpTuples k x0 x1 x2) (ev G X0 8 σ [u0, (.p (.int .i64 x1)), (.p (.int .u32 x2))] h) (fun r s => s = ([.v (.p (.bool r))], h)) := by
  refine Sim.ev rfl (Sim.ext (limelightlaw6_RtcpTuples_entry _ _ _ _ _ _ _) ?_)
  rw [p_limelightlaw6_RtcpTuples]
  have S0 : Fm 96 h [] [] [] (List.replicate 96 [] :: h) := Fm.start0
  refine Sim.op (bldV (pt_cons hu0.still.cells pt_nil) (by kernel_rfl : _ = some (.agg [u0, .p (.int .i64 0)]))) ?_
  obtain ⟨H1, e2, S3⟩ := S0.box (own := false) (d := 16) (s := (2 :: 0 :: 1 :: 0 :: σ)) (xs := [u0, .p (.int .i64 0)]) (stills_cons hu0.still (stills_cons (still_int _ _) stills_nil)) (by decide) rfl
  refine Sim.op (e2) ?_
  refine Sim.op (bldV (pt_cons rfl (pt_cons rfl pt_nil)) (by kernel_rfl : _ = some (.agg [.p (.int .i64 (IntKind.wrap .i64 (1 + (intBits .and .i64 x1 1)))), .p (.int .u32 x2), .p (.int .u32 0), .p (.slice none 0 0), .p (.slice none 0 0), .p (.slice none 0 0), .p (.int .u64 0), .p (.int .i64 0), .p (.int .i64 0), .p (.slice none 0 0)]))) ?_
  obtain ⟨H5, e6, S7⟩ := S3.al (d := 8) (s := (5 :: 0 :: 1 :: 1 :: 0 :: σ)) (z := [(.p (.int .i64 0)), (.p (.int .u32 0)), (.p (.int .u32 0)), (.p (.slice none 0 0)), (.p (.slice none 0 0)), (.p (.slice none 0 0)), (.p (.int .u64 0)), (.p (.int .i64 0)), (.p (.int .i64 0)), (.p (.slice none 0 0))]) (by decide) rfl
  refine Sim.op (congrArg some e6) ?_
  obtain ⟨H9, e10, S11⟩ := S7.stGv (i := 0) (j := 0) (own := false) (σ := (6 :: 0 :: 1 :: 1 :: 0 :: σ)) (xs := [.p (.int .i64 (IntKind.wrap .i64 (1 + (intBits .and .i64 x1 1)))), .p (.int .u32 x2), .p (.int .u32 0), .p (.slice none 0 0), .p (.slice none 0 0), .p (.slice none 0 0), .p (.int .u64 0), .p (.int .i64 0), .p (.int .i64 0), .p (.slice none 0 0)]) rfl rfl (stills_cons (still_int _ _) (stills_cons (still_int _ _) (stills_cons (still_int _ _) (stills_cons (SlF.nil dT_api_Tuple).still (stills_cons (SlF.nil (dI .u32)).still (stills_cons (SlF.nil (dI .i64)).still (stills_cons (still_int _ _) (stills_cons (still_int _ _) (stills_cons (still_int _ _) (stills_cons (SlF.nil (dI .u8)).still stills_nil)))))))))) rfl rfl
  refine Sim.op (st_map e10) ?_
  refine Sim.as (limelightlaw6_RtcpTuples_l0_ok ?_ k x1 x2 0 ((⟨x0, 0⟩ : T_limelightkeep_Tape)) ((⟨(IntKind.wrap .i64 (1 + (intBits .and .i64 x1 1))), x2, 0, (([] : List T_api_Tuple)), (([] : List Int)), (([] : List Int)), 0, 0, 0, (([] : List Int))⟩ : T_api_Report)) u0 hu0 (2 :: 0 :: 1 :: 0 :: σ) (.v (.p (.slice none 0 0))) (SoC.frz (SlF.nil dT_api_Tuple)) (fun v h => by cases h; simp) (.p (.slice none 0 0)) (SlF.nil (dI .u32)) (.p (.slice none 0 0)) (SlF.nil (dI .i64)) (.p (.slice none 0 0)) (SlF.nil (dI .u8)) (5 :: 0 :: 1 :: 1 :: 0 :: σ) H9 (S11.wk2 (all_cons (at_mem 1 rfl) (all_cons (at_mem 0 rfl) all_nil)) all_nil)) 
  · intro r73_2 yg28 c76 h77 h78 v79 h80 v81 h82 v83 h84 s85 H74 S75
    refine Sim.ext (limelightlaw6_RtcpTuples_a0_0 _ _ _ _ _ _) ?_
    obtain ⟨v87, h88, h89⟩ := h77.fr
    obtain ⟨w90, H91, h96, e92, e93, e94, S95⟩ := S75.frzV (i := 0) (n := 10) (ys := [(.p (.int .i64 yg28.Kind)), (.p (.int .u32 yg28.From)), (.p (.int .u32 yg28.About)), v87, v79, v81, (.p (.int .u64 yg28.Rate)), (.p (.int .i64 yg28.f_Type)), (.p (.int .i64 yg28.Count)), v83]) rfl rfl ⟨(FrC.v (still_int _ _)), ⟨(FrC.v (still_int _ _)), ⟨(FrC.v (still_int _ _)), ⟨h88, ⟨(FrC.v h80.still), ⟨(FrC.v h82.still), ⟨(FrC.v (still_int _ _)), ⟨(FrC.v (still_int _ _)), ⟨(FrC.v (still_int _ _)), ⟨(FrC.v h84.still), trivial⟩⟩⟩⟩⟩⟩⟩⟩⟩⟩ rfl (by decide)
    refine Sim.op (e92) ?_
    refine Sim.op (bldS1 (e := 10) (te := 33) (z := [.p (.int .i64 0), .p (.int .u32 0), .p (.int .u32 0), .p (.slice none 0 0), .p (.slice none 0 0), .p (.slice none 0 0), .p (.int .u64 0), .p (.int .i64 0), .p (.int .i64 0), .p (.slice none 0 0)]) (by kernel_rfl) (by kernel_rfl) ⟨⟨rfl, by kernel_rfl, by decide, by decide⟩, trivial⟩ (h96.trans rfl)) ?_
    have h97 : SlF dT_api_Report [yg28] (.fz [.p (.int .i64 yg28.Kind), .p (.int .u32 yg28.From), .p (.int .u32 yg28.About), v87, v79, v81, .p (.int .u64 yg28.Rate), .p (.int .i64 yg28.f_Type), .p (.int .i64 yg28.Count), v83] 1 10 true) := SlF.lit (cs := [.p (.int .i64 yg28.Kind), .p (.int .u32 yg28.From), .p (.int .u32 yg28.About), v87, v79, v81, .p (.int .u64 yg28.Rate), .p (.int .i64 yg28.f_Type), .p (.int .i64 yg28.Count), v83]) (RL.cons (show dT_api_Report.R yg28 [.p (.int .i64 yg28.Kind), .p (.int .u32 yg28.From), .p (.int .u32 yg28.About), v87, v79, v81, .p (.int .u64 yg28.Rate), .p (.int .i64 yg28.f_Type), .p (.int .i64 yg28.Count), v83] from (dT_api_Report.mk h89 h80 h82 h84)) RL.nil) rfl rfl true
    erw [callFO_eq (frzAs_cons (frzA_fz (frz_of_lay e94)) frzAs_nil)]
    refine Sim.call (rtcp_Bytes_ok k ([yg28]) (h97.h H91)) fun r98 cs99 H100 h101 q102 => ?_
    obtain ⟨v103, h104, q102⟩ := q102
    cases q102
    refine Sim.op (rfl) ?_
    refine Sim.op (rfl) ?_
    refine Sim.op (castI_p _ _) ?_
    erw [callFO_eq (frzAs_cons (frzA_F h104) frzAs_nil)]
    refine Sim.call (rtcp_Read_ok k r98.1 h104) fun r105 cs106 H107 h108 q109 => ?_
    obtain ⟨v110, h111, q109⟩ := q109
    cases q109
    refine Sim.op (rfl) ?_
    refine Sim.op (rfl) ?_
    refine Sim.op (castI_p _ _) ?_
    refine Sim.ch (P := fun r y => r = y) ?_ (fun b112 y113 h114 h115 => ?_)
    · refine Sim.cd (fun hc => ?_) (fun hc => ?_)
      · exact Sim.ret rfl rfl
      · exact Sim.ret rfl rfl
    subst h115
    refine Sim.ch (P := fun r y => r = y) ?_ (fun b116 y117 h118 h119 => ?_)
    · refine Sim.cd (fun hc => ?_) (fun hc => ?_)
      · refine Sim.op ((h104.h H91).len) ?_
        refine Sim.op (castI_p _ _) ?_
        refine Sim.op (fA_ref _ _ _) ?_
        refine Sim.op ((S95.atG (i := 0) rfl).ld (j := 3) rfl) ?_
        refine Sim.op ((h89.h H91).len) ?_
        refine Sim.op (castI_p _ _) ?_
        exact Sim.ret rfl rfl
      · exact Sim.ret rfl rfl
    subst h119
    refine Sim.ch (P := fun r y => r = y) ?_ (fun b120 y121 h122 h123 => ?_)
    · refine Sim.cd (fun hc => ?_) (fun hc => ?_)
      · refine Sim.op ((h111.h H91).len) ?_
        refine Sim.op (castI_p _ _) ?_
        exact Sim.ret rfl rfl
      · exact Sim.ret rfl rfl
    subst h123
    refine Sim.ch (P := fun r y => r = y) ?_ (fun b148 y149 h150 h151 => ?_)
    · refine Sim.cd (fun hc => ?_) (fun hc => ?_)
      · refine Sim.bd fun a124 h125 => ?_
        refine Sim.op ((h111.h H91).iS h125 rfl) ?_
        obtain ⟨w127, h128, hE126⟩ := (h111.h H91).el h125 rfl
        obtain ⟨v129, v131, v133, v135, rfl, h130, h132, h134, h136⟩ := dT_api_Report.inv h128
        refine Sim.op (hE126.fa (j := 0) (by simp)) ?_
        obtain ⟨w138, h139, hE137⟩ := (h111.h H91).el h125 rfl
        obtain ⟨v140, v142, v144, v146, rfl, h141, h143, h145, h147⟩ := dT_api_Report.inv h139
        refine Sim.op (hE137.ld (j := 0) rfl) ?_
        refine Sim.op (castI_p _ _) ?_
        refine Sim.op (fA_ref _ _ _) ?_
        refine Sim.op ((S95.atG (i := 0) rfl).ld (j := 0) rfl) ?_
        refine Sim.op (castI_p _ _) ?_
        exact Sim.ret rfl rfl
      · exact Sim.ret rfl rfl
    subst h151
    refine Sim.ch (P := fun r y => r = y) ?_ (fun b176 y177 h178 h179 => ?_)
    · refine Sim.cd (fun hc => ?_) (fun hc => ?_)
      · refine Sim.bd fun a152 h153 => ?_
        refine Sim.op ((h111.h H91).iS h153 rfl) ?_
        obtain ⟨w155, h156, hE154⟩ := (h111.h H91).el h153 rfl
        obtain ⟨v157, v159, v161, v163, rfl, h158, h160, h162, h164⟩ := dT_api_Report.inv h156
        refine Sim.op (hE154.fa (j := 1) (by simp)) ?_
        obtain ⟨w166, h167, hE165⟩ := (h111.h H91).el h153 rfl
        obtain ⟨v168, v170, v172, v174, rfl, h169, h171, h173, h175⟩ := dT_api_Report.inv h167
        refine Sim.op (hE165.ld (j := 1) rfl) ?_
        refine Sim.op (castI_p _ _) ?_
        exact Sim.ret rfl rfl
      · exact Sim.ret rfl rfl
    subst h179
    refine Sim.ch (P := fun r y => (.p (.bool r), H91) = y) ?_ (fun b209 y210 h211 h212 => ?_)
    · refine Sim.cd (fun hc => ?_) (fun hc => ?_)
      · refine Sim.bd fun a180 h181 => ?_
        refine Sim.op ((h111.h H91).iS h181 rfl) ?_
        obtain ⟨w183, h184, hE182⟩ := (h111.h H91).el h181 rfl
        obtain ⟨v185, v187, v189, v191, rfl, h186, h188, h190, h192⟩ := dT_api_Report.inv h184
        refine Sim.op (hE182.fa (j := 3) (by simp)) ?_
        obtain ⟨w194, h195, hE193⟩ := (h111.h H91).el h181 rfl
        obtain ⟨v196, v198, v200, v202, rfl, h197, h199, h201, h203⟩ := dT_api_Report.inv h195
        refine Sim.op (hE193.ld (j := 3) rfl) ?_
        refine Sim.op (fA_ref _ _ _) ?_
        refine Sim.op ((S95.atG (i := 0) rfl).ld (j := 3) rfl) ?_
        refine Sim.call (limelightref6_Tuples_ok k a180.Tuples (h197.h H91) yg28.Tuples (h89.h H91)) fun r204 cs205 H206 h207 q208 => ?_
        cases q208
        refine Sim.op (asB_p _) ?_
        exact Sim.ret rfl rfl
      · exact Sim.ret rfl rfl
    subst h212
    refine Sim.op (asB_p _) ?_
    refine Sim.ch (P := fun r y => (.p (.bool r), H91) = y) ?_ (fun b218 y219 h220 h221 => ?_)
    · refine Sim.cd (fun hc => ?_) (fun hc => ?_)
      · refine Sim.call (limelightlaw6_known_ok k ) fun r213 cs214 H215 h216 q217 => ?_
        cases q217
        refine Sim.op (asB_p _) ?_
        exact Sim.ret rfl rfl
      · exact Sim.ret rfl rfl
    subst h221
    refine Sim.op (asB_p _) ?_
    exact Sim.fin (S95.finN (lv_cons (still_bool _).lv lv_nil)) rfl
end Go.Ev
namespace Go.Ev
set_option maxRecDepth 100000
set_option linter.unusedSimpArgs false
theorem known6t : p_limelightlaw6_known 1100 = some true := by kernel_rfl
theorem tuples_l0 {β : Type} (kE0 : Int → T_api_Report → Option β) {x1 x2 : Int} {n : Nat} (hn : n ≤ 6) (hw : p_limelightbook_Within x1 0 6 = some (n : Int)) : ∀ (c i j : Nat) (g : T_api_Report) (t : T_limelightkeep_Tape), TP t → i + c = n → g.Tuples.length = i → 70 ≤ j →
    ∃ l : List ST, p_limelightlaw6_RtcpTuples_l0 (j + c + 1) kE0 x1 x2 (i : Int) t g = kE0 x2 { g with Tuples := g.Tuples ++ l.map ST.t } ∧ l.length = c ∧ (∀ s ∈ l, s.ok ∧ NR 17 s.e s.m)
  | 0, i, j, g, t, h, hi, hg, hj => by
    refine ⟨[], ?_, rfl, fun s hs => by cases hs⟩
    have d : decide ((i : Int) < (n : Int)) = false := decide_eq_false (by omega)
    rw [p_limelightlaw6_RtcpTuples_l0, hw, Option.bind_some, d, cond_false, List.map_nil, List.append_nil]
  | c + 1, i, j, g, t, h, hi, hg, hj => by
    obtain ⟨s, t1, h1, hs, hN, ht1⟩ := tape_tuple h (k := j + c + 1) (by omega)
    have d : decide ((i : Int) < (n : Int)) = true := decide_eq_true (by omega)
    have w2 : IntKind.wrap .i64 ((i : Int) + 1) = ((i + 1 : Nat) : Int) := by rw [wrap_i64 (by omega) (by omega)]; omega
    obtain ⟨l, he, hl, hall⟩ := tuples_l0 kE0 hn hw c (i + 1) j { g with Tuples := g.Tuples ++ [s.t] } t1 ht1 (by omega) (by rw [List.length_append, hg]; rfl) hj
    refine ⟨s :: l, ?_, by rw [List.length_cons, hl], fun x hx => (List.mem_cons.1 hx).elim (fun hx => by rw [hx]; exact ⟨hs, hN⟩) (hall x)⟩
    rw [show j + (c + 1) + 1 = (j + c + 1) + 1 from rfl, p_limelightlaw6_RtcpTuples_l0, hw, Option.bind_some, d, cond_true]
    erw [h1, Option.bind_some, ap_eq2 (by decide) (by simp only [List.length_cons, List.length_nil]; omega), Option.bind_some, w2]
    refine he.trans ?_
    simp only [List.append_assoc, List.map_cons, List.cons_append, List.nil_append]
theorem rtcpTuples_true (x0 : List Int) (h0 : x0.length < 2 ^ 50) (x1 x2 : Int) (h2 : 0 ≤ x2 ∧ x2 < 2 ^ 32) : p_limelightlaw6_RtcpTuples 1100 x0 x1 x2 = some true := by
  obtain ⟨q, hq, q0, q1⟩ := within_lo (x := x1) (hi := 6) (by decide) (by decide)
  obtain ⟨n, rfl⟩ : ∃ n : Nat, q = n := ⟨q.toNat, by omega⟩
  obtain ⟨f, rfl⟩ : ∃ f : Nat, x2 = f := ⟨x2.toNat, by omega⟩
  have a1 : intBits .and .i64 x1 1 = x1 % 2 ^ 1 := and_mask (n := 1) (m := 1) _ rfl (by decide)
  obtain ⟨K, hK, hK2⟩ : ∃ K : Nat, IntKind.wrap .i64 (1 + intBits .and .i64 x1 1) = (K : Int) ∧ (K = 1 ∨ K = 2) := by
    rw [a1, wrap_i64 (by omega) (by omega)]
    exact ⟨(1 + x1 % 2 ^ 1).toNat, by omega, by omega⟩
  have lp := fun (kE0 : Int → T_api_Report → Option Bool) => tuples_l0 (x2 := (f : Int)) kE0 (by omega) hq n 0 (1100 - n - 1) ⟨(K : Int), (f : Int), 0, [], [], [], 0, 0, 0, []⟩ ⟨x0, 0⟩ ⟨by simp, by simp, h0⟩ (by omega) rfl (by omega)
  rw [show 1100 - n - 1 + n + 1 = 1100 by omega] at lp
  unfold p_limelightlaw6_RtcpTuples
  rw [hK]
  obtain ⟨l, he, hl, hall⟩ := lp _
  refine Eq.trans he ?_
  have hs : okS (.tmm K f l) := ⟨hK2, by omega, by omega, fun s hs => (hall s hs).1⟩
  have hw : okW (.tmm K f l) := fun s hs => (hall s hs).2
  have b1 : p_rtcp_Bytes 1100 [rep (.tmm K f l)] = some (bytS (.tmm K f l), 0) := by
    have := bytes_okR (k := 1100) (by decide) (L := [.tmm K f l]) (fun y hy => by rw [List.mem_singleton] at hy; subst hy; exact ⟨hs, hw⟩) (Nat.le_refl 1) (Nat.le_add_left 1 2)
    rwa [List.flatMap_cons, List.flatMap_nil, List.append_nil] at this
  have r1 : p_rtcp_Read 1100 (bytS (.tmm K f l)) = some ([rep (.tmm K f l)], 0) := by
    have := read_all (k := 1100) (by decide) (L := [.tmm K f l]) (fun y hy => by rw [List.mem_singleton] at hy; subst hy; exact hs) (Nat.le_refl 1) (Nat.le_add_left 1 5)
    rwa [List.flatMap_cons, List.flatMap_nil, List.append_nil] at this
  have hlen : ((bytS (.tmm K f l)).length : Int) = IntKind.wrap .i64 (12 + IntKind.wrap .i64 (8 * (l.length : Int))) := by
    rw [wrap_i64 (n := 8 * (l.length : Int)) (by omega) (by omega), wrap_i64 (by omega) (by omega), bytS_len, bodyS, List.length_append, List.length_append, putB_len, putB_len, flat_len encT_len]
    omega
  obtain ⟨v, hv, et⟩ := tuplesE_ok (k := 1100) (l.map ST.t) (l.map ST.t) (by rw [List.length_map]; omega) (by decide)
  obtain rfl : v = true := hv.2 rfl
  have i0 : ∀ r : T_api_Report, ix [r] 0 = some r := fun r => rfl
  simp only [List.nil_append]
  erw [b1, Option.bind_some, r1, Option.bind_some]
  simp only [i0, Option.bind_some, rep, List.length_map, hlen, beq_self_eq_true, cond_true, List.length_singleton, Int.natCast_one, et, known6t]
theorem rtcpTuples_ev (a0 : (DT.slice 8 (.int .i64)).D) (a1 : (DT.int .i64).D) (a2 : (DT.int .u32).D) (w0 : (DT.slice 8 (.int .i64)).ok a0) (_ : (DT.int .i64).ok a1) (w2 : (DT.int .u32).ok a2) :
    ev G X0 8 [] [(DT.slice 8 (.int .i64)).val a0, (DT.int .i64).val a1, (DT.int .u32).val a2] [] = some ([.v (bV true)], []) := by
  have hl : (Option.getD a0 []).length < 2 ^ 50 := by
    cases a0 with
    | none => exact Nat.two_pow_pos 50
    | some l =>
      have := w0.1
      have hr : reachBytes ≤ 140737488355328 := by decide
      have e : (Option.getD (some l) []).length = l.length := rfl
      omega
  have h2 : 0 ≤ (show Int from a2) ∧ (show Int from a2) < 2 ^ 32 := wf_u32 w2
  obtain ⟨_, h1, rfl⟩ := limelightlaw6_RtcpTuples_ok 1100 (h := []) (σ := []) (Option.getD a0 []) (slF_ints a0) a1 a2 _ (rtcpTuples_true _ hl a1 a2 h2)
  exact h1
end Go.Ev
