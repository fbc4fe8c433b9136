/- A part of the proof that follows: Control messages that are not the same have not the same bytes, and each tells how long it is: for any two tapes. -/
import Derived.Test.YtigkdihkmihmmaaMCtlApart4
namespace Go.Ev
set_option maxRecDepth 100000
set_option linter.unusedSimpArgs false
theorem putB_inj {n m : Int} {s : Nat} (hn : 0 ≤ n ∧ n < 256 ^ s) (hm : 0 ≤ m ∧ m < 256 ^ s) (h : putB n s = putB m s) : n = m := by
  have h1 := getB_putB n hn.1 s 0
  have h2 := getB_putB m hm.1 s 0
  rw [h] at h1
  rw [h1] at h2
  rw [Int.emod_eq_of_lt hn.1 hn.2, Int.emod_eq_of_lt hm.1 hm.2] at h2
  omega
def PT (K : Int) (a : It) : Prop := okIt a ∧ a.n < 256 ^ a.size.toNat ∧ (hasB K a.name = false → a.n = 0)
theorem sel_inj {K : Int} : ∀ {l m : List It}, l.map (fun a => (a.name, a.size)) = m.map (fun a => (a.name, a.size)) → (∀ a ∈ l, PT K a) → (∀ a ∈ m, PT K a) → selF K l = selF K m → l = m
  | [], [], _, _, _, _ => rfl
  | [], b :: m, h, _, _, _ => by simp at h
  | a :: l, [], h, _, _, _ => by simp at h
  | a :: l, b :: m, h, hl, hm, hs => by
    simp only [List.map_cons, List.cons.injEq, Prod.mk.injEq] at h
    obtain ⟨⟨h1, h2⟩, h3⟩ := h
    obtain ⟨oa, la, za⟩ := hl a (List.mem_cons_self ..)
    obtain ⟨ob, lb, zb⟩ := hm b (List.mem_cons_self ..)
    have tl := fun hs' => sel_inj h3 (fun x hx => hl x (List.mem_cons_of_mem _ hx)) (fun x hx => hm x (List.mem_cons_of_mem _ hx)) hs'
    simp only [selF, List.flatMap_cons] at hs
    rw [← h1] at hs
    have ab : a.n = b.n → a = b := fun hn => by
      obtain ⟨an, as_, ann⟩ := a
      obtain ⟨bn, bs, bnn⟩ := b
      simp only at h1 h2 hn
      subst h1; subst h2; subst hn
      rfl
    cases hh : hasB K a.name with
    | true =>
      rw [hh, cond_true, cond_true] at hs
      simp only [List.cons_append, List.nil_append, List.cons.injEq] at hs
      obtain ⟨e1, e2⟩ := hs
      rw [tl e2]
      congr 1
      simp only [itF, Prod.mk.injEq] at e1
      rw [← h2] at e1 lb
      exact ab (putB_inj ⟨oa.2.2.1, la⟩ ⟨ob.2.2.1, lb⟩ e1.2)
    | false =>
      rw [hh, cond_false, cond_false] at hs
      rw [tl hs]
      congr 1
      exact ab ((za hh).trans (zb (by rw [← h1]; exact hh)).symm)
theorem layF_inj {a b : T_api_Layer} (ha : okLy a) (hb : okLy b) (h : layF a = layF b) : a = b := by
  simp only [layF, Prod.mk.injEq, true_and] at h
  obtain ⟨h1, h2⟩ := List.append_inj h (by rw [List.length_append, List.length_append, putB_len, putB_len, putB_len, putB_len])
  obtain ⟨h3, h4⟩ := List.append_inj h1 (by rw [putB_len, putB_len])
  have e1 := putB_inj (s := 4) ⟨ha.1.1, by have := ha.1.2; omega⟩ ⟨hb.1.1, by have := hb.1.2; omega⟩ h3
  have e2 := putB_inj (s := 2) ⟨ha.2.1.1, by have := ha.2.1.2; omega⟩ ⟨hb.2.1.1, by have := hb.2.1.2; omega⟩ h4
  have e3 : a.Rid = b.Rid := by rw [← strB_bytesS a.Rid, h2, strB_bytesS]
  obtain ⟨a1, a2, a3⟩ := a
  obtain ⟨b1, b2, b3⟩ := b
  simp only at e1 e2 e3
  subst e1; subst e2; subst e3
  rfl
theorem map_layF_inj : ∀ {l m : List T_api_Layer}, (∀ a ∈ l, okLy a) → (∀ a ∈ m, okLy a) → l.map layF = m.map layF → l = m
  | [], [], _, _, _ => rfl
  | [], b :: m, _, _, h => by simp at h
  | a :: l, [], _, _, h => by simp at h
  | a :: l, b :: m, hl, hm, h => by
    simp only [List.map_cons, List.cons.injEq] at h
    rw [layF_inj (hl a (List.mem_cons_self ..)) (hm b (List.mem_cons_self ..)) h.1, map_layF_inj (fun x hx => hl x (List.mem_cons_of_mem _ hx)) (fun x hx => hm x (List.mem_cons_of_mem _ hx)) h.2]
/-- A message of a tape. -/
def TC (c : T_api_Ctl) : Prop := (1 ≤ c.Kind ∧ c.Kind ≤ 10) ∧ fldB c.Kind 0 [(c.Cap == 0), ((c.Layers.length : Int) == 0), (c.Peer == 0), (c.Height == 0), (c.Class == 0), (c.Layer == 0), (c.Code == 0)] = true ∧ valB c = true ∧ ((c.Kind = 3 ∧ (∃ p, (0 ≤ p ∧ p ≤ 5) ∧ Ly p c.Layers) ∧ selF c.Kind (six c) = []) ∨ (c.Kind ≠ 3 ∧ c.Layers = [])) ∧ ∀ a ∈ six c, PT c.Kind a
theorem six_all {c : T_api_Ctl} {P : It → Prop} (h1 : P ⟨1, 8, c.Cap⟩) (h2 : P ⟨3, 1, c.Peer⟩) (h3 : P ⟨4, 2, c.Height⟩) (h4 : P ⟨5, 1, c.Class⟩) (h5 : P ⟨6, 1, c.Layer⟩) (h6 : P ⟨7, 1, c.Code⟩) : ∀ a ∈ six c, P a := by
  intro a ha
  simp only [six, List.mem_cons, List.not_mem_nil, or_false] at ha
  rcases ha with rfl | rfl | rfl | rfl | rfl | rfl <;> assumption
theorem itZ {K nm : Int} {s : Nat} (h : 0 ≤ nm ∧ nm < 256) (hs : 1 ≤ s ∧ s ≤ 8) : PT K ⟨nm, (s : Int), 0⟩ :=
  ⟨⟨h, ⟨by simp only; omega, by simp only; omega⟩, by simp only; omega, by simp only; omega⟩, Int.pow_pos (by decide), fun _ => rfl⟩
theorem itN {K nm n : Int} {s : Nat} (h : 0 ≤ nm ∧ nm < 256) (hs : 1 ≤ s ∧ s ≤ 8) (h0 : 0 ≤ n) (h1 : n < 2 ^ 62) (h2 : n < 256 ^ s) (hh : hasB K nm = true) : PT K ⟨nm, (s : Int), n⟩ :=
  ⟨⟨h, ⟨by simp only; omega, by simp only; omega⟩, h0, by simp only; omega⟩, by simp only [Int.toNat_natCast]; exact h2, fun hf => by simp only at hf; rw [hh] at hf; cases hf⟩
theorem Ly.ok {p : Int} (hp : 0 ≤ p ∧ p ≤ 5) {l : List T_api_Layer} (h : Ly p l) : (1 ≤ l.length ∧ l.length ≤ 3) ∧ (∀ a ∈ l, okLy a) ∧ p_ctl_Layers 40 l = some 0 := by
  have R : ∀ i r, RidX.rightB (tpL p i r).Rid = true := fun i r => nmL_right i
  have Z : ∀ i r, (tpL p i r).Rid.size < 2 ^ 40 := fun i r => nmL_size i
  have O : ∀ (i : Nat) (r : Int), i ≤ 2 → 0 ≤ r ∧ r < 90 → okLy (tpL p i r) := fun i r hi hr => by
    refine ⟨⟨by simp only [tpL]; omega, by simp only [tpL]; omega⟩, ⟨by simp only [tpL]; omega, by simp only [tpL]; omega⟩, ?_⟩
    rcases i with _ | _ | i
    · show (nmL 0).size ≤ 200; decide
    · show (nmL 1).size ≤ 200; decide
    · show (⟨#[72, 73]⟩ : ByteArray).size ≤ 200; decide
  have ok : ∀ (i : Nat) (r : Int), i ≤ 2 → 0 ≤ r ∧ r < 90 → okL (tpL p i r) none = true ∧ ∀ b : T_api_Layer, okL (tpL p i r) (some b) = decide (b.Height < (tpL p i r).Height) := fun i r hi hr => okL_ok (R i r) (by simp only [tpL]; omega)
  have S01 : ∀ r s, sameL (tpL p 0 r) (tpL p 1 s) = false := fun r s => by
    have : ((tpL p 0 r).Ssrc == (tpL p 1 s).Ssrc) = false := beq_eq_false_iff_ne.2 (by simp only [tpL]; omega)
    unfold sameL; rw [this, Bool.false_or]; exact nm01
  have S02 : ∀ r s, sameL (tpL p 0 r) (tpL p 2 s) = false := fun r s => by
    have : ((tpL p 0 r).Ssrc == (tpL p 2 s).Ssrc) = false := beq_eq_false_iff_ne.2 (by simp only [tpL]; omega)
    unfold sameL; rw [this, Bool.false_or]; exact nm02
  have S12 : ∀ r s, sameL (tpL p 1 r) (tpL p 2 s) = false := fun r s => by
    have : ((tpL p 1 r).Ssrc == (tpL p 2 s).Ssrc) = false := beq_eq_false_iff_ne.2 (by simp only [tpL]; omega)
    unfold sameL; rw [this, Bool.false_or]; exact nm12
  rcases h with ⟨r, hr, rfl⟩ | ⟨r, s, hr, hs, rfl⟩ | ⟨r, s, u, hr, hs, hu, rfl⟩
  · refine ⟨by simp, fun a ha => by simp at ha; subst ha; exact O 0 r (by omega) hr, ?_⟩
    have c1 : chkL [] [tpL p 0 r] = true := by
      simp only [chkL, List.getLast?_nil, (ok 0 r (by omega) hr).1, List.any_nil, Bool.not_false, Bool.true_and]
    rw [layers_eq (by simp) (by simp) (fun b hb => by simp at hb; subst hb; exact Z 0 r), c1]; rfl
  · refine ⟨by simp, fun a ha => ?_, ?_⟩
    · simp only [List.mem_cons, List.not_mem_nil, or_false] at ha
      rcases ha with rfl | rfl
      · exact O 0 r (by omega) hr
      · exact O 1 s (by omega) hs
    · have c1 : chkL [] [tpL p 0 r, tpL p 1 s] = true := by
        have h1 := (ok 0 r (by omega) hr).1
        have h2 := (ok 1 s (by omega) hs).2 (tpL p 0 r)
        have h3 : decide ((tpL p 0 r).Height < (tpL p 1 s).Height) = true := decide_eq_true (by simp only [tpL]; omega)
        simp [chkL, h1, h2, h3, S01]
      rw [layers_eq (by simp) (by simp) (fun b hb => by
        simp only [List.mem_cons, List.not_mem_nil, or_false] at hb
        rcases hb with rfl | rfl
        · exact Z 0 r
        · exact Z 1 s), c1]; rfl
  · refine ⟨by simp, fun a ha => ?_, ?_⟩
    · simp only [List.mem_cons, List.not_mem_nil, or_false] at ha
      rcases ha with rfl | rfl | rfl
      · exact O 0 r (by omega) hr
      · exact O 1 s (by omega) hs
      · exact O 2 u (by omega) hu
    · have c1 : chkL [] [tpL p 0 r, tpL p 1 s, tpL p 2 u] = true := by
        have h1 := (ok 0 r (by omega) hr).1
        have h2 := (ok 1 s (by omega) hs).2 (tpL p 0 r)
        have h3 : decide ((tpL p 0 r).Height < (tpL p 1 s).Height) = true := decide_eq_true (by simp only [tpL]; omega)
        have h4 := (ok 2 u (by omega) hu).2 (tpL p 1 s)
        have h5 : decide ((tpL p 1 s).Height < (tpL p 2 u).Height) = true := decide_eq_true (by simp only [tpL]; omega)
        simp [chkL, h1, h2, h3, h4, h5, S01, S02, S12]
      rw [layers_eq (by simp) (by simp) (fun b hb => by
        simp only [List.mem_cons, List.not_mem_nil, or_false] at hb
        rcases hb with rfl | rfl | rfl
        · exact Z 0 r
        · exact Z 1 s
        · exact Z 2 u), c1]; rfl
theorem TC.okC {c : T_api_Ctl} (h : TC c) : okC c := by
  obtain ⟨h1, _, _, h4, h5⟩ := h
  refine ⟨⟨by omega, by omega⟩, ?_, ?_, fun a ha => (h5 a ha).1⟩
  · rcases h4 with ⟨_, ⟨p, hp, hl⟩, _⟩ | ⟨_, hl⟩
    · exact (hl.ok hp).1.2
    · rw [hl]; simp
  · rcases h4 with ⟨_, ⟨p, hp, hl⟩, _⟩ | ⟨_, hl⟩
    · exact (hl.ok hp).2.1
    · rw [hl]; intro a ha; cases ha
theorem TC.right {c : T_api_Ctl} (h : TC c) : p_ctl_Right 40 c = some 0 := by
  obtain ⟨h1, h2, h3, h4, _⟩ := h
  refine right_ok (by omega) h1 h2 h3 fun h => ?_
  rcases h4 with ⟨_, ⟨p, hp, hl⟩, _⟩ | ⟨hn, _⟩
  · exact (hl.ok hp).2.2
  · exact absurd h hn
theorem TC.bytes {c : T_api_Ctl} (h : TC c) : p_ctl_Bytes 40 c = some (bytC c, 0) := bytes8 h.okC (by omega) h.right
theorem bytC_inj {a b : T_api_Ctl} (ha : TC a) (hb : TC b) (h : bytC a = bytC b) : a = b := by
  unfold bytC at h
  simp only [List.cons_append, List.nil_append, List.cons.injEq] at h
  obtain ⟨hk, h⟩ := h
  obtain ⟨_, hbody⟩ := List.append_inj h (by rw [putB_len, putB_len])
  have hf : flds a = flds b := body_inj hbody
  unfold flds at hf
  have hsix : six a = six b → a.Layers = b.Layers → a = b := fun h6 hl => by
    obtain ⟨a1, a2, a3, a4, a5, a6, a7, a8⟩ := a
    obtain ⟨b1, b2, b3, b4, b5, b6, b7, b8⟩ := b
    simp only [six, List.cons.injEq, T_struct_name_int_size_int_n_int64.mk.injEq, true_and, and_true] at h6
    obtain ⟨e1, e2, e3, e4, e5, e6⟩ := h6
    simp only at hk hl e1 e2 e3 e4 e5 e6
    subst hk; subst hl; subst e1; subst e2; subst e3; subst e4; subst e5; subst e6
    rfl
  obtain ⟨_, _, _, a4, a5⟩ := ha
  obtain ⟨_, _, _, b4, b5⟩ := hb
  rw [← hk] at b4 b5 hf
  have fin : selF a.Kind (six a) = selF a.Kind (six b) → six a = six b := fun hs => sel_inj rfl a5 b5 hs
  rcases a4 with ⟨k3, ⟨p, hp, hl⟩, s1⟩ | ⟨kn, l1⟩ <;> rcases b4 with ⟨k3', ⟨p', hp', hl'⟩, s2⟩ | ⟨kn', l2⟩
  · rw [s1, s2, List.append_nil, List.append_nil] at hf
    exact hsix (fin (s1.trans s2.symm)) (map_layF_inj (hl.ok hp).2.1 (hl'.ok hp').2.1 hf)
  · exact absurd k3 kn'
  · exact absurd k3' kn
  · rw [l1, l2] at hf
    exact hsix (fin (by simpa using hf)) (l1.trans l2.symm)
theorem tape_ctl {t : T_limelightkeep_Tape} (h : TP t) : ∃ c t', p_limelightkeep_Tape_Ctl 40 t = some (c, t') ∧ TC c := by
  obtain ⟨r, t1, e1, r1, h1⟩ := next_tape h (n := 10) (by omega)
  unfold p_limelightkeep_Tape_Ctl
  rw [tape_eta, e1, Option.bind_some]
  simp only [tape_eta]
  have hr : r = 0 ∨ r = 1 ∨ r = 2 ∨ r = 3 ∨ r = 4 ∨ r = 5 ∨ r = 6 ∨ r = 7 ∨ r = 8 ∨ r = 9 := by omega
  rcases hr with rfl | rfl | rfl | rfl | rfl | rfl | rfl | rfl | rfl | rfl
  · simp only [show IntKind.wrap .i64 (1 + 0) = 1 from rfl, show ((1 : Int) == 1) = true from rfl, show ((1 : Int) == 3) = false from rfl, show ((1 : Int) == 4) = false from rfl, show ((1 : Int) == 5) = false from rfl, show ((1 : Int) == 6) = false from rfl, show ((1 : Int) == 7) = false from rfl, show ((1 : Int) == 8) = false from rfl, show ((1 : Int) == 9) = false from rfl, show ((1 : Int) == 10) = false from rfl, cond_true, cond_false]
    obtain ⟨a, t2, e2, r2, h2⟩ := next_tape h1 (n := 1048576) (by omega)
    rw [e2, Option.bind_some]
    simp only [tape_eta]
    rw [(wrap_i64 (n := 1 + a) (by omega) (by omega))]
    refine ⟨_, _, rfl, ⟨by show (1 : Int) ≤ 1; decide, by show (1 : Int) ≤ 10; decide⟩, ?_, ?_, .inr ⟨by show (1 : Int) ≠ 3; decide, rfl⟩, six_all (itN (nm := 1) (n := 1 + a) (s := 8) (by omega) (by omega) (by omega) (by omega) (by omega) rfl) (itZ (nm := 3) (s := 1) (by omega) (by omega)) (itZ (nm := 4) (s := 2) (by omega) (by omega)) (itZ (nm := 5) (s := 1) (by omega) (by omega)) (itZ (nm := 6) (s := 1) (by omega) (by omega)) (itZ (nm := 7) (s := 1) (by omega) (by omega))⟩
    · simp [fldB, hasB]
    · simp [valB, hasB]; omega
  · simp only [show IntKind.wrap .i64 (1 + 1) = 2 from rfl, show ((2 : Int) == 1) = false from rfl, show ((2 : Int) == 3) = false from rfl, show ((2 : Int) == 4) = false from rfl, show ((2 : Int) == 5) = false from rfl, show ((2 : Int) == 6) = false from rfl, show ((2 : Int) == 7) = false from rfl, show ((2 : Int) == 8) = false from rfl, show ((2 : Int) == 9) = false from rfl, show ((2 : Int) == 10) = false from rfl, cond_true, cond_false]
    refine ⟨_, _, rfl, ⟨by show (1 : Int) ≤ 2; decide, by show (2 : Int) ≤ 10; decide⟩, ?_, ?_, .inr ⟨by show (2 : Int) ≠ 3; decide, rfl⟩, six_all (itZ (nm := 1) (s := 8) (by omega) (by omega)) (itZ (nm := 3) (s := 1) (by omega) (by omega)) (itZ (nm := 4) (s := 2) (by omega) (by omega)) (itZ (nm := 5) (s := 1) (by omega) (by omega)) (itZ (nm := 6) (s := 1) (by omega) (by omega)) (itZ (nm := 7) (s := 1) (by omega) (by omega))⟩
    · simp [fldB, hasB]
    · simp [valB, hasB]
  · simp only [show IntKind.wrap .i64 (1 + 2) = 3 from rfl, show ((3 : Int) == 1) = false from rfl, show ((3 : Int) == 3) = true from rfl, show ((3 : Int) == 4) = false from rfl, show ((3 : Int) == 5) = false from rfl, show ((3 : Int) == 6) = false from rfl, show ((3 : Int) == 7) = false from rfl, show ((3 : Int) == 8) = false from rfl, show ((3 : Int) == 9) = false from rfl, show ((3 : Int) == 10) = false from rfl, cond_true, cond_false]
    obtain ⟨a, t2, e2, r2, h2⟩ := next_tape h1 (n := 6) (by omega)
    rw [e2, Option.bind_some]
    simp only [tape_eta]
    obtain ⟨l, t3, e3, hl⟩ := tape_layers h2 (p := a) (by omega) 36
    rw [e3, Option.bind_some]
    refine ⟨_, _, rfl, ⟨by show (1 : Int) ≤ 3; decide, by show (3 : Int) ≤ 10; decide⟩, ?_, ?_, .inl ⟨rfl, ⟨a, by omega, hl⟩, rfl⟩, six_all (itZ (nm := 1) (s := 8) (by omega) (by omega)) (itZ (nm := 3) (s := 1) (by omega) (by omega)) (itZ (nm := 4) (s := 2) (by omega) (by omega)) (itZ (nm := 5) (s := 1) (by omega) (by omega)) (itZ (nm := 6) (s := 1) (by omega) (by omega)) (itZ (nm := 7) (s := 1) (by omega) (by omega))⟩
    · simp [fldB, hasB]
    · rfl
  · simp only [show IntKind.wrap .i64 (1 + 3) = 4 from rfl, show ((4 : Int) == 1) = false from rfl, show ((4 : Int) == 3) = false from rfl, show ((4 : Int) == 4) = true from rfl, show ((4 : Int) == 5) = false from rfl, show ((4 : Int) == 6) = false from rfl, show ((4 : Int) == 7) = false from rfl, show ((4 : Int) == 8) = false from rfl, show ((4 : Int) == 9) = false from rfl, show ((4 : Int) == 10) = false from rfl, cond_true, cond_false]
    obtain ⟨a, t2, e2, r2, h2⟩ := next_tape h1 (n := 6) (by omega)
    obtain ⟨b, t3, e3, r3, h3⟩ := next_tape h2 (n := 1000) (by omega)
    obtain ⟨d, t4, e4, r4, h4⟩ := next_tape h3 (n := 4) (by omega)
    rw [e2, Option.bind_some]
    simp only [tape_eta]
    rw [e3, Option.bind_some]
    simp only [tape_eta]
    rw [e4, Option.bind_some]
    simp only [tape_eta]
    rw [(wrap_i64 (n := 1 + b) (by omega) (by omega))]
    refine ⟨_, _, rfl, ⟨by show (1 : Int) ≤ 4; decide, by show (4 : Int) ≤ 10; decide⟩, ?_, ?_, .inr ⟨by show (4 : Int) ≠ 3; decide, rfl⟩, six_all (itZ (nm := 1) (s := 8) (by omega) (by omega)) (itN (nm := 3) (n := a) (s := 1) (by omega) (by omega) (by omega) (by omega) (by omega) rfl) (itN (nm := 4) (n := 1 + b) (s := 2) (by omega) (by omega) (by omega) (by omega) (by omega) rfl) (itN (nm := 5) (n := d) (s := 1) (by omega) (by omega) (by omega) (by omega) (by omega) rfl) (itZ (nm := 6) (s := 1) (by omega) (by omega)) (itZ (nm := 7) (s := 1) (by omega) (by omega))⟩
    · simp [fldB, hasB]
    · simp [valB, hasB]; omega
  · simp only [show IntKind.wrap .i64 (1 + 4) = 5 from rfl, show ((5 : Int) == 1) = false from rfl, show ((5 : Int) == 3) = false from rfl, show ((5 : Int) == 4) = false from rfl, show ((5 : Int) == 5) = true from rfl, show ((5 : Int) == 6) = false from rfl, show ((5 : Int) == 7) = false from rfl, show ((5 : Int) == 8) = false from rfl, show ((5 : Int) == 9) = false from rfl, show ((5 : Int) == 10) = false from rfl, cond_true, cond_false]
    obtain ⟨a, t2, e2, r2, h2⟩ := next_tape h1 (n := 6) (by omega)
    rw [e2, Option.bind_some]
    simp only [tape_eta]
    refine ⟨_, _, rfl, ⟨by show (1 : Int) ≤ 5; decide, by show (5 : Int) ≤ 10; decide⟩, ?_, ?_, .inr ⟨by show (5 : Int) ≠ 3; decide, rfl⟩, six_all (itZ (nm := 1) (s := 8) (by omega) (by omega)) (itN (nm := 3) (n := a) (s := 1) (by omega) (by omega) (by omega) (by omega) (by omega) rfl) (itZ (nm := 4) (s := 2) (by omega) (by omega)) (itZ (nm := 5) (s := 1) (by omega) (by omega)) (itZ (nm := 6) (s := 1) (by omega) (by omega)) (itZ (nm := 7) (s := 1) (by omega) (by omega))⟩
    · simp [fldB, hasB]
    · simp [valB, hasB]; omega
  · simp only [show IntKind.wrap .i64 (1 + 5) = 6 from rfl, show ((6 : Int) == 1) = false from rfl, show ((6 : Int) == 3) = false from rfl, show ((6 : Int) == 4) = false from rfl, show ((6 : Int) == 5) = false from rfl, show ((6 : Int) == 6) = true from rfl, show ((6 : Int) == 7) = false from rfl, show ((6 : Int) == 8) = false from rfl, show ((6 : Int) == 9) = false from rfl, show ((6 : Int) == 10) = false from rfl, cond_true, cond_false]
    obtain ⟨a, t2, e2, r2, h2⟩ := next_tape h1 (n := 6) (by omega)
    obtain ⟨b, t3, e3, r3, h3⟩ := next_tape h2 (n := 1000) (by omega)
    rw [e2, Option.bind_some]
    simp only [tape_eta]
    rw [e3, Option.bind_some]
    simp only [tape_eta]
    rw [(wrap_i64 (n := 1 + b) (by omega) (by omega))]
    refine ⟨_, _, rfl, ⟨by show (1 : Int) ≤ 6; decide, by show (6 : Int) ≤ 10; decide⟩, ?_, ?_, .inr ⟨by show (6 : Int) ≠ 3; decide, rfl⟩, six_all (itZ (nm := 1) (s := 8) (by omega) (by omega)) (itN (nm := 3) (n := a) (s := 1) (by omega) (by omega) (by omega) (by omega) (by omega) rfl) (itN (nm := 4) (n := 1 + b) (s := 2) (by omega) (by omega) (by omega) (by omega) (by omega) rfl) (itZ (nm := 5) (s := 1) (by omega) (by omega)) (itZ (nm := 6) (s := 1) (by omega) (by omega)) (itZ (nm := 7) (s := 1) (by omega) (by omega))⟩
    · simp [fldB, hasB]
    · simp [valB, hasB]; omega
  · simp only [show IntKind.wrap .i64 (1 + 6) = 7 from rfl, show ((7 : Int) == 1) = false from rfl, show ((7 : Int) == 3) = false from rfl, show ((7 : Int) == 4) = false from rfl, show ((7 : Int) == 5) = false from rfl, show ((7 : Int) == 6) = false from rfl, show ((7 : Int) == 7) = true from rfl, show ((7 : Int) == 8) = false from rfl, show ((7 : Int) == 9) = false from rfl, show ((7 : Int) == 10) = false from rfl, cond_true, cond_false]
    obtain ⟨a, t2, e2, r2, h2⟩ := next_tape h1 (n := 6) (by omega)
    obtain ⟨b, t3, e3, r3, h3⟩ := next_tape h2 (n := 4) (by omega)
    rw [e2, Option.bind_some]
    simp only [tape_eta]
    rw [e3, Option.bind_some]
    simp only [tape_eta]
    refine ⟨_, _, rfl, ⟨by show (1 : Int) ≤ 7; decide, by show (7 : Int) ≤ 10; decide⟩, ?_, ?_, .inr ⟨by show (7 : Int) ≠ 3; decide, rfl⟩, six_all (itZ (nm := 1) (s := 8) (by omega) (by omega)) (itN (nm := 3) (n := a) (s := 1) (by omega) (by omega) (by omega) (by omega) (by omega) rfl) (itZ (nm := 4) (s := 2) (by omega) (by omega)) (itN (nm := 5) (n := b) (s := 1) (by omega) (by omega) (by omega) (by omega) (by omega) rfl) (itZ (nm := 6) (s := 1) (by omega) (by omega)) (itZ (nm := 7) (s := 1) (by omega) (by omega))⟩
    · simp [fldB, hasB]
    · simp [valB, hasB]; omega
  · simp only [show IntKind.wrap .i64 (1 + 7) = 8 from rfl, show ((8 : Int) == 1) = false from rfl, show ((8 : Int) == 3) = false from rfl, show ((8 : Int) == 4) = false from rfl, show ((8 : Int) == 5) = false from rfl, show ((8 : Int) == 6) = false from rfl, show ((8 : Int) == 7) = false from rfl, show ((8 : Int) == 8) = true from rfl, show ((8 : Int) == 9) = false from rfl, show ((8 : Int) == 10) = false from rfl, cond_true, cond_false]
    obtain ⟨a, t2, e2, r2, h2⟩ := next_tape h1 (n := 3) (by omega)
    rw [e2, Option.bind_some]
    simp only [tape_eta]
    refine ⟨_, _, rfl, ⟨by show (1 : Int) ≤ 8; decide, by show (8 : Int) ≤ 10; decide⟩, ?_, ?_, .inr ⟨by show (8 : Int) ≠ 3; decide, rfl⟩, six_all (itZ (nm := 1) (s := 8) (by omega) (by omega)) (itZ (nm := 3) (s := 1) (by omega) (by omega)) (itZ (nm := 4) (s := 2) (by omega) (by omega)) (itZ (nm := 5) (s := 1) (by omega) (by omega)) (itN (nm := 6) (n := a) (s := 1) (by omega) (by omega) (by omega) (by omega) (by omega) rfl) (itZ (nm := 7) (s := 1) (by omega) (by omega))⟩
    · simp [fldB, hasB]
    · simp [valB, hasB]; omega
  · simp only [show IntKind.wrap .i64 (1 + 8) = 9 from rfl, show ((9 : Int) == 1) = false from rfl, show ((9 : Int) == 3) = false from rfl, show ((9 : Int) == 4) = false from rfl, show ((9 : Int) == 5) = false from rfl, show ((9 : Int) == 6) = false from rfl, show ((9 : Int) == 7) = false from rfl, show ((9 : Int) == 8) = false from rfl, show ((9 : Int) == 9) = true from rfl, show ((9 : Int) == 10) = false from rfl, cond_true, cond_false]
    obtain ⟨a, t2, e2, r2, h2⟩ := next_tape h1 (n := 3) (by omega)
    rw [e2, Option.bind_some]
    simp only [tape_eta]
    refine ⟨_, _, rfl, ⟨by show (1 : Int) ≤ 9; decide, by show (9 : Int) ≤ 10; decide⟩, ?_, ?_, .inr ⟨by show (9 : Int) ≠ 3; decide, rfl⟩, six_all (itZ (nm := 1) (s := 8) (by omega) (by omega)) (itZ (nm := 3) (s := 1) (by omega) (by omega)) (itZ (nm := 4) (s := 2) (by omega) (by omega)) (itZ (nm := 5) (s := 1) (by omega) (by omega)) (itN (nm := 6) (n := a) (s := 1) (by omega) (by omega) (by omega) (by omega) (by omega) rfl) (itZ (nm := 7) (s := 1) (by omega) (by omega))⟩
    · simp [fldB, hasB]
    · simp [valB, hasB]; omega
  · simp only [show IntKind.wrap .i64 (1 + 9) = 10 from rfl, show ((10 : Int) == 1) = false from rfl, show ((10 : Int) == 3) = false from rfl, show ((10 : Int) == 4) = false from rfl, show ((10 : Int) == 5) = false from rfl, show ((10 : Int) == 6) = false from rfl, show ((10 : Int) == 7) = false from rfl, show ((10 : Int) == 8) = false from rfl, show ((10 : Int) == 9) = false from rfl, show ((10 : Int) == 10) = true from rfl, cond_true, cond_false]
    obtain ⟨a, t2, e2, r2, h2⟩ := next_tape h1 (n := 256) (by omega)
    rw [e2, Option.bind_some]
    simp only [tape_eta]
    refine ⟨_, _, rfl, ⟨by show (1 : Int) ≤ 10; decide, by show (10 : Int) ≤ 10; decide⟩, ?_, ?_, .inr ⟨by show (10 : Int) ≠ 3; decide, rfl⟩, six_all (itZ (nm := 1) (s := 8) (by omega) (by omega)) (itZ (nm := 3) (s := 1) (by omega) (by omega)) (itZ (nm := 4) (s := 2) (by omega) (by omega)) (itZ (nm := 5) (s := 1) (by omega) (by omega)) (itZ (nm := 6) (s := 1) (by omega) (by omega)) (itN (nm := 7) (n := a) (s := 1) (by omega) (by omega) (by omega) (by omega) (by omega) rfl)⟩
    · simp [fldB, hasB]
    · simp [valB, hasB]; omega
theorem bta_loop (s : ByteArray) (i : Nat) (r : List UInt8) : ByteArray.toList.loop s i r = r.reverse ++ s.data.toList.drop i := by
  fun_induction ByteArray.toList.loop s i r with
  | case1 i r h ih =>
    rw [ih, List.reverse_cons, List.append_assoc]
    congr 1
    have h' : i < s.data.toList.length := by rw [Array.length_toList]; exact h
    rw [List.drop_eq_getElem_cons h']
    simp [ByteArray.get!]
    have : s.data.size = s.size := rfl
    rw [getElem!_pos s.data i (by rw [this]; exact h)]
  | case2 i r h =>
    rw [List.drop_of_length_le, List.append_nil]
    have : s.data.toList.length = s.size := by rw [Array.length_toList]; rfl
    omega
theorem bta (s : ByteArray) : s.toList = s.data.toList := by
  unfold ByteArray.toList
  rw [bta_loop]; simp
theorem bt_inj {x y : ByteArray} : (x.toList == y.toList) = true ↔ x = y := by
  rw [bta, bta, beq_iff_eq]
  obtain ⟨x⟩ := x
  obtain ⟨y⟩ := y
  simp only [Array.toList_inj, ByteArray.mk.injEq]
theorem bytesS_strB : ∀ {xs : List Int}, isB xs → bytesS (strB xs) = xs := by
  intro xs h
  unfold bytesS strB
  simp only [List.map_map]
  conv => rhs; rw [← List.map_id xs]
  refine List.map_congr_left fun x hx => ?_
  have := h x hx
  simp only [Function.comp, id]
  rw [UInt8.toNat_ofNat']
  omega
theorem same8_l0 {β : Type} (kE0 : Unit → Option β) (kE1 : Bool → Option β) (a b : T_api_Ctl) (hn : a.Layers.length < 100) (hab : a.Layers.length = b.Layers.length) : ∀ (m i : Nat), i + m = a.Layers.length → ∀ j : Nat,
    ∃ v : Bool, (v = true ↔ a.Layers.drop i = b.Layers.drop i) ∧ p_limelightref8_Same_l0 (j + m + 1) kE0 kE1 (a.Layers.length : Int) (i : Int) a b = bif v then kE0 () else kE1 false
  | 0, i, hi, j => by
    rw [p_limelightref8_Same_l0]
    have d : decide ((i : Int) < (a.Layers.length : Int)) = false := decide_eq_false (by omega)
    rw [d, cond_false]
    refine ⟨true, ?_, rfl⟩
    rw [List.drop_of_length_le (by omega), List.drop_of_length_le (by omega)]
    simp
  | m + 1, i, hi, j => by
    rw [show j + (m + 1) + 1 = (j + m + 1) + 1 from rfl, p_limelightref8_Same_l0]
    have d : decide ((i : Int) < (a.Layers.length : Int)) = true := decide_eq_true (by omega)
    have ha : i < a.Layers.length := by omega
    have hb : i < b.Layers.length := by omega
    have x1 : ix a.Layers (i : Int) = some a.Layers[i] := ix_at (by simp [ha])
    have x2 : ix b.Layers (i : Int) = some b.Layers[i] := ix_at (by simp [hb])
    have w : IntKind.wrap .i64 ((i : Int) + 1) = ((i + 1 : Nat) : Int) := by rw [wrap_i64 (by omega) (by omega)]; rfl
    rw [d, cond_true, x1, Option.bind_some, x2, Option.bind_some, w]
    obtain ⟨v, hv, e⟩ := same8_l0 kE0 kE1 a b hn hab m (i + 1) (by omega) j
    have e' : p_limelightref8_Same_l0 (j + m + 1) kE0 kE1 (a.Layers.length : Int) ((i + 1 : Nat) : Int) (⟨a.Kind, a.Cap, a.Layers, a.Peer, a.Height, a.Class, a.Layer, a.Code⟩ : T_api_Ctl) (⟨b.Kind, b.Cap, b.Layers, b.Peer, b.Height, b.Class, b.Layer, b.Code⟩ : T_api_Ctl) = bif v then kE0 () else kE1 false := e
    rw [e']
    have hcons : (a.Layers.drop i = b.Layers.drop i) ↔ (a.Layers[i] = b.Layers[i] ∧ a.Layers.drop (i + 1) = b.Layers.drop (i + 1)) := by
      rw [List.drop_eq_getElem_cons ha, List.drop_eq_getElem_cons hb, List.cons.injEq]
    have hand : andB [(a.Layers[i]).Rid.toList == (b.Layers[i]).Rid.toList, (a.Layers[i]).Ssrc == (b.Layers[i]).Ssrc, (a.Layers[i]).Height == (b.Layers[i]).Height] = true ↔ a.Layers[i] = b.Layers[i] := by
      generalize a.Layers[i] = x
      generalize b.Layers[i] = y
      obtain ⟨x1, x2, x3⟩ := x
      obtain ⟨y1, y2, y3⟩ := y
      have hb : x1.toList = y1.toList ↔ x1 = y1 := ⟨fun h => bt_inj.1 (by rw [h]; simp), fun h => by rw [h]⟩
      simp only [andB, T_api_Layer.mk.injEq, Bool.and_true, Bool.and_eq_true, beq_iff_eq, hb]
    cases hq : andB [(a.Layers[i]).Rid.toList == (b.Layers[i]).Rid.toList, (a.Layers[i]).Ssrc == (b.Layers[i]).Ssrc, (a.Layers[i]).Height == (b.Layers[i]).Height] with
    | true =>
      refine ⟨v, ?_, by simp⟩
      rw [hv, hcons]
      exact ⟨fun h => ⟨hand.1 hq, h⟩, fun h => h.2⟩
    | false =>
      refine ⟨false, ?_, by simp⟩
      rw [hcons]
      constructor
      · intro h; cases h
      · intro h; have := hand.2 h.1; rw [hq] at this; cases this
theorem same8 {a b : T_api_Ctl} (hn : a.Layers.length ≤ 3) : ∃ v : Bool, (v = true ↔ a = b) ∧ p_limelightref8_Same 40 a b = some v := by
  unfold p_limelightref8_Same
  simp only [orO, Option.bind_some]
  by_cases hl : a.Layers.length = b.Layers.length
  · obtain ⟨v, hv, e⟩ := same8_l0 (fun (_ : Unit) => (some true : Option Bool)) (fun r => some r) a b (by omega) hl a.Layers.length 0 (by omega) (40 - a.Layers.length - 1)
    rw [show 40 - a.Layers.length - 1 + a.Layers.length + 1 = 40 by omega] at e
    rw [show ((0 : Nat) : Int) = 0 from rfl] at e
    rw [List.drop_zero, List.drop_zero] at hv
    have dl : ((a.Layers.length : Int) != (b.Layers.length : Int)) = false := by rw [hl]; simp
    rw [dl, Bool.or_false]
    by_cases hall : a.Kind = b.Kind ∧ a.Cap = b.Cap ∧ a.Peer = b.Peer ∧ a.Height = b.Height ∧ a.Class = b.Class ∧ a.Layer = b.Layer ∧ a.Code = b.Code
    · obtain ⟨g1, g2, g3, g4, g5, g6, g7⟩ := hall
      have : (((((((a.Kind != b.Kind) || (a.Cap != b.Cap)) || (a.Peer != b.Peer)) || (a.Height != b.Height)) || (a.Class != b.Class)) || (a.Layer != b.Layer)) || (a.Code != b.Code)) = false := by simp [g1, g2, g3, g4, g5, g6, g7]
      rw [this, cond_false]
      refine ⟨v, ?_, ?_⟩
      · rw [hv]
        constructor
        · intro h
          obtain ⟨a1, a2, a3, a4, a5, a6, a7, a8⟩ := a
          obtain ⟨b1, b2, b3, b4, b5, b6, b7, b8⟩ := b
          simp only at g1 g2 g3 g4 g5 g6 g7 h
          subst g1; subst g2; subst g3; subst g4; subst g5; subst g6; subst g7; subst h
          rfl
        · intro h; rw [h]
      · have e' : p_limelightref8_Same_l0 40 (fun (_ : Unit) => (some true : Option Bool)) (fun r => some r) (a.Layers.length : Int) 0 (⟨a.Kind, a.Cap, a.Layers, a.Peer, a.Height, a.Class, a.Layer, a.Code⟩ : T_api_Ctl) (⟨b.Kind, b.Cap, b.Layers, b.Peer, b.Height, b.Class, b.Layer, b.Code⟩ : T_api_Ctl) = bif v then some true else some false := e
        refine e'.trans ?_
        cases v <;> rfl
    · have : (((((((a.Kind != b.Kind) || (a.Cap != b.Cap)) || (a.Peer != b.Peer)) || (a.Height != b.Height)) || (a.Class != b.Class)) || (a.Layer != b.Layer)) || (a.Code != b.Code)) = true := by
        rcases hc : (((((((a.Kind != b.Kind) || (a.Cap != b.Cap)) || (a.Peer != b.Peer)) || (a.Height != b.Height)) || (a.Class != b.Class)) || (a.Layer != b.Layer)) || (a.Code != b.Code)) with _ | _
        · exfalso
          simp only [Bool.or_eq_false_iff, bne_eq_false_iff_eq] at hc
          obtain ⟨⟨⟨⟨⟨⟨g1, g2⟩, g3⟩, g4⟩, g5⟩, g6⟩, g7⟩ := hc
          exact hall ⟨g1, g2, g3, g4, g5, g6, g7⟩
        · rfl
      rw [this, cond_true]
      refine ⟨false, ?_, rfl⟩
      constructor
      · intro h; cases h
      · intro h; subst h; exact absurd ⟨rfl, rfl, rfl, rfl, rfl, rfl, rfl⟩ hall
  · have dl : ((a.Layers.length : Int) != (b.Layers.length : Int)) = true := by simp; omega
    rw [dl, Bool.or_true, cond_true]
    refine ⟨false, ?_, rfl⟩
    constructor
    · intro h; cases h
    · intro h; subst h; exact absurd rfl hl
theorem bytC_isB {c : T_api_Ctl} (h : TC c) : isB (bytC c) := by
  have ho := h.okC
  have fl : ∀ f ∈ flds c, okF f ∧ isB f.2 := fun f hf => by
    rcases List.mem_append.1 hf with hf | hf
    · obtain ⟨a, ha, rfl⟩ := List.mem_map.1 hf
      refine ⟨layF_ok (ho.2.2.1 a ha), fun x hx => ?_⟩
      simp only [layF] at hx
      rcases List.mem_append.1 hx with hx | hx
      · rcases List.mem_append.1 hx with hx | hx
        · exact putB_isB _ _ x hx
        · exact putB_isB _ _ x hx
      · simp only [bytesS, List.mem_map] at hx
        obtain ⟨b, _, rfl⟩ := hx
        have := b.toNat_lt
        omega
    · refine ⟨selF_ok ho.2.2.2 f hf, ?_⟩
      simp only [selF, List.mem_flatMap] at hf
      obtain ⟨a, ha, hf⟩ := hf
      cases hh : hasB c.Kind a.name with
      | false => rw [hh] at hf; simp at hf
      | true => rw [hh, cond_true, List.mem_singleton] at hf; subst hf; exact putB_isB _ _
  intro x hx
  unfold bytC at hx
  rcases List.mem_append.1 hx with hx | hx
  · rcases List.mem_append.1 hx with hx | hx
    · rw [List.mem_singleton] at hx; subst hx; exact ho.1
    · exact putB_isB _ _ x hx
  · unfold bodyC at hx
    obtain ⟨f, hf, hx⟩ := List.mem_flatMap.1 hx
    obtain ⟨⟨o1, o2⟩, o3⟩ := fl f hf
    unfold encF at hx
    rcases List.mem_cons.1 hx with rfl | hx
    · exact o1
    rcases List.mem_cons.1 hx with rfl | hx
    · omega
    · exact o3 x hx
theorem hd_or : ∀ a : Fin 10, ∀ b : Fin 256, intBits .or .i64 (IntKind.wrap .i64 (IntKind.wrap .i64 (a.1 : Int) * 2 ^ 8)) (IntKind.wrap .i64 (b.1 : Int)) = (a.1 : Int) * 256 + b.1 := by decide +kernel
theorem ctlApart_true (x0 x1 : List Int) (h0 : x0.length < 2 ^ 50) (h1 : x1.length < 2 ^ 50) : p_limelightlaw8_CtlApart 40 x0 x1 = some true := by
  unfold p_limelightlaw8_CtlApart
  obtain ⟨a, ta, ea, ha⟩ := tape_ctl (t := ⟨x0, 0⟩) ⟨by simp, by simp, h0⟩
  obtain ⟨b, tb, eb, hb⟩ := tape_ctl (t := ⟨x1, 0⟩) ⟨by simp, by simp, h1⟩
  obtain ⟨v, hv, es⟩ := same8 (a := a) (b := b) ha.okC.2.1
  have ba : p_ctl_Bytes 40 (⟨a.Kind, a.Cap, a.Layers, a.Peer, a.Height, a.Class, a.Layer, a.Code⟩ : T_api_Ctl) = some (bytC a, 0) := ha.bytes
  have bb : p_ctl_Bytes 40 (⟨b.Kind, b.Cap, b.Layers, b.Peer, b.Height, b.Class, b.Layer, b.Code⟩ : T_api_Ctl) = some (bytC b, 0) := hb.bytes
  have es' : p_limelightref8_Same 40 (⟨a.Kind, a.Cap, a.Layers, a.Peer, a.Height, a.Class, a.Layer, a.Code⟩ : T_api_Ctl) (⟨b.Kind, b.Cap, b.Layers, b.Peer, b.Height, b.Class, b.Layer, b.Code⟩ : T_api_Ctl) = some v := es
  have hstr : ((strB (bytC a)).toList == (strB (bytC b)).toList) = v := by
    rw [Bool.eq_iff_iff, bt_inj, hv]
    constructor
    · intro h
      refine bytC_inj ha hb ?_
      rw [← bytesS_strB (bytC_isB ha), h, bytesS_strB (bytC_isB hb)]
    · intro h; rw [h]
  have hbl := bodyC_len ha.okC
  have hlen : (bytC a).length = 3 + (bodyC a).length := by
    unfold bytC; rw [List.length_append, List.length_append, putB_len]; simp
  generalize hL : (bodyC a).length = L at hbl hlen
  have e3 : bytC a = a.Kind :: ((L : Int) / 256 ^ 1 % 256) :: ((L : Int) / 256 ^ 0 % 256) :: bodyC a := by
    unfold bytC; rw [hL]; rfl
  have i0 : ix (bytC a) 0 = some a.Kind := by rw [e3]; rfl
  have i1 : ix (bytC a) 1 = some ((L : Int) / 256 ^ 1 % 256) := by rw [e3]; rfl
  have i2 : ix (bytC a) 2 = some ((L : Int) / 256 ^ 0 % 256) := by rw [e3]; rfl
  have hor : intBits .or .i64 (IntKind.wrap .i64 (IntKind.wrap .i64 ((L : Int) / 256 ^ 1 % 256) * 2 ^ 8)) (IntKind.wrap .i64 ((L : Int) / 256 ^ 0 % 256)) = (L : Int) := by
    have := hd_or ⟨L / 256, by omega⟩ ⟨L % 256, by omega⟩
    have q1 : (L : Int) / 256 ^ 1 % 256 = ((L / 256 : Nat) : Int) := by simp; omega
    have q2 : (L : Int) / 256 ^ 0 % 256 = ((L % 256 : Nat) : Int) := by simp
    rw [q1, q2, this]
    simp only
    omega
  have w1 : IntKind.wrap .i64 (((bytC a).length : Int) - 3) = (L : Int) := by rw [wrap_i64 (by omega) (by omega)]; omega
  have w2 : IntKind.wrap .i64 a.Kind = a.Kind := by have := ha.1; exact wrap_i64 (by omega) (by omega)
  have d3 : decide (((bytC a).length : Int) ≥ 3) = true := decide_eq_true (by omega)
  rw [ea, Option.bind_some, eb, Option.bind_some]
  simp only [ba, bb, es', Option.bind_some, show ((0 : Int) == 0) = true from rfl, cond_true, hstr, beq_self_eq_true, d3, i0, i1, i2, hor, w1, w2, known8]
theorem ctlApart_ev (a0 a1 : (DT.slice 8 (.int .i64)).D) (w0 : (DT.slice 8 (.int .i64)).ok a0) (w1 : (DT.slice 8 (.int .i64)).ok a1) :
    ev G X0 9 [] [(DT.slice 8 (.int .i64)).val a0, (DT.slice 8 (.int .i64)).val a1] [] = some ([.v (bV true)], []) := by
  have hl : ∀ x : (DT.slice 8 (.int .i64)).D, (DT.slice 8 (.int .i64)).ok x → (Option.getD x []).length < 2 ^ 50 := fun x w => by
    cases x with
    | none => exact Nat.two_pow_pos 50
    | some l =>
      have := w.1
      have hr : reachBytes ≤ 140737488355328 := by decide
      have e : (Option.getD (some l) []).length = l.length := rfl
      omega
  obtain ⟨_, h1, rfl⟩ := limelightlaw8_CtlApart_ok 40 (h := []) (σ := []) (Option.getD a0 []) (slF_ints a0) (Option.getD a1 []) (slF_ints a1) _ (ctlApart_true _ _ (hl _ w0) (hl _ w1))
  exact h1
end Go.Ev
