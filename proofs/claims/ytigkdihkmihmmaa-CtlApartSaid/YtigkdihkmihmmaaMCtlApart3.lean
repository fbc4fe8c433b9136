/- A part of the proof that follows: Control messages that are not the same have not the same bytes, and each tells how long it is: for any two tapes. -/
import Derived.Test.YtigkdihkmihmmaaMCtlApart2
/- Lifted by lift.py: ext_Bytes as a plain function. -/
namespace Go.Ev
open Go.Proofs
set_option linter.unusedVariables false
set_option linter.unusedSimpArgs false
set_option maxRecDepth 100000
def p_ext_Bytes_l0 {β : Type} (k : Nat) (kE0 : (List Int) → Option β) (kE1 : Int → Option β) (x0 : Int) (x6 : (List Int)) (x20 : (List T_api_Elem)) (x21 : Int) (x22 : Int) : Option β := match k with
| 0 => none
| k + 1 =>
bif decide (x22 < x21) then (
(ix x20 x22).bind fun a13 =>
(p_ext_right x0 ((⟨a13.ID, a13.Data⟩ : T_api_Elem))).bind fun r27 =>
bif !r27 then (
kE1 1)
else (
bif x0 == 48862 then (
(ap 1 x6 ([(IntKind.wrap .u8 (intBits .or .i64 (IntKind.wrap .i64 (a13.ID * 2 ^ 4)) (IntKind.wrap .i64 (((a13.Data.length : Int)) - 1))))])).bind fun a33 =>
(ap 1 a33 a13.Data).bind fun a39 =>
p_ext_Bytes_l0 k kE0 kE1 x0 a39 x20 x21 (IntKind.wrap .i64 (x22 + 1)))
else (
(ap 1 x6 ([(IntKind.wrap .u8 a13.ID), (IntKind.wrap .u8 ((a13.Data.length : Int)))])).bind fun a46 =>
(ap 1 a46 a13.Data).bind fun a52 =>
p_ext_Bytes_l0 k kE0 kE1 x0 a52 x20 x21 (IntKind.wrap .i64 (x22 + 1)))))
else (
kE0 x6)
def p_ext_Bytes (k : Nat) (x0 : Int) (x1 : (List T_api_Elem)) : Option ((List Int) × Int) :=
(bif x0 != 48862 then (some (x0 != 4096)) else (some false)).bind fun b1 =>
bif b1 then (
some ((([] : List Int)), 1))
else (
bif decide (((x1.length : Int)) > 8) then (
some ((([] : List Int)), 3))
else (
p_ext_Bytes_l0 k (fun r66_6 =>
(p_octet_Pad k r66_6 4).bind fun r71 =>
some (r71, 0)) (fun r91_5 =>
some ((([] : List Int)), r91_5)) x0 (([] : List Int)) x1 ((x1.length : Int)) 0))
theorem ext_Bytes_l0_ok {h : H}  {β α : Type} {Q : β → α → Prop} {K : Exit × Env × H → Option α} {kE0 : (List Int) → Option β} {kE1 : Int → Option β} (hE0 : ∀ (q6 : (List Int)) (v60 : V) (H58 : Go.Ev.H) (_ : Fm 61 h [] [] [⟨[43, 53, 57], v60, (dI .u8), q6⟩] H58), Sim (kE0 q6) (K ((.exit 1), (envL [(6, v60)]), H58)) Q) (hE1 : ∀ (q5 : Int) (H62 : Go.Ev.H) (_ : Fm 61 h [] [] [] H62), Sim (kE1 q5) (K (.ret, (envL [(4, (.p (.slice none 0 0))), (5, (.p (.int .i64 q5)))]), H62)) Q) (k : Nat) : ∀ (x0 : Int) (x6 : (List Int)) (x20 : (List T_api_Elem)) (x21 : Int) (x22 : Int) (v9 : V) (v11 : V) (h12 : SlH h dT_api_Elem x20 v11) (H7 : Go.Ev.H) (_ : Fm 61 h [] [] [⟨[43, 53, 57], v9, (dI .u8), x6⟩] H7) {σ : Stamp}, Sim (p_ext_Bytes_l0 k kE0 kE1 x0 x6 x20 x21 x22) ((cvL G X0 ext_Bytes_c0 ext_Bytes_l0 σ (envL [(0, (.p (.int .u16 x0))), (6, v9), (20, v11), (21, (.p (.int .i64 x21))), (22, (.p (.int .i64 x22)))]) H7).bind K) Q := by
  induction k with
  | zero => intros; exact Sim.no
  | succ k ih =>
    intro x0 x6 x20 x21 x22 v9 v11 h12 H7 S8 σ
    rw [p_ext_Bytes_l0]
    refine Sim.round (Sim.ext (ext_Bytes_r0 _ _ _ _ _ _ _ _ _) ?_)
    refine Sim.cd (fun hc => ?_) (fun hc => ?_)
    · refine Sim.bd fun a13 h14 => ?_
      refine Sim.op ((S8.low h12).iS h14 rfl) ?_
      obtain ⟨w16, h17, hE15⟩ := (S8.low h12).el h14 rfl
      obtain ⟨v18, rfl, h19⟩ := dT_api_Elem.inv h17
      refine Sim.op (hE15.all (by simp)) ?_
      obtain ⟨H20, e21, S22⟩ := S8.al (d := 8) (s := (2 :: 0 :: 0 :: 1 :: 1 :: 0 :: σ)) (z := [(.p (.int .i64 0)), (.p (.slice none 0 0))]) (by decide) rfl
      refine Sim.op (congrArg some e21) ?_
      obtain ⟨H24, e25, S26⟩ := S22.stGv (i := 0) (j := 0) (own := false) (σ := (3 :: 0 :: 0 :: 1 :: 1 :: 0 :: σ)) (xs := [.p (.int .i64 a13.ID), v18]) rfl rfl (stills_cons (still_int _ _) (stills_cons h19.still stills_nil)) rfl rfl
      refine Sim.op (st_map e25) ?_
      refine Sim.op ((S26.atG (i := 0) rfl).ldVs (j := 0) (xs := [.p (.int .i64 a13.ID), v18]) rfl rfl (by decide)) ?_
      refine Sim.call (ext_right_ok x0 ((⟨a13.ID, a13.Data⟩ : T_api_Elem)) (show dT_api_Elem.R ((⟨a13.ID, a13.Data⟩ : T_api_Elem)) [.p (.int .i64 a13.ID), v18] from (dT_api_Elem.mk h19))) fun r27 cs28 H29 h30 q31 => ?_
      cases q31
      refine Sim.op (asB_p _) ?_
      refine Sim.cd (fun hc => ?_) (fun hc => ?_)
      · exact hE1 1 H24 (S26.wk2 all_nil all_nil)
      · refine Sim.cd (fun hc => ?_) (fun hc => ?_)
        · refine Sim.op (fA_ref _ _ _) ?_
          refine Sim.op ((S26.atG (i := 0) rfl).ld (j := 0) rfl) ?_
          refine Sim.op (castI_p _ _) ?_
          refine Sim.op (fA_ref _ _ _) ?_
          refine Sim.op ((S26.atG (i := 0) rfl).ld (j := 1) rfl) ?_
          refine Sim.op ((h19.h H24).len) ?_
          refine Sim.op (castI_p _ _) ?_
          have h32 : SlF (dI .u8) [(IntKind.wrap .u8 (intBits .or .i64 (IntKind.wrap .i64 (a13.ID * 2 ^ 4)) (IntKind.wrap .i64 (((a13.Data.length : Int)) - 1))))] (.fz [(.p (.int .u8 (IntKind.wrap .u8 (intBits .or .i64 (IntKind.wrap .i64 (a13.ID * 2 ^ 4)) (IntKind.wrap .i64 (((a13.Data.length : Int)) - 1))))))] 1 1 true) := SlF.lit (cs := [(.p (.int .u8 (IntKind.wrap .u8 (intBits .or .i64 (IntKind.wrap .i64 (a13.ID * 2 ^ 4)) (IntKind.wrap .i64 (((a13.Data.length : Int)) - 1))))))]) (RL.cons (show (dI .u8).R (IntKind.wrap .u8 (intBits .or .i64 (IntKind.wrap .i64 (a13.ID * 2 ^ 4)) (IntKind.wrap .i64 (((a13.Data.length : Int)) - 1)))) [(.p (.int .u8 (IntKind.wrap .u8 (intBits .or .i64 (IntKind.wrap .i64 (a13.ID * 2 ^ 4)) (IntKind.wrap .i64 (((a13.Data.length : Int)) - 1))))))] from rfl) RL.nil) rfl rfl true
          refine Sim.op (bldS (pt_cons rfl pt_nil) (by kernel_rfl : _ = some (.fz [(.p (.int .u8 (IntKind.wrap .u8 (intBits .or .i64 (IntKind.wrap .i64 (a13.ID * 2 ^ 4)) (IntKind.wrap .i64 (((a13.Data.length : Int)) - 1))))))] 1 1 true))) ?_
          refine Sim.bd fun a33 h34 => ?_
          obtain ⟨v35, H36, e37, S38⟩ := S26.app (i := 0) (d := 43) (e := 1) (own := true) (σ := (11 :: 1 :: 0 :: 1 :: 1 :: 0 :: 1 :: 1 :: 0 :: σ)) rfl (h32.h H24).y h34 rfl (by decide) (by decide) rfl
          refine Sim.op (e37) ?_
          refine Sim.op (fA_ref _ _ _) ?_
          refine Sim.op ((S38.atG (i := 0) rfl).ld (j := 1) rfl) ?_
          refine Sim.bd fun a39 h40 => ?_
          obtain ⟨v41, H42, e43, S44⟩ := S38.app (i := 0) (d := 57) (e := 1) (own := true) (σ := (3 :: 1 :: 1 :: 1 :: 0 :: 1 :: 1 :: 0 :: σ)) rfl (h19.h H36).y h40 rfl (by decide) (by decide) rfl
          refine Sim.op (e43) ?_
          exact ih x0 a39 x20 x21 (IntKind.wrap .i64 (x22 + 1)) v41 v11 h12 H42 (S44.wk2 all_nil (all_cons ⟨[57, 43, 43, 53, 57], by simp, at_mem 0 rfl⟩ all_nil))
        · refine Sim.op (fA_ref _ _ _) ?_
          refine Sim.op ((S26.atG (i := 0) rfl).ld (j := 0) rfl) ?_
          refine Sim.op (castI_p _ _) ?_
          refine Sim.op (fA_ref _ _ _) ?_
          refine Sim.op ((S26.atG (i := 0) rfl).ld (j := 1) rfl) ?_
          refine Sim.op ((h19.h H24).len) ?_
          refine Sim.op (castI_p _ _) ?_
          have h45 : SlF (dI .u8) [(IntKind.wrap .u8 a13.ID), (IntKind.wrap .u8 ((a13.Data.length : Int)))] (.fz [(.p (.int .u8 (IntKind.wrap .u8 a13.ID))), (.p (.int .u8 (IntKind.wrap .u8 ((a13.Data.length : Int)))))] 2 1 true) := SlF.lit (cs := [(.p (.int .u8 (IntKind.wrap .u8 a13.ID))), (.p (.int .u8 (IntKind.wrap .u8 ((a13.Data.length : Int)))))]) (RL.cons (show (dI .u8).R (IntKind.wrap .u8 a13.ID) [(.p (.int .u8 (IntKind.wrap .u8 a13.ID)))] from rfl) (RL.cons (show (dI .u8).R (IntKind.wrap .u8 ((a13.Data.length : Int))) [(.p (.int .u8 (IntKind.wrap .u8 ((a13.Data.length : Int)))))] from rfl) RL.nil)) rfl rfl true
          refine Sim.op (bldS (pt_cons rfl (pt_cons rfl pt_nil)) (by kernel_rfl : _ = some (.fz [(.p (.int .u8 (IntKind.wrap .u8 a13.ID))), (.p (.int .u8 (IntKind.wrap .u8 ((a13.Data.length : Int)))))] 2 1 true))) ?_
          refine Sim.bd fun a46 h47 => ?_
          obtain ⟨v48, H49, e50, S51⟩ := S26.app (i := 0) (d := 53) (e := 1) (own := true) (σ := (9 :: 1 :: 0 :: 1 :: 1 :: 0 :: 1 :: 1 :: 0 :: σ)) rfl (h45.h H24).y h47 rfl (by decide) (by decide) rfl
          refine Sim.op (e50) ?_
          refine Sim.op (fA_ref _ _ _) ?_
          refine Sim.op ((S51.atG (i := 0) rfl).ld (j := 1) rfl) ?_
          refine Sim.bd fun a52 h53 => ?_
          obtain ⟨v54, H55, e56, S57⟩ := S51.app (i := 0) (d := 57) (e := 1) (own := true) (σ := (3 :: 1 :: 1 :: 1 :: 0 :: 1 :: 1 :: 0 :: σ)) rfl (h19.h H49).y h53 rfl (by decide) (by decide) rfl
          refine Sim.op (e56) ?_
          exact ih x0 a52 x20 x21 (IntKind.wrap .i64 (x22 + 1)) v54 v11 h12 H55 (S57.wk2 all_nil (all_cons ⟨[57, 53, 43, 53, 57], by simp, at_mem 0 rfl⟩ all_nil))
    · exact hE0 x6 v9 H7 (S8.wk2 all_nil (all_cons ⟨[43, 53, 57], by simp, at_mem 0 rfl⟩ all_nil))
theorem ext_Bytes_ok (k : Nat) {h : H} {σ : Stamp} (x0 : Int) (x1 : List T_api_Elem) {u1 : V} (hu1 : SlH h dT_api_Elem x1 u1) : Sim (p_ext_Bytes k x0 x1) (ev G X0 22 σ [(.p (.int .u16 x0)), u1] h) (fun r s => ∃ (v0 : V), SlF (dI .u8) r.1 v0 ∧ s = ([.v v0, .v (.p (.int .i64 r.2))], h)) := by
  refine Sim.ev rfl (Sim.ext (ext_Bytes_entry _ _ _ _ _ _) ?_)
  rw [p_ext_Bytes]
  have S0 : Fm 61 h [] [] [] (List.replicate 61 [] :: h) := Fm.start0
  refine Sim.ch (P := fun r y => r = y) ?_ (fun b1 y2 h3 h4 => ?_)
  · refine Sim.cd (fun hc => ?_) (fun hc => ?_)
    · exact Sim.ret rfl rfl
    · exact Sim.ret rfl rfl
  subst h4
  refine Sim.cd (fun hc => ?_) (fun hc => ?_)
  · exact Sim.fin (S0.finN (lv_cons (SlF.nil (dI .u8)).still.lv (lv_cons (still_int _ _).lv lv_nil))) ⟨(.p (.slice none 0 0)), (SlF.nil (dI .u8)), rfl⟩
  · refine Sim.op ((S0.low hu1).len) ?_
    refine Sim.op (castI_p _ _) ?_
    refine Sim.cd (fun hc => ?_) (fun hc => ?_)
    · exact Sim.fin (S0.finN (lv_cons (SlF.nil (dI .u8)).still.lv (lv_cons (still_int _ _).lv lv_nil))) ⟨(.p (.slice none 0 0)), (SlF.nil (dI .u8)), rfl⟩
    · refine Sim.op ((S0.low hu1).len) ?_
      refine Sim.op (castI_p _ _) ?_
      have S65 := S0.nil (dI .u8) []
      refine Sim.as (ext_Bytes_l0_ok ?_ ?_ k x0 (([] : List Int)) x1 ((x1.length : Int)) 0 (.p (.slice none 0 0)) u1 hu1 (List.replicate 61 [] :: h) (S65.wk2 all_nil (all_cons ⟨[], by simp, at_mem 0 rfl⟩ all_nil))) 
      · intro r66_6 v69 H67 S68
        refine Sim.ext (ext_Bytes_a0_1 _ _ _ _ _) ?_
        refine Sim.call (octet_Pad_ok k r66_6 (S68.sl (i := 0) rfl) 4) fun r71 cs72 H73 h74 q75 => ?_
        obtain ⟨c76, cs77, h78, h79, q75⟩ := q75
        cases q75
        obtain ⟨v80, H81, e82, S83⟩ := S68.land (dt := (dI .u8)) (d := 60) (e := 0) (n := 0) h78 h79 (by decide) rfl
        erw [e82]
        obtain ⟨v90, H85, e86, h88, S87⟩ := S83.expFrz (i := 0) (τ := 0 :: 1 :: σ) rfl rfl
        exact Sim.fin (S87.finE (Ex.st e86 (Ex.pl (still_int _ _).lv Ex.nil))) ⟨v90, h88, rfl⟩
      · intro r91_5 H92 S93
        refine Sim.ext (ext_Bytes_a0_ret _ _ _ _ _ _) ?_
        exact Sim.fin (S93.finN (lv_cons (SlF.nil (dI .u8)).still.lv (lv_cons (still_int _ _).lv lv_nil))) ⟨(.p (.slice none 0 0)), (SlF.nil (dI .u8)), rfl⟩
end Go.Ev
namespace Go.Ev
theorem rem4 (n : Nat) : remP (n : Int) 4 = some ((n % 4 : Nat) : Int) := by
  unfold remP
  rw [if_neg (by decide), Int.tmod_eq_emod_of_nonneg (by omega)]
  rfl
theorem pad_l0 {β : Type} (kE0 : List Int → Option β) : ∀ (m : Nat) (j : Nat) (xs : List Int), xs.length + m < 2 ^ 39 → (xs.length + m) % 4 = 0 → m < 4 → p_octet_Pad_l0 (j + m + 1) kE0 4 xs = kE0 (xs ++ List.replicate m 0)
  | 0, j, xs, h, h4, _ => by
    rw [p_octet_Pad_l0, rem4, Option.bind_some]
    have : xs.length % 4 = 0 := by simpa using h4
    rw [this]
    simp
  | m + 1, j, xs, h, h4, hm => by
    rw [show j + (m + 1) + 1 = (j + m + 1) + 1 from rfl, p_octet_Pad_l0, rem4, Option.bind_some]
    have hne : ((((xs.length % 4 : Nat) : Int)) != 0) = true := by
      have : xs.length % 4 ≠ 0 := by omega
      simp; omega
    have hap := ap_eq (b := 1) (xs := xs) (ys := [(0 : Int)]) (by decide) (by simp; omega)
    rw [hne, cond_true, hap, Option.bind_some, pad_l0 kE0 m j (xs ++ [0]) (by rw [List.length_append]; simp only [List.length_cons, List.length_nil]; omega) (by rw [List.length_append]; simp only [List.length_cons, List.length_nil]; omega) (by omega)]
    rw [List.append_assoc]
    congr 1
theorem pad_ok (j : Nat) (xs : List Int) (h : xs.length + 4 < 2 ^ 39) : p_octet_Pad (j + 4) xs 4 = some (xs ++ List.replicate ((4 - xs.length % 4) % 4) 0) := by
  unfold p_octet_Pad
  rw [clone_eq (by decide) (by omega), Option.bind_some]
  simp only [show decide ((4 : Int) < 1) = false from rfl, show decide ((4 : Int) > 64) = false from rfl, cond_false, Option.bind_some]
  have := pad_l0 (fun r => some r) ((4 - xs.length % 4) % 4) (j + 3 - (4 - xs.length % 4) % 4) xs (by omega) (by omega) (by omega)
  rw [show j + 4 = j + 3 - (4 - xs.length % 4) % 4 + (4 - xs.length % 4) % 4 + 1 by omega]
  exact this
end Go.Ev
namespace Go.Ev
def goodE (p : Int) (e : T_api_Elem) : Prop := p_ext_right p e = some true
/-- An element's bytes. -/
def encE (p : Int) (e : T_api_Elem) : List Int :=
  (bif p == 48862 then [(IntKind.wrap .u8 (intBits .or .i64 (IntKind.wrap .i64 (e.ID * 2 ^ 4)) (IntKind.wrap .i64 (((e.Data.length : Int)) - 1))))] else [(IntKind.wrap .u8 e.ID), (IntKind.wrap .u8 ((e.Data.length : Int)))]) ++ e.Data
theorem encE_len (p : Int) (e : T_api_Elem) : (encE p e).length ≤ 2 + e.Data.length := by
  unfold encE
  cases (p == 48862) <;> simp <;> omega
theorem bytes_l0 {β : Type} (kE0 : List Int → Option β) (kE1 : Int → Option β) (p : Int) (l : List T_api_Elem) (hl : l.length < 2 ^ 30) : ∀ (rest pre : List T_api_Elem) (j : Nat) (out : List Int), l = pre ++ rest → (∀ e ∈ rest, goodE p e ∧ e.Data.length ≤ 255) → out.length + 300 * rest.length < 2 ^ 39 →
    p_ext_Bytes_l0 (j + rest.length + 1) kE0 kE1 p out l (l.length : Int) (pre.length : Int) = kE0 (out ++ rest.flatMap (encE p))
  | [], pre, j, out, h, _, _ => by
    rw [p_ext_Bytes_l0]
    have : decide ((pre.length : Int) < (l.length : Int)) = false := by subst h; simp
    rw [this]; simp
  | e :: rest, pre, j, out, h, hg, ho => by
    obtain ⟨g1, g2⟩ := hg e (List.mem_cons_self ..)
    rw [List.length_cons] at ho
    rw [List.length_cons, show j + (rest.length + 1) + 1 = (j + rest.length + 1) + 1 from rfl, p_ext_Bytes_l0]
    have h1 : decide ((pre.length : Int) < (l.length : Int)) = true := by subst h; simp; omega
    have h2 : ix l (pre.length : Int) = some e := ix_mid' h rfl
    have h3 : p_ext_right p (⟨e.ID, e.Data⟩ : T_api_Elem) = some true := g1
    have h4 : IntKind.wrap .i64 ((pre.length : Int) + 1) = (((pre ++ [e]).length : Nat) : Int) := by
      rw [wrap_i64 (by omega) (by have : pre.length ≤ l.length := by subst h; simp
                                  omega)]
      simp
    have ih := bytes_l0 kE0 kE1 p l hl rest (pre ++ [e]) j
    rw [h1, cond_true, h2, Option.bind_some, h3, Option.bind_some]
    simp only [Bool.not_true, cond_false]
    rw [h4]
    have hh : l = (pre ++ [e]) ++ rest := by rw [h]; simp
    cases hp : (p == 48862) with
    | true =>
      rw [cond_true, ap_eq (by decide) (by simp; omega), Option.bind_some, ap_eq (by decide) (by rw [List.length_append]; simp only [List.length_cons, List.length_nil]; omega), Option.bind_some]
      rw [ih _ hh (fun x hx => hg x (List.mem_cons_of_mem _ hx)) (by simp only [List.length_append, List.length_cons, List.length_nil]; omega)]
      congr 1
      rw [List.flatMap_cons, encE, hp, cond_true]
      simp
    | false =>
      rw [cond_false, ap_eq (by decide) (by simp; omega), Option.bind_some, ap_eq (by decide) (by rw [List.length_append]; simp only [List.length_cons, List.length_nil]; omega), Option.bind_some]
      rw [ih _ hh (fun x hx => hg x (List.mem_cons_of_mem _ hx)) (by simp only [List.length_append, List.length_cons, List.length_nil]; omega)]
      congr 1
      rw [List.flatMap_cons, encE, hp, cond_false]
      simp
theorem flat_enc_len (p : Int) : ∀ (l : List T_api_Elem), (∀ e ∈ l, e.Data.length ≤ 255) → (l.flatMap (encE p)).length ≤ 257 * l.length
  | [], _ => by simp
  | e :: l, h => by
    rw [List.flatMap_cons, List.length_append, List.length_cons]
    have := flat_enc_len p l fun x hx => h x (List.mem_cons_of_mem _ hx)
    have := encE_len p e
    have := h e (List.mem_cons_self ..)
    omega
def padB (xs : List Int) : List Int := xs ++ List.replicate ((4 - xs.length % 4) % 4) 0
theorem bytes_ok {p : Int} (hp : p = 48862 ∨ p = 4096) {l : List T_api_Elem} (hl : l.length ≤ 8) (hg : ∀ e ∈ l, goodE p e ∧ e.Data.length ≤ 255) (j : Nat) : p_ext_Bytes (j + 9) p l = some (padB (l.flatMap (encE p)), 0) := by
  have h1 : (bif p != 48862 then (some (p != 4096)) else (some false)) = some false := by rcases hp with rfl | rfl <;> rfl
  have h2 : decide ((l.length : Int) > 8) = false := by simp; omega
  have h3 := flat_enc_len p l fun e he => (hg e he).2
  unfold p_ext_Bytes
  rw [h1, Option.bind_some, cond_false, h2, cond_false]
  have := bytes_l0 (fun r66_6 => (p_octet_Pad (j + 9) r66_6 4).bind fun r71 => some (r71, (0 : Int))) (fun r91_5 => some ((([] : List Int)), r91_5)) p l (by omega) l [] (j + 8 - l.length) [] rfl hg (by simp; omega)
  rw [show j + 8 - l.length + l.length + 1 = j + 9 by omega] at this
  refine this.trans ?_
  rw [List.nil_append, show j + 9 = (j + 5) + 4 from rfl, pad_ok _ _ (by omega)]
  rfl
end Go.Ev
namespace Go.Ev
/-- One round: an element. -/
theorem read_two {β : Type} (kE0 : List T_api_Elem → Option β) (kE1 : Int → Option β) (k : Nat) {pre suf : List Int} {e : T_api_Elem} {out : List T_api_Elem} {xs : List Int} (hx : xs = pre ++ (e.ID :: (e.Data.length : Int) :: e.Data) ++ suf) (h1 : 1 ≤ e.ID ∧ e.ID ≤ 255) (h2 : e.Data.length ≤ 255) (hl : xs.length < 2 ^ 39) (ho : out.length < 100) :
    p_ext_Read_l0 (k + 1) kE0 kE1 4096 xs out (pre.length : Int) = p_ext_Read_l0 k kE0 kE1 4096 xs (out ++ [e]) ((pre.length + (2 + e.Data.length) : Nat) : Int) := by
  have g0 : xs[pre.length]? = some e.ID := by subst hx; simp
  have g1 : xs[pre.length + 1]? = some (e.Data.length : Int) := by subst hx; simp
  have hlen : pre.length + 2 + e.Data.length ≤ xs.length := by subst hx; simp; omega
  have g2 : (xs.drop (pre.length + 2)).take e.Data.length = e.Data := by
    subst hx
    rw [List.append_assoc, ← List.drop_drop, List.drop_left]
    simp
  rw [p_ext_Read_l0]
  have d1 : decide ((pre.length : Int) < (xs.length : Int)) = true := by simp; omega
  have d2 : (e.ID == 0) = false := by simp; omega
  rw [d1, cond_true, ix_at g0, Option.bind_some, d2, cond_false, next_two g0 g1 (by omega) (by omega) hl, Option.bind_some]
  simp only [Bool.not_true, cond_false]
  rw [cut_ok (by omega) hl, Option.bind_some]
  simp only [Bool.not_true, cond_false]
  rw [g2, ap_eq (by decide) (by simp; omega), Option.bind_some]
  congr 1
  rw [wrap_i64 (by omega) (by omega)]
  omega
theorem read_one {β : Type} (kE0 : List T_api_Elem → Option β) (kE1 : Int → Option β) (k : Nat) {pre suf : List Int} {e : T_api_Elem} {out : List T_api_Elem} {xs : List Int} (hx : xs = pre ++ ((e.ID * 16 + ((e.Data.length : Int) - 1)) :: e.Data) ++ suf) (h1 : 1 ≤ e.ID ∧ e.ID ≤ 14) (h2 : 1 ≤ e.Data.length ∧ e.Data.length ≤ 16) (hl : xs.length < 2 ^ 39) (ho : out.length < 100) :
    p_ext_Read_l0 (k + 1) kE0 kE1 48862 xs out (pre.length : Int) = p_ext_Read_l0 k kE0 kE1 48862 xs (out ++ [e]) ((pre.length + (1 + e.Data.length) : Nat) : Int) := by
  obtain ⟨a, ha⟩ : ∃ a : Fin 15, (a.1 : Int) = e.ID := ⟨⟨e.ID.toNat, by omega⟩, by simp; omega⟩
  obtain ⟨b, hb⟩ : ∃ b : Fin 16, b.1 + 1 = e.Data.length := ⟨⟨e.Data.length - 1, by omega⟩, by simp; omega⟩
  have g0 : xs[pre.length]? = some ((a.1 : Int) * 16 + b.1) := by
    have : e.ID * 16 + ((e.Data.length : Int) - 1) = (a.1 : Int) * 16 + b.1 := by omega
    rw [this] at hx; subst hx; simp
  have hlen : pre.length + 1 + e.Data.length ≤ xs.length := by subst hx; simp; omega
  have g2 : (xs.drop (pre.length + 1)).take e.Data.length = e.Data := by
    subst hx
    rw [List.append_assoc, ← List.drop_drop, List.drop_left]
    simp
  rw [p_ext_Read_l0]
  have d1 : decide ((pre.length : Int) < (xs.length : Int)) = true := by simp; omega
  have d2 : ((a.1 : Int) * 16 + (b.1 : Int) == 0) = false := by simp; omega
  rw [d1, cond_true, ix_at g0, Option.bind_some, d2, cond_false, next_one g0 (by omega) (by omega), Option.bind_some]
  simp only [Bool.not_true, cond_false]
  rw [hb, cut_ok (by omega) hl, Option.bind_some]
  simp only [Bool.not_true, cond_false]
  rw [g2, ha, ap_eq (by decide) (by simp; omega), Option.bind_some]
  congr 1
  rw [wrap_i64 (by omega) (by omega)]
  omega
theorem read_zeros {β : Type} (kE0 : List T_api_Elem → Option β) (kE1 : Int → Option β) (p : Int) (k : Nat) (out : List T_api_Elem) (xs : List Int) (hl : xs.length < 2 ^ 39) : ∀ (z : Nat) (pre : List Int), xs = pre ++ List.replicate z 0 → p_ext_Read_l0 (k + z + 1) kE0 kE1 p xs out (pre.length : Int) = kE0 out
  | 0, pre, h => by
    rw [p_ext_Read_l0]
    have : decide ((pre.length : Int) < (xs.length : Int)) = false := by subst h; simp
    rw [this, cond_false]
  | z + 1, pre, h => by
    rw [show k + (z + 1) + 1 = (k + z + 1) + 1 from rfl, p_ext_Read_l0]
    have g0 : xs[pre.length]? = some 0 := by subst h; simp
    have hlen : pre.length < xs.length := (List.getElem?_eq_some_iff.1 g0).1
    have d1 : decide ((pre.length : Int) < (xs.length : Int)) = true := by simp; omega
    have e1 : IntKind.wrap .i64 ((pre.length : Int) + 1) = (((pre ++ [0]).length : Nat) : Int) := by rw [wrap_i64 (by omega) (by omega)]; simp
    rw [d1, cond_true, ix_at g0, Option.bind_some, show ((0 : Int) == 0) = true from rfl, cond_true, e1]
    exact read_zeros kE0 kE1 p k out xs hl z (pre ++ [0]) (by rw [h, List.replicate_succ]; simp)
def enc2 (e : T_api_Elem) : List Int := e.ID :: (e.Data.length : Int) :: e.Data
theorem read_all2 {β : Type} (kE0 : List T_api_Elem → Option β) (kE1 : Int → Option β) (k z : Nat) (xs : List Int) (hl : xs.length < 2 ^ 39) : ∀ (rest : List T_api_Elem) (pre : List Int) (out : List T_api_Elem), xs = pre ++ rest.flatMap enc2 ++ List.replicate z 0 → (∀ e ∈ rest, (1 ≤ e.ID ∧ e.ID ≤ 255) ∧ e.Data.length ≤ 255) → out.length + rest.length < 100 →
    p_ext_Read_l0 (k + z + rest.length + 1) kE0 kE1 4096 xs out (pre.length : Int) = kE0 (out ++ rest)
  | [], pre, out, h, _, _ => by
    rw [List.append_nil]
    exact read_zeros kE0 kE1 4096 k out xs hl z pre (by simpa using h)
  | e :: rest, pre, out, h, hg, ho => by
    obtain ⟨g1, g2⟩ := hg e (List.mem_cons_self ..)
    rw [List.length_cons] at ho
    rw [List.length_cons, show k + z + (rest.length + 1) + 1 = (k + z + rest.length + 1) + 1 from rfl]
    rw [read_two kE0 kE1 (k + z + rest.length + 1) (suf := rest.flatMap enc2 ++ List.replicate z 0) (e := e) (by rw [h, List.flatMap_cons, enc2]; simp) g1 g2 hl (by omega)]
    have := read_all2 kE0 kE1 k z xs hl rest (pre ++ enc2 e) (out ++ [e]) (by rw [h, List.flatMap_cons]; simp) (fun x hx => hg x (List.mem_cons_of_mem _ hx)) (by rw [List.length_append]; simp only [List.length_cons, List.length_nil]; omega)
    rw [show (pre ++ enc2 e).length = pre.length + (2 + e.Data.length) from by rw [List.length_append, enc2]; simp; omega] at this
    rw [this, List.append_assoc]; rfl
def enc1 (e : T_api_Elem) : List Int := (e.ID * 16 + ((e.Data.length : Int) - 1)) :: e.Data
theorem read_all1 {β : Type} (kE0 : List T_api_Elem → Option β) (kE1 : Int → Option β) (k z : Nat) (xs : List Int) (hl : xs.length < 2 ^ 39) : ∀ (rest : List T_api_Elem) (pre : List Int) (out : List T_api_Elem), xs = pre ++ rest.flatMap enc1 ++ List.replicate z 0 → (∀ e ∈ rest, (1 ≤ e.ID ∧ e.ID ≤ 14) ∧ 1 ≤ e.Data.length ∧ e.Data.length ≤ 16) → out.length + rest.length < 100 →
    p_ext_Read_l0 (k + z + rest.length + 1) kE0 kE1 48862 xs out (pre.length : Int) = kE0 (out ++ rest)
  | [], pre, out, h, _, _ => by
    rw [List.append_nil]
    exact read_zeros kE0 kE1 48862 k out xs hl z pre (by simpa using h)
  | e :: rest, pre, out, h, hg, ho => by
    obtain ⟨g1, g2⟩ := hg e (List.mem_cons_self ..)
    rw [List.length_cons] at ho
    rw [List.length_cons, show k + z + (rest.length + 1) + 1 = (k + z + rest.length + 1) + 1 from rfl]
    rw [read_one kE0 kE1 (k + z + rest.length + 1) (suf := rest.flatMap enc1 ++ List.replicate z 0) (e := e) (by rw [h, List.flatMap_cons, enc1]; simp) g1 g2 hl (by omega)]
    have := read_all1 kE0 kE1 k z xs hl rest (pre ++ enc1 e) (out ++ [e]) (by rw [h, List.flatMap_cons]; simp) (fun x hx => hg x (List.mem_cons_of_mem _ hx)) (by rw [List.length_append]; simp only [List.length_cons, List.length_nil]; omega)
    rw [show (pre ++ enc1 e).length = pre.length + (1 + e.Data.length) from by rw [List.length_append, enc1]; simp; omega] at this
    rw [this, List.append_assoc]; rfl
end Go.Ev
/- Equations, printed by tracer2.py. -/
namespace Go.Ev
open Go.Proofs
set_option linter.unusedVariables false
set_option maxRecDepth 100000
-- 26 limelight/ext.Rid
theorem ext_Rid_entry (rec : CallF) (loop : LoopV) (σ : Stamp) (x0 : V) (h : H) : cvBody G rec loop 26 σ [x0] h =
 (boxO false (0 :: 0 :: 0 :: σ) 1 (List.replicate 33 [] :: h) x0).bind fun q1 =>
 (fA q1.1 6).bind fun t2 =>
 (ldO false 1 q1.2 t2).bind fun t3 =>
 (castI .u16 t3).bind fun n4 =>
 (fA q1.1 7).bind fun t5 =>
 (ldO false 1 q1.2 t5).bind fun t6 =>
 (callO rec 23 (4 :: 0 :: 1 :: 0 :: σ) [(.p (.int .u16 n4)), t6] q1.2 (some 13)).bind fun q7 =>
 (extV q7.1 0).bind fun t8 =>
 (extV q7.1 1).bind fun t9 =>
 (castI .i64 t9).bind fun n10 =>
 bif n10 != 0 then (
 fin false σ q7.2 [(.p (.string ((⟨#[]⟩ : ByteArray)))), (.p (.bool false))])
 else (
 (callO rec 25 (1 :: 0 :: 1 :: 1 :: 1 :: 0 :: σ) [t8, (.p (.int .i64 1))] q7.2 (some 20)).bind fun q11 =>
 (extV q11.1 0).bind fun t12 =>
 (extV q11.1 1).bind fun t13 =>
 (asB t13).bind fun b14 =>
 (bif !b14 then (some ((.p (.bool true)), q11.2)) else ((strO q11.2 t12).bind fun t15 =>
 (castS t15).bind fun s16 =>
 (callO rec 64 (5 :: 0 :: 0 :: 1 :: 1 :: 1 :: 1 :: 0 :: σ) [(.p (.string s16))] q11.2 (some 28)).bind fun q17 =>
 (asB q17.1).bind fun b18 =>
 some ((.p (.bool (!b18))), q17.2))).bind fun q19 =>
 (asB q19.1).bind fun b20 =>
 bif b20 then (
 fin false σ q19.2 [(.p (.string ((⟨#[]⟩ : ByteArray)))), (.p (.bool false))])
 else (
 (strO q19.2 t12).bind fun t21 =>
 (castS t21).bind fun s22 =>
 fin false σ q19.2 [(.p (.string s22)), (.p (.bool true))])) := by kernel_rfl
end Go.Ev
/- Equations, printed by tracer2.py. -/
namespace Go.Ev
open Go.Proofs
set_option linter.unusedVariables false
set_option maxRecDepth 100000
-- 25 limelight/ext.Find
theorem ext_Find_entry (rec : CallF) (loop : LoopV) (σ : Stamp) (x0 : V) (x1 : Int) (h : H) : cvBody G rec loop 25 σ [x0, (.p (.int .i64 x1))] h =
 (boxO true (0 :: 0 :: 0 :: σ) 3 (List.replicate 18 [] :: h) (.p (.int .i64 x1))).bind fun q1 =>
 (callO rec 61 (2 :: 0 :: 1 :: 0 :: σ) [x0, (.clo 62 [q1.1])] q1.2 (some 9)).bind fun q2 =>
 (castI .i64 q2.1).bind fun n3 =>
 bif decide (n3 < 0) then (
 fin true σ q2.2 [(.p (.slice .none 0 0)), (.p (.bool false))])
 else (
 (iS 2 x0 n3).bind fun t4 =>
 (fA t4 1).bind fun t5 =>
 (ldO false 1 q2.2 t5).bind fun t6 =>
 (callO rec 63 (5 :: 0 :: 1 :: 1 :: 1 :: 0 :: σ) [t6] q2.2 (some 17)).bind fun q7 =>
 fin true σ q7.2 [q7.1, (.p (.bool true))]) := by kernel_rfl
end Go.Ev
/- Equations, printed by tracer2.py. -/
namespace Go.Ev
open Go.Proofs
set_option linter.unusedVariables false
set_option maxRecDepth 100000
-- 61 slices.IndexFunc[[]limelight/api.Elem,limelight/api.Elem]
noncomputable def slices_IndexFunc_Lapi_Elem_api_Elem_c0 : Code := (codeAt (bodyOf Try.f61) [1, 0, 1, 0, 0])
def slices_IndexFunc_Lapi_Elem_api_Elem_l0 : Lv := ⟨0, 16, [(0, 0)]⟩
noncomputable def slices_IndexFunc_Lapi_Elem_api_Elem_k0 (rec : CallF) (loop : LoopV) (σ : Stamp) : Exit → Env → H → Option (List C × H) := (kBlock 0 (kSeq G rec loop (codeAt (bodyOf Try.f61) [1, 1]) ⟨16, 16, []⟩ (1 :: 0 :: σ) (finC G false Try.f61 (1 :: σ))))
theorem slices_IndexFunc_Lapi_Elem_api_Elem_entry (rec : CallF) (loop : LoopV) (σ : Stamp) (x0 : V) (x1 : V) (h : H) : cvBody G rec loop 61 σ [x0, x1] h =
 (lenO x0).bind fun t1 =>
 (castI .i64 t1).bind fun n2 =>
 (loop slices_IndexFunc_Lapi_Elem_api_Elem_c0 slices_IndexFunc_Lapi_Elem_api_Elem_l0 (1 :: 0 :: 1 :: 0 :: σ) (envL [(0, x0), (1, x1), (7, (.p (.int .i64 n2))), (8, (.p (.int .i64 0)))]) (List.replicate 19 [] :: h)).bind fun r3 => slices_IndexFunc_Lapi_Elem_api_Elem_k0 rec loop σ r3.1 r3.2.1 r3.2.2 := by kernel_rfl
theorem slices_IndexFunc_Lapi_Elem_api_Elem_r0 (rec : CallF) (loop : LoopV) (σ : Stamp) (x0 : V) (x1 : V) (x7 : Int) (x8 : Int) (h : H) : cvRound G rec loop slices_IndexFunc_Lapi_Elem_api_Elem_c0 slices_IndexFunc_Lapi_Elem_api_Elem_l0 σ (envL [(0, x0), (1, x1), (7, (.p (.int .i64 x7))), (8, (.p (.int .i64 x8)))]) h =
 bif decide (x8 < x7) then (
 (iS 2 x0 x8).bind fun t4 =>
 (ldO true 2 h t4).bind fun t5 =>
 (cloO rec x1 (5 :: 0 :: 1 :: 0 :: 1 :: 1 :: 0 :: σ) [t5] h (some 16)).bind fun q6 =>
 (asB q6.1).bind fun b7 =>
 bif b7 then (
 some (.ret, (envL [(4, (.p (.int .i64 x8)))]), q6.2))
 else (
 loop slices_IndexFunc_Lapi_Elem_api_Elem_c0 slices_IndexFunc_Lapi_Elem_api_Elem_l0 (1 :: σ) (envL [(0, x0), (1, x1), (7, (.p (.int .i64 x7))), (8, (.p (.int .i64 (IntKind.wrap .i64 (x8 + 1)))))]) q6.2))
 else (
 some ((.exit 0), (envL []), h)) := by kernel_rfl
theorem slices_IndexFunc_Lapi_Elem_api_Elem_a0_0 (rec : CallF) (loop : LoopV) (σ : Stamp)  (h : H) : slices_IndexFunc_Lapi_Elem_api_Elem_k0 rec loop σ (.exit 0) (envL []) h =
 fin false σ h [(.p (.int .i64 (-1)))] := by kernel_rfl
theorem slices_IndexFunc_Lapi_Elem_api_Elem_a0_ret (rec : CallF) (loop : LoopV) (σ : Stamp) (x4 : Int) (h : H) : slices_IndexFunc_Lapi_Elem_api_Elem_k0 rec loop σ .ret (envL [(4, (.p (.int .i64 x4)))]) h =
 fin false σ h [(.p (.int .i64 x4))] := by kernel_rfl
end Go.Ev
/- Equations, printed by tracer2.py. -/
namespace Go.Ev
open Go.Proofs
set_option linter.unusedVariables false
set_option maxRecDepth 100000
-- 62 limelight/ext.Find$1
theorem ext_Find_1_entry (rec : CallF) (loop : LoopV) (σ : Stamp) (x0 : V) (x1 : V) (h : H) : cvBody G rec loop 62 σ [x0, x1] h =
 (boxO false (0 :: 0 :: 0 :: σ) 2 (List.replicate 8 [] :: h) x0).bind fun q1 =>
 (fA q1.1 0).bind fun t2 =>
 (ldO false 1 q1.2 t2).bind fun t3 =>
 (castI .i64 t3).bind fun n4 =>
 (ldO false 1 q1.2 x1).bind fun t5 =>
 (castI .i64 t5).bind fun n6 =>
 fin false σ q1.2 [(.p (.bool (n4 == n6)))] := by kernel_rfl
end Go.Ev
/- Lifted by lift.py: ext_Find_1 as a plain function. -/
namespace Go.Ev
open Go.Proofs
set_option linter.unusedVariables false
set_option linter.unusedSimpArgs false
set_option maxRecDepth 100000
def p_ext_Find_1 (x0 : T_api_Elem) (x1 : Int) : Option (Bool) :=
some ((x0.ID == x1))
theorem ext_Find_1_ok {h : H} {σ : Stamp} (x0 : T_api_Elem) {u0 : List V} (hu0 : dT_api_Elem.R x0 u0) (x1 : Int)  {l1 : Loc} {o1 : Nat} (ha1 : AtC h l1 o1 (List.map C.v [(.p (.int .i64 x1))])) : Sim (p_ext_Find_1 x0 x1) (ev G X0 62 σ [(.agg u0), (.ref l1 o1)] h) (fun r s => s = ([.v (.p (.bool r))], h)) := by
  refine Sim.ev rfl (Sim.ext (ext_Find_1_entry _ _ _ _ _ _) ?_)
  rw [p_ext_Find_1]
  obtain ⟨v1, rfl, h2⟩ := dT_api_Elem.inv hu0
  have S0 : Fm 8 h [] [] [] (List.replicate 8 [] :: h) := Fm.start0
  obtain ⟨H3, e4, S5⟩ := S0.box (own := false) (d := 2) (s := (0 :: 0 :: 0 :: σ)) (xs := [(.p (.int .i64 x0.ID)), v1]) (stills_cons (still_int _ _) (stills_cons h2.still stills_nil)) (by decide) rfl
  refine Sim.op (e4) ?_
  refine Sim.op (fA_ref _ _ _) ?_
  refine Sim.op ((S5.atG (i := 0) rfl).ld (j := 0) rfl) ?_
  refine Sim.op (castI_p _ _) ?_
  refine Sim.op ((S5.lowA ha1).ld (j := 0) rfl) ?_
  refine Sim.op (castI_p _ _) ?_
  exact Sim.fin (S5.finN (lv_cons (still_bool _).lv lv_nil)) rfl
end Go.Ev
/- Lifted by lift.py: slices_IndexFunc_Lapi_Elem_api_Elem as a plain function. -/
namespace Go.Ev
open Go.Proofs
set_option linter.unusedVariables false
set_option linter.unusedSimpArgs false
set_option maxRecDepth 100000
def p_slices_IndexFunc_Lapi_Elem_api_Elem_ext_Find_1_l0 {β : Type} (k : Nat) (kE0 : Unit → Option β) (kE1 : Int → Option β) (x0 : (List T_api_Elem)) (x1c0 : Int) (x7 : Int) (x8 : Int) : Option β := match k with
| 0 => none
| k + 1 =>
bif decide (x8 < x7) then (
(ix x0 x8).bind fun a9 =>
(p_ext_Find_1 a9 x1c0).bind fun r16 =>
bif r16 then (
kE1 x8)
else (
p_slices_IndexFunc_Lapi_Elem_api_Elem_ext_Find_1_l0 k kE0 kE1 x0 x1c0 x7 (IntKind.wrap .i64 (x8 + 1))))
else (
kE0 ())
def p_slices_IndexFunc_Lapi_Elem_api_Elem_ext_Find_1 (k : Nat) (x0 : (List T_api_Elem)) (x1c0 : Int) : Option (Int) :=
p_slices_IndexFunc_Lapi_Elem_api_Elem_ext_Find_1_l0 k (fun (_ : Unit) =>
some ((-1))) (fun r28_4 =>
some (r28_4)) x0 x1c0 ((x0.length : Int)) 0
theorem slices_IndexFunc_Lapi_Elem_api_Elem_ext_Find_1_l0_ok {h : H}  {β α : Type} {Q : β → α → Prop} {K : Exit × Env × H → Option α} {kE0 : Unit → Option β} {kE1 : Int → Option β} (hE0 : ∀ (_u : Unit) (H21 : Go.Ev.H) (_ : Fm 19 h [] [] [] H21), Sim (kE0 ()) (K ((.exit 0), (envL []), H21)) Q) (hE1 : ∀ (q4 : Int) (H23 : Go.Ev.H) (_ : Fm 19 h [] [] [] H23), Sim (kE1 q4) (K (.ret, (envL [(4, (.p (.int .i64 q4)))]), H23)) Q) (k : Nat) : ∀ (x0 : (List T_api_Elem)) (x1c0 : Int) (x7 : Int) (x8 : Int) (v3 : V) (h4 : SlH h dT_api_Elem x0 v3) (lr5 : Loc) (or6 : Nat) (har7 : AtC h lr5 or6 (List.map C.v [(.p (.int .i64 x1c0))])) (H1 : Go.Ev.H) (_ : Fm 19 h [] [] [] H1) {σ : Stamp}, Sim (p_slices_IndexFunc_Lapi_Elem_api_Elem_ext_Find_1_l0 k kE0 kE1 x0 x1c0 x7 x8) ((cvL G X0 slices_IndexFunc_Lapi_Elem_api_Elem_c0 slices_IndexFunc_Lapi_Elem_api_Elem_l0 σ (envL [(0, v3), (1, (.clo 62 [(.ref lr5 or6)])), (7, (.p (.int .i64 x7))), (8, (.p (.int .i64 x8)))]) H1).bind K) Q := by
  induction k with
  | zero => intros; exact Sim.no
  | succ k ih =>
    intro x0 x1c0 x7 x8 v3 h4 lr5 or6 har7 H1 S2 σ
    rw [p_slices_IndexFunc_Lapi_Elem_api_Elem_ext_Find_1_l0]
    refine Sim.round (Sim.ext (slices_IndexFunc_Lapi_Elem_api_Elem_r0 _ _ _ _ _ _ _ _) ?_)
    refine Sim.cd (fun hc => ?_) (fun hc => ?_)
    · refine Sim.bd fun a9 h10 => ?_
      refine Sim.op ((S2.low h4).iS h10 rfl) ?_
      obtain ⟨w12, h13, hE11⟩ := (S2.low h4).el h10 rfl
      obtain ⟨v14, rfl, h15⟩ := dT_api_Elem.inv h13
      refine Sim.op (hE11.all (by simp)) ?_
      refine Sim.clo ?_
      refine Sim.call (ext_Find_1_ok a9 (show dT_api_Elem.R a9 [.p (.int .i64 a9.ID), v14] from (dT_api_Elem.mk h15)) x1c0 (S2.lowA har7)) fun r16 cs17 H18 h19 q20 => ?_
      cases q20
      refine Sim.op (asB_p _) ?_
      refine Sim.cd (fun hc => ?_) (fun hc => ?_)
      · exact hE1 x8 H1 (S2.wk2 all_nil all_nil)
      · exact ih x0 x1c0 x7 (IntKind.wrap .i64 (x8 + 1)) v3 h4 lr5 or6 har7 H1 (S2.wk2 all_nil all_nil)
    · exact hE0 () H1 (S2.wk2 all_nil all_nil)
theorem slices_IndexFunc_Lapi_Elem_api_Elem_ext_Find_1_ok (k : Nat) {h : H} {σ : Stamp} (x0 : List T_api_Elem) {u0 : V} (hu0 : SlH h dT_api_Elem x0 u0) (x1c0 : Int)  {l1c0 : Loc} {o1c0 : Nat} (ha1c0 : AtC h l1c0 o1c0 (List.map C.v [(.p (.int .i64 x1c0))])) : Sim (p_slices_IndexFunc_Lapi_Elem_api_Elem_ext_Find_1 k x0 x1c0) (ev G X0 61 σ [u0, (.clo 62 [(.ref l1c0 o1c0)])] h) (fun r s => s = ([.v (.p (.int .i64 r))], h)) := by
  refine Sim.ev rfl (Sim.ext (slices_IndexFunc_Lapi_Elem_api_Elem_entry _ _ _ _ _ _) ?_)
  rw [p_slices_IndexFunc_Lapi_Elem_api_Elem_ext_Find_1]
  have S0 : Fm 19 h [] [] [] (List.replicate 19 [] :: h) := Fm.start0
  refine Sim.op ((S0.low hu0).len) ?_
  refine Sim.op (castI_p _ _) ?_
  refine Sim.as (slices_IndexFunc_Lapi_Elem_api_Elem_ext_Find_1_l0_ok ?_ ?_ k x0 x1c0 ((x0.length : Int)) 0 u0 hu0 l1c0 o1c0 ha1c0 (List.replicate 19 [] :: h) (S0.wk2 all_nil all_nil)) 
  · intro _u H26 S27
    refine Sim.ext (slices_IndexFunc_Lapi_Elem_api_Elem_a0_0 _ _ _ _) ?_
    exact Sim.fin (S27.finN (lv_cons (still_int _ _).lv lv_nil)) rfl
  · intro r28_4 H29 S30
    refine Sim.ext (slices_IndexFunc_Lapi_Elem_api_Elem_a0_ret _ _ _ _ _) ?_
    exact Sim.fin (S30.finN (lv_cons (still_int _ _).lv lv_nil)) rfl
end Go.Ev
/- Lifted by lift.py: ext_Find as a plain function. -/
namespace Go.Ev
open Go.Proofs
set_option linter.unusedVariables false
set_option linter.unusedSimpArgs false
set_option maxRecDepth 100000
def p_ext_Find (k : Nat) (x0 : (List T_api_Elem)) (x1 : Int) : Option ((List Int) × Bool) :=
(p_slices_IndexFunc_Lapi_Elem_api_Elem_ext_Find_1 k x0 x1).bind fun r5 =>
bif decide (r5 < 0) then (
some ((([] : List Int)), false))
else (
(ix x0 r5).bind fun a10 =>
(p_clone 1 a10.Data).bind fun r22 =>
some (r22, true))
theorem ext_Find_ok (k : Nat) {h : H} {σ : Stamp} (x0 : List T_api_Elem) {u0 : V} (hu0 : SlH h dT_api_Elem x0 u0) (x1 : Int) : Sim (p_ext_Find k x0 x1) (ev G X0 25 σ [u0, (.p (.int .i64 x1))] h) (fun r s => ∃ (v0 : V), SlF (dI .u8) r.1 v0 ∧ s = ([.v v0, .v (.p (.bool r.2))], h)) := by
  refine Sim.ev rfl (Sim.ext (ext_Find_entry _ _ _ _ _ _) ?_)
  rw [p_ext_Find]
  have S0 : Fm 18 h [] [] [] (List.replicate 18 [] :: h) := Fm.start0
  obtain ⟨H1, e2, S3⟩ := S0.box1 (own := true) (d := 3) (s := (0 :: 0 :: 0 :: σ)) (x := (.p (.int .i64 x1))) (still_int _ _) (by decide) rfl
  refine Sim.op (e2) ?_
  refine Sim.call (slices_IndexFunc_Lapi_Elem_api_Elem_ext_Find_1_ok k x0 (S3.low hu0) x1 (S3.atG (i := 0) rfl)) fun r5 cs6 H7 h8 q9 => ?_
  cases q9
  refine Sim.op (castI_p _ _) ?_
  refine Sim.cd (fun hc => ?_) (fun hc => ?_)
  · exact Sim.fin (S3.finN (lv_cons (SlF.nil (dI .u8)).still.lv (lv_cons (still_bool _).lv lv_nil))) ⟨(.p (.slice none 0 0)), (SlF.nil (dI .u8)), rfl⟩
  · refine Sim.bd fun a10 h11 => ?_
    refine Sim.op ((S3.low hu0).iS h11 rfl) ?_
    obtain ⟨w13, h14, hE12⟩ := (S3.low hu0).el h11 rfl
    obtain ⟨v15, rfl, h16⟩ := dT_api_Elem.inv h14
    refine Sim.op (hE12.fa (j := 1) (by simp)) ?_
    obtain ⟨w18, h19, hE17⟩ := (S3.low hu0).el h11 rfl
    obtain ⟨v20, rfl, h21⟩ := dT_api_Elem.inv h19
    refine Sim.op (hE17.ld (j := 1) rfl) ?_
    refine Sim.call (clone_ok (b := 1) (f := 63) (tt := 5) (e := 1) (τ := fun σ => _ :: _ :: _ :: _ :: _ :: σ) (fun x h => slices_Clone_Lbyte_byte_entry _ _ _ x h) (h21.h H1) rfl (by decide) (by decide) (by decide) (by kernel_rfl) (by kernel_rfl) rfl) fun r22 cs23 H24 h25 q26 => ?_
    obtain ⟨c27, cs28, h29, h30, q26⟩ := q26
    cases q26
    obtain ⟨v31, H32, e33, S34⟩ := S3.land (dt := (dI .u8)) (d := 17) (e := 0) (n := 0) h29 h30 (by decide) rfl
    erw [e33]
    obtain ⟨v41, H36, e37, h39, S38⟩ := S34.expFrz (i := 0) (τ := 0 :: 1 :: σ) rfl rfl
    exact Sim.fin (S38.finE (Ex.st e37 (Ex.pl (still_bool _).lv Ex.nil))) ⟨v41, h39, rfl⟩
end Go.Ev
/- Told from outside: rid_Right. -/
namespace Go.Ev
open Go.Proofs
def p_rid_Right (x0 : ByteArray) : Option Bool := some (RidX.rightB x0)
theorem rid_Right_ok {h : H} {σ : Stamp} (x0 : ByteArray) : Sim (p_rid_Right x0) (ev G X0 64 σ [(.p (.string x0))] h) (fun r s => s = ([.v (.p (.bool r))], h)) := Sim.told (ev_ext rfl)
end Go.Ev
/- Lifted by lift.py: ext_Rid as a plain function. -/
namespace Go.Ev
open Go.Proofs
set_option linter.unusedVariables false
set_option linter.unusedSimpArgs false
set_option maxRecDepth 100000
def p_ext_Rid (k : Nat) (x0 : T_api_Rtp) : Option (ByteArray × Bool) :=
(p_ext_Read k x0.Profile x0.Ext).bind fun r11 =>
bif r11.2 != 0 then (
some (((⟨#[]⟩ : ByteArray)), false))
else (
(p_ext_Find k r11.1 1).bind fun r18 =>
(bif !r18.2 then (some true) else ((p_rid_Right (strB r18.1)).bind fun r25 =>
some (!r25))).bind fun b30 =>
bif b30 then (
some (((⟨#[]⟩ : ByteArray)), false))
else (
some ((strB r18.1), true)))
theorem ext_Rid_ok (k : Nat) {h : H} {σ : Stamp} (x0 : T_api_Rtp) {u0 : List V} (hu0 : dT_api_Rtp.R x0 u0) : Sim (p_ext_Rid k x0) (ev G X0 26 σ [(.agg u0)] h) (fun r s => s = ([.v (.p (.string r.1)), .v (.p (.bool r.2))], h)) := by
  refine Sim.ev rfl (Sim.ext (ext_Rid_entry _ _ _ _ _) ?_)
  rw [p_ext_Rid]
  obtain ⟨v1, v3, v5, rfl, h2, h4, h6⟩ := dT_api_Rtp.inv hu0
  have S0 : Fm 33 h [] [] [] (List.replicate 33 [] :: h) := Fm.start0
  obtain ⟨H7, e8, S9⟩ := S0.box (own := false) (d := 1) (s := (0 :: 0 :: 0 :: σ)) (xs := [(.p (.bool x0.Marker)), (.p (.int .i64 x0.f_Type)), (.p (.int .u16 x0.Seq)), (.p (.int .u32 x0.Time)), (.p (.int .u32 x0.Ssrc)), v1, (.p (.int .u16 x0.Profile)), v3, v5]) (stills_cons (still_bool _) (stills_cons (still_int _ _) (stills_cons (still_int _ _) (stills_cons (still_int _ _) (stills_cons (still_int _ _) (stills_cons h2.still (stills_cons (still_int _ _) (stills_cons h4.still (stills_cons h6.still stills_nil))))))))) (by decide) rfl
  refine Sim.op (e8) ?_
  refine Sim.op (fA_ref _ _ _) ?_
  refine Sim.op ((S9.atG (i := 0) rfl).ld (j := 6) rfl) ?_
  refine Sim.op (castI_p _ _) ?_
  refine Sim.op (fA_ref _ _ _) ?_
  refine Sim.op ((S9.atG (i := 0) rfl).ld (j := 7) rfl) ?_
  refine Sim.call (ext_Read_ok k x0.Profile x0.Ext (h4.h H7)) fun r11 cs12 H13 h14 q15 => ?_
  obtain ⟨v16, h17, q15⟩ := q15
  cases q15
  refine Sim.op (rfl) ?_
  refine Sim.op (rfl) ?_
  refine Sim.op (castI_p _ _) ?_
  refine Sim.cd (fun hc => ?_) (fun hc => ?_)
  · exact Sim.fin (S9.finN (lv_cons (still_str _).lv (lv_cons (still_bool _).lv lv_nil))) rfl
  · refine Sim.call (ext_Find_ok k r11.1 (h17.h H7) 1) fun r18 cs19 H20 h21 q22 => ?_
    obtain ⟨v23, h24, q22⟩ := q22
    cases q22
    refine Sim.op (rfl) ?_
    refine Sim.op (rfl) ?_
    refine Sim.op (asB_p _) ?_
    refine Sim.ch (P := fun r y => (.p (.bool r), H7) = y) ?_ (fun b30 y31 h32 h33 => ?_)
    · refine Sim.cd (fun hc => ?_) (fun hc => ?_)
      · exact Sim.ret rfl rfl
      · refine Sim.op ((h24.h H7).str) ?_
        refine Sim.op (castS_p _) ?_
        refine Sim.call (rid_Right_ok (strB r18.1)) fun r25 cs26 H27 h28 q29 => ?_
        cases q29
        refine Sim.op (asB_p _) ?_
        exact Sim.ret rfl rfl
    subst h33
    refine Sim.op (asB_p _) ?_
    refine Sim.cd (fun hc => ?_) (fun hc => ?_)
    · exact Sim.fin (S9.finN (lv_cons (still_str _).lv (lv_cons (still_bool _).lv lv_nil))) rfl
    · refine Sim.op ((h24.h H7).str) ?_
      refine Sim.op (castS_p _) ?_
      exact Sim.fin (S9.finN (lv_cons (still_str _).lv (lv_cons (still_bool _).lv lv_nil))) rfl
end Go.Ev
namespace Go.Ev
def ok1 (e : T_api_Elem) : Prop := (1 ≤ e.ID ∧ e.ID ≤ 14) ∧ 1 ≤ e.Data.length ∧ e.Data.length ≤ 16
def ok2 (e : T_api_Elem) : Prop := (1 ≤ e.ID ∧ e.ID ≤ 255) ∧ e.Data.length ≤ 255
theorem ok1.ok2 {e : T_api_Elem} (h : ok1 e) : ok2 e := by unfold Go.Ev.ok2; unfold ok1 at h; omega
theorem right_one {e : T_api_Elem} (h : ok1 e) : goodE 48862 e := by
  obtain ⟨⟨h1, h2⟩, h3, h4⟩ := h
  unfold goodE p_ext_right
  have e1 : decide (e.ID ≥ 1) = true := by simp; omega
  have e2 : decide (e.ID ≤ 14) = true := by simp; omega
  have e3 : decide ((e.Data.length : Int) ≥ 1) = true := by simp; omega
  have e4 : decide ((e.Data.length : Int) ≤ 16) = true := by simp; omega
  simp only [e1, e2, e3, e4, show ((48862 : Int) == 48862) = true from rfl, cond_true, Option.bind_some]
theorem right_two {e : T_api_Elem} (h : ok2 e) : goodE 4096 e := by
  obtain ⟨⟨h1, h2⟩, h4⟩ := h
  unfold goodE p_ext_right
  have e1 : decide (e.ID ≥ 1) = true := by simp; omega
  have e2 : decide (e.ID ≤ 255) = true := by simp; omega
  have e4 : decide ((e.Data.length : Int) ≤ 255) = true := by simp; omega
  simp only [e1, e2, e4, show ((4096 : Int) == 48862) = false from rfl, cond_false, cond_true, Option.bind_some]
theorem encE_one {e : T_api_Elem} (h : ok1 e) : encE 48862 e = enc1 e := by
  obtain ⟨⟨h1, h2⟩, h3, h4⟩ := h
  obtain ⟨a, ha⟩ : ∃ a : Fin 15, (a.1 : Int) = e.ID := ⟨⟨e.ID.toNat, by omega⟩, by simp; omega⟩
  obtain ⟨b, hb⟩ : ∃ b : Fin 16, b.1 + 1 = e.Data.length := ⟨⟨e.Data.length - 1, by omega⟩, by simp; omega⟩
  have hb' : (e.Data.length : Int) - 1 = (b.1 : Int) := by omega
  unfold encE enc1
  rw [show ((48862 : Int) == 48862) = true from rfl, cond_true, ← ha, hb', wrap_i64 (n := (b.1 : Int)) (by omega) (by omega), nib_or]
  rfl
theorem encE_two {e : T_api_Elem} (h : ok2 e) : encE 4096 e = enc2 e := by
  obtain ⟨⟨h1, h2⟩, h4⟩ := h
  unfold encE enc2
  rw [show ((4096 : Int) == 48862) = false from rfl, cond_false, wrap_u8 (by omega) (by omega), wrap_u8 (by omega) (by omega)]
  rfl
theorem flat_eq {α β : Type} {f g : α → List β} : ∀ {l : List α}, (∀ e ∈ l, f e = g e) → l.flatMap f = l.flatMap g
  | [], _ => rfl
  | e :: l, h => by rw [List.flatMap_cons, List.flatMap_cons, h e (List.mem_cons_self ..), flat_eq fun x hx => h x (List.mem_cons_of_mem _ hx)]
theorem bytes1 {l : List T_api_Elem} {k : Nat} (hk : 9 ≤ k) (hl : l.length ≤ 8) (hg : ∀ e ∈ l, ok1 e) : p_ext_Bytes k 48862 l = some (padB (l.flatMap enc1), 0) := by
  obtain ⟨j, rfl⟩ : ∃ j, k = j + 9 := ⟨k - 9, by omega⟩
  rw [bytes_ok (.inl rfl) hl (fun e he => ⟨right_one (hg e he), (hg e he).ok2.2⟩), flat_eq fun e he => encE_one (hg e he)]
theorem bytes2 {l : List T_api_Elem} {k : Nat} (hk : 9 ≤ k) (hl : l.length ≤ 8) (hg : ∀ e ∈ l, ok2 e) : p_ext_Bytes k 4096 l = some (padB (l.flatMap enc2), 0) := by
  obtain ⟨j, rfl⟩ : ∃ j, k = j + 9 := ⟨k - 9, by omega⟩
  rw [bytes_ok (.inr rfl) hl (fun e he => ⟨right_two (hg e he), (hg e he).2⟩), flat_eq fun e he => encE_two (hg e he)]
theorem flat1_len : ∀ {l : List T_api_Elem}, (∀ e ∈ l, ok2 e) → (l.flatMap enc1).length ≤ 256 * l.length
  | [], _ => by simp
  | e :: l, h => by
    have := flat1_len (l := l) fun x hx => h x (List.mem_cons_of_mem _ hx)
    have := (h e (List.mem_cons_self ..)).2
    rw [List.flatMap_cons, List.length_append, enc1, List.length_cons, List.length_cons]
    omega
theorem flat2_len : ∀ {l : List T_api_Elem}, (∀ e ∈ l, ok2 e) → (l.flatMap enc2).length ≤ 257 * l.length
  | [], _ => by simp
  | e :: l, h => by
    have := flat2_len (l := l) fun x hx => h x (List.mem_cons_of_mem _ hx)
    have := (h e (List.mem_cons_self ..)).2
    rw [List.flatMap_cons, List.length_append, enc2, List.length_cons, List.length_cons, List.length_cons]
    omega
theorem padB_len (xs : List Int) : (padB xs).length = xs.length + (4 - xs.length % 4) % 4 := by simp [padB]
theorem padB_mod (xs : List Int) : (Int.tmod (((padB xs).length : Int)) 4 != 0) = false := by
  rw [padB_len, Int.tmod_eq_emod_of_nonneg (by omega)]
  have : (((xs.length + (4 - xs.length % 4) % 4 : Nat) : Int) % 4) = 0 := by omega
  rw [this]; rfl
theorem read1 {l : List T_api_Elem} {k : Nat} (hk : 20 ≤ k) (hl : l.length ≤ 8) (hg : ∀ e ∈ l, ok1 e) : p_ext_Read k 48862 (padB (l.flatMap enc1)) = some (l, 0) := by
  have hlen := flat1_len fun e he => (hg e he).ok2
  have h3 : decide ((l.length : Int) > 8) = false := by simp; omega
  have := padB_len (l.flatMap enc1)
  unfold p_ext_Read
  simp only [show ((48862 : Int) != 48862) = false from rfl, cond_false, Option.bind_some]
  generalize hz : (4 - (l.flatMap enc1).length % 4) % 4 = z
  have hz3 : z ≤ 3 := by omega
  have hr := fun (kE0 : List T_api_Elem → Option ((List T_api_Elem) × Int)) kE1 => read_all1 kE0 kE1 (k - z - l.length - 1) z (padB (l.flatMap enc1)) (by omega) l [] [] (by rw [padB, hz]; simp) hg (by simp; omega)
  simp only [show k - z - l.length - 1 + z + l.length + 1 = k by omega] at hr
  refine (hr _ _).trans ?_
  rw [List.nil_append, h3, cond_false]
theorem read2 {l : List T_api_Elem} {k : Nat} (hk : 20 ≤ k) (hl : l.length ≤ 8) (hg : ∀ e ∈ l, ok2 e) : p_ext_Read k 4096 (padB (l.flatMap enc2)) = some (l, 0) := by
  have hlen := flat2_len fun e he => hg e he
  have h3 : decide ((l.length : Int) > 8) = false := by simp; omega
  have := padB_len (l.flatMap enc2)
  unfold p_ext_Read
  simp only [show ((4096 : Int) != 48862) = true from rfl, show ((4096 : Int) != 4096) = false from rfl, cond_true, cond_false, Option.bind_some]
  generalize hz : (4 - (l.flatMap enc2).length % 4) % 4 = z
  have hz3 : z ≤ 3 := by omega
  have hr := fun (kE0 : List T_api_Elem → Option ((List T_api_Elem) × Int)) kE1 => read_all2 kE0 kE1 (k - z - l.length - 1) z (padB (l.flatMap enc2)) (by omega) l [] [] (by rw [padB, hz]; simp) hg (by simp; omega)
  simp only [show k - z - l.length - 1 + z + l.length + 1 = k by omega] at hr
  refine (hr _ _).trans ?_
  rw [List.nil_append, h3, cond_false]
/-- IndexFunc and Find. -/
theorem find_l0 {β : Type} (kE0 : Unit → Option β) (kE1 : Int → Option β) (l : List T_api_Elem) (hl : l.length < 2 ^ 30) (id : Int) (e : T_api_Elem) (suf : List T_api_Elem) (he : e.ID = id) : ∀ (mid pre : List T_api_Elem) (j : Nat), l = pre ++ mid ++ e :: suf → (∀ x ∈ mid, x.ID ≠ id) →
    p_slices_IndexFunc_Lapi_Elem_api_Elem_ext_Find_1_l0 (j + mid.length + 1) kE0 kE1 l id (l.length : Int) (pre.length : Int) = kE1 ((pre.length + mid.length : Nat) : Int)
  | [], pre, j, h, _ => by
    rw [p_slices_IndexFunc_Lapi_Elem_api_Elem_ext_Find_1_l0]
    have h1 : decide ((pre.length : Int) < (l.length : Int)) = true := by subst h; simp; omega
    have h2 : ix l (pre.length : Int) = some e := ix_mid' (by simpa using h) rfl
    have h3 : p_ext_Find_1 e id = some true := by simp [p_ext_Find_1, he]
    rw [h1, cond_true, h2, Option.bind_some, h3, Option.bind_some, cond_true]; rfl
  | x :: mid, pre, j, h, hn => by
    rw [List.length_cons, show j + (mid.length + 1) + 1 = (j + mid.length + 1) + 1 from rfl, p_slices_IndexFunc_Lapi_Elem_api_Elem_ext_Find_1_l0]
    have h1 : decide ((pre.length : Int) < (l.length : Int)) = true := by subst h; simp; omega
    have h2 : ix l (pre.length : Int) = some x := ix_mid' (by simpa using h) rfl
    have h3 : p_ext_Find_1 x id = some false := by simpa [p_ext_Find_1] using hn x (List.mem_cons_self ..)
    have h4 : IntKind.wrap .i64 ((pre.length : Int) + 1) = (((pre ++ [x]).length : Nat) : Int) := by
      rw [wrap_i64 (by omega) (by have : pre.length ≤ l.length := by subst h; simp
                                  omega)]
      simp
    rw [h1, cond_true, h2, Option.bind_some, h3, Option.bind_some, cond_false, h4, find_l0 kE0 kE1 l hl id e suf he mid (pre ++ [x]) j (by rw [h]; simp) fun y hy => hn y (List.mem_cons_of_mem _ hy)]
    congr 1
    simp
    omega
theorem find_mid {l pre suf : List T_api_Elem} {e : T_api_Elem} {id : Int} {k : Nat} (h : l = pre ++ e :: suf) (hn : ∀ x ∈ pre, x.ID ≠ id) (he : e.ID = id) (hl : l.length < k) (hk : l.length < 2 ^ 30) (hd : e.Data.length < 2 ^ 30) : p_ext_Find k l id = some (e.Data, true) := by
  unfold p_ext_Find p_slices_IndexFunc_Lapi_Elem_api_Elem_ext_Find_1
  have hlen : pre.length < l.length := by subst h; simp
  have := fun kE0 (kE1 : Int → Option Int) => find_l0 kE0 kE1 l hk id e suf he pre [] (k - pre.length - 1) (by simpa using h) hn
  simp only [show k - pre.length - 1 + pre.length + 1 = k by omega, List.length_nil] at this
  rw [show ((0 : Nat) : Int) = 0 from rfl] at this
  rw [this, Option.bind_some, Nat.zero_add]
  have h0 : decide (((pre.length : Nat) : Int) < 0) = false := by simp
  rw [h0, cond_false, ix_mid' h rfl, Option.bind_some, clone_eq (by decide) (by omega)]
  rfl
/-- The name of a packet. -/
theorem rid_ok {k : Nat} {p : T_api_Rtp} {l : List T_api_Elem} {d : List Int} (hr : p_ext_Read k p.Profile p.Ext = some (l, 0)) (hf : p_ext_Find k l 1 = some (d, true)) : p_ext_Rid k p = some (bif RidX.rightB (strB d) then (strB d, true) else (⟨#[]⟩, false)) := by
  unfold p_ext_Rid
  rw [hr, Option.bind_some]
  simp only [show ((0 : Int) != 0) = false from rfl, cond_false]
  rw [hf, Option.bind_some]
  simp only [Bool.not_true, cond_false, p_rid_Right, Option.bind_some]
  cases RidX.rightB (strB d) <;> rfl
end Go.Ev
/- Equations, printed by tracer2.py. -/
namespace Go.Ev
open Go.Proofs
set_option linter.unusedVariables false
set_option maxRecDepth 100000
-- 27 limelight/limelightref3.Rid
theorem limelightref3_Rid_entry (rec : CallF) (loop : LoopV) (σ : Stamp) (x0 : V) (h : H) : cvBody G rec loop 27 σ [x0] h =
 (boxO false (0 :: 0 :: 0 :: σ) 1 (List.replicate 33 [] :: h) x0).bind fun q1 =>
 (fA q1.1 6).bind fun t2 =>
 (ldO false 1 q1.2 t2).bind fun t3 =>
 (castI .u16 t3).bind fun n4 =>
 (fA q1.1 7).bind fun t5 =>
 (ldO false 1 q1.2 t5).bind fun t6 =>
 (callO rec 55 (4 :: 0 :: 1 :: 0 :: σ) [(.p (.int .u16 n4)), t6] q1.2 (some 13)).bind fun q7 =>
 (extV q7.1 0).bind fun t8 =>
 (extV q7.1 1).bind fun t9 =>
 (castI .i64 t9).bind fun n10 =>
 bif n10 != 0 then (
 fin false σ q7.2 [(.p (.string ((⟨#[]⟩ : ByteArray)))), (.p (.bool false))])
 else (
 (callO rec 53 (1 :: 0 :: 1 :: 1 :: 1 :: 0 :: σ) [t8, (.p (.int .i64 1))] q7.2 (some 20)).bind fun q11 =>
 (extV q11.1 0).bind fun t12 =>
 (extV q11.1 1).bind fun t13 =>
 (asB t13).bind fun b14 =>
 (bif !b14 then (some ((.p (.bool true)), q11.2)) else ((strO q11.2 t12).bind fun t15 =>
 (castS t15).bind fun s16 =>
 (callO rec 65 (5 :: 0 :: 0 :: 1 :: 1 :: 1 :: 1 :: 0 :: σ) [(.p (.string s16))] q11.2 (some 28)).bind fun q17 =>
 (asB q17.1).bind fun b18 =>
 some ((.p (.bool (!b18))), q17.2))).bind fun q19 =>
 (asB q19.1).bind fun b20 =>
 bif b20 then (
 fin false σ q19.2 [(.p (.string ((⟨#[]⟩ : ByteArray)))), (.p (.bool false))])
 else (
 (strO q19.2 t12).bind fun t21 =>
 (castS t21).bind fun s22 =>
 fin false σ q19.2 [(.p (.string s22)), (.p (.bool true))])) := by kernel_rfl
end Go.Ev
/- Told from outside: limelightref1_Rid. -/
namespace Go.Ev
open Go.Proofs
def p_limelightref1_Rid (x0 : ByteArray) : Option Bool := some (RidX.rightB x0)
theorem limelightref1_Rid_ok {h : H} {σ : Stamp} (x0 : ByteArray) : Sim (p_limelightref1_Rid x0) (ev G X0 65 σ [(.p (.string x0))] h) (fun r s => s = ([.v (.p (.bool r))], h)) := Sim.told (ev_ext rfl)
end Go.Ev
/- Equations, printed by tracer2.py. -/
namespace Go.Ev
open Go.Proofs
set_option linter.unusedVariables false
set_option maxRecDepth 100000
-- 53 limelight/limelightref3.Find
noncomputable def limelightref3_Find_c0 : Code := (codeAt (bodyOf Try.f53) [1, 0, 1, 0, 0])
def limelightref3_Find_l0 : Lv := ⟨0, 48, [(0, 0)]⟩
noncomputable def limelightref3_Find_k0 (rec : CallF) (loop : LoopV) (σ : Stamp) : Exit → Env → H → Option (List C × H) := (kBlock 0 (kSeq G rec loop (codeAt (bodyOf Try.f53) [1, 1]) ⟨48, 48, []⟩ (1 :: 0 :: σ) (finC G true Try.f53 (1 :: σ))))
theorem limelightref3_Find_entry (rec : CallF) (loop : LoopV) (σ : Stamp) (x0 : V) (x1 : Int) (h : H) : cvBody G rec loop 53 σ [x0, (.p (.int .i64 x1))] h =
 (lenO x0).bind fun t1 =>
 (castI .i64 t1).bind fun n2 =>
 (loop limelightref3_Find_c0 limelightref3_Find_l0 (1 :: 0 :: 1 :: 0 :: σ) (envL [(1, (.p (.int .i64 x1))), (8, x0), (9, (.p (.int .i64 n2))), (10, (.p (.int .i64 0)))]) (List.replicate 23 [] :: h)).bind fun r3 => limelightref3_Find_k0 rec loop σ r3.1 r3.2.1 r3.2.2 := by kernel_rfl
theorem limelightref3_Find_r0 (rec : CallF) (loop : LoopV) (σ : Stamp) (x1 : Int) (x8 : V) (x9 : Int) (x10 : Int) (h : H) : cvRound G rec loop limelightref3_Find_c0 limelightref3_Find_l0 σ (envL [(1, (.p (.int .i64 x1))), (8, x8), (9, (.p (.int .i64 x9))), (10, (.p (.int .i64 x10)))]) h =
 bif decide (x10 < x9) then (
 (iS 2 x8 x10).bind fun t4 =>
 (ldO true 2 h t4).bind fun t5 =>
 (some (alO [.p (.int .i64 0), .p (.slice none 0 0)] (2 :: 0 :: 0 :: 1 :: 1 :: 0 :: σ) 7 h)).bind fun q6 =>
 ((stO false 2 (3 :: 0 :: 0 :: 1 :: 1 :: 0 :: σ) q6.2 q6.1 t5).map fun h => (udf, h)).bind fun q7 =>
 (fA q6.1 0).bind fun t8 =>
 (ldO false 1 q7.2 t8).bind fun t9 =>
 (castI .i64 t9).bind fun n10 =>
 bif n10 == x1 then (
 (buildSliceV Try.prog 32 0 []).bind fun t11 =>
 (fA q6.1 1).bind fun t12 =>
 (ldO false 1 q7.2 t12).bind fun t13 =>
 (apO true 1 1 (3 :: 0 :: 1 :: 1 :: 0 :: 1 :: 1 :: 0 :: σ) 21 q7.2 t11 t13).bind fun q14 =>
 some (.ret, (envL [(4, q14.1), (5, (.p (.bool true)))]), q14.2))
 else (
 loop limelightref3_Find_c0 limelightref3_Find_l0 (1 :: σ) (envL [(1, (.p (.int .i64 x1))), (8, x8), (9, (.p (.int .i64 x9))), (10, (.p (.int .i64 (IntKind.wrap .i64 (x10 + 1)))))]) q7.2))
 else (
 some ((.exit 0), (envL []), h)) := by kernel_rfl
theorem limelightref3_Find_a0_0 (rec : CallF) (loop : LoopV) (σ : Stamp)  (h : H) : limelightref3_Find_k0 rec loop σ (.exit 0) (envL []) h =
 fin true σ h [(.p (.slice .none 0 0)), (.p (.bool false))] := by kernel_rfl
theorem limelightref3_Find_a0_ret (rec : CallF) (loop : LoopV) (σ : Stamp) (x4 : V) (x5 : Bool) (h : H) : limelightref3_Find_k0 rec loop σ .ret (envL [(4, x4), (5, (.p (.bool x5)))]) h =
 fin true σ h [x4, (.p (.bool x5))] := by kernel_rfl
end Go.Ev
/- Lifted by lift.py: limelightref3_Find as a plain function. -/
namespace Go.Ev
open Go.Proofs
set_option linter.unusedVariables false
set_option linter.unusedSimpArgs false
set_option maxRecDepth 100000
def p_limelightref3_Find_l0 {β : Type} (k : Nat) (kE0 : Unit → Option β) (kE1 : (List Int) → Bool → Option β) (x1 : Int) (x8 : (List T_api_Elem)) (x9 : Int) (x10 : Int) : Option β := match k with
| 0 => none
| k + 1 =>
bif decide (x10 < x9) then (
(ix x8 x10).bind fun a5 =>
bif a5.ID == x1 then (
(ap 1 (([] : List Int)) a5.Data).bind fun a22 =>
kE1 a22 true)
else (
p_limelightref3_Find_l0 k kE0 kE1 x1 x8 x9 (IntKind.wrap .i64 (x10 + 1))))
else (
kE0 ())
def p_limelightref3_Find (k : Nat) (x0 : (List T_api_Elem)) (x1 : Int) : Option ((List Int) × Bool) :=
p_limelightref3_Find_l0 k (fun (_ : Unit) =>
some ((([] : List Int)), false)) (fun r37_4 r37_5 =>
some (r37_4, r37_5)) x1 x0 ((x0.length : Int)) 0
theorem limelightref3_Find_l0_ok {h : H}  {β α : Type} {Q : β → α → Prop} {K : Exit × Env × H → Option α} {kE0 : Unit → Option β} {kE1 : (List Int) → Bool → Option β} (hE0 : ∀ (_u : Unit) (H28 : Go.Ev.H) (_ : Fm 23 h [] [] [] H28), Sim (kE0 ()) (K ((.exit 0), (envL []), H28)) Q) (hE1 : ∀ (q4 : (List Int)) (q5 : Bool) (v32 : V) (H30 : Go.Ev.H) (_ : Fm 23 h [] [] [⟨[21], v32, (dI .u8), q4⟩] H30), Sim (kE1 q4 q5) (K (.ret, (envL [(4, v32), (5, (.p (.bool q5)))]), H30)) Q) (k : Nat) : ∀ (x1 : Int) (x8 : (List T_api_Elem)) (x9 : Int) (x10 : Int) (v3 : V) (h4 : SlH h dT_api_Elem x8 v3) (H1 : Go.Ev.H) (_ : Fm 23 h [] [] [] H1) {σ : Stamp}, Sim (p_limelightref3_Find_l0 k kE0 kE1 x1 x8 x9 x10) ((cvL G X0 limelightref3_Find_c0 limelightref3_Find_l0 σ (envL [(1, (.p (.int .i64 x1))), (8, v3), (9, (.p (.int .i64 x9))), (10, (.p (.int .i64 x10)))]) H1).bind K) Q := by
  induction k with
  | zero => intros; exact Sim.no
  | succ k ih =>
    intro x1 x8 x9 x10 v3 h4 H1 S2 σ
    rw [p_limelightref3_Find_l0]
    refine Sim.round (Sim.ext (limelightref3_Find_r0 _ _ _ _ _ _ _ _) ?_)
    refine Sim.cd (fun hc => ?_) (fun hc => ?_)
    · refine Sim.bd fun a5 h6 => ?_
      refine Sim.op ((S2.low h4).iS h6 rfl) ?_
      obtain ⟨w8, h9, hE7⟩ := (S2.low h4).el h6 rfl
      obtain ⟨v10, rfl, h11⟩ := dT_api_Elem.inv h9
      refine Sim.op (hE7.all (by simp)) ?_
      obtain ⟨H12, e13, S14⟩ := S2.al (d := 7) (s := (2 :: 0 :: 0 :: 1 :: 1 :: 0 :: σ)) (z := [(.p (.int .i64 0)), (.p (.slice none 0 0))]) (by decide) rfl
      refine Sim.op (congrArg some e13) ?_
      obtain ⟨H16, e17, S18⟩ := S14.stGv (i := 0) (j := 0) (own := false) (σ := (3 :: 0 :: 0 :: 1 :: 1 :: 0 :: σ)) (xs := [.p (.int .i64 a5.ID), v10]) rfl rfl (stills_cons (still_int _ _) (stills_cons h11.still stills_nil)) rfl rfl
      refine Sim.op (st_map e17) ?_
      refine Sim.op (fA_ref _ _ _) ?_
      refine Sim.op ((S18.atG (i := 0) rfl).ld (j := 0) rfl) ?_
      refine Sim.op (castI_p _ _) ?_
      refine Sim.cd (fun hc => ?_) (fun hc => ?_)
      · have h19 : SlF (dI .u8) ([] : List Int) (.fz [] 0 1 true) := SlF.lit (cs := []) RL.nil rfl rfl true
        refine Sim.op (bldS pt_nil (by kernel_rfl : _ = some (.fz [] 0 1 true))) ?_
        refine Sim.op (fA_ref _ _ _) ?_
        refine Sim.op ((S18.atG (i := 0) rfl).ld (j := 1) rfl) ?_
        have S21 := S18.nil' (dI .u8) [] (e := 1) rfl
        refine Sim.bd fun a22 h23 => ?_
        obtain ⟨v24, H25, e26, S27⟩ := S21.app (i := 0) (d := 21) (e := 1) (own := true) (σ := (3 :: 0 :: 1 :: 1 :: 0 :: 1 :: 1 :: 0 :: σ)) rfl (h11.h H16).y h23 rfl (by decide) (by decide) rfl
        refine Sim.op (e26) ?_
        exact hE1 a22 true v24 H25 (S27.wk2 all_nil (all_cons ⟨[21], by simp, at_mem 0 rfl⟩ all_nil))
      · exact ih x1 x8 x9 (IntKind.wrap .i64 (x10 + 1)) v3 h4 H16 (S18.wk2 all_nil all_nil)
    · exact hE0 () H1 (S2.wk2 all_nil all_nil)
theorem limelightref3_Find_ok (k : Nat) {h : H} {σ : Stamp} (x0 : List T_api_Elem) {u0 : V} (hu0 : SlH h dT_api_Elem x0 u0) (x1 : Int) : Sim (p_limelightref3_Find k x0 x1) (ev G X0 53 σ [u0, (.p (.int .i64 x1))] h) (fun r s => ∃ (v0 : V), SlF (dI .u8) r.1 v0 ∧ s = ([.v v0, .v (.p (.bool r.2))], h)) := by
  refine Sim.ev rfl (Sim.ext (limelightref3_Find_entry _ _ _ _ _ _) ?_)
  rw [p_limelightref3_Find]
  have S0 : Fm 23 h [] [] [] (List.replicate 23 [] :: h) := Fm.start0
  refine Sim.op ((S0.low hu0).len) ?_
  refine Sim.op (castI_p _ _) ?_
  refine Sim.as (limelightref3_Find_l0_ok ?_ ?_ k x1 x0 ((x0.length : Int)) 0 u0 hu0 (List.replicate 23 [] :: h) (S0.wk2 all_nil all_nil)) 
  · intro _u H35 S36
    refine Sim.ext (limelightref3_Find_a0_0 _ _ _ _) ?_
    exact Sim.fin (S36.finN (lv_cons (SlF.nil (dI .u8)).still.lv (lv_cons (still_bool _).lv lv_nil))) ⟨(.p (.slice none 0 0)), (SlF.nil (dI .u8)), rfl⟩
  · intro r37_4 r37_5 v40 H38 S39
    refine Sim.ext (limelightref3_Find_a0_ret _ _ _ _ _ _) ?_
    obtain ⟨v47, H42, e43, h45, S44⟩ := S39.expFrz (i := 0) (τ := 0 :: 1 :: σ) rfl rfl
    exact Sim.fin (S44.finE (Ex.st e43 (Ex.pl (still_bool _).lv Ex.nil))) ⟨v47, h45, rfl⟩
end Go.Ev
/- Equations, printed by tracer2.py. -/
namespace Go.Ev
open Go.Proofs
set_option linter.unusedVariables false
set_option maxRecDepth 100000
-- 55 limelight/limelightref3.ReadElems
noncomputable def limelightref3_ReadElems_c0 : Code := (codeAt (bodyOf Try.f55) [1, 1, 1, 0, 1, 0, 0])
def limelightref3_ReadElems_l0 : Lv := ⟨64, 48, [(0, 64)]⟩
noncomputable def limelightref3_ReadElems_k0 (rec : CallF) (loop : LoopV) (σ : Stamp) : Exit → Env → H → Option (List C × H) := (kBlock 0 (kSeq G rec loop (codeAt (bodyOf Try.f55) [1, 1, 1, 1]) ⟨48, 48, []⟩ (1 :: 1 :: 1 :: 0 :: σ) (finC G true Try.f55 (1 :: σ))))
theorem limelightref3_ReadElems_entry (rec : CallF) (loop : LoopV) (σ : Stamp) (x0 : Int) (x1 : V) (h : H) : cvBody G rec loop 55 σ [(.p (.int .u16 x0)), x1] h =
 (bif x0 != 48862 then (some (x0 != 4096)) else (some false)).bind fun b1 =>
 bif b1 then (
 fin true σ (List.replicate 97 [] :: h) [(.p (.slice .none 0 0)), (.p (.int .i64 1))])
 else (
 (loop limelightref3_ReadElems_c0 limelightref3_ReadElems_l0 (1 :: 0 :: 1 :: 1 :: 1 :: 0 :: σ) (envL [(0, (.p (.int .u16 x0))), (1, x1), (6, (.p (.slice .none 0 0))), (7, (.p (.int .i64 0)))]) (List.replicate 97 [] :: h)).bind fun r2 => limelightref3_ReadElems_k0 rec loop σ r2.1 r2.2.1 r2.2.2) := by kernel_rfl
theorem limelightref3_ReadElems_r0 (rec : CallF) (loop : LoopV) (σ : Stamp) (x0 : Int) (x1 : V) (x6 : V) (x7 : Int) (h : H) : cvRound G rec loop limelightref3_ReadElems_c0 limelightref3_ReadElems_l0 σ (envL [(0, (.p (.int .u16 x0))), (1, x1), (6, x6), (7, (.p (.int .i64 x7)))]) h =
 (lenO x1).bind fun t3 =>
 (castI .i64 t3).bind fun n4 =>
 bif decide (x7 < n4) then (
 (iS 1 x1 x7).bind fun t5 =>
 (ldO false 1 h t5).bind fun t6 =>
 (castI .u8 t6).bind fun n7 =>
 bif n7 == 0 then (
 loop limelightref3_ReadElems_c0 limelightref3_ReadElems_l0 (1 :: σ) (envL [(0, (.p (.int .u16 x0))), (1, x1), (6, x6), (7, (.p (.int .i64 (IntKind.wrap .i64 (x7 + 1)))))]) h)
 else (
 (iS 1 x1 x7).bind fun t8 =>
 (ldO false 1 h t8).bind fun t9 =>
 (castI .u8 t9).bind fun n10 =>
 (iS 1 x1 x7).bind fun t11 =>
 (ldO false 1 h t11).bind fun t12 =>
 (castI .u8 t12).bind fun n13 =>
 (bif x0 == 48862 then ((bif (IntKind.wrap .i64 (Int.fdiv n10 (2 ^ 4))) == 15 then (some true) else (some ((IntKind.wrap .i64 (Int.fdiv n10 (2 ^ 4))) == 0))).bind fun b14 =>
 some b14) else (some false)).bind fun b15 =>
 bif b15 then (
 some ((.exit 0), (envL [(6, x6)]), h))
 else (
 bif x0 == 4096 then (
 (lenO x1).bind fun t16 =>
 (castI .i64 t16).bind fun n17 =>
 bif decide ((IntKind.wrap .i64 (x7 + 1)) ≥ n17) then (
 some (.ret, (envL [(4, (.p (.slice .none 0 0))), (5, (.p (.int .i64 13)))]), h))
 else (
 (iS 1 x1 x7).bind fun t18 =>
 (ldO false 1 h t18).bind fun t19 =>
 (castI .u8 t19).bind fun n20 =>
 (iS 1 x1 (IntKind.wrap .i64 (x7 + 1))).bind fun t21 =>
 (ldO false 1 h t21).bind fun t22 =>
 (castI .u8 t22).bind fun n23 =>
 (callO rec 90 (3 :: 0 :: 1 :: 1 :: 1 :: 1 :: 1 :: 0 :: σ) [x1, (.p (.int .i64 (IntKind.wrap .i64 (x7 + 2)))), (.p (.int .i64 (IntKind.wrap .i64 n23)))] h (some 79)).bind fun q24 =>
 (extV q24.1 0).bind fun t25 =>
 (extV q24.1 1).bind fun t26 =>
 (asB t26).bind fun b27 =>
 bif !b27 then (
 some (.ret, (envL [(4, (.p (.slice .none 0 0))), (5, (.p (.int .i64 13)))]), q24.2))
 else (
 (buildV Try.prog 38 [(0, (.p (.int .i64 (IntKind.wrap .i64 n20)))), (1, t25)]).bind fun t28 =>
 (buildSliceV Try.prog 27 1 [(0, t28)]).bind fun t29 =>
 (apO false 2 32 (5 :: 0 :: 1 :: 1 :: 1 :: 1 :: 1 :: 1 :: 1 :: 0 :: σ) 89 q24.2 x6 t29).bind fun q30 =>
 loop limelightref3_ReadElems_c0 limelightref3_ReadElems_l0 (1 :: σ) (envL [(0, (.p (.int .u16 x0))), (1, x1), (6, q30.1), (7, (.p (.int .i64 (IntKind.wrap .i64 ((IntKind.wrap .i64 (x7 + 2)) + (IntKind.wrap .i64 n23))))))]) q30.2)))
 else (
 (callO rec 90 (3 :: 0 :: 1 :: 1 :: 1 :: 1 :: 1 :: 0 :: σ) [x1, (.p (.int .i64 (IntKind.wrap .i64 (x7 + 1)))), (.p (.int .i64 (IntKind.wrap .i64 ((IntKind.wrap .i64 (intBits .and .u8 n13 15)) + 1))))] h (some 79)).bind fun q31 =>
 (extV q31.1 0).bind fun t32 =>
 (extV q31.1 1).bind fun t33 =>
 (asB t33).bind fun b34 =>
 bif !b34 then (
 some (.ret, (envL [(4, (.p (.slice .none 0 0))), (5, (.p (.int .i64 13)))]), q31.2))
 else (
 (buildV Try.prog 38 [(0, (.p (.int .i64 (IntKind.wrap .i64 (Int.fdiv n10 (2 ^ 4)))))), (1, t32)]).bind fun t35 =>
 (buildSliceV Try.prog 27 1 [(0, t35)]).bind fun t36 =>
 (apO false 2 32 (5 :: 0 :: 1 :: 1 :: 1 :: 1 :: 1 :: 1 :: 1 :: 0 :: σ) 89 q31.2 x6 t36).bind fun q37 =>
 loop limelightref3_ReadElems_c0 limelightref3_ReadElems_l0 (1 :: σ) (envL [(0, (.p (.int .u16 x0))), (1, x1), (6, q37.1), (7, (.p (.int .i64 (IntKind.wrap .i64 ((IntKind.wrap .i64 (x7 + 1)) + (IntKind.wrap .i64 ((IntKind.wrap .i64 (intBits .and .u8 n13 15)) + 1)))))))]) q37.2)))))
 else (
 some ((.exit 0), (envL [(6, x6)]), h)) := by kernel_rfl
theorem limelightref3_ReadElems_a0_0 (rec : CallF) (loop : LoopV) (σ : Stamp) (x6 : V) (h : H) : limelightref3_ReadElems_k0 rec loop σ (.exit 0) (envL [(6, x6)]) h =
 (lenO x6).bind fun t38 =>
 (castI .i64 t38).bind fun n39 =>
 bif decide (n39 > 8) then (
 fin true σ h [(.p (.slice .none 0 0)), (.p (.int .i64 3))])
 else (
 fin true σ h [x6, (.p (.int .i64 0))]) := by kernel_rfl
theorem limelightref3_ReadElems_a0_ret (rec : CallF) (loop : LoopV) (σ : Stamp) (x4 : V) (x5 : Int) (h : H) : limelightref3_ReadElems_k0 rec loop σ .ret (envL [(4, x4), (5, (.p (.int .i64 x5)))]) h =
 fin true σ h [x4, (.p (.int .i64 x5))] := by kernel_rfl
end Go.Ev
/- Equations, printed by tracer2.py. -/
namespace Go.Ev
open Go.Proofs
set_option linter.unusedVariables false
set_option maxRecDepth 100000
-- 90 limelight/limelightref1.Cut
theorem limelightref1_Cut_entry (rec : CallF) (loop : LoopV) (σ : Stamp) (x0 : V) (x1 : Int) (x2 : Int) (h : H) : cvBody G rec loop 90 σ [x0, (.p (.int .i64 x1)), (.p (.int .i64 x2))] h =
 (bif decide (x1 < 0) then (some true) else (some (decide (x2 < 0)))).bind fun b1 =>
 (bif b1 then (some true) else ((lenO x0).bind fun t2 =>
 (castI .i64 t2).bind fun n3 =>
 some (decide (x1 > n3)))).bind fun b4 =>
 (bif b4 then (some true) else ((lenO x0).bind fun t5 =>
 (castI .i64 t5).bind fun n6 =>
 some (decide (x2 > (IntKind.wrap .i64 (n6 - x1)))))).bind fun b7 =>
 bif b7 then (
 fin true σ (List.replicate 36 [] :: h) [(.p (.slice .none 0 0)), (.p (.bool false))])
 else (
 (buildSliceV Try.prog 32 0 []).bind fun t8 =>
 (slS 1 x0 (some x1) (some (IntKind.wrap .i64 (x1 + x2))) none).bind fun t9 =>
 (apO true 1 1 (7 :: 0 :: 1 :: 1 :: 0 :: σ) 35 (List.replicate 36 [] :: h) t8 t9).bind fun q10 =>
 fin true σ q10.2 [q10.1, (.p (.bool true))]) := by kernel_rfl
end Go.Ev
/- Lifted by lift.py: limelightref1_Cut as a plain function. -/
namespace Go.Ev
open Go.Proofs
set_option linter.unusedVariables false
set_option linter.unusedSimpArgs false
set_option maxRecDepth 100000
def p_limelightref1_Cut (x0 : (List Int)) (x1 : Int) (x2 : Int) : Option ((List Int) × Bool) :=
(bif decide (x1 < 0) then (some true) else (some (decide (x2 < 0)))).bind fun b1 =>
(bif b1 then (some true) else (some (decide (x1 > ((x0.length : Int)))))).bind fun b5 =>
(bif b5 then (some true) else (some (decide (x2 > (IntKind.wrap .i64 (((x0.length : Int)) - x1)))))).bind fun b9 =>
bif b9 then (
some ((([] : List Int)), false))
else (
(sub x0 x1 (IntKind.wrap .i64 (x1 + x2))).bind fun a14 =>
(ap 1 (([] : List Int)) a14).bind fun a18 =>
some (a18, true))
theorem limelightref1_Cut_ok {h : H} {σ : Stamp} (x0 : List Int) {u0 : V} (hu0 : SlH h (dI .u8) x0 u0) (x1 : Int) (x2 : Int) : Sim (p_limelightref1_Cut x0 x1 x2) (ev G X0 90 σ [u0, (.p (.int .i64 x1)), (.p (.int .i64 x2))] h) (fun r s => ∃ (v0 : V), SlF (dI .u8) r.1 v0 ∧ s = ([.v v0, .v (.p (.bool r.2))], h)) := by
  refine Sim.ev rfl (Sim.ext (limelightref1_Cut_entry _ _ _ _ _ _ _) ?_)
  rw [p_limelightref1_Cut]
  have S0 : Fm 36 h [] [] [] (List.replicate 36 [] :: h) := Fm.start0
  refine Sim.ch (P := fun r y => r = y) ?_ (fun b1 y2 h3 h4 => ?_)
  · refine Sim.cd (fun hc => ?_) (fun hc => ?_)
    · exact Sim.ret rfl rfl
    · exact Sim.ret rfl rfl
  subst h4
  refine Sim.ch (P := fun r y => r = y) ?_ (fun b5 y6 h7 h8 => ?_)
  · refine Sim.cd (fun hc => ?_) (fun hc => ?_)
    · exact Sim.ret rfl rfl
    · refine Sim.op ((S0.low hu0).len) ?_
      refine Sim.op (castI_p _ _) ?_
      exact Sim.ret rfl rfl
  subst h8
  refine Sim.ch (P := fun r y => r = y) ?_ (fun b9 y10 h11 h12 => ?_)
  · refine Sim.cd (fun hc => ?_) (fun hc => ?_)
    · exact Sim.ret rfl rfl
    · refine Sim.op ((S0.low hu0).len) ?_
      refine Sim.op (castI_p _ _) ?_
      exact Sim.ret rfl rfl
  subst h12
  refine Sim.cd (fun hc => ?_) (fun hc => ?_)
  · exact Sim.fin (S0.finN (lv_cons (SlF.nil (dI .u8)).still.lv (lv_cons (still_bool _).lv lv_nil))) ⟨(.p (.slice none 0 0)), (SlF.nil (dI .u8)), rfl⟩
  · have h13 : SlF (dI .u8) ([] : List Int) (.fz [] 0 1 true) := SlF.lit (cs := []) RL.nil rfl rfl true
    refine Sim.op (bldS pt_nil (by kernel_rfl : _ = some (.fz [] 0 1 true))) ?_
    refine Sim.bd fun a14 h15 => ?_
    refine Sim.op ((S0.low hu0).slS h15 rfl rfl rfl) ?_
    have S17 := S0.nil' (dI .u8) [] (e := 1) rfl
    refine Sim.bd fun a18 h19 => ?_
    obtain ⟨v20, H21, e22, S23⟩ := S17.app (i := 0) (d := 35) (e := 1) (own := true) (σ := (7 :: 0 :: 1 :: 1 :: 0 :: σ)) rfl ((S17.low hu0).sub h15 (e := 1) rfl).y h19 rfl (by decide) (by decide) rfl
    refine Sim.op (e22) ?_
    obtain ⟨v29, H24, e25, h27, S26⟩ := S23.expFrz (i := 0) (τ := 0 :: 1 :: σ) rfl rfl
    exact Sim.fin (S26.finE (Ex.st e25 (Ex.pl (still_bool _).lv Ex.nil))) ⟨v29, h27, rfl⟩
end Go.Ev
/- Lifted by lift.py: limelightref3_ReadElems as a plain function. -/
namespace Go.Ev
open Go.Proofs
set_option linter.unusedVariables false
set_option linter.unusedSimpArgs false
set_option maxRecDepth 100000
def p_limelightref3_ReadElems_l0 {β : Type} (k : Nat) (kE0 : (List T_api_Elem) → Option β) (kE1 : Int → Option β) (x0 : Int) (x1 : (List Int)) (x6 : (List T_api_Elem)) (x7 : Int) : Option β := match k with
| 0 => none
| k + 1 =>
bif decide (x7 < ((x1.length : Int))) then (
(ix x1 x7).bind fun a13 =>
bif a13 == 0 then (
p_limelightref3_ReadElems_l0 k kE0 kE1 x0 x1 x6 (IntKind.wrap .i64 (x7 + 1)))
else (
(ix x1 x7).bind fun a16 =>
(ix x1 x7).bind fun a19 =>
(bif x0 == 48862 then ((bif (IntKind.wrap .i64 (Int.fdiv a16 (2 ^ 4))) == 15 then (some true) else (some ((IntKind.wrap .i64 (Int.fdiv a16 (2 ^ 4))) == 0))).bind fun b22 =>
some b22) else (some false)).bind fun b26 =>
bif b26 then (
kE0 x6)
else (
bif x0 == 4096 then (
bif decide ((IntKind.wrap .i64 (x7 + 1)) ≥ ((x1.length : Int))) then (
kE1 13)
else (
(ix x1 x7).bind fun a30 =>
(ix x1 (IntKind.wrap .i64 (x7 + 1))).bind fun a33 =>
(p_limelightref1_Cut x1 (IntKind.wrap .i64 (x7 + 2)) (IntKind.wrap .i64 a33)).bind fun r36 =>
bif !r36.2 then (
kE1 13)
else (
(ap 32 x6 ([((⟨(IntKind.wrap .i64 a30), r36.1⟩ : T_api_Elem))])).bind fun a44 =>
p_limelightref3_ReadElems_l0 k kE0 kE1 x0 x1 a44 (IntKind.wrap .i64 ((IntKind.wrap .i64 (x7 + 2)) + (IntKind.wrap .i64 a33))))))
else (
(p_limelightref1_Cut x1 (IntKind.wrap .i64 (x7 + 1)) (IntKind.wrap .i64 ((IntKind.wrap .i64 (intBits .and .u8 a19 15)) + 1))).bind fun r50 =>
bif !r50.2 then (
kE1 13)
else (
(ap 32 x6 ([((⟨(IntKind.wrap .i64 (Int.fdiv a16 (2 ^ 4))), r50.1⟩ : T_api_Elem))])).bind fun a58 =>
p_limelightref3_ReadElems_l0 k kE0 kE1 x0 x1 a58 (IntKind.wrap .i64 ((IntKind.wrap .i64 (x7 + 1)) + (IntKind.wrap .i64 ((IntKind.wrap .i64 (intBits .and .u8 a19 15)) + 1)))))))))
else (
kE0 x6)
def p_limelightref3_ReadElems (k : Nat) (x0 : Int) (x1 : (List Int)) : Option ((List T_api_Elem) × Int) :=
(bif x0 != 48862 then (some (x0 != 4096)) else (some false)).bind fun b1 =>
bif b1 then (
some ((([] : List T_api_Elem)), 1))
else (
p_limelightref3_ReadElems_l0 k (fun r72_6 =>
bif decide (((r72_6.length : Int)) > 8) then (
some ((([] : List T_api_Elem)), 3))
else (
some (r72_6, 0))) (fun r83_5 =>
some ((([] : List T_api_Elem)), r83_5)) x0 x1 (([] : List T_api_Elem)) 0)
theorem limelightref3_ReadElems_l0_ok {h : H}  {β α : Type} {Q : β → α → Prop} {K : Exit × Env × H → Option α} {kE0 : (List T_api_Elem) → Option β} {kE1 : Int → Option β} (hE0 : ∀ (q6 : (List T_api_Elem)) (v66 : V) (H64 : Go.Ev.H) (_ : Fm 97 h [] [] [⟨[89], v66, dT_api_Elem, q6⟩] H64), Sim (kE0 q6) (K ((.exit 0), (envL [(6, v66)]), H64)) Q) (hE1 : ∀ (q5 : Int) (H68 : Go.Ev.H) (_ : Fm 97 h [] [] [] H68), Sim (kE1 q5) (K (.ret, (envL [(4, (.p (.slice none 0 0))), (5, (.p (.int .i64 q5)))]), H68)) Q) (k : Nat) : ∀ (x0 : Int) (x1 : (List Int)) (x6 : (List T_api_Elem)) (x7 : Int) (v9 : V) (h10 : SlH h (dI .u8) x1 v9) (v11 : V) (H7 : Go.Ev.H) (_ : Fm 97 h [] [] [⟨[89], v11, dT_api_Elem, x6⟩] H7) {σ : Stamp}, Sim (p_limelightref3_ReadElems_l0 k kE0 kE1 x0 x1 x6 x7) ((cvL G X0 limelightref3_ReadElems_c0 limelightref3_ReadElems_l0 σ (envL [(0, (.p (.int .u16 x0))), (1, v9), (6, v11), (7, (.p (.int .i64 x7)))]) H7).bind K) Q := by
  induction k with
  | zero => intros; exact Sim.no
  | succ k ih =>
    intro x0 x1 x6 x7 v9 h10 v11 H7 S8 σ
    rw [p_limelightref3_ReadElems_l0]
    refine Sim.round (Sim.ext (limelightref3_ReadElems_r0 _ _ _ _ _ _ _ _) ?_)
    refine Sim.op ((S8.low h10).len) ?_
    refine Sim.op (castI_p _ _) ?_
    refine Sim.cd (fun hc => ?_) (fun hc => ?_)
    · refine Sim.bd fun a13 h14 => ?_
      refine Sim.op ((S8.low h10).iS h14 rfl) ?_
      obtain ⟨_, rfl, hE15⟩ := (S8.low h10).el h14 rfl
      refine Sim.op (hE15.ld (j := 0) rfl) ?_
      refine Sim.op (castI_p _ _) ?_
      refine Sim.cd (fun hc => ?_) (fun hc => ?_)
      · exact ih x0 x1 x6 (IntKind.wrap .i64 (x7 + 1)) v9 h10 v11 H7 (S8.wk2 all_nil (all_cons ⟨[89], by simp, at_mem 0 rfl⟩ all_nil))
      · refine Sim.bd fun a16 h17 => ?_
        refine Sim.op ((S8.low h10).iS h17 rfl) ?_
        obtain ⟨_, rfl, hE18⟩ := (S8.low h10).el h17 rfl
        refine Sim.op (hE18.ld (j := 0) rfl) ?_
        refine Sim.op (castI_p _ _) ?_
        refine Sim.bd fun a19 h20 => ?_
        refine Sim.op ((S8.low h10).iS h20 rfl) ?_
        obtain ⟨_, rfl, hE21⟩ := (S8.low h10).el h20 rfl
        refine Sim.op (hE21.ld (j := 0) rfl) ?_
        refine Sim.op (castI_p _ _) ?_
        refine Sim.ch (P := fun r y => r = y) ?_ (fun b26 y27 h28 h29 => ?_)
        · refine Sim.cd (fun hc => ?_) (fun hc => ?_)
          · refine Sim.ch (P := fun r y => r = y) ?_ (fun b22 y23 h24 h25 => ?_)
            · refine Sim.cd (fun hc => ?_) (fun hc => ?_)
              · exact Sim.ret rfl rfl
              · exact Sim.ret rfl rfl
            subst h25
            exact Sim.ret rfl rfl
          · exact Sim.ret rfl rfl
        subst h29
        refine Sim.cd (fun hc => ?_) (fun hc => ?_)
        · exact hE0 x6 v11 H7 (S8.wk2 all_nil (all_cons ⟨[89], by simp, at_mem 0 rfl⟩ all_nil))
        · refine Sim.cd (fun hc => ?_) (fun hc => ?_)
          · refine Sim.op ((S8.low h10).len) ?_
            refine Sim.op (castI_p _ _) ?_
            refine Sim.cd (fun hc => ?_) (fun hc => ?_)
            · exact hE1 13 H7 (S8.wk2 all_nil all_nil)
            · refine Sim.bd fun a30 h31 => ?_
              refine Sim.op ((S8.low h10).iS h31 rfl) ?_
              obtain ⟨_, rfl, hE32⟩ := (S8.low h10).el h31 rfl
              refine Sim.op (hE32.ld (j := 0) rfl) ?_
              refine Sim.op (castI_p _ _) ?_
              refine Sim.bd fun a33 h34 => ?_
              refine Sim.op ((S8.low h10).iS h34 rfl) ?_
              obtain ⟨_, rfl, hE35⟩ := (S8.low h10).el h34 rfl
              refine Sim.op (hE35.ld (j := 0) rfl) ?_
              refine Sim.op (castI_p _ _) ?_
              refine Sim.call (limelightref1_Cut_ok x1 (S8.low h10) (IntKind.wrap .i64 (x7 + 2)) (IntKind.wrap .i64 a33)) fun r36 cs37 H38 h39 q40 => ?_
              obtain ⟨v41, h42, q40⟩ := q40
              cases q40
              refine Sim.op (rfl) ?_
              refine Sim.op (rfl) ?_
              refine Sim.op (asB_p _) ?_
              refine Sim.cd (fun hc => ?_) (fun hc => ?_)
              · exact hE1 13 H7 (S8.wk2 all_nil all_nil)
              · refine Sim.op (bldV (pt_cons rfl (pt_cons h42.still.cells pt_nil)) (by kernel_rfl : _ = some (.agg [.p (.int .i64 (IntKind.wrap .i64 a30)), v41]))) ?_
                have h43 : SlF dT_api_Elem [((⟨(IntKind.wrap .i64 a30), r36.1⟩ : T_api_Elem))] (.fz [(.p (.int .i64 (IntKind.wrap .i64 a30))), v41] 1 2 true) := SlF.lit (cs := [(.p (.int .i64 (IntKind.wrap .i64 a30))), v41]) (RL.cons (show dT_api_Elem.R ((⟨(IntKind.wrap .i64 a30), r36.1⟩ : T_api_Elem)) [.p (.int .i64 (IntKind.wrap .i64 a30)), v41] from (dT_api_Elem.mk h42)) RL.nil) rfl rfl true
                refine Sim.op (bldS (pt_cons (c := [.p (.int .i64 (IntKind.wrap .i64 a30)), v41]) rfl pt_nil) (by kernel_rfl : _ = some (.fz [(.p (.int .i64 (IntKind.wrap .i64 a30))), v41] 1 2 true))) ?_
                refine Sim.bd fun a44 h45 => ?_
                obtain ⟨v46, H47, e48, S49⟩ := S8.app (i := 0) (d := 89) (e := 2) (own := false) (σ := (5 :: 0 :: 1 :: 1 :: 1 :: 1 :: 1 :: 1 :: 1 :: 0 :: σ)) rfl (h43.h H7).y h45 rfl (by decide) (by decide) rfl
                refine Sim.op (e48) ?_
                exact ih x0 x1 a44 (IntKind.wrap .i64 ((IntKind.wrap .i64 (x7 + 2)) + (IntKind.wrap .i64 a33))) v9 h10 v46 H47 (S49.wk2 all_nil (all_cons ⟨[89, 89], by simp, at_mem 0 rfl⟩ all_nil))
          · refine Sim.call (limelightref1_Cut_ok x1 (S8.low h10) (IntKind.wrap .i64 (x7 + 1)) (IntKind.wrap .i64 ((IntKind.wrap .i64 (intBits .and .u8 a19 15)) + 1))) fun r50 cs51 H52 h53 q54 => ?_
            obtain ⟨v55, h56, q54⟩ := q54
            cases q54
            refine Sim.op (rfl) ?_
            refine Sim.op (rfl) ?_
            refine Sim.op (asB_p _) ?_
            refine Sim.cd (fun hc => ?_) (fun hc => ?_)
            · exact hE1 13 H7 (S8.wk2 all_nil all_nil)
            · refine Sim.op (bldV (pt_cons rfl (pt_cons h56.still.cells pt_nil)) (by kernel_rfl : _ = some (.agg [.p (.int .i64 (IntKind.wrap .i64 (Int.fdiv a16 (2 ^ 4)))), v55]))) ?_
              have h57 : SlF dT_api_Elem [((⟨(IntKind.wrap .i64 (Int.fdiv a16 (2 ^ 4))), r50.1⟩ : T_api_Elem))] (.fz [(.p (.int .i64 (IntKind.wrap .i64 (Int.fdiv a16 (2 ^ 4))))), v55] 1 2 true) := SlF.lit (cs := [(.p (.int .i64 (IntKind.wrap .i64 (Int.fdiv a16 (2 ^ 4))))), v55]) (RL.cons (show dT_api_Elem.R ((⟨(IntKind.wrap .i64 (Int.fdiv a16 (2 ^ 4))), r50.1⟩ : T_api_Elem)) [.p (.int .i64 (IntKind.wrap .i64 (Int.fdiv a16 (2 ^ 4)))), v55] from (dT_api_Elem.mk h56)) RL.nil) rfl rfl true
              refine Sim.op (bldS (pt_cons (c := [.p (.int .i64 (IntKind.wrap .i64 (Int.fdiv a16 (2 ^ 4)))), v55]) rfl pt_nil) (by kernel_rfl : _ = some (.fz [(.p (.int .i64 (IntKind.wrap .i64 (Int.fdiv a16 (2 ^ 4))))), v55] 1 2 true))) ?_
              refine Sim.bd fun a58 h59 => ?_
              obtain ⟨v60, H61, e62, S63⟩ := S8.app (i := 0) (d := 89) (e := 2) (own := false) (σ := (5 :: 0 :: 1 :: 1 :: 1 :: 1 :: 1 :: 1 :: 1 :: 0 :: σ)) rfl (h57.h H7).y h59 rfl (by decide) (by decide) rfl
              refine Sim.op (e62) ?_
              exact ih x0 x1 a58 (IntKind.wrap .i64 ((IntKind.wrap .i64 (x7 + 1)) + (IntKind.wrap .i64 ((IntKind.wrap .i64 (intBits .and .u8 a19 15)) + 1)))) v9 h10 v60 H61 (S63.wk2 all_nil (all_cons ⟨[89, 89], by simp, at_mem 0 rfl⟩ all_nil))
    · exact hE0 x6 v11 H7 (S8.wk2 all_nil (all_cons ⟨[89], by simp, at_mem 0 rfl⟩ all_nil))
theorem limelightref3_ReadElems_ok (k : Nat) {h : H} {σ : Stamp} (x0 : Int) (x1 : List Int) {u1 : V} (hu1 : SlH h (dI .u8) x1 u1) : Sim (p_limelightref3_ReadElems k x0 x1) (ev G X0 55 σ [(.p (.int .u16 x0)), u1] h) (fun r s => ∃ (v0 : V), SlF dT_api_Elem r.1 v0 ∧ s = ([.v v0, .v (.p (.int .i64 r.2))], h)) := by
  refine Sim.ev rfl (Sim.ext (limelightref3_ReadElems_entry _ _ _ _ _ _) ?_)
  rw [p_limelightref3_ReadElems]
  have S0 : Fm 97 h [] [] [] (List.replicate 97 [] :: h) := Fm.start0
  refine Sim.ch (P := fun r y => r = y) ?_ (fun b1 y2 h3 h4 => ?_)
  · refine Sim.cd (fun hc => ?_) (fun hc => ?_)
    · exact Sim.ret rfl rfl
    · exact Sim.ret rfl rfl
  subst h4
  refine Sim.cd (fun hc => ?_) (fun hc => ?_)
  · exact Sim.fin (S0.finN (lv_cons (SlF.nil dT_api_Elem).still.lv (lv_cons (still_int _ _).lv lv_nil))) ⟨(.p (.slice none 0 0)), (SlF.nil dT_api_Elem), rfl⟩
  · have S71 := S0.nil dT_api_Elem []
    refine Sim.as (limelightref3_ReadElems_l0_ok ?_ ?_ k x0 x1 (([] : List T_api_Elem)) 0 u1 hu1 (.p (.slice none 0 0)) (List.replicate 97 [] :: h) (S71.wk2 all_nil (all_cons ⟨[], by simp, at_mem 0 rfl⟩ all_nil))) 
    · intro r72_6 v75 H73 S74
      refine Sim.ext (limelightref3_ReadElems_a0_0 _ _ _ _ _) ?_
      refine Sim.op ((S74.sl (i := 0) rfl).len) ?_
      refine Sim.op (castI_p _ _) ?_
      refine Sim.cd (fun hc => ?_) (fun hc => ?_)
      · exact Sim.fin (S74.finN (lv_cons (SlF.nil dT_api_Elem).still.lv (lv_cons (still_int _ _).lv lv_nil))) ⟨(.p (.slice none 0 0)), (SlF.nil dT_api_Elem), rfl⟩
      · obtain ⟨v82, H77, e78, h80, S79⟩ := S74.expFrz (i := 0) (τ := 0 :: 1 :: σ) rfl rfl
        exact Sim.fin (S79.finE (Ex.st e78 (Ex.pl (still_int _ _).lv Ex.nil))) ⟨v82, h80, rfl⟩
    · intro r83_5 H84 S85
      refine Sim.ext (limelightref3_ReadElems_a0_ret _ _ _ _ _ _) ?_
      exact Sim.fin (S85.finN (lv_cons (SlF.nil dT_api_Elem).still.lv (lv_cons (still_int _ _).lv lv_nil))) ⟨(.p (.slice none 0 0)), (SlF.nil dT_api_Elem), rfl⟩
end Go.Ev
/- Lifted by lift.py: limelightref3_Rid as a plain function. -/
namespace Go.Ev
open Go.Proofs
set_option linter.unusedVariables false
set_option linter.unusedSimpArgs false
set_option maxRecDepth 100000
def p_limelightref3_Rid (k : Nat) (x0 : T_api_Rtp) : Option (ByteArray × Bool) :=
(p_limelightref3_ReadElems k x0.Profile x0.Ext).bind fun r11 =>
bif r11.2 != 0 then (
some (((⟨#[]⟩ : ByteArray)), false))
else (
(p_limelightref3_Find k r11.1 1).bind fun r18 =>
(bif !r18.2 then (some true) else ((p_limelightref1_Rid (strB r18.1)).bind fun r25 =>
some (!r25))).bind fun b30 =>
bif b30 then (
some (((⟨#[]⟩ : ByteArray)), false))
else (
some ((strB r18.1), true)))
theorem limelightref3_Rid_ok (k : Nat) {h : H} {σ : Stamp} (x0 : T_api_Rtp) {u0 : List V} (hu0 : dT_api_Rtp.R x0 u0) : Sim (p_limelightref3_Rid k x0) (ev G X0 27 σ [(.agg u0)] h) (fun r s => s = ([.v (.p (.string r.1)), .v (.p (.bool r.2))], h)) := by
  refine Sim.ev rfl (Sim.ext (limelightref3_Rid_entry _ _ _ _ _) ?_)
  rw [p_limelightref3_Rid]
  obtain ⟨v1, v3, v5, rfl, h2, h4, h6⟩ := dT_api_Rtp.inv hu0
  have S0 : Fm 33 h [] [] [] (List.replicate 33 [] :: h) := Fm.start0
  obtain ⟨H7, e8, S9⟩ := S0.box (own := false) (d := 1) (s := (0 :: 0 :: 0 :: σ)) (xs := [(.p (.bool x0.Marker)), (.p (.int .i64 x0.f_Type)), (.p (.int .u16 x0.Seq)), (.p (.int .u32 x0.Time)), (.p (.int .u32 x0.Ssrc)), v1, (.p (.int .u16 x0.Profile)), v3, v5]) (stills_cons (still_bool _) (stills_cons (still_int _ _) (stills_cons (still_int _ _) (stills_cons (still_int _ _) (stills_cons (still_int _ _) (stills_cons h2.still (stills_cons (still_int _ _) (stills_cons h4.still (stills_cons h6.still stills_nil))))))))) (by decide) rfl
  refine Sim.op (e8) ?_
  refine Sim.op (fA_ref _ _ _) ?_
  refine Sim.op ((S9.atG (i := 0) rfl).ld (j := 6) rfl) ?_
  refine Sim.op (castI_p _ _) ?_
  refine Sim.op (fA_ref _ _ _) ?_
  refine Sim.op ((S9.atG (i := 0) rfl).ld (j := 7) rfl) ?_
  refine Sim.call (limelightref3_ReadElems_ok k x0.Profile x0.Ext (h4.h H7)) fun r11 cs12 H13 h14 q15 => ?_
  obtain ⟨v16, h17, q15⟩ := q15
  cases q15
  refine Sim.op (rfl) ?_
  refine Sim.op (rfl) ?_
  refine Sim.op (castI_p _ _) ?_
  refine Sim.cd (fun hc => ?_) (fun hc => ?_)
  · exact Sim.fin (S9.finN (lv_cons (still_str _).lv (lv_cons (still_bool _).lv lv_nil))) rfl
  · refine Sim.call (limelightref3_Find_ok k r11.1 (h17.h H7) 1) fun r18 cs19 H20 h21 q22 => ?_
    obtain ⟨v23, h24, q22⟩ := q22
    cases q22
    refine Sim.op (rfl) ?_
    refine Sim.op (rfl) ?_
    refine Sim.op (asB_p _) ?_
    refine Sim.ch (P := fun r y => (.p (.bool r), H7) = y) ?_ (fun b30 y31 h32 h33 => ?_)
    · refine Sim.cd (fun hc => ?_) (fun hc => ?_)
      · exact Sim.ret rfl rfl
      · refine Sim.op ((h24.h H7).str) ?_
        refine Sim.op (castS_p _) ?_
        refine Sim.call (limelightref1_Rid_ok (strB r18.1)) fun r25 cs26 H27 h28 q29 => ?_
        cases q29
        refine Sim.op (asB_p _) ?_
        exact Sim.ret rfl rfl
    subst h33
    refine Sim.op (asB_p _) ?_
    refine Sim.cd (fun hc => ?_) (fun hc => ?_)
    · exact Sim.fin (S9.finN (lv_cons (still_str _).lv (lv_cons (still_bool _).lv lv_nil))) rfl
    · refine Sim.op ((h24.h H7).str) ?_
      refine Sim.op (castS_p _) ?_
      exact Sim.fin (S9.finN (lv_cons (still_str _).lv (lv_cons (still_bool _).lv lv_nil))) rfl
end Go.Ev
namespace Go.Ev
/-- The document's reading is the program's, of any bytes. -/
def isB (xs : List Int) : Prop := ∀ x ∈ xs, 0 ≤ x ∧ x < 256
theorem cut_same (xs : List Int) (a n : Int) : p_limelightref1_Cut xs a n = p_octet_Cut xs a n := rfl
theorem cut_cases {xs : List Int} {a n : Nat} (hl : xs.length < 2 ^ 39) : (p_octet_Cut xs (a : Int) (n : Int) = some ((xs.drop a).take n, true) ∧ a + n ≤ xs.length) ∨ p_octet_Cut xs (a : Int) (n : Int) = some ([], false) := by
  by_cases h : a + n ≤ xs.length
  · exact .inl ⟨cut_ok h hl, h⟩
  · exact .inr (cut_no (by omega) hl)
theorem read_same {β : Type} (kE0 : List T_api_Elem → Option β) (kE1 : Int → Option β) (p : Int) (hp : p = 48862 ∨ p = 4096) (xs : List Int) (hx : isB xs) (hl : xs.length < 2 ^ 39) : ∀ (k : Nat) (out : List T_api_Elem) (i : Nat), i ≤ xs.length → p_limelightref3_ReadElems_l0 k kE0 kE1 p xs out (i : Int) = p_ext_Read_l0 k kE0 kE1 p xs out (i : Int)
  | 0, _, _, _ => by rw [p_limelightref3_ReadElems_l0, p_ext_Read_l0]
  | k + 1, out, i, hi => by
    have ih := read_same kE0 kE1 p hp xs hx hl k
    rw [p_limelightref3_ReadElems_l0, p_ext_Read_l0]
    by_cases h : i < xs.length
    · have d1 : decide ((i : Int) < (xs.length : Int)) = true := by simp; omega
      obtain ⟨v, hv⟩ : ∃ v, xs[i]? = some v := ⟨xs[i], by simp [h]⟩
      have hvb := hx v (List.mem_of_getElem? hv)
      have hv' := ix_at hv
      have e1 : IntKind.wrap .i64 ((i : Int) + 1) = ((i + 1 : Nat) : Int) := by rw [wrap_i64 (by omega) (by omega)]; rfl
      simp only [d1, cond_true, hv', Option.bind_some]
      cases h0 : (v == 0) with
      | true => simp only [cond_true, e1]; exact ih out (i + 1) (by omega)
      | false =>
        simp only [cond_false]
        have wv : IntKind.wrap .i64 v = v := wrap_i64 (by omega) (by omega)
        rcases hp with rfl | rfl
        · -- one byte's heads
          have hn : ∃ n : Nat, IntKind.wrap .i64 ((IntKind.wrap .i64 (intBits .and .u8 v 15)) + 1) = (n : Int) ∧ n ≤ 16 := by
            have : ∀ a : Fin 256, 0 ≤ intBits .and .u8 (a.1 : Int) 15 ∧ intBits .and .u8 (a.1 : Int) 15 ≤ 15 := by decide +kernel
            have := this ⟨v.toNat, by omega⟩
            simp only [Int.toNat_of_nonneg hvb.1] at this
            generalize intBits .and .u8 v 15 = m at this
            refine ⟨(m + 1).toNat, ?_, by omega⟩
            rw [wrap_i64 (n := m) (by omega) (by omega), wrap_i64 (by omega) (by omega)]
            omega
          obtain ⟨n, hn, hn16⟩ := hn
          have hq : ∃ q, Int.fdiv v (2 ^ 4) = q ∧ IntKind.wrap .i64 q = q := by
            refine ⟨_, rfl, ?_⟩
            rw [Int.fdiv_eq_ediv_of_nonneg _ (by decide)]
            exact wrap_i64 (by omega) (by omega)
          obtain ⟨q, hq, wq⟩ := hq
          unfold p_ext_next
          simp only [show ((48862 : Int) == 48862) = true from rfl, show ((48862 : Int) == 4096) = false from rfl, cond_true, cond_false, hv', Option.bind_some, wv, hn, e1, hq, wq]
          cases h15 : (q == 15) with
          | true =>
            have : (q != 15) = false := by simp [bne, h15]
            simp only [cond_true, Option.bind_some, this]
            cases (q != 0) <;> simp
          | false =>
            have h15' : (q != 15) = true := by simp [bne, h15]
            cases hq0 : (q == 0) with
            | true =>
              have : (q != 0) = false := by simp [bne, hq0]
              simp only [cond_true, cond_false, Option.bind_some, this]
              simp
            | false =>
              have hq0' : (q != 0) = true := by simp [bne, hq0]
              simp only [cond_true, cond_false, Option.bind_some, hq0', h15', Bool.not_true, cut_same]
              rcases cut_cases (xs := xs) (a := i + 1) (n := n) hl with ⟨c, hc⟩ | c
              · rw [c, Option.bind_some, Option.bind_some]
                simp only [Bool.not_true, cond_false]
                congr 1; funext a
                have : IntKind.wrap .i64 (((i + 1 : Nat) : Int) + (n : Int)) = ((i + 1 + n : Nat) : Int) := by rw [wrap_i64 (by omega) (by omega)]; rfl
                rw [this]; exact ih a (i + 1 + n) hc
              · rw [c]; rfl
        · -- two bytes' heads
          unfold p_ext_next
          simp only [show ((4096 : Int) == 48862) = false from rfl, show ((4096 : Int) == 4096) = true from rfl, cond_false, cond_true, Option.bind_some, e1]
          by_cases h2 : i + 1 < xs.length
          · have d2 : decide (((i + 1 : Nat) : Int) ≥ (xs.length : Int)) = false := by simp; omega
            obtain ⟨u, hu⟩ : ∃ u, xs[i + 1]? = some u := ⟨xs[i + 1], by simp [h2]⟩
            have hub := hx u (List.mem_of_getElem? hu)
            have e2 : IntKind.wrap .i64 ((i : Int) + 2) = ((i + 2 : Nat) : Int) := by rw [wrap_i64 (by omega) (by omega)]; rfl
            have wu : IntKind.wrap .i64 u = u := wrap_i64 (by omega) (by omega)
            simp only [d2, cond_false, hv', ix_at hu, Option.bind_some, wu, wv, e2, cut_same, Bool.not_true]
            obtain ⟨n, rfl⟩ : ∃ n : Nat, u = (n : Int) := ⟨u.toNat, by omega⟩
            rcases cut_cases (xs := xs) (a := i + 2) (n := n) hl with ⟨c, hc⟩ | c
            · rw [c, Option.bind_some, Option.bind_some]
              simp only [Bool.not_true, cond_false]
              congr 1; funext a
              have : IntKind.wrap .i64 (((i + 2 : Nat) : Int) + (n : Int)) = ((i + 2 + n : Nat) : Int) := by rw [wrap_i64 (by omega) (by omega)]; rfl
              rw [this]; exact ih a (i + 2 + n) hc
            · rw [c]; rfl
          · have d2 : decide (((i + 1 : Nat) : Int) ≥ (xs.length : Int)) = true := by simp; omega
            simp only [d2, cond_true, hv', Option.bind_some, Bool.not_true, cond_false]
            rw [cut_no (a := i + 1) (n := xs.length) (by omega) hl]
            rfl
    · have d1 : decide ((i : Int) < (xs.length : Int)) = false := by simp; omega
      rw [d1, cond_false, cond_false]
theorem readElems_same (k : Nat) (p : Int) {xs : List Int} (hx : isB xs) (hl : xs.length < 2 ^ 39) : p_limelightref3_ReadElems k p xs = p_ext_Read k p xs := by
  unfold p_limelightref3_ReadElems p_ext_Read
  by_cases h1 : p = 48862
  · subst h1
    simp only [show ((48862 : Int) != 48862) = false from rfl, cond_false, Option.bind_some]
    exact read_same _ _ _ (.inl rfl) xs hx hl k [] 0 (by omega)
  · have : (p != 48862) = true := by simpa using h1
    simp only [this, cond_true, Option.bind_some]
    by_cases h2 : p = 4096
    · subst h2
      simp only [show ((4096 : Int) != 4096) = false from rfl, cond_false]
      exact read_same _ _ _ (.inr rfl) xs hx hl k [] 0 (by omega)
    · have : (p != 4096) = true := by simpa using h2
      simp only [this, cond_true]
def findD (l : List T_api_Elem) (id : Int) : List Int × Bool := match l.find? (fun e => e.ID == id) with | some e => (e.Data, true) | none => ([], false)
theorem findI {β : Type} (kE0 : Unit → Option β) (kE1 : Int → Option β) (l : List T_api_Elem) (hl : l.length < 2 ^ 30) (id : Int) : ∀ (mid pre : List T_api_Elem) (j : Nat), l = pre ++ mid → (∀ x ∈ mid, x.ID ≠ id) →
    p_slices_IndexFunc_Lapi_Elem_api_Elem_ext_Find_1_l0 (j + mid.length + 1) kE0 kE1 l id (l.length : Int) (pre.length : Int) = kE0 ()
  | [], pre, j, h, _ => by
    rw [p_slices_IndexFunc_Lapi_Elem_api_Elem_ext_Find_1_l0]
    have h1 : decide ((pre.length : Int) < (l.length : Int)) = false := by subst h; simp
    rw [h1, cond_false]
  | x :: mid, pre, j, h, hn => by
    rw [List.length_cons, show j + (mid.length + 1) + 1 = (j + mid.length + 1) + 1 from rfl, p_slices_IndexFunc_Lapi_Elem_api_Elem_ext_Find_1_l0]
    have h1 : decide ((pre.length : Int) < (l.length : Int)) = true := by subst h; simp; omega
    have h2 : ix l (pre.length : Int) = some x := ix_mid' h rfl
    have h3 : p_ext_Find_1 x id = some false := by simpa [p_ext_Find_1] using hn x (List.mem_cons_self ..)
    have h4 : IntKind.wrap .i64 ((pre.length : Int) + 1) = (((pre ++ [x]).length : Nat) : Int) := by
      rw [wrap_i64 (by omega) (by have : pre.length ≤ l.length := by subst h; simp
                                  omega)]
      simp
    rw [h1, cond_true, h2, Option.bind_some, h3, Option.bind_some, cond_false, h4, findI kE0 kE1 l hl id mid (pre ++ [x]) j (by rw [h]; simp) fun y hy => hn y (List.mem_cons_of_mem _ hy)]
theorem find_eq {l : List T_api_Elem} {id : Int} {k : Nat} (hl : l.length < k) (hk : l.length < 2 ^ 30) (hd : ∀ e ∈ l, e.Data.length < 2 ^ 40) : p_ext_Find k l id = some (findD l id) := by
  unfold findD
  cases hf : l.find? (fun e => e.ID == id) with
  | some e =>
    obtain ⟨h1, pre, suf, h2, h3⟩ := List.find?_eq_some_iff_append.1 hf
    have hm : e ∈ l := by rw [h2]; simp
    unfold p_ext_Find p_slices_IndexFunc_Lapi_Elem_api_Elem_ext_Find_1
    have hlen : pre.length < l.length := by subst h2; simp
    have := fun kE0 (kE1 : Int → Option Int) => find_l0 kE0 kE1 l hk id e suf (by simpa using h1) pre [] (k - pre.length - 1) (by simpa using h2) (fun x hx => by simpa using h3 x hx)
    simp only [show k - pre.length - 1 + pre.length + 1 = k by omega, List.length_nil] at this
    rw [show ((0 : Nat) : Int) = 0 from rfl] at this
    rw [this, Option.bind_some, Nat.zero_add]
    have h0 : decide (((pre.length : Nat) : Int) < 0) = false := by simp
    rw [h0, cond_false, ix_mid' h2 rfl, Option.bind_some, clone_eq (by decide) (hd e hm)]
    rfl
  | none =>
    have hn : ∀ x ∈ l, x.ID ≠ id := fun x hx => by simpa using List.find?_eq_none.1 hf x hx
    unfold p_ext_Find p_slices_IndexFunc_Lapi_Elem_api_Elem_ext_Find_1
    have := fun kE0 (kE1 : Int → Option Int) => findI kE0 kE1 l hk id l [] (k - l.length - 1) rfl hn
    simp only [show k - l.length - 1 + l.length + 1 = k by omega, List.length_nil] at this
    rw [show ((0 : Nat) : Int) = 0 from rfl] at this
    rw [this, Option.bind_some]
    rfl
theorem rfind_l0 {β : Type} (kE0 : Unit → Option β) (kE1 : List Int → Bool → Option β) (l : List T_api_Elem) (hl : l.length < 2 ^ 30) (hd : ∀ e ∈ l, e.Data.length < 2 ^ 40) (id : Int) : ∀ (rest pre : List T_api_Elem) (j : Nat), l = pre ++ rest →
    p_limelightref3_Find_l0 (j + rest.length + 1) kE0 kE1 id l (l.length : Int) (pre.length : Int) = match rest.find? (fun e => e.ID == id) with | some e => kE1 e.Data true | none => kE0 ()
  | [], pre, j, h => by
    rw [p_limelightref3_Find_l0]
    have h1 : decide ((pre.length : Int) < (l.length : Int)) = false := by subst h; simp
    rw [h1, cond_false]; rfl
  | x :: rest, pre, j, h => by
    rw [List.length_cons, show j + (rest.length + 1) + 1 = (j + rest.length + 1) + 1 from rfl, p_limelightref3_Find_l0]
    have h1 : decide ((pre.length : Int) < (l.length : Int)) = true := by subst h; simp; omega
    have h2 : ix l (pre.length : Int) = some x := ix_mid' h rfl
    have h4 : IntKind.wrap .i64 ((pre.length : Int) + 1) = (((pre ++ [x]).length : Nat) : Int) := by
      rw [wrap_i64 (by omega) (by have : pre.length ≤ l.length := by subst h; simp
                                  omega)]
      simp
    have hm : x ∈ l := by rw [h]; simp
    rw [h1, cond_true, h2, Option.bind_some]
    rw [List.find?_cons]
    cases hc : (x.ID == id) with
    | true =>
      have := hd x hm
      rw [cond_true, ap_eq (by decide) (by simpa using this)]; rfl
    | false => rw [cond_false, h4, rfind_l0 kE0 kE1 l hl hd id rest (pre ++ [x]) j (by rw [h]; simp)]
theorem rfind_eq {l : List T_api_Elem} {id : Int} {k : Nat} (hl : l.length < k) (hk : l.length < 2 ^ 30) (hd : ∀ e ∈ l, e.Data.length < 2 ^ 40) : p_limelightref3_Find k l id = some (findD l id) := by
  unfold p_limelightref3_Find findD
  have := fun kE0 (kE1 : List Int → Bool → Option (List Int × Bool)) => rfind_l0 kE0 kE1 l hk hd id l [] (k - l.length - 1) rfl
  simp only [show k - l.length - 1 + l.length + 1 = k by omega, List.length_nil] at this
  rw [show ((0 : Nat) : Int) = 0 from rfl] at this
  rw [this]
  cases l.find? (fun e => e.ID == id) <;> rfl
end Go.Ev
/- Equations, printed by tracer2.py. -/
namespace Go.Ev
open Go.Proofs
set_option linter.unusedVariables false
set_option maxRecDepth 100000
-- 21 limelight/limelightbook.Within
theorem limelightbook_Within_entry (rec : CallF) (loop : LoopV) (σ : Stamp) (x0 : Int) (x1 : Int) (x2 : Int) (h : H) : cvBody G rec loop 21 σ [(.p (.int .i64 x0)), (.p (.int .i64 x1)), (.p (.int .i64 x2))] h =
 (bif decide (x0 ≥ x1) then (some (decide (x0 ≤ x2))) else (some false)).bind fun b1 =>
 bif b1 then (
 fin false σ (List.replicate 33 [] :: h) [(.p (.int .i64 x0))])
 else (
 (remI .i64 x0 (IntKind.wrap .i64 ((IntKind.wrap .i64 (x2 - x1)) + 1))).bind fun t2 =>
 (castI .i64 t2).bind fun n3 =>
 bif decide (n3 < 0) then (
 fin false σ (List.replicate 33 [] :: h) [(.p (.int .i64 (IntKind.wrap .i64 (x1 + (IntKind.wrap .i64 ((IntKind.wrap .i64 ((IntKind.wrap .i64 (n3 + x2)) - x1)) + 1))))))])
 else (
 fin false σ (List.replicate 33 [] :: h) [(.p (.int .i64 (IntKind.wrap .i64 (x1 + n3))))])) := by kernel_rfl
end Go.Ev
/- Lifted by lift.py: limelightbook_Within as a plain function. -/
namespace Go.Ev
open Go.Proofs
set_option linter.unusedVariables false
set_option linter.unusedSimpArgs false
set_option maxRecDepth 100000
def p_limelightbook_Within (x0 : Int) (x1 : Int) (x2 : Int) : Option (Int) :=
(bif decide (x0 ≥ x1) then (some (decide (x0 ≤ x2))) else (some false)).bind fun b1 =>
bif b1 then (
some (x0))
else (
(remP x0 (IntKind.wrap .i64 ((IntKind.wrap .i64 (x2 - x1)) + 1))).bind fun n5 =>
bif decide (n5 < 0) then (
some ((IntKind.wrap .i64 (x1 + (IntKind.wrap .i64 ((IntKind.wrap .i64 ((IntKind.wrap .i64 (n5 + x2)) - x1)) + 1))))))
else (
some ((IntKind.wrap .i64 (x1 + n5)))))
theorem limelightbook_Within_ok {h : H} {σ : Stamp} (x0 : Int) (x1 : Int) (x2 : Int) : Sim (p_limelightbook_Within x0 x1 x2) (ev G X0 21 σ [(.p (.int .i64 x0)), (.p (.int .i64 x1)), (.p (.int .i64 x2))] h) (fun r s => s = ([.v (.p (.int .i64 r))], h)) := by
  refine Sim.ev rfl (Sim.ext (limelightbook_Within_entry _ _ _ _ _ _ _) ?_)
  rw [p_limelightbook_Within]
  have S0 : Fm 33 h [] [] [] (List.replicate 33 [] :: h) := Fm.start0
  refine Sim.ch (P := fun r y => r = y) ?_ (fun b1 y2 h3 h4 => ?_)
  · refine Sim.cd (fun hc => ?_) (fun hc => ?_)
    · exact Sim.ret rfl rfl
    · exact Sim.ret rfl rfl
  subst h4
  refine Sim.cd (fun hc => ?_) (fun hc => ?_)
  · exact Sim.fin (S0.finN (lv_cons (still_int _ _).lv lv_nil)) rfl
  · refine Sim.bd fun n5 h6 => ?_
    refine Sim.op (remP_ok h6) ?_
    refine Sim.op (castI_p _ _) ?_
    refine Sim.cd (fun hc => ?_) (fun hc => ?_)
    · exact Sim.fin (S0.finN (lv_cons (still_int _ _).lv lv_nil)) rfl
    · exact Sim.fin (S0.finN (lv_cons (still_int _ _).lv lv_nil)) rfl
end Go.Ev
namespace Go.Ev
theorem strB_bytesS (s : ByteArray) : strB (bytesS s) = s := by
  have : ((bytesS s).map fun n => UInt8.ofNat n.toNat).toArray = s.data := by
    unfold bytesS
    rw [List.map_map]
    have : ((fun n : Int => UInt8.ofNat n.toNat) ∘ fun b : UInt8 => (b.toNat : Int)) = id := by
      funext b; simp
    rw [this, List.map_id]
  unfold strB
  rw [this]
theorem bytesS_len (s : ByteArray) : (bytesS s).length = s.size := by unfold bytesS; rw [List.length_map, Array.length_toList]; rfl
theorem within_lo {x hi : Int} (h0 : 0 ≤ hi) (h1 : hi < 2 ^ 40) : ∃ r, p_limelightbook_Within x 0 hi = some r ∧ 0 ≤ r ∧ r ≤ hi := by
  unfold p_limelightbook_Within
  by_cases h : 0 ≤ x ∧ x ≤ hi
  · refine ⟨x, ?_, h.1, h.2⟩
    have e1 : decide (x ≥ 0) = true := by simpa using h.1
    have e2 : decide (x ≤ hi) = true := by simpa using h.2
    simp only [e1, e2, cond_true, Option.bind_some]
  · have e : ∀ (a : Bool) (b : Bool), (a && b) = false → ((bif a then (some b) else (some false)) : Option Bool) = some false := by
      intro a b; cases a <;> cases b <;> simp
    rw [e (decide (x ≥ 0)) (decide (x ≤ hi)) (by simp; omega), Option.bind_some, cond_false]
    have w1 : IntKind.wrap .i64 (IntKind.wrap .i64 (hi - 0) + 1) = hi + 1 := by
      rw [wrap_i64 (n := hi - 0) (by omega) (by omega), wrap_i64 (by omega) (by omega)]; omega
    have hb : -(hi + 1) < x.tmod (hi + 1) ∧ x.tmod (hi + 1) < hi + 1 := by
      have h1 := Int.tmod_lt_of_pos x (show 0 < hi + 1 by omega)
      have h2 := Int.neg_tmod x (hi + 1)
      have h3 := Int.tmod_lt_of_pos (-x) (show 0 < hi + 1 by omega)
      omega
    rw [w1]
    unfold remP
    rw [if_neg (by omega), Option.bind_some]
    generalize x.tmod (hi + 1) = m at hb
    by_cases hm : m < 0
    · have : decide (m < 0) = true := by simpa using hm
      rw [this, cond_true]
      refine ⟨_, rfl, ?_⟩
      rw [wrap_i64 (n := m + hi) (by omega) (by omega), wrap_i64 (n := m + hi - 0) (by omega) (by omega), wrap_i64 (n := m + hi - 0 + 1) (by omega) (by omega), wrap_i64 (by omega) (by omega)]
      omega
    · have : decide (m < 0) = false := by simpa using hm
      rw [this, cond_false]
      refine ⟨_, rfl, ?_⟩
      rw [wrap_i64 (by omega) (by omega)]
      omega
end Go.Ev
/- Equations, printed by tracer2.py. -/
namespace Go.Ev
open Go.Proofs
set_option linter.unusedVariables false
set_option maxRecDepth 100000
-- 16 (*limelight/limelightkeep.Tape).Elems
noncomputable def limelightkeep_Tape_Elems_c0 : Code := (codeAt (bodyOf Try.f16) [1, 1, 0, 1, 0, 0])
def limelightkeep_Tape_Elems_l0 : Lv := ⟨32, 16, [(0, 32)]⟩
noncomputable def limelightkeep_Tape_Elems_k0 (rec : CallF) (loop : LoopV) (σ : Stamp) : Exit → Env → H → Option (List C × H) := (kBlock 0 (kSeq G rec loop (codeAt (bodyOf Try.f16) [1, 1, 1]) ⟨16, 16, []⟩ (1 :: 1 :: 0 :: σ) (finC G false Try.f16 (1 :: σ))))
theorem limelightkeep_Tape_Elems_entry (rec : CallF) (loop : LoopV) (σ : Stamp) (x0 : V) (x1 : Bool) (h : H) : cvBody G rec loop 16 σ [x0, (.p (.bool x1))] h =
 (callO rec 51 (1 :: 0 :: 0 :: 1 :: 1 :: 0 :: σ) [x0, (.p (.int .i64 4))] (List.replicate 42 [] :: h) (some 9)).bind fun q1 =>
 (castI .i64 q1.1).bind fun n2 =>
 (loop limelightkeep_Tape_Elems_c0 limelightkeep_Tape_Elems_l0 (1 :: 0 :: 1 :: 1 :: 0 :: σ) (envL [(0, x0), (1, (.p (.bool x1))), (5, (.p (.slice .none 0 0))), (6, (.p (.int .i64 n2)))]) q1.2).bind fun r3 => limelightkeep_Tape_Elems_k0 rec loop σ r3.1 r3.2.1 r3.2.2 := by kernel_rfl
theorem limelightkeep_Tape_Elems_r0 (rec : CallF) (loop : LoopV) (σ : Stamp) (x0 : V) (x1 : Bool) (x5 : V) (x6 : Int) (h : H) : cvRound G rec loop limelightkeep_Tape_Elems_c0 limelightkeep_Tape_Elems_l0 σ (envL [(0, x0), (1, (.p (.bool x1))), (5, x5), (6, (.p (.int .i64 x6)))]) h =
 bif decide (x6 > 0) then (
 (callO rec 51 (1 :: 0 :: 0 :: 1 :: 0 :: σ) [x0, (.p (.int .i64 14))] h (some 15)).bind fun q4 =>
 (castI .i64 q4.1).bind fun n5 =>
 (callO rec 51 (4 :: 0 :: 0 :: 1 :: 0 :: σ) [x0, (.p (.int .i64 256))] q4.2 (some 18)).bind fun q6 =>
 (castI .i64 q6.1).bind fun n7 =>
 (buildSliceV Try.prog 32 1 [(0, (.p (.int .u8 (IntKind.wrap .u8 n7))))]).bind fun t8 =>
 (callO rec 52 (8 :: 0 :: 0 :: 1 :: 0 :: σ) [x0, (.p (.int .i64 9))] q6.2 (some 22)).bind fun q9 =>
 (apO true 1 1 (9 :: 0 :: 0 :: 1 :: 0 :: σ) 23 q9.2 t8 q9.1).bind fun q10 =>
 (buildV Try.prog 38 [(0, (.p (.int .i64 (IntKind.wrap .i64 (1 + n5))))), (1, q10.1)]).bind fun t11 =>
 (some (alO [.p (.int .i64 0), .p (.slice none 0 0)] (11 :: 0 :: 0 :: 1 :: 0 :: σ) 7 q10.2)).bind fun q12 =>
 ((stO false 2 (12 :: 0 :: 0 :: 1 :: 0 :: σ) q12.2 q12.1 t11).map fun h => (udf, h)).bind fun q13 =>
 (bif x1 then ((callO rec 51 (3 :: 0 :: 0 :: 1 :: 0 :: 1 :: 0 :: σ) [x0, (.p (.int .i64 3))] q13.2 (some 28)).bind fun q14 =>
 (castI .i64 q14.1).bind fun n15 =>
 some ((.p (.bool (n15 == 0))), q14.2)) else (some ((.p (.bool false)), q13.2))).bind fun q16 =>
 (asB q16.1).bind fun b17 =>
 bif b17 then (
 (callO rec 51 (1 :: 1 :: 0 :: 1 :: 0 :: 1 :: 0 :: σ) [x0, (.p (.int .i64 255))] q16.2 (some 32)).bind fun q18 =>
 (castI .i64 q18.1).bind fun n19 =>
 (callO rec 52 (4 :: 1 :: 0 :: 1 :: 0 :: 1 :: 0 :: σ) [x0, (.p (.int .i64 20))] q18.2 (some 35)).bind fun q20 =>
 (buildV Try.prog 38 [(0, (.p (.int .i64 (IntKind.wrap .i64 (1 + n19))))), (1, q20.1)]).bind fun t21 =>
 ((stO false 2 (6 :: 1 :: 0 :: 1 :: 0 :: 1 :: 0 :: σ) q20.2 q12.1 t21).map fun h => (udf, h)).bind fun q22 =>
 (ldO true 2 q22.2 q12.1).bind fun t23 =>
 (buildSliceV Try.prog 27 1 [(0, t23)]).bind fun t24 =>
 (apO false 2 32 (3 :: 1 :: 1 :: 0 :: 1 :: 0 :: σ) 40 q22.2 x5 t24).bind fun q25 =>
 loop limelightkeep_Tape_Elems_c0 limelightkeep_Tape_Elems_l0 (1 :: σ) (envL [(0, x0), (1, (.p (.bool x1))), (5, q25.1), (6, (.p (.int .i64 (IntKind.wrap .i64 (x6 - 1)))))]) q25.2)
 else (
 (ldO true 2 q16.2 q12.1).bind fun t26 =>
 (buildSliceV Try.prog 27 1 [(0, t26)]).bind fun t27 =>
 (apO false 2 32 (3 :: 1 :: 1 :: 0 :: 1 :: 0 :: σ) 40 q16.2 x5 t27).bind fun q28 =>
 loop limelightkeep_Tape_Elems_c0 limelightkeep_Tape_Elems_l0 (1 :: σ) (envL [(0, x0), (1, (.p (.bool x1))), (5, q28.1), (6, (.p (.int .i64 (IntKind.wrap .i64 (x6 - 1)))))]) q28.2))
 else (
 some ((.exit 0), (envL [(5, x5)]), h)) := by kernel_rfl
theorem limelightkeep_Tape_Elems_a0_0 (rec : CallF) (loop : LoopV) (σ : Stamp) (x5 : V) (h : H) : limelightkeep_Tape_Elems_k0 rec loop σ (.exit 0) (envL [(5, x5)]) h =
 fin false σ h [x5] := by kernel_rfl
end Go.Ev
/- Equations, printed by tracer2.py. -/
namespace Go.Ev
open Go.Proofs
set_option linter.unusedVariables false
set_option maxRecDepth 100000
-- 52 (*limelight/limelightkeep.Tape).Bytes
noncomputable def limelightkeep_Tape_Bytes_c0 : Code := (codeAt (bodyOf Try.f52) [1, 1, 0, 1, 0, 0])
def limelightkeep_Tape_Bytes_l0 : Lv := ⟨32, 16, [(0, 32)]⟩
noncomputable def limelightkeep_Tape_Bytes_k0 (rec : CallF) (loop : LoopV) (σ : Stamp) : Exit → Env → H → Option (List C × H) := (kBlock 0 (kSeq G rec loop (codeAt (bodyOf Try.f52) [1, 1, 1]) ⟨16, 16, []⟩ (1 :: 1 :: 0 :: σ) (finC G false Try.f52 (1 :: σ))))
theorem limelightkeep_Tape_Bytes_entry (rec : CallF) (loop : LoopV) (σ : Stamp) (x0 : V) (x1 : Int) (h : H) : cvBody G rec loop 52 σ [x0, (.p (.int .i64 x1))] h =
 (callO rec 51 (3 :: 0 :: 0 :: 1 :: 1 :: 0 :: σ) [x0, (.p (.int .i64 (IntKind.wrap .i64 (x1 + 1))))] (List.replicate 22 [] :: h) (some 10)).bind fun q1 =>
 (castI .i64 q1.1).bind fun n2 =>
 (loop limelightkeep_Tape_Bytes_c0 limelightkeep_Tape_Bytes_l0 (1 :: 0 :: 1 :: 1 :: 0 :: σ) (envL [(0, x0), (5, (.p (.slice .none 0 0))), (6, (.p (.int .i64 n2)))]) q1.2).bind fun r3 => limelightkeep_Tape_Bytes_k0 rec loop σ r3.1 r3.2.1 r3.2.2 := by kernel_rfl
theorem limelightkeep_Tape_Bytes_r0 (rec : CallF) (loop : LoopV) (σ : Stamp) (x0 : V) (x5 : V) (x6 : Int) (h : H) : cvRound G rec loop limelightkeep_Tape_Bytes_c0 limelightkeep_Tape_Bytes_l0 σ (envL [(0, x0), (5, x5), (6, (.p (.int .i64 x6)))]) h =
 bif decide (x6 > 0) then (
 (callO rec 51 (2 :: 0 :: 1 :: 0 :: σ) [x0, (.p (.int .i64 256))] h (some 17)).bind fun q4 =>
 (castI .i64 q4.1).bind fun n5 =>
 (buildSliceV Try.prog 32 1 [(0, (.p (.int .u8 (IntKind.wrap .u8 n5))))]).bind fun t6 =>
 (apO true 1 1 (5 :: 0 :: 1 :: 0 :: σ) 20 q4.2 x5 t6).bind fun q7 =>
 loop limelightkeep_Tape_Bytes_c0 limelightkeep_Tape_Bytes_l0 (1 :: σ) (envL [(0, x0), (5, q7.1), (6, (.p (.int .i64 (IntKind.wrap .i64 (x6 - 1)))))]) q7.2)
 else (
 some ((.exit 0), (envL [(5, x5)]), h)) := by kernel_rfl
theorem limelightkeep_Tape_Bytes_a0_0 (rec : CallF) (loop : LoopV) (σ : Stamp) (x5 : V) (h : H) : limelightkeep_Tape_Bytes_k0 rec loop σ (.exit 0) (envL [(5, x5)]) h =
 fin false σ h [x5] := by kernel_rfl
end Go.Ev
/- Equations, printed by tracer2.py. -/
namespace Go.Ev
open Go.Proofs
set_option linter.unusedVariables false
set_option maxRecDepth 100000
-- 51 (*limelight/limelightkeep.Tape).Next
theorem limelightkeep_Tape_Next_entry (rec : CallF) (loop : LoopV) (σ : Stamp) (x0 : V) (x1 : Int) (h : H) : cvBody G rec loop 51 σ [x0, (.p (.int .i64 x1))] h =
 (nilChk x0).bind fun t1 =>
 (fA t1 1).bind fun t2 =>
 (ldO false 1 (List.replicate 40 [] :: h) t2).bind fun t3 =>
 (castI .i64 t3).bind fun n4 =>
 (nilChk x0).bind fun t5 =>
 (fA t5 0).bind fun t6 =>
 (ldO false 1 (List.replicate 40 [] :: h) t6).bind fun t7 =>
 (lenO t7).bind fun t8 =>
 (castI .i64 t8).bind fun n9 =>
 (bif decide (n4 ≥ n9) then (some true) else (some (decide (x1 < 1)))).bind fun b10 =>
 bif b10 then (
 fin false σ (List.replicate 40 [] :: h) [(.p (.int .i64 0))])
 else (
 (nilChk x0).bind fun t11 =>
 (fA t11 1).bind fun t12 =>
 (ldO false 1 (List.replicate 40 [] :: h) t12).bind fun t13 =>
 (castI .i64 t13).bind fun n14 =>
 (nilChk x0).bind fun t15 =>
 (fA t15 1).bind fun t16 =>
 ((stO true 1 (7 :: 0 :: 1 :: 1 :: 0 :: σ) (List.replicate 40 [] :: h) t16 (.p (.int .i64 (IntKind.wrap .i64 (n14 + 1))))).map fun h => (udf, h)).bind fun q17 =>
 (nilChk x0).bind fun t18 =>
 (fA t18 0).bind fun t19 =>
 (ldO false 1 q17.2 t19).bind fun t20 =>
 (nilChk x0).bind fun t21 =>
 (fA t21 1).bind fun t22 =>
 (ldO false 1 q17.2 t22).bind fun t23 =>
 (castI .i64 t23).bind fun n24 =>
 (iS 1 t20 (IntKind.wrap .i64 (n24 - 1))).bind fun t25 =>
 (ldO false 1 q17.2 t25).bind fun t26 =>
 (castI .i64 t26).bind fun n27 =>
 (callO rec 21 (11 :: 0 :: 1 :: 1 :: 1 :: 0 :: σ) [(.p (.int .i64 n27)), (.p (.int .i64 0)), (.p (.int .i64 1073741824))] q17.2 (some 37)).bind fun q28 =>
 (castI .i64 q28.1).bind fun n29 =>
 (remI .i64 n29 x1).bind fun t30 =>
 (castI .i64 t30).bind fun n31 =>
 fin false σ q28.2 [(.p (.int .i64 n31))]) := by kernel_rfl
end Go.Ev
/- Lifted by lift.py: limelightkeep_Tape_Next as a plain function. -/
namespace Go.Ev
open Go.Proofs
set_option linter.unusedVariables false
set_option linter.unusedSimpArgs false
set_option maxRecDepth 100000
def p_limelightkeep_Tape_Next (x0 : T_limelightkeep_Tape) (x1 : Int) : Option (Int × T_limelightkeep_Tape) :=
(bif decide (x0.f_At ≥ ((x0.f_L.length : Int))) then (some true) else (some (decide (x1 < 1)))).bind fun b1 =>
bif b1 then (
some (0, (⟨x0.f_L, x0.f_At⟩ : T_limelightkeep_Tape)))
else (
(ix x0.f_L (IntKind.wrap .i64 ((IntKind.wrap .i64 (x0.f_At + 1)) - 1))).bind fun a8 =>
(p_limelightbook_Within a8 0 1073741824).bind fun r11 =>
(remP r11 x1).bind fun n16 =>
some (n16, (⟨x0.f_L, (IntKind.wrap .i64 (x0.f_At + 1))⟩ : T_limelightkeep_Tape)))
theorem limelightkeep_Tape_Next_ok {h : H} {σ : Stamp} (x0 : T_limelightkeep_Tape) {u0_0 : V} (hu0_0 : SlF (dI .i64) x0.f_L u0_0) {l0 : Loc} {o0 : Nat} (ha0 : AtC h l0 o0 (List.map C.v [u0_0, (.p (.int .i64 x0.f_At))])) (x1 : Int) : Sim (p_limelightkeep_Tape_Next x0 x1) (ev G X0 51 σ [(.ref l0 o0), (.p (.int .i64 x1))] h) (fun r s => ∃ (vb0_0 : V), SlF (dI .i64) r.2.f_L vb0_0 ∧ s = ([.v (.p (.int .i64 r.1))], pts h [⟨l0, o0, [.v vb0_0, .v (.p (.int .i64 r.2.f_At))]⟩])) := by
  refine Sim.ev rfl (Sim.ext (limelightkeep_Tape_Next_entry _ _ _ _ _ _) ?_)
  rw [p_limelightkeep_Tape_Next]
  have S0 : Fm 40 h [⟨l0, o0, List.map C.v [u0_0, (.p (.int .i64 x0.f_At))]⟩] [] [] (List.replicate 40 [] :: h) := Fm.start1 ha0
  refine Sim.op (nilChk_ref _ _) ?_
  refine Sim.op (fA_ref _ _ _) ?_
  refine Sim.op ((S0.atB (i := 0) rfl).ld (j := 1) rfl) ?_
  refine Sim.op (castI_p _ _) ?_
  refine Sim.op (nilChk_ref _ _) ?_
  refine Sim.op (fA_ref _ _ _) ?_
  refine Sim.op ((S0.atB (i := 0) rfl).ld (j := 0) rfl) ?_
  refine Sim.op ((hu0_0.h (List.replicate 40 [] :: h)).len) ?_
  refine Sim.op (castI_p _ _) ?_
  refine Sim.ch (P := fun r y => r = y) ?_ (fun b1 y2 h3 h4 => ?_)
  · refine Sim.cd (fun hc => ?_) (fun hc => ?_)
    · exact Sim.ret rfl rfl
    · exact Sim.ret rfl rfl
  subst h4
  refine Sim.cd (fun hc => ?_) (fun hc => ?_)
  · exact Sim.fin (S0.finN (lv_cons (still_int _ _).lv lv_nil)) ⟨u0_0, hu0_0, rfl⟩
  · refine Sim.op (nilChk_ref _ _) ?_
    refine Sim.op (fA_ref _ _ _) ?_
    refine Sim.op ((S0.atB (i := 0) rfl).ld (j := 1) rfl) ?_
    refine Sim.op (castI_p _ _) ?_
    refine Sim.op (nilChk_ref _ _) ?_
    refine Sim.op (fA_ref _ _ _) ?_
    obtain ⟨H5, e6, S7⟩ := S0.stB (i := 0) (j := 1) (own := true) (σ := (7 :: 0 :: 1 :: 1 :: 0 :: σ)) (x := (.p (.int .i64 (IntKind.wrap .i64 (x0.f_At + 1))))) rfl (still_int _ _) rfl
    refine Sim.op (st_map e6) ?_
    refine Sim.op (nilChk_ref _ _) ?_
    refine Sim.op (fA_ref _ _ _) ?_
    refine Sim.op ((S7.atB (i := 0) rfl).ld (j := 0) rfl) ?_
    refine Sim.op (nilChk_ref _ _) ?_
    refine Sim.op (fA_ref _ _ _) ?_
    refine Sim.op ((S7.atB (i := 0) rfl).ld (j := 1) rfl) ?_
    refine Sim.op (castI_p _ _) ?_
    refine Sim.bd fun a8 h9 => ?_
    refine Sim.op ((hu0_0.h H5).iS h9 rfl) ?_
    obtain ⟨_, rfl, hE10⟩ := (hu0_0.h H5).el h9 rfl
    refine Sim.op (hE10.ld (j := 0) rfl) ?_
    refine Sim.op (castI_p _ _) ?_
    refine Sim.call (limelightbook_Within_ok a8 0 1073741824) fun r11 cs12 H13 h14 q15 => ?_
    cases q15
    refine Sim.op (castI_p _ _) ?_
    refine Sim.bd fun n16 h17 => ?_
    refine Sim.op (remP_ok h17) ?_
    refine Sim.op (castI_p _ _) ?_
    exact Sim.fin (S7.finN (lv_cons (still_int _ _).lv lv_nil)) ⟨u0_0, hu0_0, rfl⟩
end Go.Ev
/- Lifted by lift.py: limelightkeep_Tape_Bytes as a plain function. -/
namespace Go.Ev
open Go.Proofs
set_option linter.unusedVariables false
set_option linter.unusedSimpArgs false
set_option maxRecDepth 100000
def p_limelightkeep_Tape_Bytes_l0 {β : Type} (k : Nat) (kE0 : (List Int) → T_limelightkeep_Tape → Option β) (x5 : (List Int)) (x6 : Int) (zp0 : T_limelightkeep_Tape) : Option β := match k with
| 0 => none
| k + 1 =>
bif decide (x6 > 0) then (
(p_limelightkeep_Tape_Next (⟨zp0.f_L, zp0.f_At⟩ : T_limelightkeep_Tape) 256).bind fun r17 =>
(ap 1 x5 ([(IntKind.wrap .u8 r17.1)])).bind fun a26 =>
p_limelightkeep_Tape_Bytes_l0 k kE0 a26 (IntKind.wrap .i64 (x6 - 1)) ((⟨r17.2.f_L, r17.2.f_At⟩ : T_limelightkeep_Tape)))
else (
kE0 x5 ((⟨zp0.f_L, zp0.f_At⟩ : T_limelightkeep_Tape)))
def p_limelightkeep_Tape_Bytes (k : Nat) (x0 : T_limelightkeep_Tape) (x1 : Int) : Option ((List Int) × T_limelightkeep_Tape) :=
(p_limelightkeep_Tape_Next (⟨x0.f_L, x0.f_At⟩ : T_limelightkeep_Tape) (IntKind.wrap .i64 (x1 + 1))).bind fun r1 =>
p_limelightkeep_Tape_Bytes_l0 k (fun r40_5 zp0 =>
some (r40_5, (⟨zp0.f_L, zp0.f_At⟩ : T_limelightkeep_Tape))) (([] : List Int)) r1.1 ((⟨r1.2.f_L, r1.2.f_At⟩ : T_limelightkeep_Tape))
theorem limelightkeep_Tape_Bytes_l0_ok {h : H} {l0 : Loc} {o0 : Nat} {β α : Type} {Q : β → α → Prop} {K : Exit × Env × H → Option α} {kE0 : (List Int) → T_limelightkeep_Tape → Option β} (hE0 : ∀ (q5 : (List Int)) (zp0 : T_limelightkeep_Tape) (v34 : V) (v36 : V) (h37 : SlF (dI .i64) zp0.f_L v36) (H32 : Go.Ev.H) (_ : Fm 22 h [⟨l0, o0, List.map C.v [v36, (.p (.int .i64 zp0.f_At))]⟩] [] [⟨[20], v34, (dI .u8), q5⟩] H32), Sim (kE0 q5 zp0) (K ((.exit 0), (envL [(5, v34)]), H32)) Q) (k : Nat) : ∀ (x5 : (List Int)) (x6 : Int) (zp0 : T_limelightkeep_Tape) (v13 : V) (v15 : V) (h16 : SlF (dI .i64) zp0.f_L v15) (H11 : Go.Ev.H) (_ : Fm 22 h [⟨l0, o0, List.map C.v [v15, (.p (.int .i64 zp0.f_At))]⟩] [] [⟨[20], v13, (dI .u8), x5⟩] H11) {σ : Stamp}, Sim (p_limelightkeep_Tape_Bytes_l0 k kE0 x5 x6 zp0) ((cvL G X0 limelightkeep_Tape_Bytes_c0 limelightkeep_Tape_Bytes_l0 σ (envL [(0, (.ref l0 o0)), (5, v13), (6, (.p (.int .i64 x6)))]) H11).bind K) Q := by
  induction k with
  | zero => intros; exact Sim.no
  | succ k ih =>
    intro x5 x6 zp0 v13 v15 h16 H11 S12 σ
    rw [p_limelightkeep_Tape_Bytes_l0]
    refine Sim.round (Sim.ext (limelightkeep_Tape_Bytes_r0 _ _ _ _ _ _ _) ?_)
    refine Sim.cd (fun hc => ?_) (fun hc => ?_)
    · refine Sim.call (limelightkeep_Tape_Next_ok (⟨zp0.f_L, zp0.f_At⟩ : T_limelightkeep_Tape) h16 (S12.atB (i := 0) rfl) 256) fun r17 cs18 H19 h20 q21 => ?_
      obtain ⟨v22, h23, q21⟩ := q21
      cases q21
      have S24 := S12.setB (i := 0) (cs := List.map C.v [v22, (.p (.int .i64 r17.2.f_At))]) rfl rfl
      refine Sim.op (castI_p _ _) ?_
      have h25 : SlF (dI .u8) [(IntKind.wrap .u8 r17.1)] (.fz [(.p (.int .u8 (IntKind.wrap .u8 r17.1)))] 1 1 true) := SlF.lit (cs := [(.p (.int .u8 (IntKind.wrap .u8 r17.1)))]) (RL.cons (show (dI .u8).R (IntKind.wrap .u8 r17.1) [(.p (.int .u8 (IntKind.wrap .u8 r17.1)))] from rfl) RL.nil) rfl rfl true
      refine Sim.op (bldS (pt_cons rfl pt_nil) (by kernel_rfl : _ = some (.fz [(.p (.int .u8 (IntKind.wrap .u8 r17.1)))] 1 1 true))) ?_
      refine Sim.bd fun a26 h27 => ?_
      obtain ⟨v28, H29, e30, S31⟩ := S24.app (i := 0) (d := 20) (e := 1) (own := true) (σ := (5 :: 0 :: 1 :: 0 :: σ)) rfl (h25.h (ptC H11 l0 o0 (List.map C.v [v22, (.p (.int .i64 r17.2.f_At))]))).y h27 rfl (by decide) (by decide) rfl
      refine Sim.op (e30) ?_
      exact ih a26 (IntKind.wrap .i64 (x6 - 1)) ((⟨r17.2.f_L, r17.2.f_At⟩ : T_limelightkeep_Tape)) v28 v22 h23 H29 (S31.wk2 all_nil (all_cons ⟨[20, 20], by simp, at_mem 0 rfl⟩ all_nil))
    · exact hE0 x5 ((⟨zp0.f_L, zp0.f_At⟩ : T_limelightkeep_Tape)) v13 v15 h16 H11 (S12.wk2 all_nil (all_cons ⟨[20], by simp, at_mem 0 rfl⟩ all_nil))
theorem limelightkeep_Tape_Bytes_ok (k : Nat) {h : H} {σ : Stamp} (x0 : T_limelightkeep_Tape) {u0_0 : V} (hu0_0 : SlF (dI .i64) x0.f_L u0_0) {l0 : Loc} {o0 : Nat} (ha0 : AtC h l0 o0 (List.map C.v [u0_0, (.p (.int .i64 x0.f_At))])) (x1 : Int) : Sim (p_limelightkeep_Tape_Bytes k x0 x1) (ev G X0 52 σ [(.ref l0 o0), (.p (.int .i64 x1))] h) (fun r s => ∃ (c0 : C), ∃ (a0 : List V), ∃ (vb0_0 : V), OwnS c0 (dI .u8).sz r.1.length a0 ∧ (dI .u8).L r.1 a0 ∧ SlF (dI .i64) r.2.f_L vb0_0 ∧ s = ([c0], pts h [⟨l0, o0, [.v vb0_0, .v (.p (.int .i64 r.2.f_At))]⟩])) := by
  refine Sim.ev rfl (Sim.ext (limelightkeep_Tape_Bytes_entry _ _ _ _ _ _) ?_)
  rw [p_limelightkeep_Tape_Bytes]
  have S0 : Fm 22 h [⟨l0, o0, List.map C.v [u0_0, (.p (.int .i64 x0.f_At))]⟩] [] [] (List.replicate 22 [] :: h) := Fm.start1 ha0
  refine Sim.call (limelightkeep_Tape_Next_ok (⟨x0.f_L, x0.f_At⟩ : T_limelightkeep_Tape) hu0_0 (S0.atB (i := 0) rfl) (IntKind.wrap .i64 (x1 + 1))) fun r1 cs2 H3 h4 q5 => ?_
  obtain ⟨v6, h7, q5⟩ := q5
  cases q5
  have S8 := S0.setB (i := 0) (cs := List.map C.v [v6, (.p (.int .i64 r1.2.f_At))]) rfl rfl
  refine Sim.op (castI_p _ _) ?_
  have S39 := S8.nil (dI .u8) []
  refine Sim.as (limelightkeep_Tape_Bytes_l0_ok ?_ k (([] : List Int)) r1.1 ((⟨r1.2.f_L, r1.2.f_At⟩ : T_limelightkeep_Tape)) (.p (.slice none 0 0)) v6 h7 (ptC (List.replicate 22 [] :: h) l0 o0 (List.map C.v [v6, (.p (.int .i64 r1.2.f_At))])) (S39.wk2 all_nil (all_cons ⟨[], by simp, at_mem 0 rfl⟩ all_nil))) 
  · intro r40_5 zp0 v43 v45 h46 H41 S42
    refine Sim.ext (limelightkeep_Tape_Bytes_a0_0 _ _ _ _ _) ?_
    obtain ⟨c52, cs53, H47, e48, h50, h51, S49⟩ := S42.expOwn (i := 0) (τ := 0 :: 1 :: σ) rfl rfl rfl
    exact Sim.fin (S49.finE (Ex.st e48 Ex.nil)) ⟨c52, cs53, v45, h50, h51, h46, rfl⟩
end Go.Ev
/- Lifted by lift.py: limelightkeep_Tape_Elems as a plain function. -/
namespace Go.Ev
open Go.Proofs
set_option linter.unusedVariables false
set_option linter.unusedSimpArgs false
set_option maxRecDepth 100000
def p_limelightkeep_Tape_Elems_l0 {β : Type} (k : Nat) (kE0 : (List T_api_Elem) → T_limelightkeep_Tape → Option β) (x1 : Bool) (x5 : (List T_api_Elem)) (x6 : Int) (zp0 : T_limelightkeep_Tape) : Option β := match k with
| 0 => none
| k + 1 =>
bif decide (x6 > 0) then (
(p_limelightkeep_Tape_Next (⟨zp0.f_L, zp0.f_At⟩ : T_limelightkeep_Tape) 14).bind fun r17 =>
(p_limelightkeep_Tape_Next (⟨r17.2.f_L, r17.2.f_At⟩ : T_limelightkeep_Tape) 256).bind fun r25 =>
(p_limelightkeep_Tape_Bytes k (⟨r25.2.f_L, r25.2.f_At⟩ : T_limelightkeep_Tape) 9).bind fun r34 =>
(ap 1 ([(IntKind.wrap .u8 r25.1)]) r34.1).bind fun a53 =>
bif x1 then ((p_limelightkeep_Tape_Next (⟨r34.2.f_L, r34.2.f_At⟩ : T_limelightkeep_Tape) 3).bind fun r78 =>
bif r78.1 == 0 then (
(p_limelightkeep_Tape_Next (⟨r78.2.f_L, r78.2.f_At⟩ : T_limelightkeep_Tape) 255).bind fun r86 =>
(p_limelightkeep_Tape_Bytes k (⟨r86.2.f_L, r86.2.f_At⟩ : T_limelightkeep_Tape) 20).bind fun r94 =>
(ap 32 x5 ([((⟨(IntKind.wrap .i64 (1 + r86.1)), r94.1⟩ : T_api_Elem))])).bind fun a121 =>
p_limelightkeep_Tape_Elems_l0 k kE0 x1 a121 (IntKind.wrap .i64 (x6 - 1)) ((⟨r94.2.f_L, r94.2.f_At⟩ : T_limelightkeep_Tape)))
else (
(ap 32 x5 ([((⟨(IntKind.wrap .i64 (1 + r17.1)), a53⟩ : T_api_Elem))])).bind fun a128 =>
p_limelightkeep_Tape_Elems_l0 k kE0 x1 a128 (IntKind.wrap .i64 (x6 - 1)) ((⟨r78.2.f_L, r78.2.f_At⟩ : T_limelightkeep_Tape)))) else (bif false then (
(p_limelightkeep_Tape_Next (⟨r34.2.f_L, r34.2.f_At⟩ : T_limelightkeep_Tape) 255).bind fun r134 =>
(p_limelightkeep_Tape_Bytes k (⟨r134.2.f_L, r134.2.f_At⟩ : T_limelightkeep_Tape) 20).bind fun r142 =>
(ap 32 x5 ([((⟨(IntKind.wrap .i64 (1 + r134.1)), r142.1⟩ : T_api_Elem))])).bind fun a169 =>
p_limelightkeep_Tape_Elems_l0 k kE0 x1 a169 (IntKind.wrap .i64 (x6 - 1)) ((⟨r142.2.f_L, r142.2.f_At⟩ : T_limelightkeep_Tape)))
else (
(ap 32 x5 ([((⟨(IntKind.wrap .i64 (1 + r17.1)), a53⟩ : T_api_Elem))])).bind fun a176 =>
p_limelightkeep_Tape_Elems_l0 k kE0 x1 a176 (IntKind.wrap .i64 (x6 - 1)) ((⟨r34.2.f_L, r34.2.f_At⟩ : T_limelightkeep_Tape)))))
else (
kE0 x5 ((⟨zp0.f_L, zp0.f_At⟩ : T_limelightkeep_Tape)))
def p_limelightkeep_Tape_Elems (k : Nat) (x0 : T_limelightkeep_Tape) (x1 : Bool) : Option ((List T_api_Elem) × T_limelightkeep_Tape) :=
(p_limelightkeep_Tape_Next (⟨x0.f_L, x0.f_At⟩ : T_limelightkeep_Tape) 4).bind fun r1 =>
p_limelightkeep_Tape_Elems_l0 k (fun r190_5 zp0 =>
some (r190_5, (⟨zp0.f_L, zp0.f_At⟩ : T_limelightkeep_Tape))) x1 (([] : List T_api_Elem)) r1.1 ((⟨r1.2.f_L, r1.2.f_At⟩ : T_limelightkeep_Tape))
theorem limelightkeep_Tape_Elems_l0_ok {h : H} {l0 : Loc} {o0 : Nat} {β α : Type} {Q : β → α → Prop} {K : Exit × Env × H → Option α} {kE0 : (List T_api_Elem) → T_limelightkeep_Tape → Option β} (hE0 : ∀ (q5 : (List T_api_Elem)) (zp0 : T_limelightkeep_Tape) (v184 : V) (v186 : V) (h187 : SlF (dI .i64) zp0.f_L v186) (H182 : Go.Ev.H) (_ : Fm 42 h [⟨l0, o0, List.map C.v [v186, (.p (.int .i64 zp0.f_At))]⟩] [] [⟨[40], v184, dT_api_Elem, q5⟩] H182), Sim (kE0 q5 zp0) (K ((.exit 0), (envL [(5, v184)]), H182)) Q) (k : Nat) : ∀ (x1 : Bool) (x5 : (List T_api_Elem)) (x6 : Int) (zp0 : T_limelightkeep_Tape) (v13 : V) (v15 : V) (h16 : SlF (dI .i64) zp0.f_L v15) (H11 : Go.Ev.H) (_ : Fm 42 h [⟨l0, o0, List.map C.v [v15, (.p (.int .i64 zp0.f_At))]⟩] [] [⟨[40], v13, dT_api_Elem, x5⟩] H11) {σ : Stamp}, Sim (p_limelightkeep_Tape_Elems_l0 k kE0 x1 x5 x6 zp0) ((cvL G X0 limelightkeep_Tape_Elems_c0 limelightkeep_Tape_Elems_l0 σ (envL [(0, (.ref l0 o0)), (1, (.p (.bool x1))), (5, v13), (6, (.p (.int .i64 x6)))]) H11).bind K) Q := by
  induction k with
  | zero => intros; exact Sim.no
  | succ k ih =>
    intro x1 x5 x6 zp0 v13 v15 h16 H11 S12 σ
    rw [p_limelightkeep_Tape_Elems_l0]
    refine Sim.round (Sim.ext (limelightkeep_Tape_Elems_r0 _ _ _ _ _ _ _ _) ?_)
    refine Sim.cd (fun hc => ?_) (fun hc => ?_)
    · refine Sim.call (limelightkeep_Tape_Next_ok (⟨zp0.f_L, zp0.f_At⟩ : T_limelightkeep_Tape) h16 (S12.atB (i := 0) rfl) 14) fun r17 cs18 H19 h20 q21 => ?_
      obtain ⟨v22, h23, q21⟩ := q21
      cases q21
      have S24 := S12.setB (i := 0) (cs := List.map C.v [v22, (.p (.int .i64 r17.2.f_At))]) rfl rfl
      refine Sim.op (castI_p _ _) ?_
      refine Sim.call (limelightkeep_Tape_Next_ok (⟨r17.2.f_L, r17.2.f_At⟩ : T_limelightkeep_Tape) h23 (S24.atB (i := 0) rfl) 256) fun r25 cs26 H27 h28 q29 => ?_
      obtain ⟨v30, h31, q29⟩ := q29
      cases q29
      have S32 := S24.setB (i := 0) (cs := List.map C.v [v30, (.p (.int .i64 r25.2.f_At))]) rfl rfl
      refine Sim.op (castI_p _ _) ?_
      have h33 : SlF (dI .u8) [(IntKind.wrap .u8 r25.1)] (.fz [(.p (.int .u8 (IntKind.wrap .u8 r25.1)))] 1 1 true) := SlF.lit (cs := [(.p (.int .u8 (IntKind.wrap .u8 r25.1)))]) (RL.cons (show (dI .u8).R (IntKind.wrap .u8 r25.1) [(.p (.int .u8 (IntKind.wrap .u8 r25.1)))] from rfl) RL.nil) rfl rfl true
      refine Sim.op (bldS (pt_cons rfl pt_nil) (by kernel_rfl : _ = some (.fz [(.p (.int .u8 (IntKind.wrap .u8 r25.1)))] 1 1 true))) ?_
      refine Sim.call (limelightkeep_Tape_Bytes_ok k (⟨r25.2.f_L, r25.2.f_At⟩ : T_limelightkeep_Tape) h31 (S32.atB (i := 0) rfl) 9) fun r34 cs35 H36 h37 q38 => ?_
      obtain ⟨c39, cs40, v43, h41, h42, h44, q38⟩ := q38
      cases q38
      have S45 := S32.setB (i := 0) (cs := List.map C.v [v43, (.p (.int .i64 r34.2.f_At))]) rfl rfl
      obtain ⟨v46, H47, e48, S49⟩ := S45.land (dt := (dI .u8)) (d := 22) (e := 0) (n := 0) h41 h42 (by decide) rfl
      erw [e48]
      have S52 := S49.lit (d := (dI .u8)) (xs := [(IntKind.wrap .u8 r25.1)]) (cs := [(.p (.int .u8 (IntKind.wrap .u8 r25.1)))]) (n := 1) (e := 1) (m := 1000001) (RL.cons (show (dI .u8).R (IntKind.wrap .u8 r25.1) [(.p (.int .u8 (IntKind.wrap .u8 r25.1)))] from rfl) RL.nil) rfl rfl (by decide)
      refine Sim.bd fun a53 h54 => ?_
      obtain ⟨v55, H56, e57, S58⟩ := S52.app (i := 0) (d := 23) (e := 1) (own := true) (σ := (9 :: 0 :: 0 :: 1 :: 0 :: σ)) rfl (S52.sl (i := 1) rfl).y h54 rfl (by decide) (by decide) rfl
      refine Sim.op (e57) ?_
      obtain ⟨v59, H60, e61, h62, S63⟩ := S58.layD (i := 0) rfl rfl
      have e64 : layCs false H56 [(.p (.int .i64 (IntKind.wrap .i64 (1 + r17.1)))), v55] = some (List.map C.v [.p (.int .i64 (IntKind.wrap .i64 (1 + r17.1))), v59], H60) := (lc_pl (still_int _ _) (lc_st e61 lc_nil))
      refine Sim.op (bldV (pt_cons rfl (pt_cons (S58.cellsD (i := 0) rfl) pt_nil)) (by kernel_rfl : _ = some (.agg [(.p (.int .i64 (IntKind.wrap .i64 (1 + r17.1)))), v55]))) ?_
      obtain ⟨H65, e66, S67⟩ := S58.al (d := 7) (s := (11 :: 0 :: 0 :: 1 :: 0 :: σ)) (z := [(.p (.int .i64 0)), (.p (.slice none 0 0))]) (by decide) rfl
      refine Sim.op (congrArg some e66) ?_
      obtain ⟨v72, H73, e74, h75, S76⟩ := S67.layD (i := 0) rfl rfl
      have e77 : layCs false H65 [(.p (.int .i64 (IntKind.wrap .i64 (1 + r17.1)))), v55] = some (List.map C.v [.p (.int .i64 (IntKind.wrap .i64 (1 + r17.1))), v72], H73) := (lc_pl (still_int _ _) (lc_st e74 lc_nil))
      obtain ⟨H69, e70, S71⟩ := Fm.stFrz (S0 := S67) (i0 := 0) (i := 0) (j := 0) (n := 2) (σ := (12 :: 0 :: 0 :: 1 :: 0 :: σ)) S76 rfl e77 rfl rfl (show List.length [(.p (.int .i64 (IntKind.wrap .i64 (1 + r17.1)))), v55] = List.length [.p (.int .i64 (IntKind.wrap .i64 (1 + r17.1))), v72] from rfl) rfl rfl
      refine Sim.op (st_map e70) ?_
      refine Sim.cdk (fun hc => ?_) (fun hc => ?_)
      · refine Sim.as ?_
        refine Sim.call (limelightkeep_Tape_Next_ok (⟨r34.2.f_L, r34.2.f_At⟩ : T_limelightkeep_Tape) h44 (S71.atB (i := 0) rfl) 3) fun r78 cs79 H80 h81 q82 => ?_
        obtain ⟨v83, h84, q82⟩ := q82
        cases q82
        have S85 := S71.setB (i := 0) (cs := List.map C.v [v83, (.p (.int .i64 r78.2.f_At))]) rfl rfl
        refine Sim.op (castI_p _ _) ?_
        refine Sim.pure ?_
        refine Sim.op (asB_p _) ?_
        refine Sim.cd (fun hc => ?_) (fun hc => ?_)
        · refine Sim.call (limelightkeep_Tape_Next_ok (⟨r78.2.f_L, r78.2.f_At⟩ : T_limelightkeep_Tape) h84 (S85.atB (i := 0) rfl) 255) fun r86 cs87 H88 h89 q90 => ?_
          obtain ⟨v91, h92, q90⟩ := q90
          cases q90
          have S93 := S85.setB (i := 0) (cs := List.map C.v [v91, (.p (.int .i64 r86.2.f_At))]) rfl rfl
          refine Sim.op (castI_p _ _) ?_
          refine Sim.call (limelightkeep_Tape_Bytes_ok k (⟨r86.2.f_L, r86.2.f_At⟩ : T_limelightkeep_Tape) h92 (S93.atB (i := 0) rfl) 20) fun r94 cs95 H96 h97 q98 => ?_
          obtain ⟨c99, cs100, v103, h101, h102, h104, q98⟩ := q98
          cases q98
          have S105 := S93.setB (i := 0) (cs := List.map C.v [v103, (.p (.int .i64 r94.2.f_At))]) rfl rfl
          obtain ⟨v106, H107, e108, S109⟩ := S105.land (dt := (dI .u8)) (d := 35) (e := 0) (n := 0) h101 h102 (by decide) rfl
          erw [e108]
          obtain ⟨v111, H112, e113, h114, S115⟩ := S109.layD (i := 0) rfl rfl
          have e116 : layCs false H107 [(.p (.int .i64 (IntKind.wrap .i64 (1 + r86.1)))), v106] = some (List.map C.v [.p (.int .i64 (IntKind.wrap .i64 (1 + r86.1))), v111], H112) := (lc_pl (still_int _ _) (lc_st e113 lc_nil))
          refine Sim.op (bldV (pt_cons rfl (pt_cons (S109.cellsD (i := 0) rfl) pt_nil)) (by kernel_rfl : _ = some (.agg [(.p (.int .i64 (IntKind.wrap .i64 (1 + r86.1)))), v106]))) ?_
          obtain ⟨H117, e118, S119⟩ := Fm.stFrz (S0 := S109) (i0 := 0) (i := 0) (j := 0) (n := 2) (σ := (6 :: 1 :: 0 :: 1 :: 0 :: 1 :: 0 :: σ)) S115 rfl e116 rfl rfl (show List.length [(.p (.int .i64 (IntKind.wrap .i64 (1 + r86.1)))), v106] = List.length [.p (.int .i64 (IntKind.wrap .i64 (1 + r86.1))), v111] from rfl) rfl rfl
          refine Sim.op (st_map e118) ?_
          refine Sim.op ((S119.atG (i := 0) rfl).ldVs (j := 0) (xs := [.p (.int .i64 (IntKind.wrap .i64 (1 + r86.1))), v111]) rfl rfl (by decide)) ?_
          have h120 : SlF dT_api_Elem [((⟨(IntKind.wrap .i64 (1 + r86.1)), r94.1⟩ : T_api_Elem))] (.fz [(.p (.int .i64 (IntKind.wrap .i64 (1 + r86.1)))), v111] 1 2 true) := SlF.lit (cs := [(.p (.int .i64 (IntKind.wrap .i64 (1 + r86.1)))), v111]) (RL.cons (show dT_api_Elem.R ((⟨(IntKind.wrap .i64 (1 + r86.1)), r94.1⟩ : T_api_Elem)) [.p (.int .i64 (IntKind.wrap .i64 (1 + r86.1))), v111] from (dT_api_Elem.mk h114)) RL.nil) rfl rfl true
          refine Sim.op (bldS (pt_cons (c := [.p (.int .i64 (IntKind.wrap .i64 (1 + r86.1))), v111]) rfl pt_nil) (by kernel_rfl : _ = some (.fz [(.p (.int .i64 (IntKind.wrap .i64 (1 + r86.1)))), v111] 1 2 true))) ?_
          refine Sim.bd fun a121 h122 => ?_
          obtain ⟨v123, H124, e125, S126⟩ := S119.app (i := 1) (d := 40) (e := 2) (own := false) (σ := (3 :: 1 :: 1 :: 0 :: 1 :: 0 :: σ)) rfl (h120.h H117).y h122 rfl (by decide) (by decide) rfl
          refine Sim.op (e125) ?_
          exact ih x1 a121 (IntKind.wrap .i64 (x6 - 1)) ((⟨r94.2.f_L, r94.2.f_At⟩ : T_limelightkeep_Tape)) v123 v103 h104 H124 (S126.wk2 all_nil (all_cons ⟨[40, 40], by simp, at_mem 1 rfl⟩ all_nil))
        · refine Sim.op ((S85.atG (i := 0) rfl).ldVs (j := 0) (xs := [.p (.int .i64 (IntKind.wrap .i64 (1 + r17.1))), v72]) rfl rfl (by decide)) ?_
          have h127 : SlF dT_api_Elem [((⟨(IntKind.wrap .i64 (1 + r17.1)), a53⟩ : T_api_Elem))] (.fz [(.p (.int .i64 (IntKind.wrap .i64 (1 + r17.1)))), v72] 1 2 true) := SlF.lit (cs := [(.p (.int .i64 (IntKind.wrap .i64 (1 + r17.1)))), v72]) (RL.cons (show dT_api_Elem.R ((⟨(IntKind.wrap .i64 (1 + r17.1)), a53⟩ : T_api_Elem)) [.p (.int .i64 (IntKind.wrap .i64 (1 + r17.1))), v72] from (dT_api_Elem.mk h75)) RL.nil) rfl rfl true
          refine Sim.op (bldS (pt_cons (c := [.p (.int .i64 (IntKind.wrap .i64 (1 + r17.1))), v72]) rfl pt_nil) (by kernel_rfl : _ = some (.fz [(.p (.int .i64 (IntKind.wrap .i64 (1 + r17.1)))), v72] 1 2 true))) ?_
          refine Sim.bd fun a128 h129 => ?_
          obtain ⟨v130, H131, e132, S133⟩ := S85.app (i := 1) (d := 40) (e := 2) (own := false) (σ := (3 :: 1 :: 1 :: 0 :: 1 :: 0 :: σ)) rfl (h127.h (ptC H69 l0 o0 (List.map C.v [v83, (.p (.int .i64 r78.2.f_At))]))).y h129 rfl (by decide) (by decide) rfl
          refine Sim.op (e132) ?_
          exact ih x1 a128 (IntKind.wrap .i64 (x6 - 1)) ((⟨r78.2.f_L, r78.2.f_At⟩ : T_limelightkeep_Tape)) v130 v83 h84 H131 (S133.wk2 all_nil (all_cons ⟨[40, 40], by simp, at_mem 1 rfl⟩ all_nil))
      · refine Sim.as ?_
        refine Sim.pure ?_
        refine Sim.op (asB_p _) ?_
        refine Sim.cd (fun hc => ?_) (fun hc => ?_)
        · refine Sim.call (limelightkeep_Tape_Next_ok (⟨r34.2.f_L, r34.2.f_At⟩ : T_limelightkeep_Tape) h44 (S71.atB (i := 0) rfl) 255) fun r134 cs135 H136 h137 q138 => ?_
          obtain ⟨v139, h140, q138⟩ := q138
          cases q138
          have S141 := S71.setB (i := 0) (cs := List.map C.v [v139, (.p (.int .i64 r134.2.f_At))]) rfl rfl
          refine Sim.op (castI_p _ _) ?_
          refine Sim.call (limelightkeep_Tape_Bytes_ok k (⟨r134.2.f_L, r134.2.f_At⟩ : T_limelightkeep_Tape) h140 (S141.atB (i := 0) rfl) 20) fun r142 cs143 H144 h145 q146 => ?_
          obtain ⟨c147, cs148, v151, h149, h150, h152, q146⟩ := q146
          cases q146
          have S153 := S141.setB (i := 0) (cs := List.map C.v [v151, (.p (.int .i64 r142.2.f_At))]) rfl rfl
          obtain ⟨v154, H155, e156, S157⟩ := S153.land (dt := (dI .u8)) (d := 35) (e := 0) (n := 0) h149 h150 (by decide) rfl
          erw [e156]
          obtain ⟨v159, H160, e161, h162, S163⟩ := S157.layD (i := 0) rfl rfl
          have e164 : layCs false H155 [(.p (.int .i64 (IntKind.wrap .i64 (1 + r134.1)))), v154] = some (List.map C.v [.p (.int .i64 (IntKind.wrap .i64 (1 + r134.1))), v159], H160) := (lc_pl (still_int _ _) (lc_st e161 lc_nil))
          refine Sim.op (bldV (pt_cons rfl (pt_cons (S157.cellsD (i := 0) rfl) pt_nil)) (by kernel_rfl : _ = some (.agg [(.p (.int .i64 (IntKind.wrap .i64 (1 + r134.1)))), v154]))) ?_
          obtain ⟨H165, e166, S167⟩ := Fm.stFrz (S0 := S157) (i0 := 0) (i := 0) (j := 0) (n := 2) (σ := (6 :: 1 :: 0 :: 1 :: 0 :: 1 :: 0 :: σ)) S163 rfl e164 rfl rfl (show List.length [(.p (.int .i64 (IntKind.wrap .i64 (1 + r134.1)))), v154] = List.length [.p (.int .i64 (IntKind.wrap .i64 (1 + r134.1))), v159] from rfl) rfl rfl
          refine Sim.op (st_map e166) ?_
          refine Sim.op ((S167.atG (i := 0) rfl).ldVs (j := 0) (xs := [.p (.int .i64 (IntKind.wrap .i64 (1 + r134.1))), v159]) rfl rfl (by decide)) ?_
          have h168 : SlF dT_api_Elem [((⟨(IntKind.wrap .i64 (1 + r134.1)), r142.1⟩ : T_api_Elem))] (.fz [(.p (.int .i64 (IntKind.wrap .i64 (1 + r134.1)))), v159] 1 2 true) := SlF.lit (cs := [(.p (.int .i64 (IntKind.wrap .i64 (1 + r134.1)))), v159]) (RL.cons (show dT_api_Elem.R ((⟨(IntKind.wrap .i64 (1 + r134.1)), r142.1⟩ : T_api_Elem)) [.p (.int .i64 (IntKind.wrap .i64 (1 + r134.1))), v159] from (dT_api_Elem.mk h162)) RL.nil) rfl rfl true
          refine Sim.op (bldS (pt_cons (c := [.p (.int .i64 (IntKind.wrap .i64 (1 + r134.1))), v159]) rfl pt_nil) (by kernel_rfl : _ = some (.fz [(.p (.int .i64 (IntKind.wrap .i64 (1 + r134.1)))), v159] 1 2 true))) ?_
          refine Sim.bd fun a169 h170 => ?_
          obtain ⟨v171, H172, e173, S174⟩ := S167.app (i := 1) (d := 40) (e := 2) (own := false) (σ := (3 :: 1 :: 1 :: 0 :: 1 :: 0 :: σ)) rfl (h168.h H165).y h170 rfl (by decide) (by decide) rfl
          refine Sim.op (e173) ?_
          exact ih x1 a169 (IntKind.wrap .i64 (x6 - 1)) ((⟨r142.2.f_L, r142.2.f_At⟩ : T_limelightkeep_Tape)) v171 v151 h152 H172 (S174.wk2 all_nil (all_cons ⟨[40, 40], by simp, at_mem 1 rfl⟩ all_nil))
        · refine Sim.op ((S71.atG (i := 0) rfl).ldVs (j := 0) (xs := [.p (.int .i64 (IntKind.wrap .i64 (1 + r17.1))), v72]) rfl rfl (by decide)) ?_
          have h175 : SlF dT_api_Elem [((⟨(IntKind.wrap .i64 (1 + r17.1)), a53⟩ : T_api_Elem))] (.fz [(.p (.int .i64 (IntKind.wrap .i64 (1 + r17.1)))), v72] 1 2 true) := SlF.lit (cs := [(.p (.int .i64 (IntKind.wrap .i64 (1 + r17.1)))), v72]) (RL.cons (show dT_api_Elem.R ((⟨(IntKind.wrap .i64 (1 + r17.1)), a53⟩ : T_api_Elem)) [.p (.int .i64 (IntKind.wrap .i64 (1 + r17.1))), v72] from (dT_api_Elem.mk h75)) RL.nil) rfl rfl true
          refine Sim.op (bldS (pt_cons (c := [.p (.int .i64 (IntKind.wrap .i64 (1 + r17.1))), v72]) rfl pt_nil) (by kernel_rfl : _ = some (.fz [(.p (.int .i64 (IntKind.wrap .i64 (1 + r17.1)))), v72] 1 2 true))) ?_
          refine Sim.bd fun a176 h177 => ?_
          obtain ⟨v178, H179, e180, S181⟩ := S71.app (i := 1) (d := 40) (e := 2) (own := false) (σ := (3 :: 1 :: 1 :: 0 :: 1 :: 0 :: σ)) rfl (h175.h H69).y h177 rfl (by decide) (by decide) rfl
          refine Sim.op (e180) ?_
          exact ih x1 a176 (IntKind.wrap .i64 (x6 - 1)) ((⟨r34.2.f_L, r34.2.f_At⟩ : T_limelightkeep_Tape)) v178 v43 h44 H179 (S181.wk2 all_nil (all_cons ⟨[40, 40], by simp, at_mem 1 rfl⟩ all_nil))
    · exact hE0 x5 ((⟨zp0.f_L, zp0.f_At⟩ : T_limelightkeep_Tape)) v13 v15 h16 H11 (S12.wk2 all_nil (all_cons ⟨[40], by simp, at_mem 0 rfl⟩ all_nil))
theorem limelightkeep_Tape_Elems_ok (k : Nat) {h : H} {σ : Stamp} (x0 : T_limelightkeep_Tape) {u0_0 : V} (hu0_0 : SlF (dI .i64) x0.f_L u0_0) {l0 : Loc} {o0 : Nat} (ha0 : AtC h l0 o0 (List.map C.v [u0_0, (.p (.int .i64 x0.f_At))])) (x1 : Bool) : Sim (p_limelightkeep_Tape_Elems k x0 x1) (ev G X0 16 σ [(.ref l0 o0), (.p (.bool x1))] h) (fun r s => ∃ (c0 : C), ∃ (a0 : List V), ∃ (vb0_0 : V), OwnS c0 dT_api_Elem.sz r.1.length a0 ∧ dT_api_Elem.L r.1 a0 ∧ SlF (dI .i64) r.2.f_L vb0_0 ∧ s = ([c0], pts h [⟨l0, o0, [.v vb0_0, .v (.p (.int .i64 r.2.f_At))]⟩])) := by
  refine Sim.ev rfl (Sim.ext (limelightkeep_Tape_Elems_entry _ _ _ _ _ _) ?_)
  rw [p_limelightkeep_Tape_Elems]
  have S0 : Fm 42 h [⟨l0, o0, List.map C.v [u0_0, (.p (.int .i64 x0.f_At))]⟩] [] [] (List.replicate 42 [] :: h) := Fm.start1 ha0
  refine Sim.call (limelightkeep_Tape_Next_ok (⟨x0.f_L, x0.f_At⟩ : T_limelightkeep_Tape) hu0_0 (S0.atB (i := 0) rfl) 4) fun r1 cs2 H3 h4 q5 => ?_
  obtain ⟨v6, h7, q5⟩ := q5
  cases q5
  have S8 := S0.setB (i := 0) (cs := List.map C.v [v6, (.p (.int .i64 r1.2.f_At))]) rfl rfl
  refine Sim.op (castI_p _ _) ?_
  have S189 := S8.nil dT_api_Elem []
  refine Sim.as (limelightkeep_Tape_Elems_l0_ok ?_ k x1 (([] : List T_api_Elem)) r1.1 ((⟨r1.2.f_L, r1.2.f_At⟩ : T_limelightkeep_Tape)) (.p (.slice none 0 0)) v6 h7 (ptC (List.replicate 42 [] :: h) l0 o0 (List.map C.v [v6, (.p (.int .i64 r1.2.f_At))])) (S189.wk2 all_nil (all_cons ⟨[], by simp, at_mem 0 rfl⟩ all_nil))) 
  · intro r190_5 zp0 v193 v195 h196 H191 S192
    refine Sim.ext (limelightkeep_Tape_Elems_a0_0 _ _ _ _ _) ?_
    obtain ⟨c202, cs203, H197, e198, h200, h201, S199⟩ := S192.expOwn (i := 0) (τ := 0 :: 1 :: σ) rfl rfl rfl
    exact Sim.fin (S199.finE (Ex.st e198 Ex.nil)) ⟨c202, cs203, v195, h200, h201, h196, rfl⟩
end Go.Ev
namespace Go.Ev
def TP (t : T_limelightkeep_Tape) : Prop := 0 ≤ t.f_At ∧ t.f_At ≤ t.f_L.length ∧ t.f_L.length < 2 ^ 50
theorem next_tape {t : T_limelightkeep_Tape} (h : TP t) {n : Int} (h1 : 1 ≤ n) : ∃ r t', p_limelightkeep_Tape_Next t n = some (r, t') ∧ (0 ≤ r ∧ r < n) ∧ TP t' := by
  obtain ⟨a1, a2, a3⟩ := h
  unfold p_limelightkeep_Tape_Next
  have e2 : decide (n < 1) = false := by simp; omega
  by_cases hc : t.f_At ≥ t.f_L.length
  · have e1 : decide (t.f_At ≥ (t.f_L.length : Int)) = true := by simpa using hc
    simp only [e1, cond_true, Option.bind_some]
    exact ⟨0, t, rfl, ⟨by omega, by omega⟩, a1, a2, a3⟩
  · have e1 : decide (t.f_At ≥ (t.f_L.length : Int)) = false := by simpa using hc
    obtain ⟨i, hi⟩ : ∃ i : Nat, t.f_At = i := ⟨t.f_At.toNat, by omega⟩
    have hlt : i < t.f_L.length := by omega
    have w1 : IntKind.wrap .i64 (t.f_At + 1) = t.f_At + 1 := wrap_i64 (by omega) (by omega)
    have w2 : IntKind.wrap .i64 (t.f_At + 1 - 1) = (i : Int) := by rw [wrap_i64 (by omega) (by omega)]; omega
    have hx : ix t.f_L (i : Int) = some t.f_L[i] := ix_at (by simp [hlt])
    obtain ⟨r, hr, r0, r1⟩ := within_lo (x := t.f_L[i]) (hi := 1073741824) (by omega) (by omega)
    simp only [e1, e2, cond_false, Option.bind_some, w1, w2, hx, hr]
    unfold remP
    rw [if_neg (by omega), Option.bind_some]
    refine ⟨_, _, rfl, ⟨Int.tmod_nonneg _ r0, Int.tmod_lt_of_pos _ (by omega)⟩, ?_⟩
    unfold TP
    simp only
    omega
theorem tape_eta (t : T_limelightkeep_Tape) : (⟨t.f_L, t.f_At⟩ : T_limelightkeep_Tape) = t := rfl
theorem tape_bytes_l0 {β : Type} (kE0 : List Int → T_limelightkeep_Tape → Option β) : ∀ (m : Nat) (j : Nat) (out : List Int) (t : T_limelightkeep_Tape), TP t → isB out → out.length + m < 1000 → m < 1000 →
    ∃ xs t', p_limelightkeep_Tape_Bytes_l0 (j + m + 1) kE0 out (m : Int) t = kE0 xs t' ∧ xs.length = out.length + m ∧ isB xs ∧ TP t'
  | 0, j, out, t, h, hb, _, _ => by
    rw [p_limelightkeep_Tape_Bytes_l0]
    have : decide (((0 : Nat) : Int) > 0) = false := by decide
    rw [this, cond_false]
    exact ⟨out, t, rfl, rfl, hb, h⟩
  | m + 1, j, out, t, h, hb, ho, hm => by
    obtain ⟨r, t1, e1, r1, h1⟩ := next_tape h (n := 256) (by omega)
    obtain ⟨xs, t2, e2, l2, b2, h2⟩ := tape_bytes_l0 kE0 m j (out ++ [r]) t1 h1 (fun x hx => by
      rcases List.mem_append.1 hx with hx | hx
      · exact hb x hx
      · simp at hx; subst hx; exact r1) (by simp; omega) (by omega)
    refine ⟨xs, t2, ?_, by rw [l2]; simp; omega, b2, h2⟩
    rw [show j + (m + 1) + 1 = (j + m + 1) + 1 from rfl, p_limelightkeep_Tape_Bytes_l0]
    have c1 : decide (((m + 1 : Nat) : Int) > 0) = true := decide_eq_true (by omega)
    have w1 : IntKind.wrap .i64 (((m + 1 : Nat) : Int) - 1) = (m : Int) := by rw [wrap_i64 (by omega) (by omega)]; omega
    rw [c1, cond_true, tape_eta, e1, Option.bind_some]
    simp only [wrap_u8 r1.1 r1.2, w1, tape_eta]
    rw [ap_eq (by decide) (by simp; omega), Option.bind_some]
    exact e2
theorem tape_bytes {t : T_limelightkeep_Tape} (h : TP t) {n k : Nat} (hn : n < 900) (hk : n + 1 ≤ k) : ∃ xs t', p_limelightkeep_Tape_Bytes k t (n : Int) = some (xs, t') ∧ xs.length ≤ n ∧ isB xs ∧ TP t' := by
  unfold p_limelightkeep_Tape_Bytes
  obtain ⟨r, t1, e1, r1, h1⟩ := next_tape h (n := (n : Int) + 1) (by omega)
  obtain ⟨m, rfl⟩ : ∃ m : Nat, r = m := ⟨r.toNat, by omega⟩
  obtain ⟨xs, t2, e2, l2, b2, h2⟩ := tape_bytes_l0 (fun a b => some (a, b)) m (k - m - 1) [] t1 h1 (fun x hx => by simp at hx) (by simp; omega) (by omega)
  rw [show k - m - 1 + m + 1 = k by omega] at e2
  refine ⟨xs, t2, ?_, by rw [l2]; simp; omega, b2, h2⟩
  rw [tape_eta, wrap_i64 (by omega) (by omega), e1, Option.bind_some]
  exact e2
def okB (two : Bool) (e : T_api_Elem) : Prop := (two = false → ok1 e) ∧ ok2 e ∧ isB e.Data
theorem tape_elems_l0 {β : Type} (kE0 : List T_api_Elem → T_limelightkeep_Tape → Option β) (two : Bool) : ∀ (m : Nat) (j : Nat) (out : List T_api_Elem) (t : T_limelightkeep_Tape), TP t → (∀ e ∈ out, okB two e) → out.length + m < 100 → 22 ≤ j →
    ∃ xs t', p_limelightkeep_Tape_Elems_l0 (j + m + 1) kE0 two out (m : Int) t = kE0 xs t' ∧ xs.length = out.length + m ∧ (∀ e ∈ xs, okB two e) ∧ TP t'
  | 0, j, out, t, h, hb, _, _ => by
    rw [p_limelightkeep_Tape_Elems_l0]
    have : decide (((0 : Nat) : Int) > 0) = false := by decide
    rw [this, cond_false]
    exact ⟨out, t, rfl, rfl, hb, h⟩
  | m + 1, j, out, t, h, hb, ho, hj => by
    obtain ⟨id, t1, e1, r1, h1⟩ := next_tape h (n := 14) (by omega)
    obtain ⟨b0, t2, e2, r2, h2⟩ := next_tape h1 (n := 256) (by omega)
    obtain ⟨bs, t3, e3, l3, b3, h3⟩ := tape_bytes h2 (n := 9) (k := j + m + 1) (by omega) (by omega)
    rw [show j + (m + 1) + 1 = (j + m + 1) + 1 from rfl, p_limelightkeep_Tape_Elems_l0]
    have c1 : decide (((m + 1 : Nat) : Int) > 0) = true := decide_eq_true (by omega)
    have w1 : IntKind.wrap .i64 (((m + 1 : Nat) : Int) - 1) = (m : Int) := by rw [wrap_i64 (by omega) (by omega)]; omega
    have w2 : IntKind.wrap .i64 (1 + id) = 1 + id := wrap_i64 (by omega) (by omega)
    have ha : ap 1 [b0] bs = some ([b0] ++ bs) := ap_eq (by decide) (by simp; omega)
    have hap : ∀ e : T_api_Elem, ap 32 out [e] = some (out ++ [e]) := fun e => ap_eq (by decide) (by simp; omega)
    have one : okB two ⟨1 + id, [b0] ++ bs⟩ := by
      have h1 : ok1 ⟨1 + id, [b0] ++ bs⟩ := by unfold ok1; simp; omega
      refine ⟨fun _ => h1, h1.ok2, fun x hx => ?_⟩
      rcases List.mem_append.1 hx with hx | hx
      · simp at hx; subst hx; exact r2
      · exact b3 x hx
    have add : ∀ e, okB two e → ∀ x ∈ out ++ [e], okB two x := fun e he x hx => by
      rcases List.mem_append.1 hx with hx | hx
      · exact hb x hx
      · simp at hx; subst hx; exact he
    simp only [c1, cond_true, cond_false, tape_eta, w1, e1, e2, Option.bind_some, wrap_u8 r2.1 r2.2]
    rw [show ((9 : Nat) : Int) = 9 from rfl] at e3
    rw [e3, Option.bind_some]
    simp only [ha, Option.bind_some, hap, w2]
    cases two with
    | false =>
      simp only [cond_false]
      obtain ⟨xs, t4, e4, l4, b4, h4⟩ := tape_elems_l0 kE0 false m j (out ++ [⟨1 + id, [b0] ++ bs⟩]) t3 h3 (add _ one) (by simp; omega) hj
      exact ⟨xs, t4, e4, by rw [l4]; simp; omega, b4, h4⟩
    | true =>
      simp only [cond_true]
      obtain ⟨q, t4, e4, r4, h4⟩ := next_tape h3 (n := 3) (by omega)
      rw [e4, Option.bind_some]
      simp only
      cases (q == 0) with
      | false =>
        simp only [cond_false]
        obtain ⟨xs, t5, e5, l5, b5, h5⟩ := tape_elems_l0 kE0 true m j (out ++ [⟨1 + id, [b0] ++ bs⟩]) t4 h4 (add _ one) (by simp; omega) hj
        exact ⟨xs, t5, e5, by rw [l5]; simp; omega, b5, h5⟩
      | true =>
        simp only [cond_true]
        obtain ⟨id2, t5, e5, r5, h5⟩ := next_tape h4 (n := 255) (by omega)
        obtain ⟨bs2, t6, e6, l6, b6, h6⟩ := tape_bytes h5 (n := 20) (k := j + m + 1) (by omega) (by omega)
        rw [show ((20 : Nat) : Int) = 20 from rfl] at e6
        have w3 : IntKind.wrap .i64 (1 + id2) = 1 + id2 := wrap_i64 (by omega) (by omega)
        rw [e5, Option.bind_some]
        simp only
        rw [e6, Option.bind_some]
        simp only [w3]
        have tw : okB true ⟨1 + id2, bs2⟩ := ⟨fun h => (by cases h), by unfold ok2; simp only; omega, b6⟩
        obtain ⟨xs, t7, e7, l7, b7, h7⟩ := tape_elems_l0 kE0 true m j (out ++ [⟨1 + id2, bs2⟩]) t6 h6 (add _ tw) (by simp; omega) hj
        exact ⟨xs, t7, e7, by rw [l7]; simp; omega, b7, h7⟩
theorem tape_elems {t : T_limelightkeep_Tape} (h : TP t) (two : Bool) {k : Nat} (hk : 30 ≤ k) : ∃ l t', p_limelightkeep_Tape_Elems k t two = some (l, t') ∧ l.length ≤ 3 ∧ (∀ e ∈ l, okB two e) ∧ TP t' := by
  unfold p_limelightkeep_Tape_Elems
  obtain ⟨r, t1, e1, r1, h1⟩ := next_tape h (n := 4) (by omega)
  obtain ⟨m, rfl⟩ : ∃ m : Nat, r = m := ⟨r.toNat, by omega⟩
  obtain ⟨xs, t2, e2, l2, b2, h2⟩ := tape_elems_l0 (fun a b => some (a, b)) two m (k - m - 1) [] t1 h1 (fun x hx => by simp at hx) (by simp; omega) (by omega)
  rw [show k - m - 1 + m + 1 = k by omega] at e2
  refine ⟨xs, t2, ?_, by rw [l2]; simp; omega, b2, h2⟩
  rw [tape_eta, e1, Option.bind_some]
  exact e2
end Go.Ev
/- Equations, printed by tracer2.py. -/
namespace Go.Ev
open Go.Proofs
set_option linter.unusedVariables false
set_option maxRecDepth 100000
-- 10 limelight/limelightlaw8.CtlLayers
theorem limelightlaw8_CtlLayers_entry (rec : CallF) (loop : LoopV) (σ : Stamp) (x0 : V) (x1 : Int) (h : H) : cvBody G rec loop 10 σ [x0, (.p (.int .i64 x1))] h =
 (buildV Try.prog 26 [(0, x0)]).bind fun t1 =>
 (boxO false (2 :: 0 :: 1 :: 0 :: σ) 11 (List.replicate 77 [] :: h) t1).bind fun q2 =>
 (callO rec 33 (5 :: 0 :: 1 :: 0 :: σ) [q2.1, (.p (.int .i64 (intBits .and .i64 x1 3)))] q2.2 (some 14)).bind fun q3 =>
 (callO rec 34 (1 :: 0 :: 0 :: 1 :: 1 :: 0 :: σ) [q3.1] q3.2 (some 16)).bind fun q4 =>
 (castI .i64 q4.1).bind fun n5 =>
 bif n5 != 0 then (
 fin false σ q4.2 [(.p (.bool false))])
 else (
 (lenO q3.1).bind fun t6 =>
 (castI .i64 t6).bind fun n7 =>
 bif decide (n7 > 1) then (
 (buildSliceV Try.prog 56 0 []).bind fun t8 =>
 (apO false 3 32 (2 :: 0 :: 1 :: 0 :: 1 :: 1 :: 1 :: 0 :: σ) 23 q4.2 t8 q3.1).bind fun q9 =>
 (iS 3 q9.1 1).bind fun t10 =>
 (ldO true 3 q9.2 t10).bind fun t11 =>
 (iS 3 q9.1 0).bind fun t12 =>
 (ldO true 3 q9.2 t12).bind fun t13 =>
 (iS 3 q9.1 0).bind fun t14 =>
 ((stO false 3 (9 :: 0 :: 1 :: 1 :: 0 :: 1 :: 1 :: 1 :: 0 :: σ) q9.2 t14 t11).map fun h => (udf, h)).bind fun q15 =>
 (iS 3 q9.1 1).bind fun t16 =>
 ((stO false 3 (11 :: 0 :: 1 :: 1 :: 0 :: 1 :: 1 :: 1 :: 0 :: σ) q15.2 t16 t13).map fun h => (udf, h)).bind fun q17 =>
 (buildSliceV Try.prog 56 0 []).bind fun t18 =>
 (apO false 3 32 (2 :: 0 :: 1 :: 1 :: 1 :: 0 :: 1 :: 1 :: 1 :: 0 :: σ) 36 q17.2 t18 q3.1).bind fun q19 =>
 (iS 3 q19.1 0).bind fun t20 =>
 (fA t20 1).bind fun t21 =>
 (ldO false 1 q19.2 t21).bind fun t22 =>
 (castI .u32 t22).bind fun n23 =>
 (iS 3 q19.1 1).bind fun t24 =>
 (fA t24 1).bind fun t25 =>
 ((stO true 1 (7 :: 0 :: 1 :: 1 :: 1 :: 1 :: 0 :: 1 :: 1 :: 1 :: 0 :: σ) q19.2 t25 (.p (.int .u32 n23))).map fun h => (udf, h)).bind fun q26 =>
 (buildSliceV Try.prog 56 0 []).bind fun t27 =>
 (apO false 3 32 (2 :: 0 :: 1 :: 1 :: 1 :: 1 :: 1 :: 0 :: 1 :: 1 :: 1 :: 0 :: σ) 46 q26.2 t27 q3.1).bind fun q28 =>
 (iS 3 q28.1 0).bind fun t29 =>
 (fA t29 0).bind fun t30 =>
 (ldO false 1 q28.2 t30).bind fun t31 =>
 (castS t31).bind fun s32 =>
 (iS 3 q28.1 1).bind fun t33 =>
 (fA t33 0).bind fun t34 =>
 ((stO true 1 (7 :: 0 :: 1 :: 1 :: 1 :: 1 :: 1 :: 1 :: 0 :: 1 :: 1 :: 1 :: 0 :: σ) q28.2 t34 (.p (.string s32))).map fun h => (udf, h)).bind fun q35 =>
 (callO rec 34 (1 :: 0 :: 1 :: 1 :: 1 :: 1 :: 1 :: 1 :: 1 :: 0 :: 1 :: 1 :: 1 :: 0 :: σ) [q9.1] q35.2 (some 55)).bind fun q36 =>
 (castI .i64 q36.1).bind fun n37 =>
 (bif n37 != 26 then (some ((.p (.bool true)), q36.2)) else ((callO rec 34 (5 :: 0 :: 1 :: 1 :: 1 :: 1 :: 1 :: 1 :: 1 :: 0 :: 1 :: 1 :: 1 :: 0 :: σ) [q19.1] q36.2 (some 59)).bind fun q38 =>
 (castI .i64 q38.1).bind fun n39 =>
 some ((.p (.bool (n39 != 26))), q38.2))).bind fun q40 =>
 (asB q40.1).bind fun b41 =>
 (bif b41 then (some ((.p (.bool true)), q40.2)) else ((callO rec 34 (10 :: 0 :: 1 :: 1 :: 1 :: 1 :: 1 :: 1 :: 1 :: 0 :: 1 :: 1 :: 1 :: 0 :: σ) [q28.1] q40.2 (some 64)).bind fun q42 =>
 (castI .i64 q42.1).bind fun n43 =>
 some ((.p (.bool (n43 != 26))), q42.2))).bind fun q44 =>
 (asB q44.1).bind fun b45 =>
 bif b45 then (
 fin false σ q44.2 [(.p (.bool false))])
 else (
 (buildSliceV Try.prog 56 0 []).bind fun t46 =>
 (apO false 3 32 (2 :: 0 :: 1 :: 1 :: 1 :: 1 :: 0 :: σ) 69 q44.2 t46 q3.1).bind fun q47 =>
 (apO false 3 32 (4 :: 0 :: 1 :: 1 :: 1 :: 1 :: 0 :: σ) 71 q47.2 q47.1 q3.1).bind fun q48 =>
 (callO rec 34 (5 :: 0 :: 1 :: 1 :: 1 :: 1 :: 0 :: σ) [q48.1] q48.2 (some 72)).bind fun q49 =>
 (castI .i64 q49.1).bind fun n50 =>
 (bif n50 == 26 then ((callO rec 32 (8 :: 0 :: 1 :: 1 :: 1 :: 1 :: 0 :: σ) [] q49.2 (some 75)).bind fun q51 =>
 (asB q51.1).bind fun b52 =>
 some ((.p (.bool b52)), q51.2)) else (some ((.p (.bool false)), q49.2))).bind fun q53 =>
 (asB q53.1).bind fun b54 =>
 fin false σ q53.2 [(.p (.bool b54))]))
 else (
 (buildSliceV Try.prog 56 0 []).bind fun t55 =>
 (apO false 3 32 (2 :: 0 :: 1 :: 1 :: 1 :: 1 :: 0 :: σ) 69 q4.2 t55 q3.1).bind fun q56 =>
 (apO false 3 32 (4 :: 0 :: 1 :: 1 :: 1 :: 1 :: 0 :: σ) 71 q56.2 q56.1 q3.1).bind fun q57 =>
 (callO rec 34 (5 :: 0 :: 1 :: 1 :: 1 :: 1 :: 0 :: σ) [q57.1] q57.2 (some 72)).bind fun q58 =>
 (castI .i64 q58.1).bind fun n59 =>
 (bif n59 == 26 then ((callO rec 32 (8 :: 0 :: 1 :: 1 :: 1 :: 1 :: 0 :: σ) [] q58.2 (some 75)).bind fun q60 =>
 (asB q60.1).bind fun b61 =>
 some ((.p (.bool b61)), q60.2)) else (some ((.p (.bool false)), q58.2))).bind fun q62 =>
 (asB q62.1).bind fun b63 =>
 fin false σ q62.2 [(.p (.bool b63))])) := by kernel_rfl
end Go.Ev
/- Equations, printed by tracer2.py. -/
namespace Go.Ev
open Go.Proofs
set_option linter.unusedVariables false
set_option maxRecDepth 100000
-- 34 limelight/ctl.Layers
noncomputable def ctl_Layers_c0 : Code := (codeAt (bodyOf Try.f34) [1, 1, 0, 1, 0, 0])
def ctl_Layers_l0 : Lv := ⟨0, 4, [(0, 0)]⟩
noncomputable def ctl_Layers_k0 (rec : CallF) (loop : LoopV) (σ : Stamp) : Exit → Env → H → Option (List C × H) := (kBlock 0 (kSeq G rec loop (codeAt (bodyOf Try.f34) [1, 1, 1]) ⟨4, 4, []⟩ (1 :: 1 :: 0 :: σ) (finC G false Try.f34 (1 :: σ))))
theorem ctl_Layers_entry (rec : CallF) (loop : LoopV) (σ : Stamp) (x0 : V) (h : H) : cvBody G rec loop 34 σ [x0] h =
 (lenO x0).bind fun t1 =>
 (castI .i64 t1).bind fun n2 =>
 (bif decide (n2 < 1) then (some true) else ((lenO x0).bind fun t3 =>
 (castI .i64 t3).bind fun n4 =>
 some (decide (n4 > 3)))).bind fun b5 =>
 bif b5 then (
 fin false σ (List.replicate 55 [] :: h) [(.p (.int .i64 26))])
 else (
 (lenO x0).bind fun t6 =>
 (castI .i64 t6).bind fun n7 =>
 (loop ctl_Layers_c0 ctl_Layers_l0 (1 :: 0 :: 1 :: 1 :: 0 :: σ) (envL [(0, x0), (13, x0), (14, (.p (.int .i64 n7))), (15, (.p (.int .i64 0)))]) (List.replicate 55 [] :: h)).bind fun r8 => ctl_Layers_k0 rec loop σ r8.1 r8.2.1 r8.2.2) := by kernel_rfl
theorem ctl_Layers_r0 (rec : CallF) (loop : LoopV) (σ : Stamp) (x0 : V) (x13 : V) (x14 : Int) (x15 : Int) (h : H) : cvRound G rec loop ctl_Layers_c0 ctl_Layers_l0 σ (envL [(0, x0), (13, x13), (14, (.p (.int .i64 x14))), (15, (.p (.int .i64 x15)))]) h =
 bif decide (x15 < x14) then (
 (iS 3 x13 x15).bind fun t9 =>
 (ldO true 3 h t9).bind fun t10 =>
 (some (alO [.p (.string (⟨#[]⟩ : ByteArray)), .p (.int .u32 0), .p (.int .i64 0)] (3 :: 0 :: 0 :: 1 :: 1 :: 0 :: σ) 4 h)).bind fun q11 =>
 ((stO false 3 (5 :: 0 :: 0 :: 1 :: 1 :: 0 :: σ) q11.2 q11.1 t10).map fun h => (udf, h)).bind fun q12 =>
 (fA q11.1 0).bind fun t13 =>
 (ldO false 1 q12.2 t13).bind fun t14 =>
 (castS t14).bind fun s15 =>
 (callO rec 64 (2 :: 0 :: 0 :: 1 :: 0 :: 1 :: 1 :: 0 :: σ) [(.p (.string s15))] q12.2 (some 22)).bind fun q16 =>
 (asB q16.1).bind fun b17 =>
 (bif !b17 then (some true) else ((fA q11.1 2).bind fun t18 =>
 (ldO false 1 q16.2 t18).bind fun t19 =>
 (castI .i64 t19).bind fun n20 =>
 some (decide (n20 < 1)))).bind fun b21 =>
 (bif b21 then (some true) else ((fA q11.1 2).bind fun t22 =>
 (ldO false 1 q16.2 t22).bind fun t23 =>
 (castI .i64 t23).bind fun n24 =>
 some (decide (n24 > 8192)))).bind fun b25 =>
 (bif b25 then (some true) else ((bif decide (x15 > 0) then ((fA q11.1 2).bind fun t26 =>
 (ldO false 1 q16.2 t26).bind fun t27 =>
 (castI .i64 t27).bind fun n28 =>
 (iS 3 x0 (IntKind.wrap .i64 (x15 - 1))).bind fun t29 =>
 (fA t29 2).bind fun t30 =>
 (ldO false 1 q16.2 t30).bind fun t31 =>
 (castI .i64 t31).bind fun n32 =>
 some (decide (n28 ≤ n32))) else (some false)).bind fun b33 =>
 some b33)).bind fun b34 =>
 bif b34 then (
 some (.ret, (envL [(2, (.p (.int .i64 26)))]), q16.2))
 else (
 (slS 3 x0 none (some x15) none).bind fun t35 =>
 (callO rec 74 (4 :: 0 :: 1 :: 1 :: 0 :: 1 :: 1 :: 0 :: σ) [t35, (.clo 75 [q11.1])] q16.2 (some 53)).bind fun q36 =>
 (asB q36.1).bind fun b37 =>
 bif b37 then (
 some (.ret, (envL [(2, (.p (.int .i64 26)))]), q36.2))
 else (
 loop ctl_Layers_c0 ctl_Layers_l0 (1 :: σ) (envL [(0, x0), (13, x13), (14, (.p (.int .i64 x14))), (15, (.p (.int .i64 (IntKind.wrap .i64 (x15 + 1)))))]) q36.2)))
 else (
 some ((.exit 0), (envL []), h)) := by kernel_rfl
theorem ctl_Layers_a0_0 (rec : CallF) (loop : LoopV) (σ : Stamp)  (h : H) : ctl_Layers_k0 rec loop σ (.exit 0) (envL []) h =
 fin false σ h [(.p (.int .i64 0))] := by kernel_rfl
theorem ctl_Layers_a0_ret (rec : CallF) (loop : LoopV) (σ : Stamp) (x2 : Int) (h : H) : ctl_Layers_k0 rec loop σ .ret (envL [(2, (.p (.int .i64 x2)))]) h =
 fin false σ h [(.p (.int .i64 x2))] := by kernel_rfl
end Go.Ev
/- Equations, printed by tracer2.py. -/
namespace Go.Ev
open Go.Proofs
set_option linter.unusedVariables false
set_option maxRecDepth 100000
-- 74 slices.ContainsFunc[[]limelight/api.Layer,limelight/api.Layer]
theorem slices_ContainsFunc_Lapi_Layer_api_Layer_entry (rec : CallF) (loop : LoopV) (σ : Stamp) (x0 : V) (x1 : V) (h : H) : cvBody G rec loop 74 σ [x0, x1] h =
 (callO rec 108 (2 :: 0 :: 1 :: 0 :: σ) [x0, x1] (List.replicate 9 [] :: h) (some 7)).bind fun q1 =>
 (castI .i64 q1.1).bind fun n2 =>
 fin false σ q1.2 [(.p (.bool (decide (n2 ≥ 0))))] := by kernel_rfl
end Go.Ev
/- Equations, printed by tracer2.py. -/
namespace Go.Ev
open Go.Proofs
set_option linter.unusedVariables false
set_option maxRecDepth 100000
-- 108 slices.IndexFunc[[]limelight/api.Layer,limelight/api.Layer]
noncomputable def slices_IndexFunc_Lapi_Layer_api_Layer_c0 : Code := (codeAt (bodyOf Try.f108) [1, 0, 1, 0, 0])
def slices_IndexFunc_Lapi_Layer_api_Layer_l0 : Lv := ⟨0, 16, [(0, 0)]⟩
noncomputable def slices_IndexFunc_Lapi_Layer_api_Layer_k0 (rec : CallF) (loop : LoopV) (σ : Stamp) : Exit → Env → H → Option (List C × H) := (kBlock 0 (kSeq G rec loop (codeAt (bodyOf Try.f108) [1, 1]) ⟨16, 16, []⟩ (1 :: 0 :: σ) (finC G false Try.f108 (1 :: σ))))
theorem slices_IndexFunc_Lapi_Layer_api_Layer_entry (rec : CallF) (loop : LoopV) (σ : Stamp) (x0 : V) (x1 : V) (h : H) : cvBody G rec loop 108 σ [x0, x1] h =
 (lenO x0).bind fun t1 =>
 (castI .i64 t1).bind fun n2 =>
 (loop slices_IndexFunc_Lapi_Layer_api_Layer_c0 slices_IndexFunc_Lapi_Layer_api_Layer_l0 (1 :: 0 :: 1 :: 0 :: σ) (envL [(0, x0), (1, x1), (7, (.p (.int .i64 n2))), (8, (.p (.int .i64 0)))]) (List.replicate 19 [] :: h)).bind fun r3 => slices_IndexFunc_Lapi_Layer_api_Layer_k0 rec loop σ r3.1 r3.2.1 r3.2.2 := by kernel_rfl
theorem slices_IndexFunc_Lapi_Layer_api_Layer_r0 (rec : CallF) (loop : LoopV) (σ : Stamp) (x0 : V) (x1 : V) (x7 : Int) (x8 : Int) (h : H) : cvRound G rec loop slices_IndexFunc_Lapi_Layer_api_Layer_c0 slices_IndexFunc_Lapi_Layer_api_Layer_l0 σ (envL [(0, x0), (1, x1), (7, (.p (.int .i64 x7))), (8, (.p (.int .i64 x8)))]) h =
 bif decide (x8 < x7) then (
 (iS 3 x0 x8).bind fun t4 =>
 (ldO true 3 h t4).bind fun t5 =>
 (cloO rec x1 (5 :: 0 :: 1 :: 0 :: 1 :: 1 :: 0 :: σ) [t5] h (some 16)).bind fun q6 =>
 (asB q6.1).bind fun b7 =>
 bif b7 then (
 some (.ret, (envL [(4, (.p (.int .i64 x8)))]), q6.2))
 else (
 loop slices_IndexFunc_Lapi_Layer_api_Layer_c0 slices_IndexFunc_Lapi_Layer_api_Layer_l0 (1 :: σ) (envL [(0, x0), (1, x1), (7, (.p (.int .i64 x7))), (8, (.p (.int .i64 (IntKind.wrap .i64 (x8 + 1)))))]) q6.2))
 else (
 some ((.exit 0), (envL []), h)) := by kernel_rfl
theorem slices_IndexFunc_Lapi_Layer_api_Layer_a0_0 (rec : CallF) (loop : LoopV) (σ : Stamp)  (h : H) : slices_IndexFunc_Lapi_Layer_api_Layer_k0 rec loop σ (.exit 0) (envL []) h =
 fin false σ h [(.p (.int .i64 (-1)))] := by kernel_rfl
theorem slices_IndexFunc_Lapi_Layer_api_Layer_a0_ret (rec : CallF) (loop : LoopV) (σ : Stamp) (x4 : Int) (h : H) : slices_IndexFunc_Lapi_Layer_api_Layer_k0 rec loop σ .ret (envL [(4, (.p (.int .i64 x4)))]) h =
 fin false σ h [(.p (.int .i64 x4))] := by kernel_rfl
end Go.Ev
/- Equations, printed by tracer2.py. -/
namespace Go.Ev
open Go.Proofs
set_option linter.unusedVariables false
set_option maxRecDepth 100000
-- 75 limelight/ctl.Layers$1
theorem ctl_Layers_1_entry (rec : CallF) (loop : LoopV) (σ : Stamp) (x0 : V) (x1 : V) (h : H) : cvBody G rec loop 75 σ [x0, x1] h =
 (boxO false (0 :: 0 :: 0 :: σ) 2 (List.replicate 16 [] :: h) x0).bind fun q1 =>
 (fA q1.1 1).bind fun t2 =>
 (ldO false 1 q1.2 t2).bind fun t3 =>
 (castI .u32 t3).bind fun n4 =>
 (fA x1 1).bind fun t5 =>
 (ldO false 1 q1.2 t5).bind fun t6 =>
 (castI .u32 t6).bind fun n7 =>
 (bif n4 == n7 then (some ((.p (.bool true)), q1.2)) else ((fA q1.1 0).bind fun t8 =>
 (ldO false 1 q1.2 t8).bind fun t9 =>
 (castS t9).bind fun s10 =>
 (fA x1 0).bind fun t11 =>
 (ldO false 1 q1.2 t11).bind fun t12 =>
 (castS t12).bind fun s13 =>
 (callO rec 76 (10 :: 0 :: 1 :: 0 :: σ) [(.p (.string s10)), (.p (.string s13))] q1.2 (some 14)).bind fun q14 =>
 (asB q14.1).bind fun b15 =>
 some ((.p (.bool b15)), q14.2))).bind fun q16 =>
 (asB q16.1).bind fun b17 =>
 fin false σ q16.2 [(.p (.bool b17))] := by kernel_rfl
end Go.Ev
/- Equations, printed by tracer2.py. -/
namespace Go.Ev
open Go.Proofs
set_option linter.unusedVariables false
set_option maxRecDepth 100000
-- 76 limelight/rid.Same
theorem rid_Same_entry (rec : CallF) (loop : LoopV) (σ : Stamp) (x0 : ByteArray) (x1 : ByteArray) (h : H) : cvBody G rec loop 76 σ [(.p (.string x0)), (.p (.string x1))] h =
 (callO rec 109 (1 :: 0 :: 1 :: 0 :: σ) [(.p (.string x0))] (List.replicate 10 [] :: h) (some 6)).bind fun q1 =>
 (castS q1.1).bind fun s2 =>
 (callO rec 109 (3 :: 0 :: 1 :: 0 :: σ) [(.p (.string x1))] q1.2 (some 8)).bind fun q3 =>
 (castS q3.1).bind fun s4 =>
 fin false σ q3.2 [(.p (.bool (s2.toList == s4.toList)))] := by kernel_rfl
end Go.Ev
/- Told from outside: rid_Fold. -/
namespace Go.Ev
open Go.Proofs
def p_rid_Fold (x0 : ByteArray) : Option ByteArray := if x0.size < 2 ^ 40 then some (RidX.foldB x0) else none
theorem rid_Fold_ok {h : H} {σ : Stamp} (x0 : ByteArray) : Sim (p_rid_Fold x0) (ev G X0 109 σ [(.p (.string x0))] h) (fun r s => s = ([.v (.p (.string r))], h)) := by
  unfold p_rid_Fold
  split
  · rename_i hs
    exact Sim.told (s := ([.v (.p (.string (RidX.foldB x0)))], h)) (ev_ext (by simp only [X0, plainX, XT]; simp [hs])) rfl
  · exact Sim.no
end Go.Ev
/- Lifted by lift.py: rid_Same as a plain function. -/
namespace Go.Ev
open Go.Proofs
set_option linter.unusedVariables false
set_option linter.unusedSimpArgs false
set_option maxRecDepth 100000
def p_rid_Same (x0 : ByteArray) (x1 : ByteArray) : Option (Bool) :=
(p_rid_Fold x0).bind fun r1 =>
(p_rid_Fold x1).bind fun r6 =>
some ((r1.toList == r6.toList))
theorem rid_Same_ok {h : H} {σ : Stamp} (x0 : ByteArray) (x1 : ByteArray) : Sim (p_rid_Same x0 x1) (ev G X0 76 σ [(.p (.string x0)), (.p (.string x1))] h) (fun r s => s = ([.v (.p (.bool r))], h)) := by
  refine Sim.ev rfl (Sim.ext (rid_Same_entry _ _ _ _ _ _) ?_)
  rw [p_rid_Same]
  have S0 : Fm 10 h [] [] [] (List.replicate 10 [] :: h) := Fm.start0
  refine Sim.call (rid_Fold_ok x0) fun r1 cs2 H3 h4 q5 => ?_
  cases q5
  refine Sim.op (castS_p _) ?_
  refine Sim.call (rid_Fold_ok x1) fun r6 cs7 H8 h9 q10 => ?_
  cases q10
  refine Sim.op (castS_p _) ?_
  exact Sim.fin (S0.finN (lv_cons (still_bool _).lv lv_nil)) rfl
end Go.Ev
/- Lifted by lift.py: ctl_Layers_1 as a plain function. -/
namespace Go.Ev
open Go.Proofs
set_option linter.unusedVariables false
set_option linter.unusedSimpArgs false
set_option maxRecDepth 100000
def p_ctl_Layers_1 (x0 : T_api_Layer) (x1 : T_api_Layer) : Option (Bool) :=
(bif x0.Ssrc == x1.Ssrc then (some true) else ((p_rid_Same x0.Rid x1.Rid).bind fun r5 =>
some r5)).bind fun b10 =>
some (b10)
theorem ctl_Layers_1_ok {h : H} {σ : Stamp} (x0 : T_api_Layer) {u0 : List V} (hu0 : dT_api_Layer.R x0 u0) (x1 : T_api_Layer)  {l1 : Loc} {o1 : Nat} (ha1 : AtC h l1 o1 (List.map C.v [(.p (.string x1.Rid)), (.p (.int .u32 x1.Ssrc)), (.p (.int .i64 x1.Height))])) : Sim (p_ctl_Layers_1 x0 x1) (ev G X0 75 σ [(.agg u0), (.ref l1 o1)] h) (fun r s => s = ([.v (.p (.bool r))], h)) := by
  refine Sim.ev rfl (Sim.ext (ctl_Layers_1_entry _ _ _ _ _ _) ?_)
  rw [p_ctl_Layers_1]
  obtain rfl := dT_api_Layer.inv hu0
  have S0 : Fm 16 h [] [] [] (List.replicate 16 [] :: h) := Fm.start0
  obtain ⟨H1, e2, S3⟩ := S0.box (own := false) (d := 2) (s := (0 :: 0 :: 0 :: σ)) (xs := [(.p (.string x0.Rid)), (.p (.int .u32 x0.Ssrc)), (.p (.int .i64 x0.Height))]) (stills_cons (still_str _) (stills_cons (still_int _ _) (stills_cons (still_int _ _) stills_nil))) (by decide) rfl
  refine Sim.op (e2) ?_
  refine Sim.op (fA_ref _ _ _) ?_
  refine Sim.op ((S3.atG (i := 0) rfl).ld (j := 1) rfl) ?_
  refine Sim.op (castI_p _ _) ?_
  refine Sim.op (fA_ref _ _ _) ?_
  refine Sim.op ((S3.lowA ha1).ld (j := 1) rfl) ?_
  refine Sim.op (castI_p _ _) ?_
  refine Sim.ch (P := fun r y => (.p (.bool r), H1) = y) ?_ (fun b10 y11 h12 h13 => ?_)
  · refine Sim.cd (fun hc => ?_) (fun hc => ?_)
    · exact Sim.ret rfl rfl
    · refine Sim.op (fA_ref _ _ _) ?_
      refine Sim.op ((S3.atG (i := 0) rfl).ld (j := 0) rfl) ?_
      refine Sim.op (castS_p _) ?_
      refine Sim.op (fA_ref _ _ _) ?_
      refine Sim.op ((S3.lowA ha1).ld (j := 0) rfl) ?_
      refine Sim.op (castS_p _) ?_
      refine Sim.call (rid_Same_ok x0.Rid x1.Rid) fun r5 cs6 H7 h8 q9 => ?_
      cases q9
      refine Sim.op (asB_p _) ?_
      exact Sim.ret rfl rfl
  subst h13
  refine Sim.op (asB_p _) ?_
  exact Sim.fin (S3.finN (lv_cons (still_bool _).lv lv_nil)) rfl
end Go.Ev
/- Lifted by lift.py: slices_IndexFunc_Lapi_Layer_api_Layer as a plain function. -/
namespace Go.Ev
open Go.Proofs
set_option linter.unusedVariables false
set_option linter.unusedSimpArgs false
set_option maxRecDepth 100000
def p_slices_IndexFunc_Lapi_Layer_api_Layer_ctl_Layers_1_l0 {β : Type} (k : Nat) (kE0 : Unit → Option β) (kE1 : Int → Option β) (x0 : (List T_api_Layer)) (x1c0 : T_api_Layer) (x7 : Int) (x8 : Int) : Option β := match k with
| 0 => none
| k + 1 =>
bif decide (x8 < x7) then (
(ix x0 x8).bind fun a9 =>
(p_ctl_Layers_1 a9 (⟨x1c0.Rid, x1c0.Ssrc, x1c0.Height⟩ : T_api_Layer)).bind fun r14 =>
bif r14 then (
kE1 x8)
else (
p_slices_IndexFunc_Lapi_Layer_api_Layer_ctl_Layers_1_l0 k kE0 kE1 x0 ((⟨x1c0.Rid, x1c0.Ssrc, x1c0.Height⟩ : T_api_Layer)) x7 (IntKind.wrap .i64 (x8 + 1))))
else (
kE0 ())
def p_slices_IndexFunc_Lapi_Layer_api_Layer_ctl_Layers_1 (k : Nat) (x0 : (List T_api_Layer)) (x1c0 : T_api_Layer) : Option (Int) :=
p_slices_IndexFunc_Lapi_Layer_api_Layer_ctl_Layers_1_l0 k (fun (_ : Unit) =>
some ((-1))) (fun r26_4 =>
some (r26_4)) x0 ((⟨x1c0.Rid, x1c0.Ssrc, x1c0.Height⟩ : T_api_Layer)) ((x0.length : Int)) 0
theorem slices_IndexFunc_Lapi_Layer_api_Layer_ctl_Layers_1_l0_ok {h : H}  {β α : Type} {Q : β → α → Prop} {K : Exit × Env × H → Option α} {kE0 : Unit → Option β} {kE1 : Int → Option β} (hE0 : ∀ (_u : Unit) (H19 : Go.Ev.H) (_ : Fm 19 h [] [] [] H19), Sim (kE0 ()) (K ((.exit 0), (envL []), H19)) Q) (hE1 : ∀ (q4 : Int) (H21 : Go.Ev.H) (_ : Fm 19 h [] [] [] H21), Sim (kE1 q4) (K (.ret, (envL [(4, (.p (.int .i64 q4)))]), H21)) Q) (k : Nat) : ∀ (x0 : (List T_api_Layer)) (x1c0 : T_api_Layer) (x7 : Int) (x8 : Int) (v3 : V) (h4 : SlH h dT_api_Layer x0 v3) (lr5 : Loc) (or6 : Nat) (har7 : AtC h lr5 or6 (List.map C.v [(.p (.string x1c0.Rid)), (.p (.int .u32 x1c0.Ssrc)), (.p (.int .i64 x1c0.Height))])) (H1 : Go.Ev.H) (_ : Fm 19 h [] [] [] H1) {σ : Stamp}, Sim (p_slices_IndexFunc_Lapi_Layer_api_Layer_ctl_Layers_1_l0 k kE0 kE1 x0 x1c0 x7 x8) ((cvL G X0 slices_IndexFunc_Lapi_Layer_api_Layer_c0 slices_IndexFunc_Lapi_Layer_api_Layer_l0 σ (envL [(0, v3), (1, (.clo 75 [(.ref lr5 or6)])), (7, (.p (.int .i64 x7))), (8, (.p (.int .i64 x8)))]) H1).bind K) Q := by
  induction k with
  | zero => intros; exact Sim.no
  | succ k ih =>
    intro x0 x1c0 x7 x8 v3 h4 lr5 or6 har7 H1 S2 σ
    rw [p_slices_IndexFunc_Lapi_Layer_api_Layer_ctl_Layers_1_l0]
    refine Sim.round (Sim.ext (slices_IndexFunc_Lapi_Layer_api_Layer_r0 _ _ _ _ _ _ _ _) ?_)
    refine Sim.cd (fun hc => ?_) (fun hc => ?_)
    · refine Sim.bd fun a9 h10 => ?_
      refine Sim.op ((S2.low h4).iS h10 rfl) ?_
      obtain ⟨w12, h13, hE11⟩ := (S2.low h4).el h10 rfl
      obtain rfl := dT_api_Layer.inv h13
      refine Sim.op (hE11.all (by simp)) ?_
      refine Sim.clo ?_
      refine Sim.call (ctl_Layers_1_ok a9 (show dT_api_Layer.R a9 [.p (.string a9.Rid), .p (.int .u32 a9.Ssrc), .p (.int .i64 a9.Height)] from (dT_api_Layer.mk)) (⟨x1c0.Rid, x1c0.Ssrc, x1c0.Height⟩ : T_api_Layer) (S2.lowA har7)) fun r14 cs15 H16 h17 q18 => ?_
      cases q18
      refine Sim.op (asB_p _) ?_
      refine Sim.cd (fun hc => ?_) (fun hc => ?_)
      · exact hE1 x8 H1 (S2.wk2 all_nil all_nil)
      · exact ih x0 ((⟨x1c0.Rid, x1c0.Ssrc, x1c0.Height⟩ : T_api_Layer)) x7 (IntKind.wrap .i64 (x8 + 1)) v3 h4 lr5 or6 har7 H1 (S2.wk2 all_nil all_nil)
    · exact hE0 () H1 (S2.wk2 all_nil all_nil)
theorem slices_IndexFunc_Lapi_Layer_api_Layer_ctl_Layers_1_ok (k : Nat) {h : H} {σ : Stamp} (x0 : List T_api_Layer) {u0 : V} (hu0 : SlH h dT_api_Layer x0 u0) (x1c0 : T_api_Layer)  {l1c0 : Loc} {o1c0 : Nat} (ha1c0 : AtC h l1c0 o1c0 (List.map C.v [(.p (.string x1c0.Rid)), (.p (.int .u32 x1c0.Ssrc)), (.p (.int .i64 x1c0.Height))])) : Sim (p_slices_IndexFunc_Lapi_Layer_api_Layer_ctl_Layers_1 k x0 x1c0) (ev G X0 108 σ [u0, (.clo 75 [(.ref l1c0 o1c0)])] h) (fun r s => s = ([.v (.p (.int .i64 r))], h)) := by
  refine Sim.ev rfl (Sim.ext (slices_IndexFunc_Lapi_Layer_api_Layer_entry _ _ _ _ _ _) ?_)
  rw [p_slices_IndexFunc_Lapi_Layer_api_Layer_ctl_Layers_1]
  have S0 : Fm 19 h [] [] [] (List.replicate 19 [] :: h) := Fm.start0
  refine Sim.op ((S0.low hu0).len) ?_
  refine Sim.op (castI_p _ _) ?_
  refine Sim.as (slices_IndexFunc_Lapi_Layer_api_Layer_ctl_Layers_1_l0_ok ?_ ?_ k x0 ((⟨x1c0.Rid, x1c0.Ssrc, x1c0.Height⟩ : T_api_Layer)) ((x0.length : Int)) 0 u0 hu0 l1c0 o1c0 ha1c0 (List.replicate 19 [] :: h) (S0.wk2 all_nil all_nil)) 
  · intro _u H24 S25
    refine Sim.ext (slices_IndexFunc_Lapi_Layer_api_Layer_a0_0 _ _ _ _) ?_
    exact Sim.fin (S25.finN (lv_cons (still_int _ _).lv lv_nil)) rfl
  · intro r26_4 H27 S28
    refine Sim.ext (slices_IndexFunc_Lapi_Layer_api_Layer_a0_ret _ _ _ _ _) ?_
    exact Sim.fin (S28.finN (lv_cons (still_int _ _).lv lv_nil)) rfl
end Go.Ev
/- Lifted by lift.py: slices_ContainsFunc_Lapi_Layer_api_Layer as a plain function. -/
namespace Go.Ev
open Go.Proofs
set_option linter.unusedVariables false
set_option linter.unusedSimpArgs false
set_option maxRecDepth 100000
def p_slices_ContainsFunc_Lapi_Layer_api_Layer_ctl_Layers_1 (k : Nat) (x0 : (List T_api_Layer)) (x1c0 : T_api_Layer) : Option (Bool) :=
(p_slices_IndexFunc_Lapi_Layer_api_Layer_ctl_Layers_1 k x0 (⟨x1c0.Rid, x1c0.Ssrc, x1c0.Height⟩ : T_api_Layer)).bind fun r1 =>
some ((decide (r1 ≥ 0)))
theorem slices_ContainsFunc_Lapi_Layer_api_Layer_ctl_Layers_1_ok (k : Nat) {h : H} {σ : Stamp} (x0 : List T_api_Layer) {u0 : V} (hu0 : SlH h dT_api_Layer x0 u0) (x1c0 : T_api_Layer)  {l1c0 : Loc} {o1c0 : Nat} (ha1c0 : AtC h l1c0 o1c0 (List.map C.v [(.p (.string x1c0.Rid)), (.p (.int .u32 x1c0.Ssrc)), (.p (.int .i64 x1c0.Height))])) : Sim (p_slices_ContainsFunc_Lapi_Layer_api_Layer_ctl_Layers_1 k x0 x1c0) (ev G X0 74 σ [u0, (.clo 75 [(.ref l1c0 o1c0)])] h) (fun r s => s = ([.v (.p (.bool r))], h)) := by
  refine Sim.ev rfl (Sim.ext (slices_ContainsFunc_Lapi_Layer_api_Layer_entry _ _ _ _ _ _) ?_)
  rw [p_slices_ContainsFunc_Lapi_Layer_api_Layer_ctl_Layers_1]
  have S0 : Fm 9 h [] [] [] (List.replicate 9 [] :: h) := Fm.start0
  refine Sim.call (slices_IndexFunc_Lapi_Layer_api_Layer_ctl_Layers_1_ok k x0 (S0.low hu0) (⟨x1c0.Rid, x1c0.Ssrc, x1c0.Height⟩ : T_api_Layer) (S0.lowA ha1c0)) fun r1 cs2 H3 h4 q5 => ?_
  cases q5
  refine Sim.op (castI_p _ _) ?_
  exact Sim.fin (S0.finN (lv_cons (still_bool _).lv lv_nil)) rfl
end Go.Ev
/- Lifted by lift.py: ctl_Layers as a plain function. -/
namespace Go.Ev
open Go.Proofs
set_option linter.unusedVariables false
set_option linter.unusedSimpArgs false
set_option maxRecDepth 100000
def p_ctl_Layers_l0 {β : Type} (k : Nat) (kE0 : Unit → Option β) (kE1 : Int → Option β) (x0 : (List T_api_Layer)) (x13 : (List T_api_Layer)) (x14 : Int) (x15 : Int) : Option β := match k with
| 0 => none
| k + 1 =>
bif decide (x15 < x14) then (
(ix x13 x15).bind fun a11 =>
(p_rid_Right a11.Rid).bind fun r23 =>
(bif !r23 then (some true) else (some (decide (a11.Height < 1)))).bind fun b28 =>
(bif b28 then (some true) else (some (decide (a11.Height > 8192)))).bind fun b32 =>
(bif b32 then (some true) else ((bif decide (x15 > 0) then ((ix x0 (IntKind.wrap .i64 (x15 - 1))).bind fun a36 =>
some (decide (a11.Height ≤ a36.Height))) else (some false)).bind fun b44 =>
some b44)).bind fun b48 =>
bif b48 then (
kE1 26)
else (
(sub x0 0 x15).bind fun a52 =>
(p_slices_ContainsFunc_Lapi_Layer_api_Layer_ctl_Layers_1 k a52 (⟨a11.Rid, a11.Ssrc, a11.Height⟩ : T_api_Layer)).bind fun r54 =>
bif r54 then (
kE1 26)
else (
p_ctl_Layers_l0 k kE0 kE1 x0 x13 x14 (IntKind.wrap .i64 (x15 + 1)))))
else (
kE0 ())
def p_ctl_Layers (k : Nat) (x0 : (List T_api_Layer)) : Option (Int) :=
(bif decide (((x0.length : Int)) < 1) then (some true) else (some (decide (((x0.length : Int)) > 3)))).bind fun b1 =>
bif b1 then (
some (26))
else (
p_ctl_Layers_l0 k (fun (_ : Unit) =>
some (0)) (fun r66_2 =>
some (r66_2)) x0 x0 ((x0.length : Int)) 0)
theorem ctl_Layers_l0_ok {h : H}  {β α : Type} {Q : β → α → Prop} {K : Exit × Env × H → Option α} {kE0 : Unit → Option β} {kE1 : Int → Option β} (hE0 : ∀ (_u : Unit) (H59 : Go.Ev.H) (_ : Fm 55 h [] [] [] H59), Sim (kE0 ()) (K ((.exit 0), (envL []), H59)) Q) (hE1 : ∀ (q2 : Int) (H61 : Go.Ev.H) (_ : Fm 55 h [] [] [] H61), Sim (kE1 q2) (K (.ret, (envL [(2, (.p (.int .i64 q2)))]), H61)) Q) (k : Nat) : ∀ (x0 : (List T_api_Layer)) (x13 : (List T_api_Layer)) (x14 : Int) (x15 : Int) (v7 : V) (h8 : SlH h dT_api_Layer x0 v7) (v9 : V) (h10 : SlH h dT_api_Layer x13 v9) (H5 : Go.Ev.H) (_ : Fm 55 h [] [] [] H5) {σ : Stamp}, Sim (p_ctl_Layers_l0 k kE0 kE1 x0 x13 x14 x15) ((cvL G X0 ctl_Layers_c0 ctl_Layers_l0 σ (envL [(0, v7), (13, v9), (14, (.p (.int .i64 x14))), (15, (.p (.int .i64 x15)))]) H5).bind K) Q := by
  induction k with
  | zero => intros; exact Sim.no
  | succ k ih =>
    intro x0 x13 x14 x15 v7 h8 v9 h10 H5 S6 σ
    rw [p_ctl_Layers_l0]
    refine Sim.round (Sim.ext (ctl_Layers_r0 _ _ _ _ _ _ _ _) ?_)
    refine Sim.cd (fun hc => ?_) (fun hc => ?_)
    · refine Sim.bd fun a11 h12 => ?_
      refine Sim.op ((S6.low h10).iS h12 rfl) ?_
      obtain ⟨w14, h15, hE13⟩ := (S6.low h10).el h12 rfl
      obtain rfl := dT_api_Layer.inv h15
      refine Sim.op (hE13.all (by simp)) ?_
      obtain ⟨H16, e17, S18⟩ := S6.al (d := 4) (s := (3 :: 0 :: 0 :: 1 :: 1 :: 0 :: σ)) (z := [(.p (.string ((⟨#[]⟩ : ByteArray)))), (.p (.int .u32 0)), (.p (.int .i64 0))]) (by decide) rfl
      refine Sim.op (congrArg some e17) ?_
      obtain ⟨H20, e21, S22⟩ := S18.stGv (i := 0) (j := 0) (own := false) (σ := (5 :: 0 :: 0 :: 1 :: 1 :: 0 :: σ)) (xs := [.p (.string a11.Rid), .p (.int .u32 a11.Ssrc), .p (.int .i64 a11.Height)]) rfl rfl (stills_cons (still_str _) (stills_cons (still_int _ _) (stills_cons (still_int _ _) stills_nil))) rfl rfl
      refine Sim.op (st_map e21) ?_
      refine Sim.op (fA_ref _ _ _) ?_
      refine Sim.op ((S22.atG (i := 0) rfl).ld (j := 0) rfl) ?_
      refine Sim.op (castS_p _) ?_
      refine Sim.call (rid_Right_ok a11.Rid) fun r23 cs24 H25 h26 q27 => ?_
      cases q27
      refine Sim.op (asB_p _) ?_
      refine Sim.ch (P := fun r y => r = y) ?_ (fun b28 y29 h30 h31 => ?_)
      · refine Sim.cd (fun hc => ?_) (fun hc => ?_)
        · exact Sim.ret rfl rfl
        · refine Sim.op (fA_ref _ _ _) ?_
          refine Sim.op ((S22.atG (i := 0) rfl).ld (j := 2) rfl) ?_
          refine Sim.op (castI_p _ _) ?_
          exact Sim.ret rfl rfl
      subst h31
      refine Sim.ch (P := fun r y => r = y) ?_ (fun b32 y33 h34 h35 => ?_)
      · refine Sim.cd (fun hc => ?_) (fun hc => ?_)
        · exact Sim.ret rfl rfl
        · refine Sim.op (fA_ref _ _ _) ?_
          refine Sim.op ((S22.atG (i := 0) rfl).ld (j := 2) rfl) ?_
          refine Sim.op (castI_p _ _) ?_
          exact Sim.ret rfl rfl
      subst h35
      refine Sim.ch (P := fun r y => r = y) ?_ (fun b48 y49 h50 h51 => ?_)
      · refine Sim.cd (fun hc => ?_) (fun hc => ?_)
        · exact Sim.ret rfl rfl
        · refine Sim.ch (P := fun r y => r = y) ?_ (fun b44 y45 h46 h47 => ?_)
          · refine Sim.cd (fun hc => ?_) (fun hc => ?_)
            · refine Sim.op (fA_ref _ _ _) ?_
              refine Sim.op ((S22.atG (i := 0) rfl).ld (j := 2) rfl) ?_
              refine Sim.op (castI_p _ _) ?_
              refine Sim.bd fun a36 h37 => ?_
              refine Sim.op ((S22.low h8).iS h37 rfl) ?_
              obtain ⟨w39, h40, hE38⟩ := (S22.low h8).el h37 rfl
              obtain rfl := dT_api_Layer.inv h40
              refine Sim.op (hE38.fa (j := 2) (by simp)) ?_
              obtain ⟨w42, h43, hE41⟩ := (S22.low h8).el h37 rfl
              obtain rfl := dT_api_Layer.inv h43
              refine Sim.op (hE41.ld (j := 2) rfl) ?_
              refine Sim.op (castI_p _ _) ?_
              exact Sim.ret rfl rfl
            · exact Sim.ret rfl rfl
          subst h47
          exact Sim.ret rfl rfl
      subst h51
      refine Sim.cd (fun hc => ?_) (fun hc => ?_)
      · exact hE1 26 H20 (S22.wk2 all_nil all_nil)
      · refine Sim.bd fun a52 h53 => ?_
        refine Sim.op ((S22.low h8).slS h53 rfl rfl rfl) ?_
        refine Sim.call (slices_ContainsFunc_Lapi_Layer_api_Layer_ctl_Layers_1_ok k a52 ((S22.low h8).sub h53 (e := 3) rfl) (⟨a11.Rid, a11.Ssrc, a11.Height⟩ : T_api_Layer) (S22.atG (i := 0) rfl)) fun r54 cs55 H56 h57 q58 => ?_
        cases q58
        refine Sim.op (asB_p _) ?_
        refine Sim.cd (fun hc => ?_) (fun hc => ?_)
        · exact hE1 26 H20 (S22.wk2 all_nil all_nil)
        · exact ih x0 x13 x14 (IntKind.wrap .i64 (x15 + 1)) v7 h8 v9 h10 H20 (S22.wk2 all_nil all_nil)
    · exact hE0 () H5 (S6.wk2 all_nil all_nil)
theorem ctl_Layers_ok (k : Nat) {h : H} {σ : Stamp} (x0 : List T_api_Layer) {u0 : V} (hu0 : SlH h dT_api_Layer x0 u0) : Sim (p_ctl_Layers k x0) (ev G X0 34 σ [u0] h) (fun r s => s = ([.v (.p (.int .i64 r))], h)) := by
  refine Sim.ev rfl (Sim.ext (ctl_Layers_entry _ _ _ _ _) ?_)
  rw [p_ctl_Layers]
  have S0 : Fm 55 h [] [] [] (List.replicate 55 [] :: h) := Fm.start0
  refine Sim.op ((S0.low hu0).len) ?_
  refine Sim.op (castI_p _ _) ?_
  refine Sim.ch (P := fun r y => r = y) ?_ (fun b1 y2 h3 h4 => ?_)
  · refine Sim.cd (fun hc => ?_) (fun hc => ?_)
    · exact Sim.ret rfl rfl
    · refine Sim.op ((S0.low hu0).len) ?_
      refine Sim.op (castI_p _ _) ?_
      exact Sim.ret rfl rfl
  subst h4
  refine Sim.cd (fun hc => ?_) (fun hc => ?_)
  · exact Sim.fin (S0.finN (lv_cons (still_int _ _).lv lv_nil)) rfl
  · refine Sim.op ((S0.low hu0).len) ?_
    refine Sim.op (castI_p _ _) ?_
    refine Sim.as (ctl_Layers_l0_ok ?_ ?_ k x0 x0 ((x0.length : Int)) 0 u0 hu0 u0 hu0 (List.replicate 55 [] :: h) (S0.wk2 all_nil all_nil)) 
    · intro _u H64 S65
      refine Sim.ext (ctl_Layers_a0_0 _ _ _ _) ?_
      exact Sim.fin (S65.finN (lv_cons (still_int _ _).lv lv_nil)) rfl
    · intro r66_2 H67 S68
      refine Sim.ext (ctl_Layers_a0_ret _ _ _ _ _) ?_
      exact Sim.fin (S68.finN (lv_cons (still_int _ _).lv lv_nil)) rfl
end Go.Ev
/- Equations, printed by tracer2.py. -/
namespace Go.Ev
open Go.Proofs
set_option linter.unusedVariables false
set_option maxRecDepth 100000
-- 33 (*limelight/limelightkeep.Tape).Layers
noncomputable def limelightkeep_Tape_Layers_c0 : Code := (codeAt (bodyOf Try.f33) [1, 1, 0, 1, 0, 0])
def limelightkeep_Tape_Layers_l0 : Lv := ⟨32, 16, [(0, 32)]⟩
noncomputable def limelightkeep_Tape_Layers_k0 (rec : CallF) (loop : LoopV) (σ : Stamp) : Exit → Env → H → Option (List C × H) := (kBlock 0 (kSeq G rec loop (codeAt (bodyOf Try.f33) [1, 1, 1]) ⟨16, 16, []⟩ (1 :: 1 :: 0 :: σ) (finC G false Try.f33 (1 :: σ))))
theorem limelightkeep_Tape_Layers_entry (rec : CallF) (loop : LoopV) (σ : Stamp) (x0 : V) (x1 : Int) (h : H) : cvBody G rec loop 33 σ [x0, (.p (.int .i64 x1))] h =
 (loop limelightkeep_Tape_Layers_c0 limelightkeep_Tape_Layers_l0 (1 :: 0 :: 1 :: 1 :: 0 :: σ) (envL [(0, x0), (1, (.p (.int .i64 x1))), (5, (.p (.slice .none 0 0))), (6, (.p (.int .i64 0)))]) (List.replicate 34 [] :: h)).bind fun r1 => limelightkeep_Tape_Layers_k0 rec loop σ r1.1 r1.2.1 r1.2.2 := by kernel_rfl
theorem limelightkeep_Tape_Layers_r0 (rec : CallF) (loop : LoopV) (σ : Stamp) (x0 : V) (x1 : Int) (x5 : V) (x6 : Int) (h : H) : cvRound G rec loop limelightkeep_Tape_Layers_c0 limelightkeep_Tape_Layers_l0 σ (envL [(0, x0), (1, (.p (.int .i64 x1))), (5, x5), (6, (.p (.int .i64 x6)))]) h =
 (callO rec 51 (2 :: 0 :: 0 :: 0 :: σ) [x0, (.p (.int .i64 3))] h (some 9)).bind fun q2 =>
 (castI .i64 q2.1).bind fun n3 =>
 bif decide (x6 ≤ n3) then (
 (buildSliceV Try.prog 81 3 [(0, (.p (.string ((⟨#[108, 111]⟩ : ByteArray))))), (1, (.p (.string ((⟨#[109, 105, 100]⟩ : ByteArray))))), (2, (.p (.string ((⟨#[72, 73]⟩ : ByteArray)))))]).bind fun t4 =>
 (iS 1 t4 x6).bind fun t5 =>
 (ldO false 1 q2.2 t5).bind fun t6 =>
 (castS t6).bind fun s7 =>
 (callO rec 51 (15 :: 0 :: 1 :: 0 :: σ) [x0, (.p (.int .i64 90))] q2.2 (some 28)).bind fun q8 =>
 (castI .i64 q8.1).bind fun n9 =>
 need ((some (.p (.int .u32 (IntKind.wrap .u32 (IntKind.wrap .i64 ((IntKind.wrap .i64 ((IntKind.wrap .i64 (100 * x1)) + x6)) + 7))))) : Option V) = some (.p (.int .u32 (IntKind.wrap .u32 (IntKind.wrap .i64 ((IntKind.wrap .i64 ((IntKind.wrap .i64 (100 * x1)) + x6)) + 7)))))) (
 need (ldO false 1 q8.2 t5 = some (.p (.string s7))) (
 (buildV Try.prog 70 [(0, (.p (.string s7))), (1, (.p (.int .u32 (IntKind.wrap .u32 (IntKind.wrap .i64 ((IntKind.wrap .i64 ((IntKind.wrap .i64 (100 * x1)) + x6)) + 7)))))), (2, (.p (.int .i64 (IntKind.wrap .i64 ((IntKind.wrap .i64 (180 * (IntKind.wrap .i64 (x6 + 1)))) + n9)))))]).bind fun t10 =>
 (buildSliceV Try.prog 56 1 [(0, t10)]).bind fun t11 =>
 (apO false 3 32 (19 :: 0 :: 1 :: 0 :: σ) 32 q8.2 x5 t11).bind fun q12 =>
 loop limelightkeep_Tape_Layers_c0 limelightkeep_Tape_Layers_l0 (1 :: σ) (envL [(0, x0), (1, (.p (.int .i64 x1))), (5, q12.1), (6, (.p (.int .i64 (IntKind.wrap .i64 (x6 + 1)))))]) q12.2)))
 else (
 some ((.exit 0), (envL [(5, x5)]), q2.2)) := by kernel_rfl
theorem limelightkeep_Tape_Layers_a0_0 (rec : CallF) (loop : LoopV) (σ : Stamp) (x5 : V) (h : H) : limelightkeep_Tape_Layers_k0 rec loop σ (.exit 0) (envL [(5, x5)]) h =
 fin false σ h [x5] := by kernel_rfl
end Go.Ev
/- Lifted by lift.py: limelightkeep_Tape_Layers as a plain function. -/
namespace Go.Ev
open Go.Proofs
set_option linter.unusedVariables false
set_option linter.unusedSimpArgs false
set_option maxRecDepth 100000
def p_limelightkeep_Tape_Layers_l0 {β : Type} (k : Nat) (kE0 : (List T_api_Layer) → T_limelightkeep_Tape → Option β) (x1 : Int) (x5 : (List T_api_Layer)) (x6 : Int) (zp0 : T_limelightkeep_Tape) : Option β := match k with
| 0 => none
| k + 1 =>
(p_limelightkeep_Tape_Next (⟨zp0.f_L, zp0.f_At⟩ : T_limelightkeep_Tape) 3).bind fun r9 =>
bif decide (x6 ≤ r9.1) then (
(ix ([((⟨#[108, 111]⟩ : ByteArray)), ((⟨#[109, 105, 100]⟩ : ByteArray)), ((⟨#[72, 73]⟩ : ByteArray))]) x6).bind fun a18 =>
(p_limelightkeep_Tape_Next (⟨r9.2.f_L, r9.2.f_At⟩ : T_limelightkeep_Tape) 90).bind fun r21 =>
(ap 32 x5 ([((⟨a18, (IntKind.wrap .u32 (IntKind.wrap .i64 ((IntKind.wrap .i64 ((IntKind.wrap .i64 (100 * x1)) + x6)) + 7))), (IntKind.wrap .i64 ((IntKind.wrap .i64 (180 * (IntKind.wrap .i64 (x6 + 1)))) + r21.1))⟩ : T_api_Layer))])).bind fun a31 =>
p_limelightkeep_Tape_Layers_l0 k kE0 x1 a31 (IntKind.wrap .i64 (x6 + 1)) ((⟨r21.2.f_L, r21.2.f_At⟩ : T_limelightkeep_Tape)))
else (
kE0 x5 ((⟨r9.2.f_L, r9.2.f_At⟩ : T_limelightkeep_Tape)))
def p_limelightkeep_Tape_Layers (k : Nat) (x0 : T_limelightkeep_Tape) (x1 : Int) : Option ((List T_api_Layer) × T_limelightkeep_Tape) :=
p_limelightkeep_Tape_Layers_l0 k (fun r45_5 zp0 =>
some (r45_5, (⟨zp0.f_L, zp0.f_At⟩ : T_limelightkeep_Tape))) x1 (([] : List T_api_Layer)) 0 ((⟨x0.f_L, x0.f_At⟩ : T_limelightkeep_Tape))
theorem limelightkeep_Tape_Layers_l0_ok {h : H} {l0 : Loc} {o0 : Nat} {β α : Type} {Q : β → α → Prop} {K : Exit × Env × H → Option α} {kE0 : (List T_api_Layer) → T_limelightkeep_Tape → Option β} (hE0 : ∀ (q5 : (List T_api_Layer)) (zp0 : T_limelightkeep_Tape) (v39 : V) (v41 : V) (h42 : SlF (dI .i64) zp0.f_L v41) (H37 : Go.Ev.H) (_ : Fm 34 h [⟨l0, o0, List.map C.v [v41, (.p (.int .i64 zp0.f_At))]⟩] [] [⟨[32], v39, dT_api_Layer, q5⟩] H37), Sim (kE0 q5 zp0) (K ((.exit 0), (envL [(5, v39)]), H37)) Q) (k : Nat) : ∀ (x1 : Int) (x5 : (List T_api_Layer)) (x6 : Int) (zp0 : T_limelightkeep_Tape) (v5 : V) (v7 : V) (h8 : SlF (dI .i64) zp0.f_L v7) (H3 : Go.Ev.H) (_ : Fm 34 h [⟨l0, o0, List.map C.v [v7, (.p (.int .i64 zp0.f_At))]⟩] [] [⟨[32], v5, dT_api_Layer, x5⟩] H3) {σ : Stamp}, Sim (p_limelightkeep_Tape_Layers_l0 k kE0 x1 x5 x6 zp0) ((cvL G X0 limelightkeep_Tape_Layers_c0 limelightkeep_Tape_Layers_l0 σ (envL [(0, (.ref l0 o0)), (1, (.p (.int .i64 x1))), (5, v5), (6, (.p (.int .i64 x6)))]) H3).bind K) Q := by
  induction k with
  | zero => intros; exact Sim.no
  | succ k ih =>
    intro x1 x5 x6 zp0 v5 v7 h8 H3 S4 σ
    rw [p_limelightkeep_Tape_Layers_l0]
    refine Sim.round (Sim.ext (limelightkeep_Tape_Layers_r0 _ _ _ _ _ _ _ _) ?_)
    refine Sim.call (limelightkeep_Tape_Next_ok (⟨zp0.f_L, zp0.f_At⟩ : T_limelightkeep_Tape) h8 (S4.atB (i := 0) rfl) 3) fun r9 cs10 H11 h12 q13 => ?_
    obtain ⟨v14, h15, q13⟩ := q13
    cases q13
    have S16 := S4.setB (i := 0) (cs := List.map C.v [v14, (.p (.int .i64 r9.2.f_At))]) rfl rfl
    refine Sim.op (castI_p _ _) ?_
    refine Sim.cd (fun hc => ?_) (fun hc => ?_)
    · have h17 : SlF dS [((⟨#[108, 111]⟩ : ByteArray)), ((⟨#[109, 105, 100]⟩ : ByteArray)), ((⟨#[72, 73]⟩ : ByteArray))] (.fz [(.p (.string ((⟨#[108, 111]⟩ : ByteArray)))), (.p (.string ((⟨#[109, 105, 100]⟩ : ByteArray)))), (.p (.string ((⟨#[72, 73]⟩ : ByteArray))))] 3 1 true) := SlF.lit (cs := [(.p (.string ((⟨#[108, 111]⟩ : ByteArray)))), (.p (.string ((⟨#[109, 105, 100]⟩ : ByteArray)))), (.p (.string ((⟨#[72, 73]⟩ : ByteArray))))]) (RL.cons (show dS.R ((⟨#[108, 111]⟩ : ByteArray)) [(.p (.string ((⟨#[108, 111]⟩ : ByteArray))))] from rfl) (RL.cons (show dS.R ((⟨#[109, 105, 100]⟩ : ByteArray)) [(.p (.string ((⟨#[109, 105, 100]⟩ : ByteArray))))] from rfl) (RL.cons (show dS.R ((⟨#[72, 73]⟩ : ByteArray)) [(.p (.string ((⟨#[72, 73]⟩ : ByteArray))))] from rfl) RL.nil))) rfl rfl true
      refine Sim.op (bldS (pt_cons rfl (pt_cons rfl (pt_cons rfl pt_nil))) (by kernel_rfl : _ = some (.fz [(.p (.string ((⟨#[108, 111]⟩ : ByteArray)))), (.p (.string ((⟨#[109, 105, 100]⟩ : ByteArray)))), (.p (.string ((⟨#[72, 73]⟩ : ByteArray))))] 3 1 true))) ?_
      refine Sim.bd fun a18 h19 => ?_
      refine Sim.op ((h17.h (ptC H3 l0 o0 (List.map C.v [v14, (.p (.int .i64 r9.2.f_At))]))).iS h19 rfl) ?_
      obtain ⟨_, rfl, hE20⟩ := (h17.h (ptC H3 l0 o0 (List.map C.v [v14, (.p (.int .i64 r9.2.f_At))]))).el h19 rfl
      refine Sim.op (hE20.ld (j := 0) rfl) ?_
      refine Sim.op (castS_p _) ?_
      refine Sim.call (limelightkeep_Tape_Next_ok (⟨r9.2.f_L, r9.2.f_At⟩ : T_limelightkeep_Tape) h15 (S16.atB (i := 0) rfl) 90) fun r21 cs22 H23 h24 q25 => ?_
      obtain ⟨v26, h27, q25⟩ := q25
      cases q25
      have S28 := S16.setB (i := 0) (cs := List.map C.v [v26, (.p (.int .i64 r21.2.f_At))]) rfl rfl
      refine Sim.op (castI_p _ _) ?_
      refine Sim.nd (rfl) ?_
      obtain ⟨_, rfl, hE29⟩ := (h17.h (ptC (ptC H3 l0 o0 (List.map C.v [v14, (.p (.int .i64 r9.2.f_At))])) l0 o0 (List.map C.v [v26, (.p (.int .i64 r21.2.f_At))]))).el h19 rfl
      refine Sim.nd (hE29.ld (j := 0) rfl) ?_
      refine Sim.op (bldV (pt_cons rfl (pt_cons rfl (pt_cons rfl pt_nil))) (by kernel_rfl : _ = some (.agg [.p (.string a18), .p (.int .u32 (IntKind.wrap .u32 (IntKind.wrap .i64 ((IntKind.wrap .i64 ((IntKind.wrap .i64 (100 * x1)) + x6)) + 7)))), .p (.int .i64 (IntKind.wrap .i64 ((IntKind.wrap .i64 (180 * (IntKind.wrap .i64 (x6 + 1)))) + r21.1)))]))) ?_
      have h30 : SlF dT_api_Layer [((⟨a18, (IntKind.wrap .u32 (IntKind.wrap .i64 ((IntKind.wrap .i64 ((IntKind.wrap .i64 (100 * x1)) + x6)) + 7))), (IntKind.wrap .i64 ((IntKind.wrap .i64 (180 * (IntKind.wrap .i64 (x6 + 1)))) + r21.1))⟩ : T_api_Layer))] (.fz [(.p (.string a18)), (.p (.int .u32 (IntKind.wrap .u32 (IntKind.wrap .i64 ((IntKind.wrap .i64 ((IntKind.wrap .i64 (100 * x1)) + x6)) + 7))))), (.p (.int .i64 (IntKind.wrap .i64 ((IntKind.wrap .i64 (180 * (IntKind.wrap .i64 (x6 + 1)))) + r21.1))))] 1 3 true) := SlF.lit (cs := [(.p (.string a18)), (.p (.int .u32 (IntKind.wrap .u32 (IntKind.wrap .i64 ((IntKind.wrap .i64 ((IntKind.wrap .i64 (100 * x1)) + x6)) + 7))))), (.p (.int .i64 (IntKind.wrap .i64 ((IntKind.wrap .i64 (180 * (IntKind.wrap .i64 (x6 + 1)))) + r21.1))))]) (RL.cons (show dT_api_Layer.R ((⟨a18, (IntKind.wrap .u32 (IntKind.wrap .i64 ((IntKind.wrap .i64 ((IntKind.wrap .i64 (100 * x1)) + x6)) + 7))), (IntKind.wrap .i64 ((IntKind.wrap .i64 (180 * (IntKind.wrap .i64 (x6 + 1)))) + r21.1))⟩ : T_api_Layer)) [.p (.string a18), .p (.int .u32 (IntKind.wrap .u32 (IntKind.wrap .i64 ((IntKind.wrap .i64 ((IntKind.wrap .i64 (100 * x1)) + x6)) + 7)))), .p (.int .i64 (IntKind.wrap .i64 ((IntKind.wrap .i64 (180 * (IntKind.wrap .i64 (x6 + 1)))) + r21.1)))] from (dT_api_Layer.mk)) RL.nil) rfl rfl true
      refine Sim.op (bldS (pt_cons (c := [.p (.string a18), .p (.int .u32 (IntKind.wrap .u32 (IntKind.wrap .i64 ((IntKind.wrap .i64 ((IntKind.wrap .i64 (100 * x1)) + x6)) + 7)))), .p (.int .i64 (IntKind.wrap .i64 ((IntKind.wrap .i64 (180 * (IntKind.wrap .i64 (x6 + 1)))) + r21.1)))]) rfl pt_nil) (by kernel_rfl : _ = some (.fz [(.p (.string a18)), (.p (.int .u32 (IntKind.wrap .u32 (IntKind.wrap .i64 ((IntKind.wrap .i64 ((IntKind.wrap .i64 (100 * x1)) + x6)) + 7))))), (.p (.int .i64 (IntKind.wrap .i64 ((IntKind.wrap .i64 (180 * (IntKind.wrap .i64 (x6 + 1)))) + r21.1))))] 1 3 true))) ?_
      refine Sim.bd fun a31 h32 => ?_
      obtain ⟨v33, H34, e35, S36⟩ := S28.app (i := 0) (d := 32) (e := 3) (own := false) (σ := (19 :: 0 :: 1 :: 0 :: σ)) rfl (h30.h (ptC (ptC H3 l0 o0 (List.map C.v [v14, (.p (.int .i64 r9.2.f_At))])) l0 o0 (List.map C.v [v26, (.p (.int .i64 r21.2.f_At))]))).y h32 rfl (by decide) (by decide) rfl
      refine Sim.op (e35) ?_
      exact ih x1 a31 (IntKind.wrap .i64 (x6 + 1)) ((⟨r21.2.f_L, r21.2.f_At⟩ : T_limelightkeep_Tape)) v33 v26 h27 H34 (S36.wk2 all_nil (all_cons ⟨[32, 32], by simp, at_mem 0 rfl⟩ all_nil))
    · exact hE0 x5 ((⟨r9.2.f_L, r9.2.f_At⟩ : T_limelightkeep_Tape)) v5 v14 h15 (ptC H3 l0 o0 (List.map C.v [v14, (.p (.int .i64 r9.2.f_At))])) (S16.wk2 all_nil (all_cons ⟨[32], by simp, at_mem 0 rfl⟩ all_nil))
theorem limelightkeep_Tape_Layers_ok (k : Nat) {h : H} {σ : Stamp} (x0 : T_limelightkeep_Tape) {u0_0 : V} (hu0_0 : SlF (dI .i64) x0.f_L u0_0) {l0 : Loc} {o0 : Nat} (ha0 : AtC h l0 o0 (List.map C.v [u0_0, (.p (.int .i64 x0.f_At))])) (x1 : Int) : Sim (p_limelightkeep_Tape_Layers k x0 x1) (ev G X0 33 σ [(.ref l0 o0), (.p (.int .i64 x1))] h) (fun r s => ∃ (c0 : C), ∃ (a0 : List V), ∃ (vb0_0 : V), OwnS c0 dT_api_Layer.sz r.1.length a0 ∧ dT_api_Layer.L r.1 a0 ∧ SlF (dI .i64) r.2.f_L vb0_0 ∧ s = ([c0], pts h [⟨l0, o0, [.v vb0_0, .v (.p (.int .i64 r.2.f_At))]⟩])) := by
  refine Sim.ev rfl (Sim.ext (limelightkeep_Tape_Layers_entry _ _ _ _ _ _) ?_)
  rw [p_limelightkeep_Tape_Layers]
  have S0 : Fm 34 h [⟨l0, o0, List.map C.v [u0_0, (.p (.int .i64 x0.f_At))]⟩] [] [] (List.replicate 34 [] :: h) := Fm.start1 ha0
  have S44 := S0.nil dT_api_Layer []
  refine Sim.as (limelightkeep_Tape_Layers_l0_ok ?_ k x1 (([] : List T_api_Layer)) 0 ((⟨x0.f_L, x0.f_At⟩ : T_limelightkeep_Tape)) (.p (.slice none 0 0)) u0_0 hu0_0 (List.replicate 34 [] :: h) (S44.wk2 all_nil (all_cons ⟨[], by simp, at_mem 0 rfl⟩ all_nil))) 
  · intro r45_5 zp0 v48 v50 h51 H46 S47
    refine Sim.ext (limelightkeep_Tape_Layers_a0_0 _ _ _ _ _) ?_
    obtain ⟨c57, cs58, H52, e53, h55, h56, S54⟩ := S47.expOwn (i := 0) (τ := 0 :: 1 :: σ) rfl rfl rfl
    exact Sim.fin (S54.finE (Ex.st e53 Ex.nil)) ⟨c57, cs58, v50, h55, h56, h51, rfl⟩
end Go.Ev
/- Equations, printed by tracer2.py. -/
namespace Go.Ev
open Go.Proofs
set_option linter.unusedVariables false
set_option maxRecDepth 100000
-- 32 limelight/limelightlaw8.known
theorem limelightlaw8_known_entry (rec : CallF) (loop : LoopV) (σ : Stamp)  (h : H) : cvBody G rec loop 32 σ [] h =
 (buildV Try.prog 58 [(0, (.p (.int .i64 2)))]).bind fun t1 =>
 (callFO rec 29 (1 :: 0 :: 1 :: 0 :: σ) [t1] (List.replicate 81 [] :: h) (some 11)).bind fun q2 =>
 (extV q2.1 0).bind fun t3 =>
 (extV q2.1 1).bind fun t4 =>
 (castI .i64 t4).bind fun n5 =>
 (buildV Try.prog 58 [(0, (.p (.int .i64 4))), (3, (.p (.int .i64 2))), (4, (.p (.int .i64 300))), (5, (.p (.int .i64 1)))]).bind fun t6 =>
 (callFO rec 29 (1 :: 0 :: 1 :: 1 :: 0 :: σ) [t6] q2.2 (some 16)).bind fun q7 =>
 (extV q7.1 0).bind fun t8 =>
 (extV q7.1 1).bind fun t9 =>
 (castI .i64 t9).bind fun n10 =>
 (callO rec 30 (1 :: 0 :: 1 :: 1 :: 1 :: 0 :: σ) [t8] q7.2 (some 21)).bind fun q11 =>
 (extV q11.1 0).bind fun t12 =>
 (extV q11.1 1).bind fun t13 =>
 (castI .i64 t13).bind fun n14 =>
 (some (alO [.p (.int .i64 0), .p (.int .i64 0), .p (.slice none 0 0), .p (.int .i64 0), .p (.int .i64 0), .p (.int .i64 0), .p (.int .i64 0), .p (.int .i64 0)] (5 :: 0 :: 1 :: 1 :: 1 :: 0 :: σ) 5 q11.2)).bind fun q15 =>
 ((stO false 8 (6 :: 0 :: 1 :: 1 :: 1 :: 0 :: σ) q15.2 q15.1 t12).map fun h => (udf, h)).bind fun q16 =>
 (callO rec 30 (0 :: 0 :: 1 :: 1 :: 1 :: 1 :: 0 :: σ) [(.p (.slice .none 0 0))] q16.2 (some 25)).bind fun q17 =>
 (extV q17.1 0).bind fun t18 =>
 (extV q17.1 1).bind fun t19 =>
 (castI .i64 t19).bind fun n20 =>
 (some (alO [.p (.int .i64 0), .p (.int .i64 0), .p (.slice none 0 0), .p (.int .i64 0), .p (.int .i64 0), .p (.int .i64 0), .p (.int .i64 0), .p (.int .i64 0)] (4 :: 0 :: 1 :: 1 :: 1 :: 1 :: 0 :: σ) 7 q17.2)).bind fun q21 =>
 ((stO false 8 (5 :: 0 :: 1 :: 1 :: 1 :: 1 :: 0 :: σ) q21.2 q21.1 t18).map fun h => (udf, h)).bind fun q22 =>
 (bif n5 == 0 then ((strO q22.2 t3).bind fun t23 =>
 (castS t23).bind fun s24 =>
 some (s24.toList == ((⟨#[2, 0, 0]⟩ : ByteArray)).toList)) else (some false)).bind fun b25 =>
 (bif b25 then (some (n10 == 0)) else (some false)).bind fun b26 =>
 (bif b26 then ((strO q22.2 t8).bind fun t27 =>
 (castS t27).bind fun s28 =>
 some (s28.toList == ((⟨#[4, 0, 10, 3, 1, 2, 4, 2, 1, 44, 5, 1, 1]⟩ : ByteArray)).toList)) else (some false)).bind fun b29 =>
 (bif b29 then (some (n14 == 0)) else (some false)).bind fun b30 =>
 (bif b30 then ((fA q15.1 3).bind fun t31 =>
 (ldO false 1 q22.2 t31).bind fun t32 =>
 (castI .i64 t32).bind fun n33 =>
 some (n33 == 2)) else (some false)).bind fun b34 =>
 (bif b34 then ((fA q15.1 4).bind fun t35 =>
 (ldO false 1 q22.2 t35).bind fun t36 =>
 (castI .i64 t36).bind fun n37 =>
 some (n37 == 300)) else (some false)).bind fun b38 =>
 (bif b38 then (some (n20 == 13)) else (some false)).bind fun b39 =>
 (bif b39 then ((callO rec 34 (35 :: 0 :: 1 :: 1 :: 1 :: 1 :: 1 :: 0 :: σ) [(.p (.slice .none 0 0))] q22.2 (some 63)).bind fun q40 =>
 (castI .i64 q40.1).bind fun n41 =>
 some ((.p (.bool (n41 == 26))), q40.2)) else (some ((.p (.bool false)), q22.2))).bind fun q42 =>
 (asB q42.1).bind fun b43 =>
 (bif b43 then ((buildV Try.prog 58 []).bind fun t44 =>
 (callO rec 36 (40 :: 0 :: 1 :: 1 :: 1 :: 1 :: 1 :: 0 :: σ) [t44] q42.2 (some 68)).bind fun q45 =>
 (castI .i64 q45.1).bind fun n46 =>
 some ((.p (.bool (n46 == 12))), q45.2)) else (some ((.p (.bool false)), q42.2))).bind fun q47 =>
 (asB q47.1).bind fun b48 =>
 (bif b48 then ((ldO true 8 q47.2 q15.1).bind fun t49 =>
 (ldO true 8 q47.2 q15.1).bind fun t50 =>
 (callO rec 73 (46 :: 0 :: 1 :: 1 :: 1 :: 1 :: 1 :: 0 :: σ) [t49, t50] q47.2 (some 74)).bind fun q51 =>
 (asB q51.1).bind fun b52 =>
 some ((.p (.bool b52)), q51.2)) else (some ((.p (.bool false)), q47.2))).bind fun q53 =>
 (asB q53.1).bind fun b54 =>
 (bif b54 then ((buildV Try.prog 58 [(0, (.p (.int .i64 2))), (1, (.p (.int .i64 1)))]).bind fun t55 =>
 (callO rec 36 (50 :: 0 :: 1 :: 1 :: 1 :: 1 :: 1 :: 0 :: σ) [t55] q53.2 (some 78)).bind fun q56 =>
 (castI .i64 q56.1).bind fun n57 =>
 some ((.p (.bool (n57 == 12))), q56.2)) else (some ((.p (.bool false)), q53.2))).bind fun q58 =>
 (asB q58.1).bind fun b59 =>
 fin false σ q58.2 [(.p (.bool b59))] := by kernel_rfl
end Go.Ev
/- Equations, printed by tracer2.py. -/
namespace Go.Ev
open Go.Proofs
set_option linter.unusedVariables false
set_option maxRecDepth 100000
-- 29 limelight/ctl.Bytes
noncomputable def ctl_Bytes_c0 : Code := (codeAt (bodyOf Try.f29) [1, 1, 1, 0, 1, 0, 0])
def ctl_Bytes_l0 : Lv := ⟨34, 12, [(0, 34)]⟩
noncomputable def ctl_Bytes_k0 (rec : CallF) (loop : LoopV) (σ : Stamp) : Exit → Env → H → Option (List C × H) := (kBlock 0 (kSeq G rec loop (codeAt (bodyOf Try.f29) [1, 1, 1, 1]) ⟨12, 12, []⟩ (1 :: 1 :: 1 :: 0 :: σ) (finC G true Try.f29 (1 :: σ))))
noncomputable def ctl_Bytes_c1 : Code := (codeAt (bodyOf Try.f29) [1, 1, 1, 1, 0, 1, 0, 0])
def ctl_Bytes_l1 : Lv := ⟨34, 12, [(2, 34)]⟩
noncomputable def ctl_Bytes_k1 (rec : CallF) (loop : LoopV) (σ : Stamp) : Exit → Env → H → Option (List C × H) := (kBlock 2 (kSeq G rec loop (codeAt (bodyOf Try.f29) [1, 1, 1, 1, 1]) ⟨12, 12, []⟩ (1 :: 1 :: 1 :: 1 :: 0 :: σ) (finC G true Try.f29 (1 :: σ))))
theorem ctl_Bytes_entry (rec : CallF) (loop : LoopV) (σ : Stamp) (x0 : V) (h : H) : cvBody G rec loop 29 σ [x0] h =
 (boxO false (0 :: 0 :: 0 :: σ) 1 (List.replicate 87 [] :: h) x0).bind fun q1 =>
 (ldO true 8 q1.2 q1.1).bind fun t2 =>
 (callO rec 36 (1 :: 0 :: 0 :: 1 :: 0 :: σ) [t2] q1.2 (some 11)).bind fun q3 =>
 (castI .i64 q3.1).bind fun n4 =>
 bif n4 != 0 then (
 fin true σ q3.2 [(.p (.slice .none 0 0)), (.p (.int .i64 n4))])
 else (
 (fA q1.1 2).bind fun t5 =>
 (ldO false 1 q3.2 t5).bind fun t6 =>
 (lenO t6).bind fun t7 =>
 (castI .i64 t7).bind fun n8 =>
 (loop ctl_Bytes_c0 ctl_Bytes_l0 (1 :: 0 :: 1 :: 1 :: 1 :: 0 :: σ) (envL [(1, q1.1), (5, (.p (.slice .none 0 0))), (16, t6), (17, (.p (.int .i64 n8))), (18, (.p (.int .i64 0)))]) q3.2).bind fun r9 => ctl_Bytes_k0 rec loop σ r9.1 r9.2.1 r9.2.2) := by kernel_rfl
theorem ctl_Bytes_r0 (rec : CallF) (loop : LoopV) (σ : Stamp) (x1 : V) (x5 : V) (x16 : V) (x17 : Int) (x18 : Int) (h : H) : cvRound G rec loop ctl_Bytes_c0 ctl_Bytes_l0 σ (envL [(1, x1), (5, x5), (16, x16), (17, (.p (.int .i64 x17))), (18, (.p (.int .i64 x18)))]) h =
 bif decide (x18 < x17) then (
 (iS 3 x16 x18).bind fun t10 =>
 (ldO true 3 h t10).bind fun t11 =>
 (some (alO [.p (.string (⟨#[]⟩ : ByteArray)), .p (.int .u32 0), .p (.int .i64 0)] (2 :: 0 :: 0 :: 1 :: 1 :: 0 :: σ) 7 h)).bind fun q12 =>
 ((stO false 3 (3 :: 0 :: 0 :: 1 :: 1 :: 0 :: σ) q12.2 q12.1 t11).map fun h => (udf, h)).bind fun q13 =>
 (fA q12.1 1).bind fun t14 =>
 (ldO false 1 q13.2 t14).bind fun t15 =>
 (castI .u32 t15).bind fun n16 =>
 (fA q12.1 2).bind fun t17 =>
 (ldO false 1 q13.2 t17).bind fun t18 =>
 (castI .i64 t18).bind fun n19 =>
 (fA q12.1 0).bind fun t20 =>
 (ldO false 1 q13.2 t20).bind fun t21 =>
 (castS t21).bind fun s22 =>
 (callO rec 67 (4 :: 1 :: 0 :: 1 :: 1 :: 0 :: σ) [(.p (.slice .none 0 0)), (.p (.int .u64 (IntKind.wrap .u64 n16))), (.p (.int .i64 4))] q13.2 (some 26)).bind fun q23 =>
 need (ldO false 1 q23.2 t20 = some (.p (.string s22))) (
 need ((some (.p (.int .u64 (IntKind.wrap .u64 n19))) : Option V) = some (.p (.int .u64 (IntKind.wrap .u64 n19)))) (
 need (ldO false 1 q23.2 t17 = some (.p (.int .i64 n19))) (
 (callO rec 67 (8 :: 1 :: 0 :: 1 :: 1 :: 0 :: σ) [q23.1, (.p (.int .u64 (IntKind.wrap .u64 n19))), (.p (.int .i64 2))] q23.2 (some 30)).bind fun q24 =>
 need (ldO false 1 q24.2 t20 = some (.p (.string s22))) (
 (apO true 1 1 (11 :: 1 :: 0 :: 1 :: 1 :: 0 :: σ) 33 q24.2 q24.1 (.p (.string s22))).bind fun q25 =>
 (callO rec 66 (12 :: 1 :: 0 :: 1 :: 1 :: 0 :: σ) [x5, (.p (.int .i64 2)), q25.1] q25.2 (some 34)).bind fun q26 =>
 loop ctl_Bytes_c0 ctl_Bytes_l0 (1 :: σ) (envL [(1, x1), (5, q26.1), (16, x16), (17, (.p (.int .i64 x17))), (18, (.p (.int .i64 (IntKind.wrap .i64 (x18 + 1)))))]) q26.2)))))
 else (
 some ((.exit 0), (envL [(1, x1), (5, x5)]), h)) := by kernel_rfl
theorem ctl_Bytes_a0_0 (rec : CallF) (loop : LoopV) (σ : Stamp) (x1 : V) (x5 : V) (h : H) : ctl_Bytes_k0 rec loop σ (.exit 0) (envL [(1, x1), (5, x5)]) h =
 (fA x1 1).bind fun t27 =>
 (ldO false 1 h t27).bind fun t28 =>
 (castI .i64 t28).bind fun n29 =>
 (buildV Try.prog 110 [(0, (.p (.int .i64 1))), (1, (.p (.int .i64 8))), (2, (.p (.int .i64 n29)))]).bind fun t30 =>
 (fA x1 3).bind fun t31 =>
 (ldO false 1 h t31).bind fun t32 =>
 (castI .i64 t32).bind fun n33 =>
 (buildV Try.prog 110 [(0, (.p (.int .i64 3))), (1, (.p (.int .i64 1))), (2, (.p (.int .i64 n33)))]).bind fun t34 =>
 (fA x1 4).bind fun t35 =>
 (ldO false 1 h t35).bind fun t36 =>
 (castI .i64 t36).bind fun n37 =>
 (buildV Try.prog 110 [(0, (.p (.int .i64 4))), (1, (.p (.int .i64 2))), (2, (.p (.int .i64 n37)))]).bind fun t38 =>
 (fA x1 5).bind fun t39 =>
 (ldO false 1 h t39).bind fun t40 =>
 (castI .i64 t40).bind fun n41 =>
 (buildV Try.prog 110 [(0, (.p (.int .i64 5))), (1, (.p (.int .i64 1))), (2, (.p (.int .i64 n41)))]).bind fun t42 =>
 (fA x1 6).bind fun t43 =>
 (ldO false 1 h t43).bind fun t44 =>
 (castI .i64 t44).bind fun n45 =>
 (buildV Try.prog 110 [(0, (.p (.int .i64 6))), (1, (.p (.int .i64 1))), (2, (.p (.int .i64 n45)))]).bind fun t46 =>
 (fA x1 7).bind fun t47 =>
 (ldO false 1 h t47).bind fun t48 =>
 (castI .i64 t48).bind fun n49 =>
 (buildV Try.prog 110 [(0, (.p (.int .i64 7))), (1, (.p (.int .i64 1))), (2, (.p (.int .i64 n49)))]).bind fun t50 =>
 (buildSliceV Try.prog 111 6 [(0, t30), (1, t34), (2, t38), (3, t42), (4, t46), (5, t50)]).bind fun t51 =>
 (lenO t51).bind fun t52 =>
 (castI .i64 t52).bind fun n53 =>
 (loop ctl_Bytes_c1 ctl_Bytes_l1 (1 :: 0 :: 1 :: 1 :: 1 :: 1 :: 0 :: σ) (envL [(1, x1), (5, x5), (54, t51), (55, (.p (.int .i64 n53))), (56, (.p (.int .i64 0)))]) h).bind fun r54 => ctl_Bytes_k1 rec loop σ r54.1 r54.2.1 r54.2.2 := by kernel_rfl
theorem ctl_Bytes_r1 (rec : CallF) (loop : LoopV) (σ : Stamp) (x1 : V) (x5 : V) (x54 : V) (x55 : Int) (x56 : Int) (h : H) : cvRound G rec loop ctl_Bytes_c1 ctl_Bytes_l1 σ (envL [(1, x1), (5, x5), (54, x54), (55, (.p (.int .i64 x55))), (56, (.p (.int .i64 x56)))]) h =
 bif decide (x56 < x55) then (
 (iS 3 x54 x56).bind fun t55 =>
 (ldO true 3 h t55).bind fun t56 =>
 (some (alO [.p (.int .i64 0), .p (.int .i64 0), .p (.int .i64 0)] (2 :: 0 :: 0 :: 1 :: 1 :: 0 :: σ) 9 h)).bind fun q57 =>
 ((stO false 3 (3 :: 0 :: 0 :: 1 :: 1 :: 0 :: σ) q57.2 q57.1 t56).map fun h => (udf, h)).bind fun q58 =>
 (fA x1 0).bind fun t59 =>
 (ldO false 1 q58.2 t59).bind fun t60 =>
 (castI .i64 t60).bind fun n61 =>
 (fA q57.1 0).bind fun t62 =>
 (ldO false 1 q58.2 t62).bind fun t63 =>
 (castI .i64 t63).bind fun n64 =>
 (callO rec 68 (4 :: 0 :: 1 :: 0 :: 1 :: 1 :: 0 :: σ) [(.p (.int .i64 n61)), (.p (.int .i64 n64))] q58.2 (some 64)).bind fun q65 =>
 (asB q65.1).bind fun b66 =>
 bif b66 then (
 (fA q57.1 0).bind fun t67 =>
 (ldO false 1 q65.2 t67).bind fun t68 =>
 (castI .i64 t68).bind fun n69 =>
 (fA q57.1 2).bind fun t70 =>
 (ldO false 1 q65.2 t70).bind fun t71 =>
 (castI .i64 t71).bind fun n72 =>
 (fA q57.1 1).bind fun t73 =>
 (ldO false 1 q65.2 t73).bind fun t74 =>
 (castI .i64 t74).bind fun n75 =>
 (callO rec 67 (8 :: 1 :: 1 :: 0 :: 1 :: 1 :: 0 :: σ) [(.p (.slice .none 0 0)), (.p (.int .u64 (IntKind.wrap .u64 n72))), (.p (.int .i64 n75))] q65.2 (some 73)).bind fun q76 =>
 need (ldO false 1 q76.2 t67 = some (.p (.int .i64 n69))) (
 (callO rec 66 (9 :: 1 :: 1 :: 0 :: 1 :: 1 :: 0 :: σ) [x5, (.p (.int .i64 n69)), q76.1] q76.2 (some 74)).bind fun q77 =>
 loop ctl_Bytes_c1 ctl_Bytes_l1 (1 :: σ) (envL [(1, x1), (5, q77.1), (54, x54), (55, (.p (.int .i64 x55))), (56, (.p (.int .i64 (IntKind.wrap .i64 (x56 + 1)))))]) q77.2))
 else (
 loop ctl_Bytes_c1 ctl_Bytes_l1 (1 :: σ) (envL [(1, x1), (5, x5), (54, x54), (55, (.p (.int .i64 x55))), (56, (.p (.int .i64 (IntKind.wrap .i64 (x56 + 1)))))]) q65.2))
 else (
 some ((.exit 2), (envL [(1, x1), (5, x5)]), h)) := by kernel_rfl
theorem ctl_Bytes_a1_2 (rec : CallF) (loop : LoopV) (σ : Stamp) (x1 : V) (x5 : V) (h : H) : ctl_Bytes_k1 rec loop σ (.exit 2) (envL [(1, x1), (5, x5)]) h =
 (fA x1 0).bind fun t78 =>
 (ldO false 1 h t78).bind fun t79 =>
 (castI .i64 t79).bind fun n80 =>
 (buildSliceV Try.prog 32 1 [(0, (.p (.int .u8 (IntKind.wrap .u8 n80))))]).bind fun t81 =>
 (lenO x5).bind fun t82 =>
 (castI .i64 t82).bind fun n83 =>
 (callO rec 67 (7 :: 0 :: 1 :: 1 :: 1 :: 1 :: 1 :: 0 :: σ) [t81, (.p (.int .u64 (IntKind.wrap .u64 n83))), (.p (.int .i64 2))] h (some 83)).bind fun q84 =>
 (buildSliceV Try.prog 72 2 [(0, q84.1), (1, x5)]).bind fun t85 =>
 (callFO rec 69 (10 :: 0 :: 1 :: 1 :: 1 :: 1 :: 1 :: 0 :: σ) [t85] q84.2 (some 86)).bind fun q86 =>
 fin true σ q86.2 [q86.1, (.p (.int .i64 0))] := by kernel_rfl
end Go.Ev
/- Equations, printed by tracer2.py. -/
namespace Go.Ev
open Go.Proofs
set_option linter.unusedVariables false
set_option maxRecDepth 100000
-- 36 limelight/ctl.Right
theorem ctl_Right_entry (rec : CallF) (loop : LoopV) (σ : Stamp) (x0 : V) (h : H) : cvBody G rec loop 36 σ [x0] h =
 (boxO false (0 :: 0 :: 0 :: σ) 1 (List.replicate 28 [] :: h) x0).bind fun q1 =>
 (fA q1.1 0).bind fun t2 =>
 (ldO false 1 q1.2 t2).bind fun t3 =>
 (castI .i64 t3).bind fun n4 =>
 (bif decide (n4 < 1) then (some true) else ((fA q1.1 0).bind fun t5 =>
 (ldO false 1 q1.2 t5).bind fun t6 =>
 (castI .i64 t6).bind fun n7 =>
 some (decide (n7 > 10)))).bind fun b8 =>
 (bif b8 then (some ((.p (.bool true)), q1.2)) else ((ldO true 8 q1.2 q1.1).bind fun t9 =>
 (callO rec 79 (10 :: 0 :: 0 :: 1 :: 0 :: σ) [t9] q1.2 (some 14)).bind fun q10 =>
 (asB q10.1).bind fun b11 =>
 some ((.p (.bool (!b11))), q10.2))).bind fun q12 =>
 (asB q12.1).bind fun b13 =>
 bif b13 then (
 fin false σ q12.2 [(.p (.int .i64 12))])
 else (
 (ldO true 8 q12.2 q1.1).bind fun t14 =>
 (callO rec 80 (1 :: 0 :: 1 :: 0 :: 1 :: 0 :: σ) [t14] q12.2 (some 19)).bind fun q15 =>
 (asB q15.1).bind fun b16 =>
 bif !b16 then (
 fin false σ q15.2 [(.p (.int .i64 1))])
 else (
 (fA q1.1 0).bind fun t17 =>
 (ldO false 1 q15.2 t17).bind fun t18 =>
 (castI .i64 t18).bind fun n19 =>
 bif n19 == 3 then (
 (fA q1.1 2).bind fun t20 =>
 (ldO false 1 q15.2 t20).bind fun t21 =>
 (callO rec 34 (2 :: 0 :: 1 :: 1 :: 1 :: 0 :: 1 :: 0 :: σ) [t21] q15.2 (some 27)).bind fun q22 =>
 (castI .i64 q22.1).bind fun n23 =>
 fin false σ q22.2 [(.p (.int .i64 n23))])
 else (
 fin false σ q15.2 [(.p (.int .i64 0))]))) := by kernel_rfl
end Go.Ev
/- Equations, printed by tracer2.py. -/
namespace Go.Ev
open Go.Proofs
set_option linter.unusedVariables false
set_option maxRecDepth 100000
-- 79 limelight/ctl.fields
noncomputable def ctl_fields_c0 : Code := (codeAt (bodyOf Try.f79) [1, 1, 0, 1, 0, 0])
def ctl_fields_l0 : Lv := ⟨0, 4, [(0, 0)]⟩
noncomputable def ctl_fields_k0 (rec : CallF) (loop : LoopV) (σ : Stamp) : Exit → Env → H → Option (List C × H) := (kBlock 0 (kSeq G rec loop (codeAt (bodyOf Try.f79) [1, 1, 1]) ⟨4, 4, []⟩ (1 :: 1 :: 0 :: σ) (finC G false Try.f79 (1 :: σ))))
theorem ctl_fields_entry (rec : CallF) (loop : LoopV) (σ : Stamp) (x0 : V) (h : H) : cvBody G rec loop 79 σ [x0] h =
 (boxO false (0 :: 0 :: 0 :: σ) 1 (List.replicate 47 [] :: h) x0).bind fun q1 =>
 (fA q1.1 1).bind fun t2 =>
 (ldO false 1 q1.2 t2).bind fun t3 =>
 (castI .i64 t3).bind fun n4 =>
 (fA q1.1 2).bind fun t5 =>
 (ldO false 1 q1.2 t5).bind fun t6 =>
 (lenO t6).bind fun t7 =>
 (castI .i64 t7).bind fun n8 =>
 (fA q1.1 3).bind fun t9 =>
 (ldO false 1 q1.2 t9).bind fun t10 =>
 (castI .i64 t10).bind fun n11 =>
 (fA q1.1 4).bind fun t12 =>
 (ldO false 1 q1.2 t12).bind fun t13 =>
 (castI .i64 t13).bind fun n14 =>
 (fA q1.1 5).bind fun t15 =>
 (ldO false 1 q1.2 t15).bind fun t16 =>
 (castI .i64 t16).bind fun n17 =>
 (fA q1.1 6).bind fun t18 =>
 (ldO false 1 q1.2 t18).bind fun t19 =>
 (castI .i64 t19).bind fun n20 =>
 (fA q1.1 7).bind fun t21 =>
 (ldO false 1 q1.2 t21).bind fun t22 =>
 (castI .i64 t22).bind fun n23 =>
 (buildSliceV Try.prog 155 7 [(0, (.p (.bool (n4 == 0)))), (1, (.p (.bool (n8 == 0)))), (2, (.p (.bool (n11 == 0)))), (3, (.p (.bool (n14 == 0)))), (4, (.p (.bool (n17 == 0)))), (5, (.p (.bool (n20 == 0)))), (6, (.p (.bool (n23 == 0))))]).bind fun t24 =>
 (lenO t24).bind fun t25 =>
 (castI .i64 t25).bind fun n26 =>
 (loop ctl_fields_c0 ctl_fields_l0 (1 :: 0 :: 1 :: 1 :: 0 :: σ) (envL [(1, q1.1), (29, t24), (30, (.p (.int .i64 n26))), (31, (.p (.int .i64 0)))]) q1.2).bind fun r27 => ctl_fields_k0 rec loop σ r27.1 r27.2.1 r27.2.2 := by kernel_rfl
theorem ctl_fields_r0 (rec : CallF) (loop : LoopV) (σ : Stamp) (x1 : V) (x29 : V) (x30 : Int) (x31 : Int) (h : H) : cvRound G rec loop ctl_fields_c0 ctl_fields_l0 σ (envL [(1, x1), (29, x29), (30, (.p (.int .i64 x30))), (31, (.p (.int .i64 x31)))]) h =
 bif decide (x31 < x30) then (
 (iS 1 x29 x31).bind fun t28 =>
 (ldO false 1 h t28).bind fun t29 =>
 (asB t29).bind fun b30 =>
 (bif !b30 then ((fA x1 0).bind fun t31 =>
 (ldO false 1 h t31).bind fun t32 =>
 (castI .i64 t32).bind fun n33 =>
 (callO rec 68 (7 :: 0 :: 1 :: 0 :: 1 :: 1 :: 0 :: σ) [(.p (.int .i64 n33)), (.p (.int .i64 (IntKind.wrap .i64 (x31 + 1))))] h (some 43)).bind fun q34 =>
 (asB q34.1).bind fun b35 =>
 some ((.p (.bool (!b35))), q34.2)) else (some ((.p (.bool false)), h))).bind fun q36 =>
 (asB q36.1).bind fun b37 =>
 bif b37 then (
 some (.ret, (envL [(2, (.p (.bool false)))]), q36.2))
 else (
 loop ctl_fields_c0 ctl_fields_l0 (1 :: σ) (envL [(1, x1), (29, x29), (30, (.p (.int .i64 x30))), (31, (.p (.int .i64 (IntKind.wrap .i64 (x31 + 1)))))]) q36.2))
 else (
 some ((.exit 0), (envL []), h)) := by kernel_rfl
theorem ctl_fields_a0_0 (rec : CallF) (loop : LoopV) (σ : Stamp)  (h : H) : ctl_fields_k0 rec loop σ (.exit 0) (envL []) h =
 fin false σ h [(.p (.bool true))] := by kernel_rfl
theorem ctl_fields_a0_ret (rec : CallF) (loop : LoopV) (σ : Stamp) (x2 : Bool) (h : H) : ctl_fields_k0 rec loop σ .ret (envL [(2, (.p (.bool x2)))]) h =
 fin false σ h [(.p (.bool x2))] := by kernel_rfl
end Go.Ev
/- Equations, printed by tracer2.py. -/
namespace Go.Ev
open Go.Proofs
set_option linter.unusedVariables false
set_option maxRecDepth 100000
-- 68 limelight/ctl.has
theorem ctl_has_entry (rec : CallF) (loop : LoopV) (σ : Stamp) (x0 : Int) (x1 : Int) (h : H) : cvBody G rec loop 68 σ [(.p (.int .i64 x0)), (.p (.int .i64 x1))] h =
 bif x1 == 1 then (
 fin false σ (List.replicate 56 [] :: h) [(.p (.bool (x0 == 1)))])
 else (
 bif x1 == 2 then (
 fin false σ (List.replicate 56 [] :: h) [(.p (.bool (x0 == 3)))])
 else (
 bif x1 == 3 then (
 (bif x0 == 4 then (some true) else (some (x0 == 5))).bind fun b1 =>
 (bif b1 then (some true) else (some (x0 == 6))).bind fun b2 =>
 (bif b2 then (some true) else (some (x0 == 7))).bind fun b3 =>
 fin false σ (List.replicate 56 [] :: h) [(.p (.bool b3))])
 else (
 bif x1 == 4 then (
 (bif x0 == 4 then (some true) else (some (x0 == 6))).bind fun b4 =>
 fin false σ (List.replicate 56 [] :: h) [(.p (.bool b4))])
 else (
 bif x1 == 5 then (
 (bif x0 == 4 then (some true) else (some (x0 == 7))).bind fun b5 =>
 fin false σ (List.replicate 56 [] :: h) [(.p (.bool b5))])
 else (
 bif x1 == 6 then (
 (bif x0 == 8 then (some true) else (some (x0 == 9))).bind fun b6 =>
 fin false σ (List.replicate 56 [] :: h) [(.p (.bool b6))])
 else (
 fin false σ (List.replicate 56 [] :: h) [(.p (.bool (x0 == 10)))])))))) := by kernel_rfl
end Go.Ev
/- Lifted by lift.py: ctl_has as a plain function. -/
namespace Go.Ev
open Go.Proofs
set_option linter.unusedVariables false
set_option linter.unusedSimpArgs false
set_option maxRecDepth 100000
def p_ctl_has (x0 : Int) (x1 : Int) : Option (Bool) :=
bif x1 == 1 then (
some ((x0 == 1)))
else (
bif x1 == 2 then (
some ((x0 == 3)))
else (
bif x1 == 3 then (
(bif x0 == 4 then (some true) else (some (x0 == 5))).bind fun b1 =>
(bif b1 then (some true) else (some (x0 == 6))).bind fun b5 =>
(bif b5 then (some true) else (some (x0 == 7))).bind fun b9 =>
some (b9))
else (
bif x1 == 4 then (
(bif x0 == 4 then (some true) else (some (x0 == 6))).bind fun b13 =>
some (b13))
else (
bif x1 == 5 then (
(bif x0 == 4 then (some true) else (some (x0 == 7))).bind fun b17 =>
some (b17))
else (
bif x1 == 6 then (
(bif x0 == 8 then (some true) else (some (x0 == 9))).bind fun b21 =>
some (b21))
else (
some ((x0 == 10))))))))
theorem ctl_has_ok {h : H} {σ : Stamp} (x0 : Int) (x1 : Int) : Sim (p_ctl_has x0 x1) (ev G X0 68 σ [(.p (.int .i64 x0)), (.p (.int .i64 x1))] h) (fun r s => s = ([.v (.p (.bool r))], h)) := by
  refine Sim.ev rfl (Sim.ext (ctl_has_entry _ _ _ _ _ _) ?_)
  rw [p_ctl_has]
  have S0 : Fm 56 h [] [] [] (List.replicate 56 [] :: h) := Fm.start0
  refine Sim.cd (fun hc => ?_) (fun hc => ?_)
  · exact Sim.fin (S0.finN (lv_cons (still_bool _).lv lv_nil)) rfl
  · refine Sim.cd (fun hc => ?_) (fun hc => ?_)
    · exact Sim.fin (S0.finN (lv_cons (still_bool _).lv lv_nil)) rfl
    · refine Sim.cd (fun hc => ?_) (fun hc => ?_)
      · refine Sim.ch (P := fun r y => r = y) ?_ (fun b1 y2 h3 h4 => ?_)
        · refine Sim.cd (fun hc => ?_) (fun hc => ?_)
          · exact Sim.ret rfl rfl
          · exact Sim.ret rfl rfl
        subst h4
        refine Sim.ch (P := fun r y => r = y) ?_ (fun b5 y6 h7 h8 => ?_)
        · refine Sim.cd (fun hc => ?_) (fun hc => ?_)
          · exact Sim.ret rfl rfl
          · exact Sim.ret rfl rfl
        subst h8
        refine Sim.ch (P := fun r y => r = y) ?_ (fun b9 y10 h11 h12 => ?_)
        · refine Sim.cd (fun hc => ?_) (fun hc => ?_)
          · exact Sim.ret rfl rfl
          · exact Sim.ret rfl rfl
        subst h12
        exact Sim.fin (S0.finN (lv_cons (still_bool _).lv lv_nil)) rfl
      · refine Sim.cd (fun hc => ?_) (fun hc => ?_)
        · refine Sim.ch (P := fun r y => r = y) ?_ (fun b13 y14 h15 h16 => ?_)
          · refine Sim.cd (fun hc => ?_) (fun hc => ?_)
            · exact Sim.ret rfl rfl
            · exact Sim.ret rfl rfl
          subst h16
          exact Sim.fin (S0.finN (lv_cons (still_bool _).lv lv_nil)) rfl
        · refine Sim.cd (fun hc => ?_) (fun hc => ?_)
          · refine Sim.ch (P := fun r y => r = y) ?_ (fun b17 y18 h19 h20 => ?_)
            · refine Sim.cd (fun hc => ?_) (fun hc => ?_)
              · exact Sim.ret rfl rfl
              · exact Sim.ret rfl rfl
            subst h20
            exact Sim.fin (S0.finN (lv_cons (still_bool _).lv lv_nil)) rfl
          · refine Sim.cd (fun hc => ?_) (fun hc => ?_)
            · refine Sim.ch (P := fun r y => r = y) ?_ (fun b21 y22 h23 h24 => ?_)
              · refine Sim.cd (fun hc => ?_) (fun hc => ?_)
                · exact Sim.ret rfl rfl
                · exact Sim.ret rfl rfl
              subst h24
              exact Sim.fin (S0.finN (lv_cons (still_bool _).lv lv_nil)) rfl
            · exact Sim.fin (S0.finN (lv_cons (still_bool _).lv lv_nil)) rfl
end Go.Ev
/- Lifted by lift.py: ctl_fields as a plain function. -/
namespace Go.Ev
open Go.Proofs
set_option linter.unusedVariables false
set_option linter.unusedSimpArgs false
set_option maxRecDepth 100000
def p_ctl_fields_l0 {β : Type} (k : Nat) (kE0 : Unit → Option β) (kE1 : Bool → Option β) (x29 : (List Bool)) (x30 : Int) (x31 : Int) (yg6 : T_api_Ctl) : Option β := match k with
| 0 => none
| k + 1 =>
bif decide (x31 < x30) then (
(ix x29 x31).bind fun a16 =>
(bif !a16 then ((p_ctl_has yg6.Kind (IntKind.wrap .i64 (x31 + 1))).bind fun r19 =>
some (!r19)) else (some false)).bind fun b24 =>
bif b24 then (
kE1 false)
else (
p_ctl_fields_l0 k kE0 kE1 x29 x30 (IntKind.wrap .i64 (x31 + 1)) ((⟨yg6.Kind, yg6.Cap, yg6.Layers, yg6.Peer, yg6.Height, yg6.Class, yg6.Layer, yg6.Code⟩ : T_api_Ctl))))
else (
kE0 ())
def p_ctl_fields (k : Nat) (x0 : T_api_Ctl) : Option (Bool) :=
p_ctl_fields_l0 k (fun (_ : Unit) =>
some (true)) (fun r35_2 =>
some (r35_2)) ([(x0.Cap == 0), (((x0.Layers.length : Int)) == 0), (x0.Peer == 0), (x0.Height == 0), (x0.Class == 0), (x0.Layer == 0), (x0.Code == 0)]) ((([(x0.Cap == 0), (((x0.Layers.length : Int)) == 0), (x0.Peer == 0), (x0.Height == 0), (x0.Class == 0), (x0.Layer == 0), (x0.Code == 0)]).length : Int)) 0 ((⟨x0.Kind, x0.Cap, x0.Layers, x0.Peer, x0.Height, x0.Class, x0.Layer, x0.Code⟩ : T_api_Ctl))
theorem ctl_fields_l0_ok {h : H}  {β α : Type} {Q : β → α → Prop} {K : Exit × Env × H → Option α} {kE0 : Unit → Option β} {kE1 : Bool → Option β} (hE0 : ∀ (_u : Unit) (H28 : Go.Ev.H) (_ : Fm 47 h [] [] [] H28), Sim (kE0 ()) (K ((.exit 0), (envL []), H28)) Q) (hE1 : ∀ (q2 : Bool) (H30 : Go.Ev.H) (_ : Fm 47 h [] [] [] H30), Sim (kE1 q2) (K (.ret, (envL [(2, (.p (.bool q2)))]), H30)) Q) (k : Nat) : ∀ (x29 : (List Bool)) (x30 : Int) (x31 : Int) (yg6 : T_api_Ctl) (v10 : V) (h11 : SlF dB x29 v10) (v12 : V) (h13 : SlF dT_api_Layer yg6.Layers v12) (s14 : Stamp) (H8 : Go.Ev.H) (_ : Fm 47 h [] [(1, s14, List.map C.v [(.p (.int .i64 yg6.Kind)), (.p (.int .i64 yg6.Cap)), v12, (.p (.int .i64 yg6.Peer)), (.p (.int .i64 yg6.Height)), (.p (.int .i64 yg6.Class)), (.p (.int .i64 yg6.Layer)), (.p (.int .i64 yg6.Code))])] [] H8) {σ : Stamp}, Sim (p_ctl_fields_l0 k kE0 kE1 x29 x30 x31 yg6) ((cvL G X0 ctl_fields_c0 ctl_fields_l0 σ (envL [(1, (.ref ⟨h.length, 1, 0, s14, []⟩ 0)), (29, v10), (30, (.p (.int .i64 x30))), (31, (.p (.int .i64 x31)))]) H8).bind K) Q := by
  induction k with
  | zero => intros; exact Sim.no
  | succ k ih =>
    intro x29 x30 x31 yg6 v10 h11 v12 h13 s14 H8 S9 σ
    rw [p_ctl_fields_l0]
    refine Sim.round (Sim.ext (ctl_fields_r0 _ _ _ _ _ _ _ _) ?_)
    refine Sim.cd (fun hc => ?_) (fun hc => ?_)
    · refine Sim.bd fun a16 h17 => ?_
      refine Sim.op ((h11.h H8).iS h17 rfl) ?_
      obtain ⟨_, rfl, hE18⟩ := (h11.h H8).el h17 rfl
      refine Sim.op (hE18.ld (j := 0) rfl) ?_
      refine Sim.op (asB_p _) ?_
      refine Sim.ch (P := fun r y => (.p (.bool r), H8) = y) ?_ (fun b24 y25 h26 h27 => ?_)
      · refine Sim.cd (fun hc => ?_) (fun hc => ?_)
        · refine Sim.op (fA_ref _ _ _) ?_
          refine Sim.op ((S9.atG (i := 0) rfl).ld (j := 0) rfl) ?_
          refine Sim.op (castI_p _ _) ?_
          refine Sim.call (ctl_has_ok yg6.Kind (IntKind.wrap .i64 (x31 + 1))) fun r19 cs20 H21 h22 q23 => ?_
          cases q23
          refine Sim.op (asB_p _) ?_
          exact Sim.ret rfl rfl
        · exact Sim.ret rfl rfl
      subst h27
      refine Sim.op (asB_p _) ?_
      refine Sim.cd (fun hc => ?_) (fun hc => ?_)
      · exact hE1 false H8 (S9.wk2 all_nil all_nil)
      · exact ih x29 x30 (IntKind.wrap .i64 (x31 + 1)) ((⟨yg6.Kind, yg6.Cap, yg6.Layers, yg6.Peer, yg6.Height, yg6.Class, yg6.Layer, yg6.Code⟩ : T_api_Ctl)) v10 h11 v12 h13 s14 H8 (S9.wk2 (all_cons (at_mem 0 rfl) all_nil) all_nil)
    · exact hE0 () H8 (S9.wk2 all_nil all_nil)
theorem ctl_fields_ok (k : Nat) {h : H} {σ : Stamp} (x0 : T_api_Ctl) {u0 : List V} (hu0 : dT_api_Ctl.R x0 u0) : Sim (p_ctl_fields k x0) (ev G X0 79 σ [(.agg u0)] h) (fun r s => s = ([.v (.p (.bool r))], h)) := by
  refine Sim.ev rfl (Sim.ext (ctl_fields_entry _ _ _ _ _) ?_)
  rw [p_ctl_fields]
  obtain ⟨v1, rfl, h2⟩ := dT_api_Ctl.inv hu0
  have S0 : Fm 47 h [] [] [] (List.replicate 47 [] :: h) := Fm.start0
  obtain ⟨H3, e4, S5⟩ := S0.box (own := false) (d := 1) (s := (0 :: 0 :: 0 :: σ)) (xs := [(.p (.int .i64 x0.Kind)), (.p (.int .i64 x0.Cap)), v1, (.p (.int .i64 x0.Peer)), (.p (.int .i64 x0.Height)), (.p (.int .i64 x0.Class)), (.p (.int .i64 x0.Layer)), (.p (.int .i64 x0.Code))]) (stills_cons (still_int _ _) (stills_cons (still_int _ _) (stills_cons h2.still (stills_cons (still_int _ _) (stills_cons (still_int _ _) (stills_cons (still_int _ _) (stills_cons (still_int _ _) (stills_cons (still_int _ _) stills_nil)))))))) (by decide) rfl
  refine Sim.op (e4) ?_
  refine Sim.op (fA_ref _ _ _) ?_
  refine Sim.op ((S5.atG (i := 0) rfl).ld (j := 1) rfl) ?_
  refine Sim.op (castI_p _ _) ?_
  refine Sim.op (fA_ref _ _ _) ?_
  refine Sim.op ((S5.atG (i := 0) rfl).ld (j := 2) rfl) ?_
  refine Sim.op ((h2.h H3).len) ?_
  refine Sim.op (castI_p _ _) ?_
  refine Sim.op (fA_ref _ _ _) ?_
  refine Sim.op ((S5.atG (i := 0) rfl).ld (j := 3) rfl) ?_
  refine Sim.op (castI_p _ _) ?_
  refine Sim.op (fA_ref _ _ _) ?_
  refine Sim.op ((S5.atG (i := 0) rfl).ld (j := 4) rfl) ?_
  refine Sim.op (castI_p _ _) ?_
  refine Sim.op (fA_ref _ _ _) ?_
  refine Sim.op ((S5.atG (i := 0) rfl).ld (j := 5) rfl) ?_
  refine Sim.op (castI_p _ _) ?_
  refine Sim.op (fA_ref _ _ _) ?_
  refine Sim.op ((S5.atG (i := 0) rfl).ld (j := 6) rfl) ?_
  refine Sim.op (castI_p _ _) ?_
  refine Sim.op (fA_ref _ _ _) ?_
  refine Sim.op ((S5.atG (i := 0) rfl).ld (j := 7) rfl) ?_
  refine Sim.op (castI_p _ _) ?_
  have h7 : SlF dB [(x0.Cap == 0), (((x0.Layers.length : Int)) == 0), (x0.Peer == 0), (x0.Height == 0), (x0.Class == 0), (x0.Layer == 0), (x0.Code == 0)] (.fz [(.p (.bool (x0.Cap == 0))), (.p (.bool (((x0.Layers.length : Int)) == 0))), (.p (.bool (x0.Peer == 0))), (.p (.bool (x0.Height == 0))), (.p (.bool (x0.Class == 0))), (.p (.bool (x0.Layer == 0))), (.p (.bool (x0.Code == 0)))] 7 1 true) := SlF.lit (cs := [(.p (.bool (x0.Cap == 0))), (.p (.bool (((x0.Layers.length : Int)) == 0))), (.p (.bool (x0.Peer == 0))), (.p (.bool (x0.Height == 0))), (.p (.bool (x0.Class == 0))), (.p (.bool (x0.Layer == 0))), (.p (.bool (x0.Code == 0)))]) (RL.cons (show dB.R (x0.Cap == 0) [(.p (.bool (x0.Cap == 0)))] from rfl) (RL.cons (show dB.R (((x0.Layers.length : Int)) == 0) [(.p (.bool (((x0.Layers.length : Int)) == 0)))] from rfl) (RL.cons (show dB.R (x0.Peer == 0) [(.p (.bool (x0.Peer == 0)))] from rfl) (RL.cons (show dB.R (x0.Height == 0) [(.p (.bool (x0.Height == 0)))] from rfl) (RL.cons (show dB.R (x0.Class == 0) [(.p (.bool (x0.Class == 0)))] from rfl) (RL.cons (show dB.R (x0.Layer == 0) [(.p (.bool (x0.Layer == 0)))] from rfl) (RL.cons (show dB.R (x0.Code == 0) [(.p (.bool (x0.Code == 0)))] from rfl) RL.nil))))))) rfl rfl true
  refine Sim.op (bldS (pt_cons rfl (pt_cons rfl (pt_cons rfl (pt_cons rfl (pt_cons rfl (pt_cons rfl (pt_cons rfl pt_nil))))))) (by kernel_rfl : _ = some (.fz [(.p (.bool (x0.Cap == 0))), (.p (.bool (((x0.Layers.length : Int)) == 0))), (.p (.bool (x0.Peer == 0))), (.p (.bool (x0.Height == 0))), (.p (.bool (x0.Class == 0))), (.p (.bool (x0.Layer == 0))), (.p (.bool (x0.Code == 0)))] 7 1 true))) ?_
  refine Sim.op ((h7.h H3).len) ?_
  refine Sim.op (castI_p _ _) ?_
  refine Sim.as (ctl_fields_l0_ok ?_ ?_ k ([(x0.Cap == 0), (((x0.Layers.length : Int)) == 0), (x0.Peer == 0), (x0.Height == 0), (x0.Class == 0), (x0.Layer == 0), (x0.Code == 0)]) ((([(x0.Cap == 0), (((x0.Layers.length : Int)) == 0), (x0.Peer == 0), (x0.Height == 0), (x0.Class == 0), (x0.Layer == 0), (x0.Code == 0)]).length : Int)) 0 ((⟨x0.Kind, x0.Cap, x0.Layers, x0.Peer, x0.Height, x0.Class, x0.Layer, x0.Code⟩ : T_api_Ctl)) (.fz [(.p (.bool (x0.Cap == 0))), (.p (.bool (((x0.Layers.length : Int)) == 0))), (.p (.bool (x0.Peer == 0))), (.p (.bool (x0.Height == 0))), (.p (.bool (x0.Class == 0))), (.p (.bool (x0.Layer == 0))), (.p (.bool (x0.Code == 0)))] 7 1 true) h7 v1 h2 (0 :: 0 :: 0 :: σ) H3 (S5.wk2 (all_cons (at_mem 0 rfl) all_nil) all_nil)) 
  · intro _u H33 S34
    refine Sim.ext (ctl_fields_a0_0 _ _ _ _) ?_
    exact Sim.fin (S34.finN (lv_cons (still_bool _).lv lv_nil)) rfl
  · intro r35_2 H36 S37
    refine Sim.ext (ctl_fields_a0_ret _ _ _ _ _) ?_
    exact Sim.fin (S37.finN (lv_cons (still_bool _).lv lv_nil)) rfl
end Go.Ev
/- Equations, printed by tracer2.py. -/
namespace Go.Ev
open Go.Proofs
set_option linter.unusedVariables false
set_option maxRecDepth 100000
-- 80 limelight/ctl.values
theorem ctl_values_entry (rec : CallF) (loop : LoopV) (σ : Stamp) (x0 : V) (h : H) : cvBody G rec loop 80 σ [x0] h =
 (boxO false (0 :: 0 :: 0 :: σ) 1 (List.replicate 67 [] :: h) x0).bind fun q1 =>
 (fA q1.1 0).bind fun t2 =>
 (ldO false 1 q1.2 t2).bind fun t3 =>
 (castI .i64 t3).bind fun n4 =>
 (callO rec 68 (2 :: 0 :: 1 :: 0 :: σ) [(.p (.int .i64 n4)), (.p (.int .i64 1))] q1.2 (some 5)).bind fun q5 =>
 (asB q5.1).bind fun b6 =>
 (bif !b6 then (some ((.p (.bool true)), q5.2)) else ((fA q1.1 1).bind fun t7 =>
 (ldO false 1 q5.2 t7).bind fun t8 =>
 (castI .i64 t8).bind fun n9 =>
 (callO rec 115 (7 :: 0 :: 1 :: 0 :: σ) [(.p (.int .i64 n9)), (.p (.int .i64 1)), (.p (.int .i64 1099511627776))] q5.2 (some 10)).bind fun q10 =>
 (asB q10.1).bind fun b11 =>
 some ((.p (.bool b11)), q10.2))).bind fun q12 =>
 (asB q12.1).bind fun b13 =>
 (bif b13 then ((fA q1.1 0).bind fun t14 =>
 (ldO false 1 q12.2 t14).bind fun t15 =>
 (castI .i64 t15).bind fun n16 =>
 (callO rec 68 (12 :: 0 :: 1 :: 0 :: σ) [(.p (.int .i64 n16)), (.p (.int .i64 3))] q12.2 (some 15)).bind fun q17 =>
 (asB q17.1).bind fun b18 =>
 (bif !b18 then (some ((.p (.bool true)), q17.2)) else ((fA q1.1 3).bind fun t19 =>
 (ldO false 1 q17.2 t19).bind fun t20 =>
 (castI .i64 t20).bind fun n21 =>
 (callO rec 115 (17 :: 0 :: 1 :: 0 :: σ) [(.p (.int .i64 n21)), (.p (.int .i64 0)), (.p (.int .i64 5))] q17.2 (some 20)).bind fun q22 =>
 (asB q22.1).bind fun b23 =>
 some ((.p (.bool b23)), q22.2))).bind fun q24 =>
 (asB q24.1).bind fun b25 =>
 some ((.p (.bool b25)), q24.2)) else (some ((.p (.bool false)), q12.2))).bind fun q26 =>
 (asB q26.1).bind fun b27 =>
 (bif b27 then ((fA q1.1 0).bind fun t28 =>
 (ldO false 1 q26.2 t28).bind fun t29 =>
 (castI .i64 t29).bind fun n30 =>
 (callO rec 68 (23 :: 0 :: 1 :: 0 :: σ) [(.p (.int .i64 n30)), (.p (.int .i64 4))] q26.2 (some 26)).bind fun q31 =>
 (asB q31.1).bind fun b32 =>
 (bif !b32 then (some ((.p (.bool true)), q31.2)) else ((fA q1.1 4).bind fun t33 =>
 (ldO false 1 q31.2 t33).bind fun t34 =>
 (castI .i64 t34).bind fun n35 =>
 (callO rec 115 (28 :: 0 :: 1 :: 0 :: σ) [(.p (.int .i64 n35)), (.p (.int .i64 1)), (.p (.int .i64 8192))] q31.2 (some 31)).bind fun q36 =>
 (asB q36.1).bind fun b37 =>
 some ((.p (.bool b37)), q36.2))).bind fun q38 =>
 (asB q38.1).bind fun b39 =>
 some ((.p (.bool b39)), q38.2)) else (some ((.p (.bool false)), q26.2))).bind fun q40 =>
 (asB q40.1).bind fun b41 =>
 (bif b41 then ((fA q1.1 0).bind fun t42 =>
 (ldO false 1 q40.2 t42).bind fun t43 =>
 (castI .i64 t43).bind fun n44 =>
 (callO rec 68 (34 :: 0 :: 1 :: 0 :: σ) [(.p (.int .i64 n44)), (.p (.int .i64 5))] q40.2 (some 37)).bind fun q45 =>
 (asB q45.1).bind fun b46 =>
 (bif !b46 then (some ((.p (.bool true)), q45.2)) else ((fA q1.1 5).bind fun t47 =>
 (ldO false 1 q45.2 t47).bind fun t48 =>
 (castI .i64 t48).bind fun n49 =>
 (callO rec 115 (39 :: 0 :: 1 :: 0 :: σ) [(.p (.int .i64 n49)), (.p (.int .i64 0)), (.p (.int .i64 3))] q45.2 (some 42)).bind fun q50 =>
 (asB q50.1).bind fun b51 =>
 some ((.p (.bool b51)), q50.2))).bind fun q52 =>
 (asB q52.1).bind fun b53 =>
 some ((.p (.bool b53)), q52.2)) else (some ((.p (.bool false)), q40.2))).bind fun q54 =>
 (asB q54.1).bind fun b55 =>
 (bif b55 then ((fA q1.1 0).bind fun t56 =>
 (ldO false 1 q54.2 t56).bind fun t57 =>
 (castI .i64 t57).bind fun n58 =>
 (callO rec 68 (45 :: 0 :: 1 :: 0 :: σ) [(.p (.int .i64 n58)), (.p (.int .i64 6))] q54.2 (some 48)).bind fun q59 =>
 (asB q59.1).bind fun b60 =>
 (bif !b60 then (some ((.p (.bool true)), q59.2)) else ((fA q1.1 6).bind fun t61 =>
 (ldO false 1 q59.2 t61).bind fun t62 =>
 (castI .i64 t62).bind fun n63 =>
 (callO rec 115 (50 :: 0 :: 1 :: 0 :: σ) [(.p (.int .i64 n63)), (.p (.int .i64 0)), (.p (.int .i64 2))] q59.2 (some 53)).bind fun q64 =>
 (asB q64.1).bind fun b65 =>
 some ((.p (.bool b65)), q64.2))).bind fun q66 =>
 (asB q66.1).bind fun b67 =>
 some ((.p (.bool b67)), q66.2)) else (some ((.p (.bool false)), q54.2))).bind fun q68 =>
 (asB q68.1).bind fun b69 =>
 (bif b69 then ((fA q1.1 0).bind fun t70 =>
 (ldO false 1 q68.2 t70).bind fun t71 =>
 (castI .i64 t71).bind fun n72 =>
 (callO rec 68 (56 :: 0 :: 1 :: 0 :: σ) [(.p (.int .i64 n72)), (.p (.int .i64 7))] q68.2 (some 59)).bind fun q73 =>
 (asB q73.1).bind fun b74 =>
 (bif !b74 then (some ((.p (.bool true)), q73.2)) else ((fA q1.1 7).bind fun t75 =>
 (ldO false 1 q73.2 t75).bind fun t76 =>
 (castI .i64 t76).bind fun n77 =>
 (callO rec 115 (61 :: 0 :: 1 :: 0 :: σ) [(.p (.int .i64 n77)), (.p (.int .i64 0)), (.p (.int .i64 255))] q73.2 (some 64)).bind fun q78 =>
 (asB q78.1).bind fun b79 =>
 some ((.p (.bool b79)), q78.2))).bind fun q80 =>
 (asB q80.1).bind fun b81 =>
 some ((.p (.bool b81)), q80.2)) else (some ((.p (.bool false)), q68.2))).bind fun q82 =>
 (asB q82.1).bind fun b83 =>
 fin false σ q82.2 [(.p (.bool b83))] := by kernel_rfl
end Go.Ev
/- Equations, printed by tracer2.py. -/
namespace Go.Ev
open Go.Proofs
set_option linter.unusedVariables false
set_option maxRecDepth 100000
-- 115 limelight/ctl.within
theorem ctl_within_entry (rec : CallF) (loop : LoopV) (σ : Stamp) (x0 : Int) (x1 : Int) (x2 : Int) (h : H) : cvBody G rec loop 115 σ [(.p (.int .i64 x0)), (.p (.int .i64 x1)), (.p (.int .i64 x2))] h =
 (bif decide (x0 ≥ x1) then (some (decide (x0 ≤ x2))) else (some false)).bind fun b1 =>
 fin false σ (List.replicate 15 [] :: h) [(.p (.bool b1))] := by kernel_rfl
end Go.Ev
/- Lifted by lift.py: ctl_within as a plain function. -/
namespace Go.Ev
open Go.Proofs
set_option linter.unusedVariables false
set_option linter.unusedSimpArgs false
set_option maxRecDepth 100000
def p_ctl_within (x0 : Int) (x1 : Int) (x2 : Int) : Option (Bool) :=
(bif decide (x0 ≥ x1) then (some (decide (x0 ≤ x2))) else (some false)).bind fun b1 =>
some (b1)
theorem ctl_within_ok {h : H} {σ : Stamp} (x0 : Int) (x1 : Int) (x2 : Int) : Sim (p_ctl_within x0 x1 x2) (ev G X0 115 σ [(.p (.int .i64 x0)), (.p (.int .i64 x1)), (.p (.int .i64 x2))] h) (fun r s => s = ([.v (.p (.bool r))], h)) := by
  refine Sim.ev rfl (Sim.ext (ctl_within_entry _ _ _ _ _ _ _) ?_)
  rw [p_ctl_within]
  have S0 : Fm 15 h [] [] [] (List.replicate 15 [] :: h) := Fm.start0
  refine Sim.ch (P := fun r y => r = y) ?_ (fun b1 y2 h3 h4 => ?_)
  · refine Sim.cd (fun hc => ?_) (fun hc => ?_)
    · exact Sim.ret rfl rfl
    · exact Sim.ret rfl rfl
  subst h4
  exact Sim.fin (S0.finN (lv_cons (still_bool _).lv lv_nil)) rfl
end Go.Ev
/- Lifted by lift.py: ctl_values as a plain function. -/
namespace Go.Ev
open Go.Proofs
set_option linter.unusedVariables false
set_option linter.unusedSimpArgs false
set_option maxRecDepth 100000
def p_ctl_values (x0 : T_api_Ctl) : Option (Bool) :=
(p_ctl_has x0.Kind 1).bind fun r7 =>
(bif !r7 then (some true) else ((p_ctl_within x0.Cap 1 1099511627776).bind fun r12 =>
some r12)).bind fun b17 =>
(bif b17 then ((p_ctl_has x0.Kind 3).bind fun r21 =>
(bif !r21 then (some true) else ((p_ctl_within x0.Peer 0 5).bind fun r26 =>
some r26)).bind fun b31 =>
some b31) else (some false)).bind fun b35 =>
(bif b35 then ((p_ctl_has x0.Kind 4).bind fun r39 =>
(bif !r39 then (some true) else ((p_ctl_within x0.Height 1 8192).bind fun r44 =>
some r44)).bind fun b49 =>
some b49) else (some false)).bind fun b53 =>
(bif b53 then ((p_ctl_has x0.Kind 5).bind fun r57 =>
(bif !r57 then (some true) else ((p_ctl_within x0.Class 0 3).bind fun r62 =>
some r62)).bind fun b67 =>
some b67) else (some false)).bind fun b71 =>
(bif b71 then ((p_ctl_has x0.Kind 6).bind fun r75 =>
(bif !r75 then (some true) else ((p_ctl_within x0.Layer 0 2).bind fun r80 =>
some r80)).bind fun b85 =>
some b85) else (some false)).bind fun b89 =>
(bif b89 then ((p_ctl_has x0.Kind 7).bind fun r93 =>
(bif !r93 then (some true) else ((p_ctl_within x0.Code 0 255).bind fun r98 =>
some r98)).bind fun b103 =>
some b103) else (some false)).bind fun b107 =>
some (b107)
theorem ctl_values_ok {h : H} {σ : Stamp} (x0 : T_api_Ctl) {u0 : List V} (hu0 : dT_api_Ctl.R x0 u0) : Sim (p_ctl_values x0) (ev G X0 80 σ [(.agg u0)] h) (fun r s => s = ([.v (.p (.bool r))], h)) := by
  refine Sim.ev rfl (Sim.ext (ctl_values_entry _ _ _ _ _) ?_)
  rw [p_ctl_values]
  obtain ⟨v1, rfl, h2⟩ := dT_api_Ctl.inv hu0
  have S0 : Fm 67 h [] [] [] (List.replicate 67 [] :: h) := Fm.start0
  obtain ⟨H3, e4, S5⟩ := S0.box (own := false) (d := 1) (s := (0 :: 0 :: 0 :: σ)) (xs := [(.p (.int .i64 x0.Kind)), (.p (.int .i64 x0.Cap)), v1, (.p (.int .i64 x0.Peer)), (.p (.int .i64 x0.Height)), (.p (.int .i64 x0.Class)), (.p (.int .i64 x0.Layer)), (.p (.int .i64 x0.Code))]) (stills_cons (still_int _ _) (stills_cons (still_int _ _) (stills_cons h2.still (stills_cons (still_int _ _) (stills_cons (still_int _ _) (stills_cons (still_int _ _) (stills_cons (still_int _ _) (stills_cons (still_int _ _) stills_nil)))))))) (by decide) rfl
  refine Sim.op (e4) ?_
  refine Sim.op (fA_ref _ _ _) ?_
  refine Sim.op ((S5.atG (i := 0) rfl).ld (j := 0) rfl) ?_
  refine Sim.op (castI_p _ _) ?_
  refine Sim.call (ctl_has_ok x0.Kind 1) fun r7 cs8 H9 h10 q11 => ?_
  cases q11
  refine Sim.op (asB_p _) ?_
  refine Sim.ch (P := fun r y => (.p (.bool r), H3) = y) ?_ (fun b17 y18 h19 h20 => ?_)
  · refine Sim.cd (fun hc => ?_) (fun hc => ?_)
    · exact Sim.ret rfl rfl
    · refine Sim.op (fA_ref _ _ _) ?_
      refine Sim.op ((S5.atG (i := 0) rfl).ld (j := 1) rfl) ?_
      refine Sim.op (castI_p _ _) ?_
      refine Sim.call (ctl_within_ok x0.Cap 1 1099511627776) fun r12 cs13 H14 h15 q16 => ?_
      cases q16
      refine Sim.op (asB_p _) ?_
      exact Sim.ret rfl rfl
  subst h20
  refine Sim.op (asB_p _) ?_
  refine Sim.ch (P := fun r y => (.p (.bool r), H3) = y) ?_ (fun b35 y36 h37 h38 => ?_)
  · refine Sim.cd (fun hc => ?_) (fun hc => ?_)
    · refine Sim.op (fA_ref _ _ _) ?_
      refine Sim.op ((S5.atG (i := 0) rfl).ld (j := 0) rfl) ?_
      refine Sim.op (castI_p _ _) ?_
      refine Sim.call (ctl_has_ok x0.Kind 3) fun r21 cs22 H23 h24 q25 => ?_
      cases q25
      refine Sim.op (asB_p _) ?_
      refine Sim.ch (P := fun r y => (.p (.bool r), H3) = y) ?_ (fun b31 y32 h33 h34 => ?_)
      · refine Sim.cd (fun hc => ?_) (fun hc => ?_)
        · exact Sim.ret rfl rfl
        · refine Sim.op (fA_ref _ _ _) ?_
          refine Sim.op ((S5.atG (i := 0) rfl).ld (j := 3) rfl) ?_
          refine Sim.op (castI_p _ _) ?_
          refine Sim.call (ctl_within_ok x0.Peer 0 5) fun r26 cs27 H28 h29 q30 => ?_
          cases q30
          refine Sim.op (asB_p _) ?_
          exact Sim.ret rfl rfl
      subst h34
      refine Sim.op (asB_p _) ?_
      exact Sim.ret rfl rfl
    · exact Sim.ret rfl rfl
  subst h38
  refine Sim.op (asB_p _) ?_
  refine Sim.ch (P := fun r y => (.p (.bool r), H3) = y) ?_ (fun b53 y54 h55 h56 => ?_)
  · refine Sim.cd (fun hc => ?_) (fun hc => ?_)
    · refine Sim.op (fA_ref _ _ _) ?_
      refine Sim.op ((S5.atG (i := 0) rfl).ld (j := 0) rfl) ?_
      refine Sim.op (castI_p _ _) ?_
      refine Sim.call (ctl_has_ok x0.Kind 4) fun r39 cs40 H41 h42 q43 => ?_
      cases q43
      refine Sim.op (asB_p _) ?_
      refine Sim.ch (P := fun r y => (.p (.bool r), H3) = y) ?_ (fun b49 y50 h51 h52 => ?_)
      · refine Sim.cd (fun hc => ?_) (fun hc => ?_)
        · exact Sim.ret rfl rfl
        · refine Sim.op (fA_ref _ _ _) ?_
          refine Sim.op ((S5.atG (i := 0) rfl).ld (j := 4) rfl) ?_
          refine Sim.op (castI_p _ _) ?_
          refine Sim.call (ctl_within_ok x0.Height 1 8192) fun r44 cs45 H46 h47 q48 => ?_
          cases q48
          refine Sim.op (asB_p _) ?_
          exact Sim.ret rfl rfl
      subst h52
      refine Sim.op (asB_p _) ?_
      exact Sim.ret rfl rfl
    · exact Sim.ret rfl rfl
  subst h56
  refine Sim.op (asB_p _) ?_
  refine Sim.ch (P := fun r y => (.p (.bool r), H3) = y) ?_ (fun b71 y72 h73 h74 => ?_)
  · refine Sim.cd (fun hc => ?_) (fun hc => ?_)
    · refine Sim.op (fA_ref _ _ _) ?_
      refine Sim.op ((S5.atG (i := 0) rfl).ld (j := 0) rfl) ?_
      refine Sim.op (castI_p _ _) ?_
      refine Sim.call (ctl_has_ok x0.Kind 5) fun r57 cs58 H59 h60 q61 => ?_
      cases q61
      refine Sim.op (asB_p _) ?_
      refine Sim.ch (P := fun r y => (.p (.bool r), H3) = y) ?_ (fun b67 y68 h69 h70 => ?_)
      · refine Sim.cd (fun hc => ?_) (fun hc => ?_)
        · exact Sim.ret rfl rfl
        · refine Sim.op (fA_ref _ _ _) ?_
          refine Sim.op ((S5.atG (i := 0) rfl).ld (j := 5) rfl) ?_
          refine Sim.op (castI_p _ _) ?_
          refine Sim.call (ctl_within_ok x0.Class 0 3) fun r62 cs63 H64 h65 q66 => ?_
          cases q66
          refine Sim.op (asB_p _) ?_
          exact Sim.ret rfl rfl
      subst h70
      refine Sim.op (asB_p _) ?_
      exact Sim.ret rfl rfl
    · exact Sim.ret rfl rfl
  subst h74
  refine Sim.op (asB_p _) ?_
  refine Sim.ch (P := fun r y => (.p (.bool r), H3) = y) ?_ (fun b89 y90 h91 h92 => ?_)
  · refine Sim.cd (fun hc => ?_) (fun hc => ?_)
    · refine Sim.op (fA_ref _ _ _) ?_
      refine Sim.op ((S5.atG (i := 0) rfl).ld (j := 0) rfl) ?_
      refine Sim.op (castI_p _ _) ?_
      refine Sim.call (ctl_has_ok x0.Kind 6) fun r75 cs76 H77 h78 q79 => ?_
      cases q79
      refine Sim.op (asB_p _) ?_
      refine Sim.ch (P := fun r y => (.p (.bool r), H3) = y) ?_ (fun b85 y86 h87 h88 => ?_)
      · refine Sim.cd (fun hc => ?_) (fun hc => ?_)
        · exact Sim.ret rfl rfl
        · refine Sim.op (fA_ref _ _ _) ?_
          refine Sim.op ((S5.atG (i := 0) rfl).ld (j := 6) rfl) ?_
          refine Sim.op (castI_p _ _) ?_
          refine Sim.call (ctl_within_ok x0.Layer 0 2) fun r80 cs81 H82 h83 q84 => ?_
          cases q84
          refine Sim.op (asB_p _) ?_
          exact Sim.ret rfl rfl
      subst h88
      refine Sim.op (asB_p _) ?_
      exact Sim.ret rfl rfl
    · exact Sim.ret rfl rfl
  subst h92
  refine Sim.op (asB_p _) ?_
  refine Sim.ch (P := fun r y => (.p (.bool r), H3) = y) ?_ (fun b107 y108 h109 h110 => ?_)
  · refine Sim.cd (fun hc => ?_) (fun hc => ?_)
    · refine Sim.op (fA_ref _ _ _) ?_
      refine Sim.op ((S5.atG (i := 0) rfl).ld (j := 0) rfl) ?_
      refine Sim.op (castI_p _ _) ?_
      refine Sim.call (ctl_has_ok x0.Kind 7) fun r93 cs94 H95 h96 q97 => ?_
      cases q97
      refine Sim.op (asB_p _) ?_
      refine Sim.ch (P := fun r y => (.p (.bool r), H3) = y) ?_ (fun b103 y104 h105 h106 => ?_)
      · refine Sim.cd (fun hc => ?_) (fun hc => ?_)
        · exact Sim.ret rfl rfl
        · refine Sim.op (fA_ref _ _ _) ?_
          refine Sim.op ((S5.atG (i := 0) rfl).ld (j := 7) rfl) ?_
          refine Sim.op (castI_p _ _) ?_
          refine Sim.call (ctl_within_ok x0.Code 0 255) fun r98 cs99 H100 h101 q102 => ?_
          cases q102
          refine Sim.op (asB_p _) ?_
          exact Sim.ret rfl rfl
      subst h106
      refine Sim.op (asB_p _) ?_
      exact Sim.ret rfl rfl
    · exact Sim.ret rfl rfl
  subst h110
  refine Sim.op (asB_p _) ?_
  exact Sim.fin (S5.finN (lv_cons (still_bool _).lv lv_nil)) rfl
end Go.Ev
/- Lifted by lift.py: ctl_Right as a plain function. -/
namespace Go.Ev
open Go.Proofs
set_option linter.unusedVariables false
set_option linter.unusedSimpArgs false
set_option maxRecDepth 100000
def p_ctl_Right (k : Nat) (x0 : T_api_Ctl) : Option (Int) :=
(bif decide (x0.Kind < 1) then (some true) else (some (decide (x0.Kind > 10)))).bind fun b7 =>
(bif b7 then (some true) else ((p_ctl_fields k ((⟨x0.Kind, x0.Cap, x0.Layers, x0.Peer, x0.Height, x0.Class, x0.Layer, x0.Code⟩ : T_api_Ctl))).bind fun r11 =>
some (!r11))).bind fun b16 =>
bif b16 then (
some (12))
else (
(p_ctl_values ((⟨x0.Kind, x0.Cap, x0.Layers, x0.Peer, x0.Height, x0.Class, x0.Layer, x0.Code⟩ : T_api_Ctl))).bind fun r20 =>
bif !r20 then (
some (1))
else (
bif x0.Kind == 3 then (
(p_ctl_Layers k x0.Layers).bind fun r25 =>
some (r25))
else (
some (0))))
theorem ctl_Right_ok (k : Nat) {h : H} {σ : Stamp} (x0 : T_api_Ctl) {u0 : List V} (hu0 : dT_api_Ctl.R x0 u0) : Sim (p_ctl_Right k x0) (ev G X0 36 σ [(.agg u0)] h) (fun r s => s = ([.v (.p (.int .i64 r))], h)) := by
  refine Sim.ev rfl (Sim.ext (ctl_Right_entry _ _ _ _ _) ?_)
  rw [p_ctl_Right]
  obtain ⟨v1, rfl, h2⟩ := dT_api_Ctl.inv hu0
  have S0 : Fm 28 h [] [] [] (List.replicate 28 [] :: h) := Fm.start0
  obtain ⟨H3, e4, S5⟩ := S0.box (own := false) (d := 1) (s := (0 :: 0 :: 0 :: σ)) (xs := [(.p (.int .i64 x0.Kind)), (.p (.int .i64 x0.Cap)), v1, (.p (.int .i64 x0.Peer)), (.p (.int .i64 x0.Height)), (.p (.int .i64 x0.Class)), (.p (.int .i64 x0.Layer)), (.p (.int .i64 x0.Code))]) (stills_cons (still_int _ _) (stills_cons (still_int _ _) (stills_cons h2.still (stills_cons (still_int _ _) (stills_cons (still_int _ _) (stills_cons (still_int _ _) (stills_cons (still_int _ _) (stills_cons (still_int _ _) stills_nil)))))))) (by decide) rfl
  refine Sim.op (e4) ?_
  refine Sim.op (fA_ref _ _ _) ?_
  refine Sim.op ((S5.atG (i := 0) rfl).ld (j := 0) rfl) ?_
  refine Sim.op (castI_p _ _) ?_
  refine Sim.ch (P := fun r y => r = y) ?_ (fun b7 y8 h9 h10 => ?_)
  · refine Sim.cd (fun hc => ?_) (fun hc => ?_)
    · exact Sim.ret rfl rfl
    · refine Sim.op (fA_ref _ _ _) ?_
      refine Sim.op ((S5.atG (i := 0) rfl).ld (j := 0) rfl) ?_
      refine Sim.op (castI_p _ _) ?_
      exact Sim.ret rfl rfl
  subst h10
  refine Sim.ch (P := fun r y => (.p (.bool r), H3) = y) ?_ (fun b16 y17 h18 h19 => ?_)
  · refine Sim.cd (fun hc => ?_) (fun hc => ?_)
    · exact Sim.ret rfl rfl
    · refine Sim.op ((S5.atG (i := 0) rfl).ldVs (j := 0) (xs := [.p (.int .i64 x0.Kind), .p (.int .i64 x0.Cap), v1, .p (.int .i64 x0.Peer), .p (.int .i64 x0.Height), .p (.int .i64 x0.Class), .p (.int .i64 x0.Layer), .p (.int .i64 x0.Code)]) rfl rfl (by decide)) ?_
      refine Sim.call (ctl_fields_ok k ((⟨x0.Kind, x0.Cap, x0.Layers, x0.Peer, x0.Height, x0.Class, x0.Layer, x0.Code⟩ : T_api_Ctl)) (show dT_api_Ctl.R ((⟨x0.Kind, x0.Cap, x0.Layers, x0.Peer, x0.Height, x0.Class, x0.Layer, x0.Code⟩ : T_api_Ctl)) [.p (.int .i64 x0.Kind), .p (.int .i64 x0.Cap), v1, .p (.int .i64 x0.Peer), .p (.int .i64 x0.Height), .p (.int .i64 x0.Class), .p (.int .i64 x0.Layer), .p (.int .i64 x0.Code)] from (dT_api_Ctl.mk h2))) fun r11 cs12 H13 h14 q15 => ?_
      cases q15
      refine Sim.op (asB_p _) ?_
      exact Sim.ret rfl rfl
  subst h19
  refine Sim.op (asB_p _) ?_
  refine Sim.cd (fun hc => ?_) (fun hc => ?_)
  · exact Sim.fin (S5.finN (lv_cons (still_int _ _).lv lv_nil)) rfl
  · refine Sim.op ((S5.atG (i := 0) rfl).ldVs (j := 0) (xs := [.p (.int .i64 x0.Kind), .p (.int .i64 x0.Cap), v1, .p (.int .i64 x0.Peer), .p (.int .i64 x0.Height), .p (.int .i64 x0.Class), .p (.int .i64 x0.Layer), .p (.int .i64 x0.Code)]) rfl rfl (by decide)) ?_
    refine Sim.call (ctl_values_ok ((⟨x0.Kind, x0.Cap, x0.Layers, x0.Peer, x0.Height, x0.Class, x0.Layer, x0.Code⟩ : T_api_Ctl)) (show dT_api_Ctl.R ((⟨x0.Kind, x0.Cap, x0.Layers, x0.Peer, x0.Height, x0.Class, x0.Layer, x0.Code⟩ : T_api_Ctl)) [.p (.int .i64 x0.Kind), .p (.int .i64 x0.Cap), v1, .p (.int .i64 x0.Peer), .p (.int .i64 x0.Height), .p (.int .i64 x0.Class), .p (.int .i64 x0.Layer), .p (.int .i64 x0.Code)] from (dT_api_Ctl.mk h2))) fun r20 cs21 H22 h23 q24 => ?_
    cases q24
    refine Sim.op (asB_p _) ?_
    refine Sim.cd (fun hc => ?_) (fun hc => ?_)
    · exact Sim.fin (S5.finN (lv_cons (still_int _ _).lv lv_nil)) rfl
    · refine Sim.op (fA_ref _ _ _) ?_
      refine Sim.op ((S5.atG (i := 0) rfl).ld (j := 0) rfl) ?_
      refine Sim.op (castI_p _ _) ?_
      refine Sim.cd (fun hc => ?_) (fun hc => ?_)
      · refine Sim.op (fA_ref _ _ _) ?_
        refine Sim.op ((S5.atG (i := 0) rfl).ld (j := 2) rfl) ?_
        refine Sim.call (ctl_Layers_ok k x0.Layers (h2.h H3)) fun r25 cs26 H27 h28 q29 => ?_
        cases q29
        refine Sim.op (castI_p _ _) ?_
        exact Sim.fin (S5.finN (lv_cons (still_int _ _).lv lv_nil)) rfl
      · exact Sim.fin (S5.finN (lv_cons (still_int _ _).lv lv_nil)) rfl
end Go.Ev
/- Equations, printed by tracer2.py. -/
namespace Go.Ev
open Go.Proofs
set_option linter.unusedVariables false
set_option maxRecDepth 100000
-- 66 limelight/ctl.field
theorem ctl_field_entry (rec : CallF) (loop : LoopV) (σ : Stamp) (x0 : V) (x1 : Int) (x2 : V) (h : H) : cvBody G rec loop 66 σ [x0, (.p (.int .i64 x1)), x2] h =
 (lenO x2).bind fun t1 =>
 (castI .i64 t1).bind fun n2 =>
 (buildSliceV Try.prog 32 2 [(0, (.p (.int .u8 (IntKind.wrap .u8 x1)))), (1, (.p (.int .u8 (IntKind.wrap .u8 n2))))]).bind fun t3 =>
 (apO true 1 1 (7 :: 0 :: 1 :: 0 :: σ) 14 (List.replicate 17 [] :: h) x0 t3).bind fun q4 =>
 (apO true 1 1 (9 :: 0 :: 1 :: 0 :: σ) 16 q4.2 q4.1 x2).bind fun q5 =>
 fin false σ q5.2 [q5.1] := by kernel_rfl
end Go.Ev
/- Lifted by lift.py: ctl_field as a plain function. -/
namespace Go.Ev
open Go.Proofs
set_option linter.unusedVariables false
set_option linter.unusedSimpArgs false
set_option maxRecDepth 100000
def p_ctl_field (x0 : (List Int)) (x1 : Int) (x2 : (List Int)) : Option ((List Int)) :=
(ap 1 x0 ([(IntKind.wrap .u8 x1), (IntKind.wrap .u8 ((x2.length : Int)))])).bind fun a4 =>
(ap 1 a4 x2).bind fun a13 =>
some (a13)
theorem ctl_field_ok {h : H} {σ : Stamp} (x0 : List Int) {u0 : V} {D0 : List Nat} (hu0 : OwnA D0 h (dI .u8) x0 u0) (x1 : Int) (x2 : List Int) {u2 : V} (hu2 : ∀ h', KillA D0 h h' → SlH h' (dI .u8) x2 u2) : Sim (p_ctl_field x0 x1 x2) (ev G X0 66 σ [u0, (.p (.int .i64 x1)), u2] h) (fun r s => ∃ (c0 : C), ∃ (a0 : List V), OwnS c0 (dI .u8).sz r.length a0 ∧ (dI .u8).L r a0 ∧ KillA D0 h s.2 ∧ s.1 = [c0]) := by
  refine Sim.ev rfl (Sim.ext (ctl_field_entry _ _ _ _ _ _ _) ?_)
  rw [p_ctl_field]
  have S0 : Fm 17 h [] [] [] (List.replicate 17 [] :: h) := Fm.start0
  refine Sim.op ((S0.low (hu2 _ (OwnA.refl hu0))).len) ?_
  refine Sim.op (castI_p _ _) ?_
  have h1 : SlF (dI .u8) [(IntKind.wrap .u8 x1), (IntKind.wrap .u8 ((x2.length : Int)))] (.fz [(.p (.int .u8 (IntKind.wrap .u8 x1))), (.p (.int .u8 (IntKind.wrap .u8 ((x2.length : Int)))))] 2 1 true) := SlF.lit (cs := [(.p (.int .u8 (IntKind.wrap .u8 x1))), (.p (.int .u8 (IntKind.wrap .u8 ((x2.length : Int)))))]) (RL.cons (show (dI .u8).R (IntKind.wrap .u8 x1) [(.p (.int .u8 (IntKind.wrap .u8 x1)))] from rfl) (RL.cons (show (dI .u8).R (IntKind.wrap .u8 ((x2.length : Int))) [(.p (.int .u8 (IntKind.wrap .u8 ((x2.length : Int)))))] from rfl) RL.nil)) rfl rfl true
  refine Sim.op (bldS (pt_cons rfl (pt_cons rfl pt_nil)) (by kernel_rfl : _ = some (.fz [(.p (.int .u8 (IntKind.wrap .u8 x1))), (.p (.int .u8 (IntKind.wrap .u8 ((x2.length : Int)))))] 2 1 true))) ?_
  refine Sim.bd fun a4 h5 => ?_
  obtain ⟨v6, h7, H9, e10, h8, S11⟩ := S0.appA (d := 14) (e := 1) (own := true) (σ := (7 :: 0 :: 1 :: 0 :: σ)) hu0 (h1.h (List.replicate 17 [] :: h)).y h5 rfl (by decide) (by simp) (by decide)
  refine Sim.op (e10) ?_
  refine Sim.bd fun a13 h14 => ?_
  obtain ⟨v15, H16, e17, S18⟩ := S11.app (i := 0) (d := 16) (e := 1) (own := true) (σ := (9 :: 0 :: 1 :: 0 :: σ)) rfl (S11.low (hu2 _ h8)).y h14 rfl (by decide) (by decide) rfl
  refine Sim.op (e17) ?_
  obtain ⟨c24, cs25, H19, e20, h22, h23, S21⟩ := S18.expOwn (i := 0) (τ := 0 :: 1 :: σ) rfl rfl rfl
  exact Sim.fin (S21.finE (Ex.st e20 Ex.nil)) ⟨c24, cs25, h22, h23, h8, rfl⟩
end Go.Ev
/- Equations, printed by tracer2.py. -/
namespace Go.Ev
open Go.Proofs
set_option linter.unusedVariables false
set_option maxRecDepth 100000
-- 67 limelight/octet.Put
noncomputable def octet_Put_c0 : Code := (codeAt (bodyOf Try.f67) [1, 1, 1, 0, 1, 0, 0])
def octet_Put_l0 : Lv := ⟨128, 64, [(0, 128)]⟩
noncomputable def octet_Put_k0 (rec : CallF) (loop : LoopV) (σ : Stamp) : Exit → Env → H → Option (List C × H) := (kBlock 0 (kSeq G rec loop (codeAt (bodyOf Try.f67) [1, 1, 1, 1]) ⟨64, 64, []⟩ (1 :: 1 :: 1 :: 0 :: σ) (finC G false Try.f67 (1 :: σ))))
theorem octet_Put_entry (rec : CallF) (loop : LoopV) (σ : Stamp) (x0 : V) (x1 : Int) (x2 : Int) (h : H) : cvBody G rec loop 67 σ [x0, (.p (.int .u64 x1)), (.p (.int .i64 x2))] h =
 (callO rec 63 (1 :: 0 :: 1 :: 0 :: σ) [x0] (List.replicate 34 [] :: h) (some 10)).bind fun q1 =>
 (bif decide (x2 < 1) then (some true) else (some (decide (x2 > 8)))).bind fun b2 =>
 bif b2 then (
 fin false σ q1.2 [q1.1])
 else (
 (loop octet_Put_c0 octet_Put_l0 (1 :: 0 :: 1 :: 1 :: 1 :: 0 :: σ) (envL [(1, (.p (.int .u64 x1))), (7, q1.1), (8, (.p (.int .i64 (IntKind.wrap .i64 (x2 - 1)))))]) q1.2).bind fun r3 => octet_Put_k0 rec loop σ r3.1 r3.2.1 r3.2.2) := by kernel_rfl
theorem octet_Put_r0 (rec : CallF) (loop : LoopV) (σ : Stamp) (x1 : Int) (x7 : V) (x8 : Int) (h : H) : cvRound G rec loop octet_Put_c0 octet_Put_l0 σ (envL [(1, (.p (.int .u64 x1))), (7, x7), (8, (.p (.int .i64 x8)))]) h =
 bif decide (x8 ≥ 0) then (
 (shiftV .shr .u64 x1 (IntKind.wrap .i64 (x8 * 8))).bind fun t4 =>
 (castI .u64 t4).bind fun n5 =>
 (buildSliceV Try.prog 32 1 [(0, (.p (.int .u8 (IntKind.wrap .u8 n5))))]).bind fun t6 =>
 (apO true 1 1 (7 :: 0 :: 1 :: 0 :: σ) 31 h x7 t6).bind fun q7 =>
 loop octet_Put_c0 octet_Put_l0 (1 :: σ) (envL [(1, (.p (.int .u64 x1))), (7, q7.1), (8, (.p (.int .i64 (IntKind.wrap .i64 (x8 - 1)))))]) q7.2)
 else (
 some ((.exit 0), (envL [(7, x7)]), h)) := by kernel_rfl
theorem octet_Put_a0_0 (rec : CallF) (loop : LoopV) (σ : Stamp) (x7 : V) (h : H) : octet_Put_k0 rec loop σ (.exit 0) (envL [(7, x7)]) h =
 (callO rec 102 (1 :: 0 :: 1 :: 1 :: 1 :: 1 :: 0 :: σ) [x7] h (some 33)).bind fun q8 =>
 fin false σ q8.2 [q8.1] := by kernel_rfl
end Go.Ev
/- Lifted by lift.py: octet_Put as a plain function. -/
namespace Go.Ev
open Go.Proofs
set_option linter.unusedVariables false
set_option linter.unusedSimpArgs false
set_option maxRecDepth 100000
def p_octet_Put_l0 {β : Type} (k : Nat) (kE0 : (List Int) → Option β) (x1 : Int) (x7 : (List Int)) (x8 : Int) : Option β := match k with
| 0 => none
| k + 1 =>
bif decide (x8 ≥ 0) then (
(shP .shr .u64 x1 (IntKind.wrap .i64 (x8 * 8))).bind fun n30 =>
(ap 1 x7 ([(IntKind.wrap .u8 n30)])).bind fun a33 =>
p_octet_Put_l0 k kE0 x1 a33 (IntKind.wrap .i64 (x8 - 1)))
else (
kE0 x7)
def p_octet_Put (k : Nat) (x0 : (List Int)) (x1 : Int) (x2 : Int) : Option ((List Int)) :=
(p_clone 1 x0).bind fun r1 =>
(bif decide (x2 < 1) then (some true) else (some (decide (x2 > 8)))).bind fun b15 =>
bif b15 then (
some (r1))
else (
p_octet_Put_l0 k (fun r43_7 =>
some (r43_7)) x1 r1 (IntKind.wrap .i64 (x2 - 1)))
theorem octet_Put_l0_ok {h : H}  {β α : Type} {Q : β → α → Prop} {K : Exit × Env × H → Option α} {kE0 : (List Int) → Option β} (hE0 : ∀ (q7 : (List Int)) (v41 : V) (H39 : Go.Ev.H) (_ : Fm 34 h [] [] [⟨[10, 31], v41, (dI .u8), q7⟩] H39), Sim (kE0 q7) (K ((.exit 0), (envL [(7, v41)]), H39)) Q) (k : Nat) : ∀ (x1 : Int) (x7 : (List Int)) (x8 : Int) (v28 : V) (H26 : Go.Ev.H) (_ : Fm 34 h [] [] [⟨[10, 31], v28, (dI .u8), x7⟩] H26) {σ : Stamp}, Sim (p_octet_Put_l0 k kE0 x1 x7 x8) ((cvL G X0 octet_Put_c0 octet_Put_l0 σ (envL [(1, (.p (.int .u64 x1))), (7, v28), (8, (.p (.int .i64 x8)))]) H26).bind K) Q := by
  induction k with
  | zero => intros; exact Sim.no
  | succ k ih =>
    intro x1 x7 x8 v28 H26 S27 σ
    rw [p_octet_Put_l0]
    refine Sim.round (Sim.ext (octet_Put_r0 _ _ _ _ _ _ _) ?_)
    refine Sim.cd (fun hc => ?_) (fun hc => ?_)
    · refine Sim.bd fun n30 h31 => ?_
      refine Sim.op (shP_ok h31) ?_
      refine Sim.op (castI_p _ _) ?_
      have h32 : SlF (dI .u8) [(IntKind.wrap .u8 n30)] (.fz [(.p (.int .u8 (IntKind.wrap .u8 n30)))] 1 1 true) := SlF.lit (cs := [(.p (.int .u8 (IntKind.wrap .u8 n30)))]) (RL.cons (show (dI .u8).R (IntKind.wrap .u8 n30) [(.p (.int .u8 (IntKind.wrap .u8 n30)))] from rfl) RL.nil) rfl rfl true
      refine Sim.op (bldS (pt_cons rfl pt_nil) (by kernel_rfl : _ = some (.fz [(.p (.int .u8 (IntKind.wrap .u8 n30)))] 1 1 true))) ?_
      refine Sim.bd fun a33 h34 => ?_
      obtain ⟨v35, H36, e37, S38⟩ := S27.app (i := 0) (d := 31) (e := 1) (own := true) (σ := (7 :: 0 :: 1 :: 0 :: σ)) rfl (h32.h H26).y h34 rfl (by decide) (by decide) rfl
      refine Sim.op (e37) ?_
      exact ih x1 a33 (IntKind.wrap .i64 (x8 - 1)) v35 H36 (S38.wk2 all_nil (all_cons ⟨[31, 10, 31], by simp, at_mem 0 rfl⟩ all_nil))
    · exact hE0 x7 v28 H26 (S27.wk2 all_nil (all_cons ⟨[10, 31], by simp, at_mem 0 rfl⟩ all_nil))
theorem octet_Put_ok (k : Nat) {h : H} {σ : Stamp} (x0 : List Int) {u0 : V} (hu0 : SlH h (dI .u8) x0 u0) (x1 : Int) (x2 : Int) : Sim (p_octet_Put k x0 x1 x2) (ev G X0 67 σ [u0, (.p (.int .u64 x1)), (.p (.int .i64 x2))] h) (fun r s => ∃ (c0 : C), ∃ (a0 : List V), OwnS c0 (dI .u8).sz r.length a0 ∧ (dI .u8).L r a0 ∧ s = ([c0], h)) := by
  refine Sim.ev rfl (Sim.ext (octet_Put_entry _ _ _ _ _ _ _) ?_)
  rw [p_octet_Put]
  have S0 : Fm 34 h [] [] [] (List.replicate 34 [] :: h) := Fm.start0
  refine Sim.call (clone_ok (b := 1) (f := 63) (tt := 5) (e := 1) (τ := fun σ => _ :: _ :: _ :: _ :: _ :: σ) (fun x h => slices_Clone_Lbyte_byte_entry _ _ _ x h) (S0.low hu0) rfl (by decide) (by decide) (by decide) (by kernel_rfl) (by kernel_rfl) rfl) fun r1 cs2 H3 h4 q5 => ?_
  obtain ⟨c6, cs7, h8, h9, q5⟩ := q5
  cases q5
  obtain ⟨v10, H11, e12, S13⟩ := S0.land (dt := (dI .u8)) (d := 10) (e := 0) (n := 0) h8 h9 (by decide) rfl
  erw [e12]
  refine Sim.ch (P := fun r y => r = y) ?_ (fun b15 y16 h17 h18 => ?_)
  · refine Sim.cd (fun hc => ?_) (fun hc => ?_)
    · exact Sim.ret rfl rfl
    · exact Sim.ret rfl rfl
  subst h18
  refine Sim.cd (fun hc => ?_) (fun hc => ?_)
  · obtain ⟨c24, cs25, H19, e20, h22, h23, S21⟩ := S13.expOwn (i := 0) (τ := 0 :: 1 :: σ) rfl rfl rfl
    exact Sim.fin (S21.finE (Ex.st e20 Ex.nil)) ⟨c24, cs25, h22, h23, rfl⟩
  · refine Sim.as (octet_Put_l0_ok ?_ k x1 r1 (IntKind.wrap .i64 (x2 - 1)) v10 H11 (S13.wk2 all_nil (all_cons ⟨[10], by simp, at_mem 0 rfl⟩ all_nil))) 
    · intro r43_7 v46 H44 S45
      refine Sim.ext (octet_Put_a0_0 _ _ _ _ _) ?_
      obtain ⟨v48, e49, S50⟩ := clip_D (G := G) (X := X0) (i := 0) (f := 102) (fun x h => slices_Clip_Lbyte_byte_entry _ _ _ x h) S45 rfl rfl rfl
      refine Sim.op (e49) ?_
      obtain ⟨c56, cs57, H51, e52, h54, h55, S53⟩ := S50.expOwn (i := 0) (τ := 0 :: 1 :: σ) rfl rfl rfl
      exact Sim.fin (S53.finE (Ex.st e52 Ex.nil)) ⟨c56, cs57, h54, h55, rfl⟩
end Go.Ev
/- Equations, printed by tracer2.py. -/
namespace Go.Ev
open Go.Proofs
set_option linter.unusedVariables false
set_option maxRecDepth 100000
-- 69 slices.Concat[[]byte,byte]
noncomputable def slices_Concat_Lbyte_byte_c0 : Code := (codeAt (bodyOf Try.f69) [1, 1, 0, 1, 0, 0])
def slices_Concat_Lbyte_byte_l0 : Lv := ⟨9, 4, [(0, 9)]⟩
noncomputable def slices_Concat_Lbyte_byte_k0 (rec : CallF) (loop : LoopV) (σ : Stamp) : Exit → Env → H → Option (List C × H) := (kBlock 0 (kSeq G rec loop (codeAt (bodyOf Try.f69) [1, 1, 1]) ⟨4, 4, []⟩ (1 :: 1 :: 0 :: σ) (finC G false Try.f69 (1 :: σ))))
noncomputable def slices_Concat_Lbyte_byte_c1 : Code := (codeAt (bodyOf Try.f69) [1, 1, 1, 1, 0, 1, 0, 0])
def slices_Concat_Lbyte_byte_l1 : Lv := ⟨64, 4, [(2, 64)]⟩
noncomputable def slices_Concat_Lbyte_byte_k1 (rec : CallF) (loop : LoopV) (σ : Stamp) : Exit → Env → H → Option (List C × H) := (kBlock 2 (kSeq G rec loop (codeAt (bodyOf Try.f69) [1, 1, 1, 1, 1]) ⟨4, 4, []⟩ (1 :: 1 :: 1 :: 1 :: 0 :: σ) (finC G false Try.f69 (1 :: σ))))
theorem slices_Concat_Lbyte_byte_entry (rec : CallF) (loop : LoopV) (σ : Stamp) (x0 : V) (h : H) : cvBody G rec loop 69 σ [x0] h =
 (lenO x0).bind fun t1 =>
 (castI .i64 t1).bind fun n2 =>
 (loop slices_Concat_Lbyte_byte_c0 slices_Concat_Lbyte_byte_l0 (1 :: 0 :: 1 :: 1 :: 0 :: σ) (envL [(0, x0), (3, (.p (.int .i64 0))), (9, x0), (10, (.p (.int .i64 n2))), (11, (.p (.int .i64 0)))]) (List.replicate 36 [] :: h)).bind fun r3 => slices_Concat_Lbyte_byte_k0 rec loop σ r3.1 r3.2.1 r3.2.2 := by kernel_rfl
theorem slices_Concat_Lbyte_byte_r0 (rec : CallF) (loop : LoopV) (σ : Stamp) (x0 : V) (x3 : Int) (x9 : V) (x10 : Int) (x11 : Int) (h : H) : cvRound G rec loop slices_Concat_Lbyte_byte_c0 slices_Concat_Lbyte_byte_l0 σ (envL [(0, x0), (3, (.p (.int .i64 x3))), (9, x9), (10, (.p (.int .i64 x10))), (11, (.p (.int .i64 x11)))]) h =
 bif decide (x11 < x10) then (
 (iS 1 x9 x11).bind fun t4 =>
 (ldO false 1 h t4).bind fun t5 =>
 (lenO t5).bind fun t6 =>
 (castI .i64 t6).bind fun n7 =>
 bif decide ((IntKind.wrap .i64 (x3 + n7)) < 0) then (
 none)
 else (
 loop slices_Concat_Lbyte_byte_c0 slices_Concat_Lbyte_byte_l0 (1 :: σ) (envL [(0, x0), (3, (.p (.int .i64 (IntKind.wrap .i64 (x3 + n7))))), (9, x9), (10, (.p (.int .i64 x10))), (11, (.p (.int .i64 (IntKind.wrap .i64 (x11 + 1)))))]) h))
 else (
 some ((.exit 0), (envL [(0, x0), (3, (.p (.int .i64 x3)))]), h)) := by kernel_rfl
theorem slices_Concat_Lbyte_byte_a0_0 (rec : CallF) (loop : LoopV) (σ : Stamp) (x0 : V) (x3 : Int) (h : H) : slices_Concat_Lbyte_byte_k0 rec loop σ (.exit 0) (envL [(0, x0), (3, (.p (.int .i64 x3)))]) h =
 (callO rec 106 (1 :: 0 :: 1 :: 1 :: 1 :: 0 :: σ) [(.p (.slice .none 0 0)), (.p (.int .i64 x3))] h (some 24)).bind fun q8 =>
 (lenO x0).bind fun t9 =>
 (castI .i64 t9).bind fun n10 =>
 (loop slices_Concat_Lbyte_byte_c1 slices_Concat_Lbyte_byte_l1 (1 :: 0 :: 1 :: 1 :: 1 :: 1 :: 0 :: σ) (envL [(6, q8.1), (25, x0), (26, (.p (.int .i64 n10))), (27, (.p (.int .i64 0)))]) q8.2).bind fun r11 => slices_Concat_Lbyte_byte_k1 rec loop σ r11.1 r11.2.1 r11.2.2 := by kernel_rfl
theorem slices_Concat_Lbyte_byte_r1 (rec : CallF) (loop : LoopV) (σ : Stamp) (x6 : V) (x25 : V) (x26 : Int) (x27 : Int) (h : H) : cvRound G rec loop slices_Concat_Lbyte_byte_c1 slices_Concat_Lbyte_byte_l1 σ (envL [(6, x6), (25, x25), (26, (.p (.int .i64 x26))), (27, (.p (.int .i64 x27)))]) h =
 bif decide (x27 < x26) then (
 (iS 1 x25 x27).bind fun t12 =>
 (ldO false 1 h t12).bind fun t13 =>
 (apO true 1 1 (2 :: 1 :: 0 :: 1 :: 1 :: 0 :: σ) 33 h x6 t13).bind fun q14 =>
 loop slices_Concat_Lbyte_byte_c1 slices_Concat_Lbyte_byte_l1 (1 :: σ) (envL [(6, q14.1), (25, x25), (26, (.p (.int .i64 x26))), (27, (.p (.int .i64 (IntKind.wrap .i64 (x27 + 1)))))]) q14.2)
 else (
 some ((.exit 2), (envL [(6, x6)]), h)) := by kernel_rfl
theorem slices_Concat_Lbyte_byte_a1_2 (rec : CallF) (loop : LoopV) (σ : Stamp) (x6 : V) (h : H) : slices_Concat_Lbyte_byte_k1 rec loop σ (.exit 2) (envL [(6, x6)]) h =
 fin false σ h [x6] := by kernel_rfl
end Go.Ev
/- Equations, printed by tracer2.py. -/
namespace Go.Ev
open Go.Proofs
set_option linter.unusedVariables false
set_option maxRecDepth 100000
-- 106 slices.Grow[[]byte,byte]
theorem slices_Grow_Lbyte_byte_entry (rec : CallF) (loop : LoopV) (σ : Stamp) (x0 : V) (x1 : Int) (h : H) : cvBody G rec loop 106 σ [x0, (.p (.int .i64 x1))] h =
 bif decide (x1 < 0) then (
 none)
 else (
 (capO x0).bind fun t1 =>
 (castI .i64 t1).bind fun n2 =>
 (lenO x0).bind fun t3 =>
 (castI .i64 t3).bind fun n4 =>
 bif decide ((IntKind.wrap .i64 (x1 - (IntKind.wrap .i64 (n2 - n4)))) > 0) then (
 (capO x0).bind fun t5 =>
 (castI .i64 t5).bind fun n6 =>
 (slS 1 x0 none (some n6) none).bind fun t7 =>
 (apZ true 1 1 (5 :: 1 :: 1 :: 0 :: 1 :: 1 :: 0 :: σ) 22 (List.replicate 27 [] :: h) t7 (IntKind.wrap .i64 (x1 - (IntKind.wrap .i64 (n2 - n4))))).bind fun q8 =>
 (lenO x0).bind fun t9 =>
 (castI .i64 t9).bind fun n10 =>
 (slS 1 q8.1 none (some n10) none).bind fun t11 =>
 fin false σ q8.2 [t11])
 else (
 fin false σ (List.replicate 27 [] :: h) [x0])) := by kernel_rfl
end Go.Ev
namespace Go.Ev
open Go.Proofs
def p_slices_Grow_Lbyte_byte (x1 : Int) : Option (List Int) := if 0 ≤ x1 ∧ x1 < 2 ^ 40 then some [] else none
theorem slices_Grow_Lbyte_byte_ok {h : H} {σ : Stamp} (x1 : Int) : Sim (p_slices_Grow_Lbyte_byte x1) (ev G X0 106 σ [(.p (.slice none 0 0)), (.p (.int .i64 x1))] h) (fun r s => ∃ (c : C) (a : List V), OwnS c (dI .u8).sz r.length a ∧ (dI .u8).L r a ∧ s = ([c], h)) := by
  refine Sim.ev rfl (Sim.ext (slices_Grow_Lbyte_byte_entry _ _ _ _ _ _) ?_)
  intro r hr
  unfold p_slices_Grow_Lbyte_byte at hr
  split at hr
  · rename_i h0
    cases hr
    have w1 : IntKind.wrap .i64 (x1 - IntKind.wrap .i64 (0 - 0)) = x1 := by
      rw [show IntKind.wrap .i64 ((0 : Int) - 0) = 0 from rfl, Int.sub_zero]
      exact wrap64 (by omega) (by omega)
    have d0 : decide (x1 < 0) = false := decide_eq_false (by omega)
    have c0 : capO (.p (.slice none 0 0)) = some (.p (.int .i64 0)) := rfl
    have l0 : lenO (.p (.slice none 0 0)) = some (.p (.int .i64 0)) := rfl
    have k0 : castI .i64 (.p (.int .i64 0)) = some 0 := rfl
    simp only [d0, cond_false, c0, l0, k0, Option.bind_some, w1]
    by_cases hp : x1 > 0
    · have d1 : decide (x1 > 0) = true := decide_eq_true hp
      have s0 : slS 1 (.p (.slice none 0 0)) none (some 0) none = some (.p (.slice none 0 0)) := rfl
      have S : Fm 27 h [] [] [⟨[], .p (.slice none 0 0), dI .u8, ([] : List Int)⟩] (List.replicate 27 [] :: h) := Fm.nil (Fm.start0 : Fm 27 h [] [] [] _) (dI .u8) []
      have hz : zB x1 = some (List.replicate x1.toNat 0) := if_pos h0
      have ha : ap 1 ([] : List Int) (List.replicate x1.toNat 0) = some (List.replicate x1.toNat 0) := by
        unfold ap
        rw [if_pos ⟨by simp; omega, by simp; omega⟩, List.nil_append]
      obtain ⟨v, H', e, S'⟩ := S.appZ (i := 0) (d := 22) (own := true) (σ := 5 :: 1 :: 1 :: 0 :: 1 :: 1 :: 0 :: σ) rfl hz ha (by decide) rfl
      obtain ⟨L, rfl, h2, h3, h4, h5⟩ := S'
      obtain ⟨cs, q1, q2⟩ := h5 _ (List.mem_cons_self ..)
      simp only at q2
      simp only [d1, cond_true, s0, Option.bind_some, e]
      rcases q2 with ⟨e1, _, _⟩ | ⟨e1, d', hd', s, tl, rfl, hL⟩ | ⟨_, _, _, d', hd', e4⟩
      · exfalso
        simp only [List.length_replicate] at e1
        omega
      · simp only [List.mem_cons, List.not_mem_nil, or_false] at hd'
        subst hd'
        have hs : slS 1 (.sl ⟨h.length, 22, 0, s, []⟩ 0 (List.replicate x1.toNat (0 : Int)).length (List.replicate x1.toNat (0 : Int)).length 1) none (some 0) none = some (.sl ⟨h.length, 22, 0, s, []⟩ 0 0 (List.replicate x1.toNat (0 : Int)).length 1) := by simp [slS, bI]
        have hsz : (dI IntKind.u8).sz = 1 := rfl
        rw [hsz] at hL ⊢
        rw [hs]
        have hat : at_ (L :: h) ⟨h.length, 22, 0, s, []⟩ = some (.arr s (List.replicate x1.toNat (0 : Int)).length 1 (cs.map .v)) := by simp [at_, rootC, hL, find, C.node]
        refine ⟨([.arr s 0 1 []], h), ?_, .arr s 0 1 [], [], ⟨by simp, .inr ⟨s, rfl⟩⟩, rfl, rfl⟩
        simp [fin, expCs, expF, expC, top, pts, hat, rng, setAt_root hL]
      · simp only [List.mem_cons, List.not_mem_nil, or_false] at hd'
        omega
    · have d1 : decide (x1 > 0) = false := decide_eq_false hp
      simp only [d1, cond_false]
      refine ⟨_, by rw [fin_1 still_nilS]; rfl, .v (.p (.slice none 0 0)), [], ⟨by simp, .inl ⟨rfl, rfl, .inl rfl⟩⟩, rfl, rfl⟩
  · cases hr
end Go.Ev
/- Lifted by lift.py: slices_Concat_Lbyte_byte as a plain function. -/
namespace Go.Ev
open Go.Proofs
set_option linter.unusedVariables false
set_option linter.unusedSimpArgs false
set_option maxRecDepth 100000
def p_slices_Concat_Lbyte_byte_l0 {β : Type} (k : Nat) (kE0 : (List (List Int)) → Int → Option β) (x0 : (List (List Int))) (x3 : Int) (x9 : (List (List Int))) (x10 : Int) (x11 : Int) : Option β := match k with
| 0 => none
| k + 1 =>
bif decide (x11 < x10) then (
(ix x9 x11).bind fun a7 =>
bif decide ((IntKind.wrap .i64 (x3 + ((a7.length : Int)))) < 0) then (
none)
else (
p_slices_Concat_Lbyte_byte_l0 k kE0 x0 (IntKind.wrap .i64 (x3 + ((a7.length : Int)))) x9 x10 (IntKind.wrap .i64 (x11 + 1))))
else (
kE0 x0 x3)
def p_slices_Concat_Lbyte_byte_l1 {β : Type} (k : Nat) (kE0 : (List Int) → Option β) (x6 : (List Int)) (x25 : (List (List Int))) (x26 : Int) (x27 : Int) : Option β := match k with
| 0 => none
| k + 1 =>
bif decide (x27 < x26) then (
(ix x25 x27).bind fun a41 =>
(ap 1 x6 a41).bind fun a46 =>
p_slices_Concat_Lbyte_byte_l1 k kE0 a46 x25 x26 (IntKind.wrap .i64 (x27 + 1)))
else (
kE0 x6)
def p_slices_Concat_Lbyte_byte (k : Nat) (x0 : (List (List Int))) : Option ((List Int)) :=
p_slices_Concat_Lbyte_byte_l0 k (fun r16_0 r16_3 =>
(p_slices_Grow_Lbyte_byte r16_3).bind fun r21 =>
p_slices_Concat_Lbyte_byte_l1 k (fun r56_6 =>
some (r56_6)) r21 r16_0 ((r16_0.length : Int)) 0) x0 0 x0 ((x0.length : Int)) 0
theorem slices_Concat_Lbyte_byte_l0_ok {h : H}  {β α : Type} {Q : β → α → Prop} {K : Exit × Env × H → Option α} {kE0 : (List (List Int)) → Int → Option β} (hE0 : ∀ (q0 : (List (List Int))) (q3 : Int) (v14 : V) (h15 : SlH h (dSl (dI .u8)) q0 v14) (H12 : Go.Ev.H) (_ : Fm 36 h [] [] [] H12), Sim (kE0 q0 q3) (K ((.exit 0), (envL [(0, v14), (3, (.p (.int .i64 q3)))]), H12)) Q) (k : Nat) : ∀ (x0 : (List (List Int))) (x3 : Int) (x9 : (List (List Int))) (x10 : Int) (x11 : Int) (v3 : V) (h4 : SlH h (dSl (dI .u8)) x0 v3) (v5 : V) (h6 : SlH h (dSl (dI .u8)) x9 v5) (H1 : Go.Ev.H) (_ : Fm 36 h [] [] [] H1) {σ : Stamp}, Sim (p_slices_Concat_Lbyte_byte_l0 k kE0 x0 x3 x9 x10 x11) ((cvL G X0 slices_Concat_Lbyte_byte_c0 slices_Concat_Lbyte_byte_l0 σ (envL [(0, v3), (3, (.p (.int .i64 x3))), (9, v5), (10, (.p (.int .i64 x10))), (11, (.p (.int .i64 x11)))]) H1).bind K) Q := by
  induction k with
  | zero => intros; exact Sim.no
  | succ k ih =>
    intro x0 x3 x9 x10 x11 v3 h4 v5 h6 H1 S2 σ
    rw [p_slices_Concat_Lbyte_byte_l0]
    refine Sim.round (Sim.ext (slices_Concat_Lbyte_byte_r0 _ _ _ _ _ _ _ _ _) ?_)
    refine Sim.cd (fun hc => ?_) (fun hc => ?_)
    · refine Sim.bd fun a7 h8 => ?_
      refine Sim.op ((S2.low h6).iS h8 rfl) ?_
      obtain ⟨_, ⟨v10, rfl, h11⟩, hE9⟩ := (S2.low h6).el h8 rfl
      refine Sim.op (hE9.ld (j := 0) rfl) ?_
      refine Sim.op ((h11.h H1).len) ?_
      refine Sim.op (castI_p _ _) ?_
      refine Sim.cd (fun hc => ?_) (fun hc => ?_)
      · exact Sim.no
      · exact ih x0 (IntKind.wrap .i64 (x3 + ((a7.length : Int)))) x9 x10 (IntKind.wrap .i64 (x11 + 1)) v3 h4 v5 h6 H1 (S2.wk2 all_nil all_nil)
    · exact hE0 x0 x3 v3 h4 H1 (S2.wk2 all_nil all_nil)
theorem slices_Concat_Lbyte_byte_l1_ok {h : H}  {β α : Type} {Q : β → α → Prop} {K : Exit × Env × H → Option α} {kE0 : (List Int) → Option β} (hE0 : ∀ (q6 : (List Int)) (v54 : V) (H52 : Go.Ev.H) (_ : Fm 36 h [] [] [⟨[24, 33], v54, (dI .u8), q6⟩] H52), Sim (kE0 q6) (K ((.exit 2), (envL [(6, v54)]), H52)) Q) (k : Nat) : ∀ (x6 : (List Int)) (x25 : (List (List Int))) (x26 : Int) (x27 : Int) (v37 : V) (v39 : V) (h40 : SlH h (dSl (dI .u8)) x25 v39) (H35 : Go.Ev.H) (_ : Fm 36 h [] [] [⟨[24, 33], v37, (dI .u8), x6⟩] H35) {σ : Stamp}, Sim (p_slices_Concat_Lbyte_byte_l1 k kE0 x6 x25 x26 x27) ((cvL G X0 slices_Concat_Lbyte_byte_c1 slices_Concat_Lbyte_byte_l1 σ (envL [(6, v37), (25, v39), (26, (.p (.int .i64 x26))), (27, (.p (.int .i64 x27)))]) H35).bind K) Q := by
  induction k with
  | zero => intros; exact Sim.no
  | succ k ih =>
    intro x6 x25 x26 x27 v37 v39 h40 H35 S36 σ
    rw [p_slices_Concat_Lbyte_byte_l1]
    refine Sim.round (Sim.ext (slices_Concat_Lbyte_byte_r1 _ _ _ _ _ _ _ _) ?_)
    refine Sim.cd (fun hc => ?_) (fun hc => ?_)
    · refine Sim.bd fun a41 h42 => ?_
      refine Sim.op ((S36.low h40).iS h42 rfl) ?_
      obtain ⟨_, ⟨v44, rfl, h45⟩, hE43⟩ := (S36.low h40).el h42 rfl
      refine Sim.op (hE43.ld (j := 0) rfl) ?_
      refine Sim.bd fun a46 h47 => ?_
      obtain ⟨v48, H49, e50, S51⟩ := S36.app (i := 0) (d := 33) (e := 1) (own := true) (σ := (2 :: 1 :: 0 :: 1 :: 1 :: 0 :: σ)) rfl (h45.h H35).y h47 rfl (by decide) (by decide) rfl
      refine Sim.op (e50) ?_
      exact ih a46 x25 x26 (IntKind.wrap .i64 (x27 + 1)) v48 v39 h40 H49 (S51.wk2 all_nil (all_cons ⟨[33, 24, 33], by simp, at_mem 0 rfl⟩ all_nil))
    · exact hE0 x6 v37 H35 (S36.wk2 all_nil (all_cons ⟨[24, 33], by simp, at_mem 0 rfl⟩ all_nil))
theorem slices_Concat_Lbyte_byte_ok (k : Nat) {h : H} {σ : Stamp} (x0 : List (List Int)) {u0 : V} (hu0 : SlH h (dSl (dI .u8)) x0 u0) : Sim (p_slices_Concat_Lbyte_byte k x0) (ev G X0 69 σ [u0] h) (fun r s => ∃ (c0 : C), ∃ (a0 : List V), OwnS c0 (dI .u8).sz r.length a0 ∧ (dI .u8).L r a0 ∧ s = ([c0], h)) := by
  refine Sim.ev rfl (Sim.ext (slices_Concat_Lbyte_byte_entry _ _ _ _ _) ?_)
  rw [p_slices_Concat_Lbyte_byte]
  have S0 : Fm 36 h [] [] [] (List.replicate 36 [] :: h) := Fm.start0
  refine Sim.op ((S0.low hu0).len) ?_
  refine Sim.op (castI_p _ _) ?_
  refine Sim.as (slices_Concat_Lbyte_byte_l0_ok ?_ k x0 0 x0 ((x0.length : Int)) 0 u0 hu0 u0 hu0 (List.replicate 36 [] :: h) (S0.wk2 all_nil all_nil)) 
  · intro r16_0 r16_3 v19 h20 H17 S18
    refine Sim.ext (slices_Concat_Lbyte_byte_a0_0 _ _ _ _ _ _) ?_
    refine Sim.call (slices_Grow_Lbyte_byte_ok r16_3) fun r21 cs22 H23 h24 q25 => ?_
    obtain ⟨c26, cs27, h28, h29, q25⟩ := q25
    cases q25
    obtain ⟨v30, H31, e32, S33⟩ := S18.land (dt := (dI .u8)) (d := 24) (e := 0) (n := 0) h28 h29 (by decide) rfl
    erw [e32]
    refine Sim.op ((S33.low h20).len) ?_
    refine Sim.op (castI_p _ _) ?_
    refine Sim.as (slices_Concat_Lbyte_byte_l1_ok ?_ k r21 r16_0 ((r16_0.length : Int)) 0 v30 v19 h20 H31 (S33.wk2 all_nil (all_cons ⟨[24], by simp, at_mem 0 rfl⟩ all_nil))) 
    · intro r56_6 v59 H57 S58
      refine Sim.ext (slices_Concat_Lbyte_byte_a1_2 _ _ _ _ _) ?_
      obtain ⟨c66, cs67, H61, e62, h64, h65, S63⟩ := S58.expOwn (i := 0) (τ := 0 :: 1 :: σ) rfl rfl rfl
      exact Sim.fin (S63.finE (Ex.st e62 Ex.nil)) ⟨c66, cs67, h64, h65, rfl⟩
end Go.Ev
