/- A part of the proof that follows: Extensions are written, and read, as the document says: for any elements, any bytes, where what is read is of bulk at most 1048576. -/
import Derived.Test.YtigkdihkmihmmaaMExtTells2
import Derived.KernelRfl
/- Lifted by lift.py: ext_Bytes as a plain function. -/
namespace Go.Ev
open Go.Proofs
set_option linter.unusedVariables false
set_option linter.unusedSimpArgs false
set_option maxRecDepth 100000
def p_ext_Bytes_l0 {β : Type} (k : Nat) (kE0 : (List Int) → Option β) (kE1 : Int → Option β) (x0 : Int) (x6 : (List Int)) (x20 : (List T_api_Elem)) (x21 : Int) (x22 : Int) : Option β := match k with
| 0 => none
| k + 1 =>
bif decide (x22 < x21) then (
(ix x20 x22).bind fun a13 =>
(p_ext_right x0 ((⟨a13.ID, a13.Data⟩ : T_api_Elem))).bind fun r27 =>
bif !r27 then (
kE1 1)
else (
bif x0 == 48862 then (
(ap 1 x6 ([(IntKind.wrap .u8 (intBits .or .i64 (IntKind.wrap .i64 (a13.ID * 2 ^ 4)) (IntKind.wrap .i64 (((a13.Data.length : Int)) - 1))))])).bind fun a33 =>
(ap 1 a33 a13.Data).bind fun a39 =>
p_ext_Bytes_l0 k kE0 kE1 x0 a39 x20 x21 (IntKind.wrap .i64 (x22 + 1)))
else (
(ap 1 x6 ([(IntKind.wrap .u8 a13.ID), (IntKind.wrap .u8 ((a13.Data.length : Int)))])).bind fun a46 =>
(ap 1 a46 a13.Data).bind fun a52 =>
p_ext_Bytes_l0 k kE0 kE1 x0 a52 x20 x21 (IntKind.wrap .i64 (x22 + 1)))))
else (
kE0 x6)
def p_ext_Bytes (k : Nat) (x0 : Int) (x1 : (List T_api_Elem)) : Option ((List Int) × Int) :=
(bif x0 != 48862 then (some (x0 != 4096)) else (some false)).bind fun b1 =>
bif b1 then (
some ((([] : List Int)), 1))
else (
bif decide (((x1.length : Int)) > 8) then (
some ((([] : List Int)), 3))
else (
p_ext_Bytes_l0 k (fun r66_6 =>
(p_octet_Pad k r66_6 4).bind fun r71 =>
some (r71, 0)) (fun r91_5 =>
some ((([] : List Int)), r91_5)) x0 (([] : List Int)) x1 ((x1.length : Int)) 0))
theorem ext_Bytes_l0_ok {h : H}  {β α : Type} {Q : β → α → Prop} {K : Exit × Env × H → Option α} {kE0 : (List Int) → Option β} {kE1 : Int → Option β} (hE0 : ∀ (q6 : (List Int)) (v60 : V) (H58 : Go.Ev.H) (_ : Fm 61 h [] [] [⟨[43, 53, 57], v60, (dI .u8), q6⟩] H58), Sim (kE0 q6) (K ((.exit 1), (envL [(6, v60)]), H58)) Q) (hE1 : ∀ (q5 : Int) (H62 : Go.Ev.H) (_ : Fm 61 h [] [] [] H62), Sim (kE1 q5) (K (.ret, (envL [(4, (.p (.slice none 0 0))), (5, (.p (.int .i64 q5)))]), H62)) Q) (k : Nat) : ∀ (x0 : Int) (x6 : (List Int)) (x20 : (List T_api_Elem)) (x21 : Int) (x22 : Int) (v9 : V) (v11 : V) (h12 : SlH h dT_api_Elem x20 v11) (H7 : Go.Ev.H) (_ : Fm 61 h [] [] [⟨[43, 53, 57], v9, (dI .u8), x6⟩] H7) {σ : Stamp}, Sim (p_ext_Bytes_l0 k kE0 kE1 x0 x6 x20 x21 x22) ((cvL G X0 ext_Bytes_c0 ext_Bytes_l0 σ (envL [(0, (.p (.int .u16 x0))), (6, v9), (20, v11), (21, (.p (.int .i64 x21))), (22, (.p (.int .i64 x22)))]) H7).bind K) Q := by
  induction k with
  | zero => intros; exact Sim.no
  | succ k ih =>
    intro x0 x6 x20 x21 x22 v9 v11 h12 H7 S8 σ
    rw [p_ext_Bytes_l0]
    refine Sim.round (Sim.ext (ext_Bytes_r0 _ _ _ _ _ _ _ _ _) ?_)
    refine Sim.cd (fun hc => ?_) (fun hc => ?_)
    · refine Sim.bd fun a13 h14 => ?_
      refine Sim.op ((S8.low h12).iS h14 rfl) ?_
      obtain ⟨w16, h17, hE15⟩ := (S8.low h12).el h14 rfl
      obtain ⟨v18, rfl, h19⟩ := dT_api_Elem.inv h17
      refine Sim.op (hE15.all (by simp)) ?_
      obtain ⟨H20, e21, S22⟩ := S8.al (d := 8) (s := (2 :: 0 :: 0 :: 1 :: 1 :: 0 :: σ)) (z := [(.p (.int .i64 0)), (.p (.slice none 0 0))]) (by decide) rfl
      refine Sim.op (congrArg some e21) ?_
      obtain ⟨H24, e25, S26⟩ := S22.stGv (i := 0) (j := 0) (own := false) (σ := (3 :: 0 :: 0 :: 1 :: 1 :: 0 :: σ)) (xs := [.p (.int .i64 a13.ID), v18]) rfl rfl (stills_cons (still_int _ _) (stills_cons h19.still stills_nil)) rfl rfl
      refine Sim.op (st_map e25) ?_
      refine Sim.op ((S26.atG (i := 0) rfl).ldVs (j := 0) (xs := [.p (.int .i64 a13.ID), v18]) rfl rfl (by decide)) ?_
      refine Sim.call (ext_right_ok x0 ((⟨a13.ID, a13.Data⟩ : T_api_Elem)) (show dT_api_Elem.R ((⟨a13.ID, a13.Data⟩ : T_api_Elem)) [.p (.int .i64 a13.ID), v18] from (dT_api_Elem.mk h19))) fun r27 cs28 H29 h30 q31 => ?_
      cases q31
      refine Sim.op (asB_p _) ?_
      refine Sim.cd (fun hc => ?_) (fun hc => ?_)
      · exact hE1 1 H24 (S26.wk2 all_nil all_nil)
      · refine Sim.cd (fun hc => ?_) (fun hc => ?_)
        · refine Sim.op (fA_ref _ _ _) ?_
          refine Sim.op ((S26.atG (i := 0) rfl).ld (j := 0) rfl) ?_
          refine Sim.op (castI_p _ _) ?_
          refine Sim.op (fA_ref _ _ _) ?_
          refine Sim.op ((S26.atG (i := 0) rfl).ld (j := 1) rfl) ?_
          refine Sim.op ((h19.h H24).len) ?_
          refine Sim.op (castI_p _ _) ?_
          have h32 : SlF (dI .u8) [(IntKind.wrap .u8 (intBits .or .i64 (IntKind.wrap .i64 (a13.ID * 2 ^ 4)) (IntKind.wrap .i64 (((a13.Data.length : Int)) - 1))))] (.fz [(.p (.int .u8 (IntKind.wrap .u8 (intBits .or .i64 (IntKind.wrap .i64 (a13.ID * 2 ^ 4)) (IntKind.wrap .i64 (((a13.Data.length : Int)) - 1))))))] 1 1 true) := SlF.lit (cs := [(.p (.int .u8 (IntKind.wrap .u8 (intBits .or .i64 (IntKind.wrap .i64 (a13.ID * 2 ^ 4)) (IntKind.wrap .i64 (((a13.Data.length : Int)) - 1))))))]) (RL.cons (show (dI .u8).R (IntKind.wrap .u8 (intBits .or .i64 (IntKind.wrap .i64 (a13.ID * 2 ^ 4)) (IntKind.wrap .i64 (((a13.Data.length : Int)) - 1)))) [(.p (.int .u8 (IntKind.wrap .u8 (intBits .or .i64 (IntKind.wrap .i64 (a13.ID * 2 ^ 4)) (IntKind.wrap .i64 (((a13.Data.length : Int)) - 1))))))] from rfl) RL.nil) rfl rfl true
          refine Sim.op (bldS (pt_cons rfl pt_nil) (by kernel_rfl : _ = some (.fz [(.p (.int .u8 (IntKind.wrap .u8 (intBits .or .i64 (IntKind.wrap .i64 (a13.ID * 2 ^ 4)) (IntKind.wrap .i64 (((a13.Data.length : Int)) - 1))))))] 1 1 true))) ?_
          refine Sim.bd fun a33 h34 => ?_
          obtain ⟨v35, H36, e37, S38⟩ := S26.app (i := 0) (d := 43) (e := 1) (own := true) (σ := (11 :: 1 :: 0 :: 1 :: 1 :: 0 :: 1 :: 1 :: 0 :: σ)) rfl (h32.h H24).y h34 rfl (by decide) (by decide) rfl
          refine Sim.op (e37) ?_
          refine Sim.op (fA_ref _ _ _) ?_
          refine Sim.op ((S38.atG (i := 0) rfl).ld (j := 1) rfl) ?_
          refine Sim.bd fun a39 h40 => ?_
          obtain ⟨v41, H42, e43, S44⟩ := S38.app (i := 0) (d := 57) (e := 1) (own := true) (σ := (3 :: 1 :: 1 :: 1 :: 0 :: 1 :: 1 :: 0 :: σ)) rfl (h19.h H36).y h40 rfl (by decide) (by decide) rfl
          refine Sim.op (e43) ?_
          exact ih x0 a39 x20 x21 (IntKind.wrap .i64 (x22 + 1)) v41 v11 h12 H42 (S44.wk2 all_nil (all_cons ⟨[57, 43, 43, 53, 57], by simp, at_mem 0 rfl⟩ all_nil))
        · refine Sim.op (fA_ref _ _ _) ?_
          refine Sim.op ((S26.atG (i := 0) rfl).ld (j := 0) rfl) ?_
          refine Sim.op (castI_p _ _) ?_
          refine Sim.op (fA_ref _ _ _) ?_
          refine Sim.op ((S26.atG (i := 0) rfl).ld (j := 1) rfl) ?_
          refine Sim.op ((h19.h H24).len) ?_
          refine Sim.op (castI_p _ _) ?_
          have h45 : SlF (dI .u8) [(IntKind.wrap .u8 a13.ID), (IntKind.wrap .u8 ((a13.Data.length : Int)))] (.fz [(.p (.int .u8 (IntKind.wrap .u8 a13.ID))), (.p (.int .u8 (IntKind.wrap .u8 ((a13.Data.length : Int)))))] 2 1 true) := SlF.lit (cs := [(.p (.int .u8 (IntKind.wrap .u8 a13.ID))), (.p (.int .u8 (IntKind.wrap .u8 ((a13.Data.length : Int)))))]) (RL.cons (show (dI .u8).R (IntKind.wrap .u8 a13.ID) [(.p (.int .u8 (IntKind.wrap .u8 a13.ID)))] from rfl) (RL.cons (show (dI .u8).R (IntKind.wrap .u8 ((a13.Data.length : Int))) [(.p (.int .u8 (IntKind.wrap .u8 ((a13.Data.length : Int)))))] from rfl) RL.nil)) rfl rfl true
          refine Sim.op (bldS (pt_cons rfl (pt_cons rfl pt_nil)) (by kernel_rfl : _ = some (.fz [(.p (.int .u8 (IntKind.wrap .u8 a13.ID))), (.p (.int .u8 (IntKind.wrap .u8 ((a13.Data.length : Int)))))] 2 1 true))) ?_
          refine Sim.bd fun a46 h47 => ?_
          obtain ⟨v48, H49, e50, S51⟩ := S26.app (i := 0) (d := 53) (e := 1) (own := true) (σ := (9 :: 1 :: 0 :: 1 :: 1 :: 0 :: 1 :: 1 :: 0 :: σ)) rfl (h45.h H24).y h47 rfl (by decide) (by decide) rfl
          refine Sim.op (e50) ?_
          refine Sim.op (fA_ref _ _ _) ?_
          refine Sim.op ((S51.atG (i := 0) rfl).ld (j := 1) rfl) ?_
          refine Sim.bd fun a52 h53 => ?_
          obtain ⟨v54, H55, e56, S57⟩ := S51.app (i := 0) (d := 57) (e := 1) (own := true) (σ := (3 :: 1 :: 1 :: 1 :: 0 :: 1 :: 1 :: 0 :: σ)) rfl (h19.h H49).y h53 rfl (by decide) (by decide) rfl
          refine Sim.op (e56) ?_
          exact ih x0 a52 x20 x21 (IntKind.wrap .i64 (x22 + 1)) v54 v11 h12 H55 (S57.wk2 all_nil (all_cons ⟨[57, 53, 43, 53, 57], by simp, at_mem 0 rfl⟩ all_nil))
    · exact hE0 x6 v9 H7 (S8.wk2 all_nil (all_cons ⟨[43, 53, 57], by simp, at_mem 0 rfl⟩ all_nil))
theorem ext_Bytes_ok (k : Nat) {h : H} {σ : Stamp} (x0 : Int) (x1 : List T_api_Elem) {u1 : V} (hu1 : SlH h dT_api_Elem x1 u1) : Sim (p_ext_Bytes k x0 x1) (ev G X0 22 σ [(.p (.int .u16 x0)), u1] h) (fun r s => ∃ (v0 : V), SlF (dI .u8) r.1 v0 ∧ s = ([.v v0, .v (.p (.int .i64 r.2))], h)) := by
  refine Sim.ev rfl (Sim.ext (ext_Bytes_entry _ _ _ _ _ _) ?_)
  rw [p_ext_Bytes]
  have S0 : Fm 61 h [] [] [] (List.replicate 61 [] :: h) := Fm.start0
  refine Sim.ch (P := fun r y => r = y) ?_ (fun b1 y2 h3 h4 => ?_)
  · refine Sim.cd (fun hc => ?_) (fun hc => ?_)
    · exact Sim.ret rfl rfl
    · exact Sim.ret rfl rfl
  subst h4
  refine Sim.cd (fun hc => ?_) (fun hc => ?_)
  · exact Sim.fin (S0.finN (lv_cons (SlF.nil (dI .u8)).still.lv (lv_cons (still_int _ _).lv lv_nil))) ⟨(.p (.slice none 0 0)), (SlF.nil (dI .u8)), rfl⟩
  · refine Sim.op ((S0.low hu1).len) ?_
    refine Sim.op (castI_p _ _) ?_
    refine Sim.cd (fun hc => ?_) (fun hc => ?_)
    · exact Sim.fin (S0.finN (lv_cons (SlF.nil (dI .u8)).still.lv (lv_cons (still_int _ _).lv lv_nil))) ⟨(.p (.slice none 0 0)), (SlF.nil (dI .u8)), rfl⟩
    · refine Sim.op ((S0.low hu1).len) ?_
      refine Sim.op (castI_p _ _) ?_
      have S65 := S0.nil (dI .u8) []
      refine Sim.as (ext_Bytes_l0_ok ?_ ?_ k x0 (([] : List Int)) x1 ((x1.length : Int)) 0 (.p (.slice none 0 0)) u1 hu1 (List.replicate 61 [] :: h) (S65.wk2 all_nil (all_cons ⟨[], by simp, at_mem 0 rfl⟩ all_nil))) 
      · intro r66_6 v69 H67 S68
        refine Sim.ext (ext_Bytes_a0_1 _ _ _ _ _) ?_
        refine Sim.call (octet_Pad_ok k r66_6 (S68.sl (i := 0) rfl) 4) fun r71 cs72 H73 h74 q75 => ?_
        obtain ⟨c76, cs77, h78, h79, q75⟩ := q75
        cases q75
        obtain ⟨v80, H81, e82, S83⟩ := S68.land (dt := (dI .u8)) (d := 60) (e := 0) (n := 0) h78 h79 (by decide) rfl
        erw [e82]
        obtain ⟨v90, H85, e86, h88, S87⟩ := S83.expFrz (i := 0) (τ := 0 :: 1 :: σ) rfl rfl
        exact Sim.fin (S87.finE (Ex.st e86 (Ex.pl (still_int _ _).lv Ex.nil))) ⟨v90, h88, rfl⟩
      · intro r91_5 H92 S93
        refine Sim.ext (ext_Bytes_a0_ret _ _ _ _ _ _) ?_
        exact Sim.fin (S93.finN (lv_cons (SlF.nil (dI .u8)).still.lv (lv_cons (still_int _ _).lv lv_nil))) ⟨(.p (.slice none 0 0)), (SlF.nil (dI .u8)), rfl⟩
end Go.Ev
namespace Go.Ev
theorem rem4 (n : Nat) : remP (n : Int) 4 = some ((n % 4 : Nat) : Int) := by
  unfold remP
  rw [if_neg (by decide), Int.tmod_eq_emod_of_nonneg (by omega)]
  rfl
theorem pad_l0 {β : Type} (kE0 : List Int → Option β) : ∀ (m : Nat) (j : Nat) (xs : List Int), xs.length + m < 2 ^ 39 → (xs.length + m) % 4 = 0 → m < 4 → p_octet_Pad_l0 (j + m + 1) kE0 4 xs = kE0 (xs ++ List.replicate m 0)
  | 0, j, xs, h, h4, _ => by
    rw [p_octet_Pad_l0, rem4, Option.bind_some]
    have : xs.length % 4 = 0 := by simpa using h4
    rw [this]
    simp
  | m + 1, j, xs, h, h4, hm => by
    rw [show j + (m + 1) + 1 = (j + m + 1) + 1 from rfl, p_octet_Pad_l0, rem4, Option.bind_some]
    have hne : ((((xs.length % 4 : Nat) : Int)) != 0) = true := by
      have : xs.length % 4 ≠ 0 := by omega
      simp; omega
    have hap := ap_eq (b := 1) (xs := xs) (ys := [(0 : Int)]) (by decide) (by simp; omega)
    rw [hne, cond_true, hap, Option.bind_some, pad_l0 kE0 m j (xs ++ [0]) (by rw [List.length_append]; simp only [List.length_cons, List.length_nil]; omega) (by rw [List.length_append]; simp only [List.length_cons, List.length_nil]; omega) (by omega)]
    rw [List.append_assoc]
    congr 1
theorem pad_ok (j : Nat) (xs : List Int) (h : xs.length + 4 < 2 ^ 39) : p_octet_Pad (j + 4) xs 4 = some (xs ++ List.replicate ((4 - xs.length % 4) % 4) 0) := by
  unfold p_octet_Pad
  rw [clone_eq (by decide) (by omega), Option.bind_some]
  simp only [show decide ((4 : Int) < 1) = false from rfl, show decide ((4 : Int) > 64) = false from rfl, cond_false, Option.bind_some]
  have := pad_l0 (fun r => some r) ((4 - xs.length % 4) % 4) (j + 3 - (4 - xs.length % 4) % 4) xs (by omega) (by omega) (by omega)
  rw [show j + 4 = j + 3 - (4 - xs.length % 4) % 4 + (4 - xs.length % 4) % 4 + 1 by omega]
  exact this
end Go.Ev
namespace Go.Ev
def goodE (p : Int) (e : T_api_Elem) : Prop := p_ext_right p e = some true
/-- An element's bytes. -/
def encE (p : Int) (e : T_api_Elem) : List Int :=
  (bif p == 48862 then [(IntKind.wrap .u8 (intBits .or .i64 (IntKind.wrap .i64 (e.ID * 2 ^ 4)) (IntKind.wrap .i64 (((e.Data.length : Int)) - 1))))] else [(IntKind.wrap .u8 e.ID), (IntKind.wrap .u8 ((e.Data.length : Int)))]) ++ e.Data
theorem encE_len (p : Int) (e : T_api_Elem) : (encE p e).length ≤ 2 + e.Data.length := by
  unfold encE
  cases (p == 48862) <;> simp <;> omega
theorem bytes_l0 {β : Type} (kE0 : List Int → Option β) (kE1 : Int → Option β) (p : Int) (l : List T_api_Elem) (hl : l.length < 2 ^ 30) : ∀ (rest pre : List T_api_Elem) (j : Nat) (out : List Int), l = pre ++ rest → (∀ e ∈ rest, goodE p e ∧ e.Data.length ≤ 255) → out.length + 300 * rest.length < 2 ^ 39 →
    p_ext_Bytes_l0 (j + rest.length + 1) kE0 kE1 p out l (l.length : Int) (pre.length : Int) = kE0 (out ++ rest.flatMap (encE p))
  | [], pre, j, out, h, _, _ => by
    rw [p_ext_Bytes_l0]
    have : decide ((pre.length : Int) < (l.length : Int)) = false := by subst h; simp
    rw [this]; simp
  | e :: rest, pre, j, out, h, hg, ho => by
    obtain ⟨g1, g2⟩ := hg e (List.mem_cons_self ..)
    rw [List.length_cons] at ho
    rw [List.length_cons, show j + (rest.length + 1) + 1 = (j + rest.length + 1) + 1 from rfl, p_ext_Bytes_l0]
    have h1 : decide ((pre.length : Int) < (l.length : Int)) = true := by subst h; simp; omega
    have h2 : ix l (pre.length : Int) = some e := ix_mid' h rfl
    have h3 : p_ext_right p (⟨e.ID, e.Data⟩ : T_api_Elem) = some true := g1
    have h4 : IntKind.wrap .i64 ((pre.length : Int) + 1) = (((pre ++ [e]).length : Nat) : Int) := by
      rw [wrap_i64 (by omega) (by have : pre.length ≤ l.length := by subst h; simp
                                  omega)]
      simp
    have ih := bytes_l0 kE0 kE1 p l hl rest (pre ++ [e]) j
    rw [h1, cond_true, h2, Option.bind_some, h3, Option.bind_some]
    simp only [Bool.not_true, cond_false]
    rw [h4]
    have hh : l = (pre ++ [e]) ++ rest := by rw [h]; simp
    cases hp : (p == 48862) with
    | true =>
      rw [cond_true, ap_eq (by decide) (by simp; omega), Option.bind_some, ap_eq (by decide) (by rw [List.length_append]; simp only [List.length_cons, List.length_nil]; omega), Option.bind_some]
      rw [ih _ hh (fun x hx => hg x (List.mem_cons_of_mem _ hx)) (by simp only [List.length_append, List.length_cons, List.length_nil]; omega)]
      congr 1
      rw [List.flatMap_cons, encE, hp, cond_true]
      simp
    | false =>
      rw [cond_false, ap_eq (by decide) (by simp; omega), Option.bind_some, ap_eq (by decide) (by rw [List.length_append]; simp only [List.length_cons, List.length_nil]; omega), Option.bind_some]
      rw [ih _ hh (fun x hx => hg x (List.mem_cons_of_mem _ hx)) (by simp only [List.length_append, List.length_cons, List.length_nil]; omega)]
      congr 1
      rw [List.flatMap_cons, encE, hp, cond_false]
      simp
theorem flat_enc_len (p : Int) : ∀ (l : List T_api_Elem), (∀ e ∈ l, e.Data.length ≤ 255) → (l.flatMap (encE p)).length ≤ 257 * l.length
  | [], _ => by simp
  | e :: l, h => by
    rw [List.flatMap_cons, List.length_append, List.length_cons]
    have := flat_enc_len p l fun x hx => h x (List.mem_cons_of_mem _ hx)
    have := encE_len p e
    have := h e (List.mem_cons_self ..)
    omega
def padB (xs : List Int) : List Int := xs ++ List.replicate ((4 - xs.length % 4) % 4) 0
theorem bytes_ok {p : Int} (hp : p = 48862 ∨ p = 4096) {l : List T_api_Elem} (hl : l.length ≤ 8) (hg : ∀ e ∈ l, goodE p e ∧ e.Data.length ≤ 255) (j : Nat) : p_ext_Bytes (j + 9) p l = some (padB (l.flatMap (encE p)), 0) := by
  have h1 : (bif p != 48862 then (some (p != 4096)) else (some false)) = some false := by rcases hp with rfl | rfl <;> rfl
  have h2 : decide ((l.length : Int) > 8) = false := by simp; omega
  have h3 := flat_enc_len p l fun e he => (hg e he).2
  unfold p_ext_Bytes
  rw [h1, Option.bind_some, cond_false, h2, cond_false]
  have := bytes_l0 (fun r66_6 => (p_octet_Pad (j + 9) r66_6 4).bind fun r71 => some (r71, (0 : Int))) (fun r91_5 => some ((([] : List Int)), r91_5)) p l (by omega) l [] (j + 8 - l.length) [] rfl hg (by simp; omega)
  rw [show j + 8 - l.length + l.length + 1 = j + 9 by omega] at this
  refine this.trans ?_
  rw [List.nil_append, show j + 9 = (j + 5) + 4 from rfl, pad_ok _ _ (by omega)]
  rfl
end Go.Ev
namespace Go.Ev
/-- One round: an element. -/
theorem read_two {β : Type} (kE0 : List T_api_Elem → Option β) (kE1 : Int → Option β) (k : Nat) {pre suf : List Int} {e : T_api_Elem} {out : List T_api_Elem} {xs : List Int} (hx : xs = pre ++ (e.ID :: (e.Data.length : Int) :: e.Data) ++ suf) (h1 : 1 ≤ e.ID ∧ e.ID ≤ 255) (h2 : e.Data.length ≤ 255) (hl : xs.length < 2 ^ 39) (ho : out.length < 100) :
    p_ext_Read_l0 (k + 1) kE0 kE1 4096 xs out (pre.length : Int) = p_ext_Read_l0 k kE0 kE1 4096 xs (out ++ [e]) ((pre.length + (2 + e.Data.length) : Nat) : Int) := by
  have g0 : xs[pre.length]? = some e.ID := by subst hx; simp
  have g1 : xs[pre.length + 1]? = some (e.Data.length : Int) := by subst hx; simp
  have hlen : pre.length + 2 + e.Data.length ≤ xs.length := by subst hx; simp; omega
  have g2 : (xs.drop (pre.length + 2)).take e.Data.length = e.Data := by
    subst hx
    rw [List.append_assoc, ← List.drop_drop, List.drop_left]
    simp
  rw [p_ext_Read_l0]
  have d1 : decide ((pre.length : Int) < (xs.length : Int)) = true := by simp; omega
  have d2 : (e.ID == 0) = false := by simp; omega
  rw [d1, cond_true, ix_at g0, Option.bind_some, d2, cond_false, next_two g0 g1 (by omega) (by omega) hl, Option.bind_some]
  simp only [Bool.not_true, cond_false]
  rw [cut_ok (by omega) hl, Option.bind_some]
  simp only [Bool.not_true, cond_false]
  rw [g2, ap_eq (by decide) (by simp; omega), Option.bind_some]
  congr 1
  rw [wrap_i64 (by omega) (by omega)]
  omega
theorem read_one {β : Type} (kE0 : List T_api_Elem → Option β) (kE1 : Int → Option β) (k : Nat) {pre suf : List Int} {e : T_api_Elem} {out : List T_api_Elem} {xs : List Int} (hx : xs = pre ++ ((e.ID * 16 + ((e.Data.length : Int) - 1)) :: e.Data) ++ suf) (h1 : 1 ≤ e.ID ∧ e.ID ≤ 14) (h2 : 1 ≤ e.Data.length ∧ e.Data.length ≤ 16) (hl : xs.length < 2 ^ 39) (ho : out.length < 100) :
    p_ext_Read_l0 (k + 1) kE0 kE1 48862 xs out (pre.length : Int) = p_ext_Read_l0 k kE0 kE1 48862 xs (out ++ [e]) ((pre.length + (1 + e.Data.length) : Nat) : Int) := by
  obtain ⟨a, ha⟩ : ∃ a : Fin 15, (a.1 : Int) = e.ID := ⟨⟨e.ID.toNat, by omega⟩, by simp; omega⟩
  obtain ⟨b, hb⟩ : ∃ b : Fin 16, b.1 + 1 = e.Data.length := ⟨⟨e.Data.length - 1, by omega⟩, by simp; omega⟩
  have g0 : xs[pre.length]? = some ((a.1 : Int) * 16 + b.1) := by
    have : e.ID * 16 + ((e.Data.length : Int) - 1) = (a.1 : Int) * 16 + b.1 := by omega
    rw [this] at hx; subst hx; simp
  have hlen : pre.length + 1 + e.Data.length ≤ xs.length := by subst hx; simp; omega
  have g2 : (xs.drop (pre.length + 1)).take e.Data.length = e.Data := by
    subst hx
    rw [List.append_assoc, ← List.drop_drop, List.drop_left]
    simp
  rw [p_ext_Read_l0]
  have d1 : decide ((pre.length : Int) < (xs.length : Int)) = true := by simp; omega
  have d2 : ((a.1 : Int) * 16 + (b.1 : Int) == 0) = false := by simp; omega
  rw [d1, cond_true, ix_at g0, Option.bind_some, d2, cond_false, next_one g0 (by omega) (by omega), Option.bind_some]
  simp only [Bool.not_true, cond_false]
  rw [hb, cut_ok (by omega) hl, Option.bind_some]
  simp only [Bool.not_true, cond_false]
  rw [g2, ha, ap_eq (by decide) (by simp; omega), Option.bind_some]
  congr 1
  rw [wrap_i64 (by omega) (by omega)]
  omega
theorem read_zeros {β : Type} (kE0 : List T_api_Elem → Option β) (kE1 : Int → Option β) (p : Int) (k : Nat) (out : List T_api_Elem) (xs : List Int) (hl : xs.length < 2 ^ 39) : ∀ (z : Nat) (pre : List Int), xs = pre ++ List.replicate z 0 → p_ext_Read_l0 (k + z + 1) kE0 kE1 p xs out (pre.length : Int) = kE0 out
  | 0, pre, h => by
    rw [p_ext_Read_l0]
    have : decide ((pre.length : Int) < (xs.length : Int)) = false := by subst h; simp
    rw [this, cond_false]
  | z + 1, pre, h => by
    rw [show k + (z + 1) + 1 = (k + z + 1) + 1 from rfl, p_ext_Read_l0]
    have g0 : xs[pre.length]? = some 0 := by subst h; simp
    have hlen : pre.length < xs.length := (List.getElem?_eq_some_iff.1 g0).1
    have d1 : decide ((pre.length : Int) < (xs.length : Int)) = true := by simp; omega
    have e1 : IntKind.wrap .i64 ((pre.length : Int) + 1) = (((pre ++ [0]).length : Nat) : Int) := by rw [wrap_i64 (by omega) (by omega)]; simp
    rw [d1, cond_true, ix_at g0, Option.bind_some, show ((0 : Int) == 0) = true from rfl, cond_true, e1]
    exact read_zeros kE0 kE1 p k out xs hl z (pre ++ [0]) (by rw [h, List.replicate_succ]; simp)
def enc2 (e : T_api_Elem) : List Int := e.ID :: (e.Data.length : Int) :: e.Data
theorem read_all2 {β : Type} (kE0 : List T_api_Elem → Option β) (kE1 : Int → Option β) (k z : Nat) (xs : List Int) (hl : xs.length < 2 ^ 39) : ∀ (rest : List T_api_Elem) (pre : List Int) (out : List T_api_Elem), xs = pre ++ rest.flatMap enc2 ++ List.replicate z 0 → (∀ e ∈ rest, (1 ≤ e.ID ∧ e.ID ≤ 255) ∧ e.Data.length ≤ 255) → out.length + rest.length < 100 →
    p_ext_Read_l0 (k + z + rest.length + 1) kE0 kE1 4096 xs out (pre.length : Int) = kE0 (out ++ rest)
  | [], pre, out, h, _, _ => by
    rw [List.append_nil]
    exact read_zeros kE0 kE1 4096 k out xs hl z pre (by simpa using h)
  | e :: rest, pre, out, h, hg, ho => by
    obtain ⟨g1, g2⟩ := hg e (List.mem_cons_self ..)
    rw [List.length_cons] at ho
    rw [List.length_cons, show k + z + (rest.length + 1) + 1 = (k + z + rest.length + 1) + 1 from rfl]
    rw [read_two kE0 kE1 (k + z + rest.length + 1) (suf := rest.flatMap enc2 ++ List.replicate z 0) (e := e) (by rw [h, List.flatMap_cons, enc2]; simp) g1 g2 hl (by omega)]
    have := read_all2 kE0 kE1 k z xs hl rest (pre ++ enc2 e) (out ++ [e]) (by rw [h, List.flatMap_cons]; simp) (fun x hx => hg x (List.mem_cons_of_mem _ hx)) (by rw [List.length_append]; simp only [List.length_cons, List.length_nil]; omega)
    rw [show (pre ++ enc2 e).length = pre.length + (2 + e.Data.length) from by rw [List.length_append, enc2]; simp; omega] at this
    rw [this, List.append_assoc]; rfl
def enc1 (e : T_api_Elem) : List Int := (e.ID * 16 + ((e.Data.length : Int) - 1)) :: e.Data
theorem read_all1 {β : Type} (kE0 : List T_api_Elem → Option β) (kE1 : Int → Option β) (k z : Nat) (xs : List Int) (hl : xs.length < 2 ^ 39) : ∀ (rest : List T_api_Elem) (pre : List Int) (out : List T_api_Elem), xs = pre ++ rest.flatMap enc1 ++ List.replicate z 0 → (∀ e ∈ rest, (1 ≤ e.ID ∧ e.ID ≤ 14) ∧ 1 ≤ e.Data.length ∧ e.Data.length ≤ 16) → out.length + rest.length < 100 →
    p_ext_Read_l0 (k + z + rest.length + 1) kE0 kE1 48862 xs out (pre.length : Int) = kE0 (out ++ rest)
  | [], pre, out, h, _, _ => by
    rw [List.append_nil]
    exact read_zeros kE0 kE1 48862 k out xs hl z pre (by simpa using h)
  | e :: rest, pre, out, h, hg, ho => by
    obtain ⟨g1, g2⟩ := hg e (List.mem_cons_self ..)
    rw [List.length_cons] at ho
    rw [List.length_cons, show k + z + (rest.length + 1) + 1 = (k + z + rest.length + 1) + 1 from rfl]
    rw [read_one kE0 kE1 (k + z + rest.length + 1) (suf := rest.flatMap enc1 ++ List.replicate z 0) (e := e) (by rw [h, List.flatMap_cons, enc1]; simp) g1 g2 hl (by omega)]
    have := read_all1 kE0 kE1 k z xs hl rest (pre ++ enc1 e) (out ++ [e]) (by rw [h, List.flatMap_cons]; simp) (fun x hx => hg x (List.mem_cons_of_mem _ hx)) (by rw [List.length_append]; simp only [List.length_cons, List.length_nil]; omega)
    rw [show (pre ++ enc1 e).length = pre.length + (1 + e.Data.length) from by rw [List.length_append, enc1]; simp; omega] at this
    rw [this, List.append_assoc]; rfl
end Go.Ev
/- Equations, printed by tracer2.py. -/
namespace Go.Ev
open Go.Proofs
set_option linter.unusedVariables false
set_option maxRecDepth 100000
-- 26 limelight/ext.Rid
theorem ext_Rid_entry (rec : CallF) (loop : LoopV) (σ : Stamp) (x0 : V) (h : H) : cvBody G rec loop 26 σ [x0] h =
 (boxO false (0 :: 0 :: 0 :: σ) 1 (List.replicate 33 [] :: h) x0).bind fun q1 =>
 (fA q1.1 6).bind fun t2 =>
 (ldO false 1 q1.2 t2).bind fun t3 =>
 (castI .u16 t3).bind fun n4 =>
 (fA q1.1 7).bind fun t5 =>
 (ldO false 1 q1.2 t5).bind fun t6 =>
 (callO rec 23 (4 :: 0 :: 1 :: 0 :: σ) [(.p (.int .u16 n4)), t6] q1.2 (some 13)).bind fun q7 =>
 (extV q7.1 0).bind fun t8 =>
 (extV q7.1 1).bind fun t9 =>
 (castI .i64 t9).bind fun n10 =>
 bif n10 != 0 then (
 fin false σ q7.2 [(.p (.string ((⟨#[]⟩ : ByteArray)))), (.p (.bool false))])
 else (
 (callO rec 25 (1 :: 0 :: 1 :: 1 :: 1 :: 0 :: σ) [t8, (.p (.int .i64 1))] q7.2 (some 20)).bind fun q11 =>
 (extV q11.1 0).bind fun t12 =>
 (extV q11.1 1).bind fun t13 =>
 (asB t13).bind fun b14 =>
 (bif !b14 then (some ((.p (.bool true)), q11.2)) else ((strO q11.2 t12).bind fun t15 =>
 (castS t15).bind fun s16 =>
 (callO rec 64 (5 :: 0 :: 0 :: 1 :: 1 :: 1 :: 1 :: 0 :: σ) [(.p (.string s16))] q11.2 (some 28)).bind fun q17 =>
 (asB q17.1).bind fun b18 =>
 some ((.p (.bool (!b18))), q17.2))).bind fun q19 =>
 (asB q19.1).bind fun b20 =>
 bif b20 then (
 fin false σ q19.2 [(.p (.string ((⟨#[]⟩ : ByteArray)))), (.p (.bool false))])
 else (
 (strO q19.2 t12).bind fun t21 =>
 (castS t21).bind fun s22 =>
 fin false σ q19.2 [(.p (.string s22)), (.p (.bool true))])) := by kernel_rfl
end Go.Ev
/- Equations, printed by tracer2.py. -/
namespace Go.Ev
open Go.Proofs
set_option linter.unusedVariables false
set_option maxRecDepth 100000
-- 25 limelight/ext.Find
theorem ext_Find_entry (rec : CallF) (loop : LoopV) (σ : Stamp) (x0 : V) (x1 : Int) (h : H) : cvBody G rec loop 25 σ [x0, (.p (.int .i64 x1))] h =
 (boxO true (0 :: 0 :: 0 :: σ) 3 (List.replicate 18 [] :: h) (.p (.int .i64 x1))).bind fun q1 =>
 (callO rec 61 (2 :: 0 :: 1 :: 0 :: σ) [x0, (.clo 62 [q1.1])] q1.2 (some 9)).bind fun q2 =>
 (castI .i64 q2.1).bind fun n3 =>
 bif decide (n3 < 0) then (
 fin true σ q2.2 [(.p (.slice .none 0 0)), (.p (.bool false))])
 else (
 (iS 2 x0 n3).bind fun t4 =>
 (fA t4 1).bind fun t5 =>
 (ldO false 1 q2.2 t5).bind fun t6 =>
 (callO rec 63 (5 :: 0 :: 1 :: 1 :: 1 :: 0 :: σ) [t6] q2.2 (some 17)).bind fun q7 =>
 fin true σ q7.2 [q7.1, (.p (.bool true))]) := by kernel_rfl
end Go.Ev
/- Equations, printed by tracer2.py. -/
namespace Go.Ev
open Go.Proofs
set_option linter.unusedVariables false
set_option maxRecDepth 100000
-- 61 slices.IndexFunc[[]limelight/api.Elem,limelight/api.Elem]
noncomputable def slices_IndexFunc_Lapi_Elem_api_Elem_c0 : Code := (codeAt (bodyOf Try.f61) [1, 0, 1, 0, 0])
def slices_IndexFunc_Lapi_Elem_api_Elem_l0 : Lv := ⟨0, 16, [(0, 0)]⟩
noncomputable def slices_IndexFunc_Lapi_Elem_api_Elem_k0 (rec : CallF) (loop : LoopV) (σ : Stamp) : Exit → Env → H → Option (List C × H) := (kBlock 0 (kSeq G rec loop (codeAt (bodyOf Try.f61) [1, 1]) ⟨16, 16, []⟩ (1 :: 0 :: σ) (finC G false Try.f61 (1 :: σ))))
theorem slices_IndexFunc_Lapi_Elem_api_Elem_entry (rec : CallF) (loop : LoopV) (σ : Stamp) (x0 : V) (x1 : V) (h : H) : cvBody G rec loop 61 σ [x0, x1] h =
 (lenO x0).bind fun t1 =>
 (castI .i64 t1).bind fun n2 =>
 (loop slices_IndexFunc_Lapi_Elem_api_Elem_c0 slices_IndexFunc_Lapi_Elem_api_Elem_l0 (1 :: 0 :: 1 :: 0 :: σ) (envL [(0, x0), (1, x1), (7, (.p (.int .i64 n2))), (8, (.p (.int .i64 0)))]) (List.replicate 19 [] :: h)).bind fun r3 => slices_IndexFunc_Lapi_Elem_api_Elem_k0 rec loop σ r3.1 r3.2.1 r3.2.2 := by kernel_rfl
theorem slices_IndexFunc_Lapi_Elem_api_Elem_r0 (rec : CallF) (loop : LoopV) (σ : Stamp) (x0 : V) (x1 : V) (x7 : Int) (x8 : Int) (h : H) : cvRound G rec loop slices_IndexFunc_Lapi_Elem_api_Elem_c0 slices_IndexFunc_Lapi_Elem_api_Elem_l0 σ (envL [(0, x0), (1, x1), (7, (.p (.int .i64 x7))), (8, (.p (.int .i64 x8)))]) h =
 bif decide (x8 < x7) then (
 (iS 2 x0 x8).bind fun t4 =>
 (ldO true 2 h t4).bind fun t5 =>
 (cloO rec x1 (5 :: 0 :: 1 :: 0 :: 1 :: 1 :: 0 :: σ) [t5] h (some 16)).bind fun q6 =>
 (asB q6.1).bind fun b7 =>
 bif b7 then (
 some (.ret, (envL [(4, (.p (.int .i64 x8)))]), q6.2))
 else (
 loop slices_IndexFunc_Lapi_Elem_api_Elem_c0 slices_IndexFunc_Lapi_Elem_api_Elem_l0 (1 :: σ) (envL [(0, x0), (1, x1), (7, (.p (.int .i64 x7))), (8, (.p (.int .i64 (IntKind.wrap .i64 (x8 + 1)))))]) q6.2))
 else (
 some ((.exit 0), (envL []), h)) := by kernel_rfl
theorem slices_IndexFunc_Lapi_Elem_api_Elem_a0_0 (rec : CallF) (loop : LoopV) (σ : Stamp)  (h : H) : slices_IndexFunc_Lapi_Elem_api_Elem_k0 rec loop σ (.exit 0) (envL []) h =
 fin false σ h [(.p (.int .i64 (-1)))] := by kernel_rfl
theorem slices_IndexFunc_Lapi_Elem_api_Elem_a0_ret (rec : CallF) (loop : LoopV) (σ : Stamp) (x4 : Int) (h : H) : slices_IndexFunc_Lapi_Elem_api_Elem_k0 rec loop σ .ret (envL [(4, (.p (.int .i64 x4)))]) h =
 fin false σ h [(.p (.int .i64 x4))] := by kernel_rfl
end Go.Ev
/- Equations, printed by tracer2.py. -/
namespace Go.Ev
open Go.Proofs
set_option linter.unusedVariables false
set_option maxRecDepth 100000
-- 62 limelight/ext.Find$1
theorem ext_Find_1_entry (rec : CallF) (loop : LoopV) (σ : Stamp) (x0 : V) (x1 : V) (h : H) : cvBody G rec loop 62 σ [x0, x1] h =
 (boxO false (0 :: 0 :: 0 :: σ) 2 (List.replicate 8 [] :: h) x0).bind fun q1 =>
 (fA q1.1 0).bind fun t2 =>
 (ldO false 1 q1.2 t2).bind fun t3 =>
 (castI .i64 t3).bind fun n4 =>
 (ldO false 1 q1.2 x1).bind fun t5 =>
 (castI .i64 t5).bind fun n6 =>
 fin false σ q1.2 [(.p (.bool (n4 == n6)))] := by kernel_rfl
end Go.Ev
/- Lifted by lift.py: ext_Find_1 as a plain function. -/
namespace Go.Ev
open Go.Proofs
set_option linter.unusedVariables false
set_option linter.unusedSimpArgs false
set_option maxRecDepth 100000
def p_ext_Find_1 (x0 : T_api_Elem) (x1 : Int) : Option (Bool) :=
some ((x0.ID == x1))
theorem ext_Find_1_ok {h : H} {σ : Stamp} (x0 : T_api_Elem) {u0 : List V} (hu0 : dT_api_Elem.R x0 u0) (x1 : Int)  {l1 : Loc} {o1 : Nat} (ha1 : AtC h l1 o1 (List.map C.v [(.p (.int .i64 x1))])) : Sim (p_ext_Find_1 x0 x1) (ev G X0 62 σ [(.agg u0), (.ref l1 o1)] h) (fun r s => s = ([.v (.p (.bool r))], h)) := by
  refine Sim.ev rfl (Sim.ext (ext_Find_1_entry _ _ _ _ _ _) ?_)
  rw [p_ext_Find_1]
  obtain ⟨v1, rfl, h2⟩ := dT_api_Elem.inv hu0
  have S0 : Fm 8 h [] [] [] (List.replicate 8 [] :: h) := Fm.start0
  obtain ⟨H3, e4, S5⟩ := S0.box (own := false) (d := 2) (s := (0 :: 0 :: 0 :: σ)) (xs := [(.p (.int .i64 x0.ID)), v1]) (stills_cons (still_int _ _) (stills_cons h2.still stills_nil)) (by decide) rfl
  refine Sim.op (e4) ?_
  refine Sim.op (fA_ref _ _ _) ?_
  refine Sim.op ((S5.atG (i := 0) rfl).ld (j := 0) rfl) ?_
  refine Sim.op (castI_p _ _) ?_
  refine Sim.op ((S5.lowA ha1).ld (j := 0) rfl) ?_
  refine Sim.op (castI_p _ _) ?_
  exact Sim.fin (S5.finN (lv_cons (still_bool _).lv lv_nil)) rfl
end Go.Ev
/- Lifted by lift.py: slices_IndexFunc_Lapi_Elem_api_Elem as a plain function. -/
namespace Go.Ev
open Go.Proofs
set_option linter.unusedVariables false
set_option linter.unusedSimpArgs false
set_option maxRecDepth 100000
def p_slices_IndexFunc_Lapi_Elem_api_Elem_ext_Find_1_l0 {β : Type} (k : Nat) (kE0 : Unit → Option β) (kE1 : Int → Option β) (x0 : (List T_api_Elem)) (x1c0 : Int) (x7 : Int) (x8 : Int) : Option β := match k with
| 0 => none
| k + 1 =>
bif decide (x8 < x7) then (
(ix x0 x8).bind fun a9 =>
(p_ext_Find_1 a9 x1c0).bind fun r16 =>
bif r16 then (
kE1 x8)
else (
p_slices_IndexFunc_Lapi_Elem_api_Elem_ext_Find_1_l0 k kE0 kE1 x0 x1c0 x7 (IntKind.wrap .i64 (x8 + 1))))
else (
kE0 ())
def p_slices_IndexFunc_Lapi_Elem_api_Elem_ext_Find_1 (k : Nat) (x0 : (List T_api_Elem)) (x1c0 : Int) : Option (Int) :=
p_slices_IndexFunc_Lapi_Elem_api_Elem_ext_Find_1_l0 k (fun (_ : Unit) =>
some ((-1))) (fun r28_4 =>
some (r28_4)) x0 x1c0 ((x0.length : Int)) 0
theorem slices_IndexFunc_Lapi_Elem_api_Elem_ext_Find_1_l0_ok {h : H}  {β α : Type} {Q : β → α → Prop} {K : Exit × Env × H → Option α} {kE0 : Unit → Option β} {kE1 : Int → Option β} (hE0 : ∀ (_u : Unit) (H21 : Go.Ev.H) (_ : Fm 19 h [] [] [] H21), Sim (kE0 ()) (K ((.exit 0), (envL []), H21)) Q) (hE1 : ∀ (q4 : Int) (H23 : Go.Ev.H) (_ : Fm 19 h [] [] [] H23), Sim (kE1 q4) (K (.ret, (envL [(4, (.p (.int .i64 q4)))]), H23)) Q) (k : Nat) : ∀ (x0 : (List T_api_Elem)) (x1c0 : Int) (x7 : Int) (x8 : Int) (v3 : V) (h4 : SlH h dT_api_Elem x0 v3) (lr5 : Loc) (or6 : Nat) (har7 : AtC h lr5 or6 (List.map C.v [(.p (.int .i64 x1c0))])) (H1 : Go.Ev.H) (_ : Fm 19 h [] [] [] H1) {σ : Stamp}, Sim (p_slices_IndexFunc_Lapi_Elem_api_Elem_ext_Find_1_l0 k kE0 kE1 x0 x1c0 x7 x8) ((cvL G X0 slices_IndexFunc_Lapi_Elem_api_Elem_c0 slices_IndexFunc_Lapi_Elem_api_Elem_l0 σ (envL [(0, v3), (1, (.clo 62 [(.ref lr5 or6)])), (7, (.p (.int .i64 x7))), (8, (.p (.int .i64 x8)))]) H1).bind K) Q := by
  induction k with
  | zero => intros; exact Sim.no
  | succ k ih =>
    intro x0 x1c0 x7 x8 v3 h4 lr5 or6 har7 H1 S2 σ
    rw [p_slices_IndexFunc_Lapi_Elem_api_Elem_ext_Find_1_l0]
    refine Sim.round (Sim.ext (slices_IndexFunc_Lapi_Elem_api_Elem_r0 _ _ _ _ _ _ _ _) ?_)
    refine Sim.cd (fun hc => ?_) (fun hc => ?_)
    · refine Sim.bd fun a9 h10 => ?_
      refine Sim.op ((S2.low h4).iS h10 rfl) ?_
      obtain ⟨w12, h13, hE11⟩ := (S2.low h4).el h10 rfl
      obtain ⟨v14, rfl, h15⟩ := dT_api_Elem.inv h13
      refine Sim.op (hE11.all (by simp)) ?_
      refine Sim.clo ?_
      refine Sim.call (ext_Find_1_ok a9 (show dT_api_Elem.R a9 [.p (.int .i64 a9.ID), v14] from (dT_api_Elem.mk h15)) x1c0 (S2.lowA har7)) fun r16 cs17 H18 h19 q20 => ?_
      cases q20
      refine Sim.op (asB_p _) ?_
      refine Sim.cd (fun hc => ?_) (fun hc => ?_)
      · exact hE1 x8 H1 (S2.wk2 all_nil all_nil)
      · exact ih x0 x1c0 x7 (IntKind.wrap .i64 (x8 + 1)) v3 h4 lr5 or6 har7 H1 (S2.wk2 all_nil all_nil)
    · exact hE0 () H1 (S2.wk2 all_nil all_nil)
theorem slices_IndexFunc_Lapi_Elem_api_Elem_ext_Find_1_ok (k : Nat) {h : H} {σ : Stamp} (x0 : List T_api_Elem) {u0 : V} (hu0 : SlH h dT_api_Elem x0 u0) (x1c0 : Int)  {l1c0 : Loc} {o1c0 : Nat} (ha1c0 : AtC h l1c0 o1c0 (List.map C.v [(.p (.int .i64 x1c0))])) : Sim (p_slices_IndexFunc_Lapi_Elem_api_Elem_ext_Find_1 k x0 x1c0) (ev G X0 61 σ [u0, (.clo 62 [(.ref l1c0 o1c0)])] h) (fun r s => s = ([.v (.p (.int .i64 r))], h)) := by
  refine Sim.ev rfl (Sim.ext (slices_IndexFunc_Lapi_Elem_api_Elem_entry _ _ _ _ _ _) ?_)
  rw [p_slices_IndexFunc_Lapi_Elem_api_Elem_ext_Find_1]
  have S0 : Fm 19 h [] [] [] (List.replicate 19 [] :: h) := Fm.start0
  refine Sim.op ((S0.low hu0).len) ?_
  refine Sim.op (castI_p _ _) ?_
  refine Sim.as (slices_IndexFunc_Lapi_Elem_api_Elem_ext_Find_1_l0_ok ?_ ?_ k x0 x1c0 ((x0.length : Int)) 0 u0 hu0 l1c0 o1c0 ha1c0 (List.replicate 19 [] :: h) (S0.wk2 all_nil all_nil)) 
  · intro _u H26 S27
    refine Sim.ext (slices_IndexFunc_Lapi_Elem_api_Elem_a0_0 _ _ _ _) ?_
    exact Sim.fin (S27.finN (lv_cons (still_int _ _).lv lv_nil)) rfl
  · intro r28_4 H29 S30
    refine Sim.ext (slices_IndexFunc_Lapi_Elem_api_Elem_a0_ret _ _ _ _ _) ?_
    exact Sim.fin (S30.finN (lv_cons (still_int _ _).lv lv_nil)) rfl
end Go.Ev
/- Lifted by lift.py: ext_Find as a plain function. -/
namespace Go.Ev
open Go.Proofs
set_option linter.unusedVariables false
set_option linter.unusedSimpArgs false
set_option maxRecDepth 100000
def p_ext_Find (k : Nat) (x0 : (List T_api_Elem)) (x1 : Int) : Option ((List Int) × Bool) :=
(p_slices_IndexFunc_Lapi_Elem_api_Elem_ext_Find_1 k x0 x1).bind fun r5 =>
bif decide (r5 < 0) then (
some ((([] : List Int)), false))
else (
(ix x0 r5).bind fun a10 =>
(p_clone 1 a10.Data).bind fun r22 =>
some (r22, true))
theorem ext_Find_ok (k : Nat) {h : H} {σ : Stamp} (x0 : List T_api_Elem) {u0 : V} (hu0 : SlH h dT_api_Elem x0 u0) (x1 : Int) : Sim (p_ext_Find k x0 x1) (ev G X0 25 σ [u0, (.p (.int .i64 x1))] h) (fun r s => ∃ (v0 : V), SlF (dI .u8) r.1 v0 ∧ s = ([.v v0, .v (.p (.bool r.2))], h)) := by
  refine Sim.ev rfl (Sim.ext (ext_Find_entry _ _ _ _ _ _) ?_)
  rw [p_ext_Find]
  have S0 : Fm 18 h [] [] [] (List.replicate 18 [] :: h) := Fm.start0
  obtain ⟨H1, e2, S3⟩ := S0.box1 (own := true) (d := 3) (s := (0 :: 0 :: 0 :: σ)) (x := (.p (.int .i64 x1))) (still_int _ _) (by decide) rfl
  refine Sim.op (e2) ?_
  refine Sim.call (slices_IndexFunc_Lapi_Elem_api_Elem_ext_Find_1_ok k x0 (S3.low hu0) x1 (S3.atG (i := 0) rfl)) fun r5 cs6 H7 h8 q9 => ?_
  cases q9
  refine Sim.op (castI_p _ _) ?_
  refine Sim.cd (fun hc => ?_) (fun hc => ?_)
  · exact Sim.fin (S3.finN (lv_cons (SlF.nil (dI .u8)).still.lv (lv_cons (still_bool _).lv lv_nil))) ⟨(.p (.slice none 0 0)), (SlF.nil (dI .u8)), rfl⟩
  · refine Sim.bd fun a10 h11 => ?_
    refine Sim.op ((S3.low hu0).iS h11 rfl) ?_
    obtain ⟨w13, h14, hE12⟩ := (S3.low hu0).el h11 rfl
    obtain ⟨v15, rfl, h16⟩ := dT_api_Elem.inv h14
    refine Sim.op (hE12.fa (j := 1) (by simp)) ?_
    obtain ⟨w18, h19, hE17⟩ := (S3.low hu0).el h11 rfl
    obtain ⟨v20, rfl, h21⟩ := dT_api_Elem.inv h19
    refine Sim.op (hE17.ld (j := 1) rfl) ?_
    refine Sim.call (clone_ok (b := 1) (f := 63) (tt := 5) (e := 1) (τ := fun σ => _ :: _ :: _ :: _ :: _ :: σ) (fun x h => slices_Clone_Lbyte_byte_entry _ _ _ x h) (h21.h H1) rfl (by decide) (by decide) (by decide) (by kernel_rfl) (by kernel_rfl) rfl) fun r22 cs23 H24 h25 q26 => ?_
    obtain ⟨c27, cs28, h29, h30, q26⟩ := q26
    cases q26
    obtain ⟨v31, H32, e33, S34⟩ := S3.land (dt := (dI .u8)) (d := 17) (e := 0) (n := 0) h29 h30 (by decide) rfl
    erw [e33]
    obtain ⟨v41, H36, e37, h39, S38⟩ := S34.expFrz (i := 0) (τ := 0 :: 1 :: σ) rfl rfl
    exact Sim.fin (S38.finE (Ex.st e37 (Ex.pl (still_bool _).lv Ex.nil))) ⟨v41, h39, rfl⟩
end Go.Ev
/- Told from outside: rid_Right. -/
namespace Go.Ev
open Go.Proofs
def p_rid_Right (x0 : ByteArray) : Option Bool := some (RidX.rightB x0)
theorem rid_Right_ok {h : H} {σ : Stamp} (x0 : ByteArray) : Sim (p_rid_Right x0) (ev G X0 64 σ [(.p (.string x0))] h) (fun r s => s = ([.v (.p (.bool r))], h)) := Sim.told (ev_ext rfl)
end Go.Ev
/- Lifted by lift.py: ext_Rid as a plain function. -/
namespace Go.Ev
open Go.Proofs
set_option linter.unusedVariables false
set_option linter.unusedSimpArgs false
set_option maxRecDepth 100000
def p_ext_Rid (k : Nat) (x0 : T_api_Rtp) : Option (ByteArray × Bool) :=
(p_ext_Read k x0.Profile x0.Ext).bind fun r11 =>
bif r11.2 != 0 then (
some (((⟨#[]⟩ : ByteArray)), false))
else (
(p_ext_Find k r11.1 1).bind fun r18 =>
(bif !r18.2 then (some true) else ((p_rid_Right (strB r18.1)).bind fun r25 =>
some (!r25))).bind fun b30 =>
bif b30 then (
some (((⟨#[]⟩ : ByteArray)), false))
else (
some ((strB r18.1), true)))
theorem ext_Rid_ok (k : Nat) {h : H} {σ : Stamp} (x0 : T_api_Rtp) {u0 : List V} (hu0 : dT_api_Rtp.R x0 u0) : Sim (p_ext_Rid k x0) (ev G X0 26 σ [(.agg u0)] h) (fun r s => s = ([.v (.p (.string r.1)), .v (.p (.bool r.2))], h)) := by
  refine Sim.ev rfl (Sim.ext (ext_Rid_entry _ _ _ _ _) ?_)
  rw [p_ext_Rid]
  obtain ⟨v1, v3, v5, rfl, h2, h4, h6⟩ := dT_api_Rtp.inv hu0
  have S0 : Fm 33 h [] [] [] (List.replicate 33 [] :: h) := Fm.start0
  obtain ⟨H7, e8, S9⟩ := S0.box (own := false) (d := 1) (s := (0 :: 0 :: 0 :: σ)) (xs := [(.p (.bool x0.Marker)), (.p (.int .i64 x0.f_Type)), (.p (.int .u16 x0.Seq)), (.p (.int .u32 x0.Time)), (.p (.int .u32 x0.Ssrc)), v1, (.p (.int .u16 x0.Profile)), v3, v5]) (stills_cons (still_bool _) (stills_cons (still_int _ _) (stills_cons (still_int _ _) (stills_cons (still_int _ _) (stills_cons (still_int _ _) (stills_cons h2.still (stills_cons (still_int _ _) (stills_cons h4.still (stills_cons h6.still stills_nil))))))))) (by decide) rfl
  refine Sim.op (e8) ?_
  refine Sim.op (fA_ref _ _ _) ?_
  refine Sim.op ((S9.atG (i := 0) rfl).ld (j := 6) rfl) ?_
  refine Sim.op (castI_p _ _) ?_
  refine Sim.op (fA_ref _ _ _) ?_
  refine Sim.op ((S9.atG (i := 0) rfl).ld (j := 7) rfl) ?_
  refine Sim.call (ext_Read_ok k x0.Profile x0.Ext (h4.h H7)) fun r11 cs12 H13 h14 q15 => ?_
  obtain ⟨v16, h17, q15⟩ := q15
  cases q15
  refine Sim.op (rfl) ?_
  refine Sim.op (rfl) ?_
  refine Sim.op (castI_p _ _) ?_
  refine Sim.cd (fun hc => ?_) (fun hc => ?_)
  · exact Sim.fin (S9.finN (lv_cons (still_str _).lv (lv_cons (still_bool _).lv lv_nil))) rfl
  · refine Sim.call (ext_Find_ok k r11.1 (h17.h H7) 1) fun r18 cs19 H20 h21 q22 => ?_
    obtain ⟨v23, h24, q22⟩ := q22
    cases q22
    refine Sim.op (rfl) ?_
    refine Sim.op (rfl) ?_
    refine Sim.op (asB_p _) ?_
    refine Sim.ch (P := fun r y => (.p (.bool r), H7) = y) ?_ (fun b30 y31 h32 h33 => ?_)
    · refine Sim.cd (fun hc => ?_) (fun hc => ?_)
      · exact Sim.ret rfl rfl
      · refine Sim.op ((h24.h H7).str) ?_
        refine Sim.op (castS_p _) ?_
        refine Sim.call (rid_Right_ok (strB r18.1)) fun r25 cs26 H27 h28 q29 => ?_
        cases q29
        refine Sim.op (asB_p _) ?_
        exact Sim.ret rfl rfl
    subst h33
    refine Sim.op (asB_p _) ?_
    refine Sim.cd (fun hc => ?_) (fun hc => ?_)
    · exact Sim.fin (S9.finN (lv_cons (still_str _).lv (lv_cons (still_bool _).lv lv_nil))) rfl
    · refine Sim.op ((h24.h H7).str) ?_
      refine Sim.op (castS_p _) ?_
      exact Sim.fin (S9.finN (lv_cons (still_str _).lv (lv_cons (still_bool _).lv lv_nil))) rfl
end Go.Ev
namespace Go.Ev
def ok1 (e : T_api_Elem) : Prop := (1 ≤ e.ID ∧ e.ID ≤ 14) ∧ 1 ≤ e.Data.length ∧ e.Data.length ≤ 16
def ok2 (e : T_api_Elem) : Prop := (1 ≤ e.ID ∧ e.ID ≤ 255) ∧ e.Data.length ≤ 255
theorem ok1.ok2 {e : T_api_Elem} (h : ok1 e) : ok2 e := by unfold Go.Ev.ok2; unfold ok1 at h; omega
theorem right_one {e : T_api_Elem} (h : ok1 e) : goodE 48862 e := by
  obtain ⟨⟨h1, h2⟩, h3, h4⟩ := h
  unfold goodE p_ext_right
  have e1 : decide (e.ID ≥ 1) = true := by simp; omega
  have e2 : decide (e.ID ≤ 14) = true := by simp; omega
  have e3 : decide ((e.Data.length : Int) ≥ 1) = true := by simp; omega
  have e4 : decide ((e.Data.length : Int) ≤ 16) = true := by simp; omega
  simp only [e1, e2, e3, e4, show ((48862 : Int) == 48862) = true from rfl, cond_true, Option.bind_some]
theorem right_two {e : T_api_Elem} (h : ok2 e) : goodE 4096 e := by
  obtain ⟨⟨h1, h2⟩, h4⟩ := h
  unfold goodE p_ext_right
  have e1 : decide (e.ID ≥ 1) = true := by simp; omega
  have e2 : decide (e.ID ≤ 255) = true := by simp; omega
  have e4 : decide ((e.Data.length : Int) ≤ 255) = true := by simp; omega
  simp only [e1, e2, e4, show ((4096 : Int) == 48862) = false from rfl, cond_false, cond_true, Option.bind_some]
theorem encE_one {e : T_api_Elem} (h : ok1 e) : encE 48862 e = enc1 e := by
  obtain ⟨⟨h1, h2⟩, h3, h4⟩ := h
  obtain ⟨a, ha⟩ : ∃ a : Fin 15, (a.1 : Int) = e.ID := ⟨⟨e.ID.toNat, by omega⟩, by simp; omega⟩
  obtain ⟨b, hb⟩ : ∃ b : Fin 16, b.1 + 1 = e.Data.length := ⟨⟨e.Data.length - 1, by omega⟩, by simp; omega⟩
  have hb' : (e.Data.length : Int) - 1 = (b.1 : Int) := by omega
  unfold encE enc1
  rw [show ((48862 : Int) == 48862) = true from rfl, cond_true, ← ha, hb', wrap_i64 (n := (b.1 : Int)) (by omega) (by omega), nib_or]
  rfl
theorem encE_two {e : T_api_Elem} (h : ok2 e) : encE 4096 e = enc2 e := by
  obtain ⟨⟨h1, h2⟩, h4⟩ := h
  unfold encE enc2
  rw [show ((4096 : Int) == 48862) = false from rfl, cond_false, wrap_u8 (by omega) (by omega), wrap_u8 (by omega) (by omega)]
  rfl
theorem flat_eq {α β : Type} {f g : α → List β} : ∀ {l : List α}, (∀ e ∈ l, f e = g e) → l.flatMap f = l.flatMap g
  | [], _ => rfl
  | e :: l, h => by rw [List.flatMap_cons, List.flatMap_cons, h e (List.mem_cons_self ..), flat_eq fun x hx => h x (List.mem_cons_of_mem _ hx)]
theorem bytes1 {l : List T_api_Elem} {k : Nat} (hk : 9 ≤ k) (hl : l.length ≤ 8) (hg : ∀ e ∈ l, ok1 e) : p_ext_Bytes k 48862 l = some (padB (l.flatMap enc1), 0) := by
  obtain ⟨j, rfl⟩ : ∃ j, k = j + 9 := ⟨k - 9, by omega⟩
  rw [bytes_ok (.inl rfl) hl (fun e he => ⟨right_one (hg e he), (hg e he).ok2.2⟩), flat_eq fun e he => encE_one (hg e he)]
theorem bytes2 {l : List T_api_Elem} {k : Nat} (hk : 9 ≤ k) (hl : l.length ≤ 8) (hg : ∀ e ∈ l, ok2 e) : p_ext_Bytes k 4096 l = some (padB (l.flatMap enc2), 0) := by
  obtain ⟨j, rfl⟩ : ∃ j, k = j + 9 := ⟨k - 9, by omega⟩
  rw [bytes_ok (.inr rfl) hl (fun e he => ⟨right_two (hg e he), (hg e he).2⟩), flat_eq fun e he => encE_two (hg e he)]
theorem flat1_len : ∀ {l : List T_api_Elem}, (∀ e ∈ l, ok2 e) → (l.flatMap enc1).length ≤ 256 * l.length
  | [], _ => by simp
  | e :: l, h => by
    have := flat1_len (l := l) fun x hx => h x (List.mem_cons_of_mem _ hx)
    have := (h e (List.mem_cons_self ..)).2
    rw [List.flatMap_cons, List.length_append, enc1, List.length_cons, List.length_cons]
    omega
theorem flat2_len : ∀ {l : List T_api_Elem}, (∀ e ∈ l, ok2 e) → (l.flatMap enc2).length ≤ 257 * l.length
  | [], _ => by simp
  | e :: l, h => by
    have := flat2_len (l := l) fun x hx => h x (List.mem_cons_of_mem _ hx)
    have := (h e (List.mem_cons_self ..)).2
    rw [List.flatMap_cons, List.length_append, enc2, List.length_cons, List.length_cons, List.length_cons]
    omega
theorem padB_len (xs : List Int) : (padB xs).length = xs.length + (4 - xs.length % 4) % 4 := by simp [padB]
theorem padB_mod (xs : List Int) : (Int.tmod (((padB xs).length : Int)) 4 != 0) = false := by
  rw [padB_len, Int.tmod_eq_emod_of_nonneg (by omega)]
  have : (((xs.length + (4 - xs.length % 4) % 4 : Nat) : Int) % 4) = 0 := by omega
  rw [this]; rfl
theorem read1 {l : List T_api_Elem} {k : Nat} (hk : 20 ≤ k) (hl : l.length ≤ 8) (hg : ∀ e ∈ l, ok1 e) : p_ext_Read k 48862 (padB (l.flatMap enc1)) = some (l, 0) := by
  have hlen := flat1_len fun e he => (hg e he).ok2
  have h3 : decide ((l.length : Int) > 8) = false := by simp; omega
  have := padB_len (l.flatMap enc1)
  unfold p_ext_Read
  simp only [show ((48862 : Int) != 48862) = false from rfl, cond_false, Option.bind_some]
  generalize hz : (4 - (l.flatMap enc1).length % 4) % 4 = z
  have hz3 : z ≤ 3 := by omega
  have hr := fun (kE0 : List T_api_Elem → Option ((List T_api_Elem) × Int)) kE1 => read_all1 kE0 kE1 (k - z - l.length - 1) z (padB (l.flatMap enc1)) (by omega) l [] [] (by rw [padB, hz]; simp) hg (by simp; omega)
  simp only [show k - z - l.length - 1 + z + l.length + 1 = k by omega] at hr
  refine (hr _ _).trans ?_
  rw [List.nil_append, h3, cond_false]
theorem read2 {l : List T_api_Elem} {k : Nat} (hk : 20 ≤ k) (hl : l.length ≤ 8) (hg : ∀ e ∈ l, ok2 e) : p_ext_Read k 4096 (padB (l.flatMap enc2)) = some (l, 0) := by
  have hlen := flat2_len fun e he => hg e he
  have h3 : decide ((l.length : Int) > 8) = false := by simp; omega
  have := padB_len (l.flatMap enc2)
  unfold p_ext_Read
  simp only [show ((4096 : Int) != 48862) = true from rfl, show ((4096 : Int) != 4096) = false from rfl, cond_true, cond_false, Option.bind_some]
  generalize hz : (4 - (l.flatMap enc2).length % 4) % 4 = z
  have hz3 : z ≤ 3 := by omega
  have hr := fun (kE0 : List T_api_Elem → Option ((List T_api_Elem) × Int)) kE1 => read_all2 kE0 kE1 (k - z - l.length - 1) z (padB (l.flatMap enc2)) (by omega) l [] [] (by rw [padB, hz]; simp) hg (by simp; omega)
  simp only [show k - z - l.length - 1 + z + l.length + 1 = k by omega] at hr
  refine (hr _ _).trans ?_
  rw [List.nil_append, h3, cond_false]
/-- IndexFunc and Find. -/
theorem find_l0 {β : Type} (kE0 : Unit → Option β) (kE1 : Int → Option β) (l : List T_api_Elem) (hl : l.length < 2 ^ 30) (id : Int) (e : T_api_Elem) (suf : List T_api_Elem) (he : e.ID = id) : ∀ (mid pre : List T_api_Elem) (j : Nat), l = pre ++ mid ++ e :: suf → (∀ x ∈ mid, x.ID ≠ id) →
    p_slices_IndexFunc_Lapi_Elem_api_Elem_ext_Find_1_l0 (j + mid.length + 1) kE0 kE1 l id (l.length : Int) (pre.length : Int) = kE1 ((pre.length + mid.length : Nat) : Int)
  | [], pre, j, h, _ => by
    rw [p_slices_IndexFunc_Lapi_Elem_api_Elem_ext_Find_1_l0]
    have h1 : decide ((pre.length : Int) < (l.length : Int)) = true := by subst h; simp; omega
    have h2 : ix l (pre.length : Int) = some e := ix_mid' (by simpa using h) rfl
    have h3 : p_ext_Find_1 e id = some true := by simp [p_ext_Find_1, he]
    rw [h1, cond_true, h2, Option.bind_some, h3, Option.bind_some, cond_true]; rfl
  | x :: mid, pre, j, h, hn => by
    rw [List.length_cons, show j + (mid.length + 1) + 1 = (j + mid.length + 1) + 1 from rfl, p_slices_IndexFunc_Lapi_Elem_api_Elem_ext_Find_1_l0]
    have h1 : decide ((pre.length : Int) < (l.length : Int)) = true := by subst h; simp; omega
    have h2 : ix l (pre.length : Int) = some x := ix_mid' (by simpa using h) rfl
    have h3 : p_ext_Find_1 x id = some false := by simpa [p_ext_Find_1] using hn x (List.mem_cons_self ..)
    have h4 : IntKind.wrap .i64 ((pre.length : Int) + 1) = (((pre ++ [x]).length : Nat) : Int) := by
      rw [wrap_i64 (by omega) (by have : pre.length ≤ l.length := by subst h; simp
                                  omega)]
      simp
    rw [h1, cond_true, h2, Option.bind_some, h3, Option.bind_some, cond_false, h4, find_l0 kE0 kE1 l hl id e suf he mid (pre ++ [x]) j (by rw [h]; simp) fun y hy => hn y (List.mem_cons_of_mem _ hy)]
    congr 1
    simp
    omega
theorem find_mid {l pre suf : List T_api_Elem} {e : T_api_Elem} {id : Int} {k : Nat} (h : l = pre ++ e :: suf) (hn : ∀ x ∈ pre, x.ID ≠ id) (he : e.ID = id) (hl : l.length < k) (hk : l.length < 2 ^ 30) (hd : e.Data.length < 2 ^ 30) : p_ext_Find k l id = some (e.Data, true) := by
  unfold p_ext_Find p_slices_IndexFunc_Lapi_Elem_api_Elem_ext_Find_1
  have hlen : pre.length < l.length := by subst h; simp
  have := fun kE0 (kE1 : Int → Option Int) => find_l0 kE0 kE1 l hk id e suf he pre [] (k - pre.length - 1) (by simpa using h) hn
  simp only [show k - pre.length - 1 + pre.length + 1 = k by omega, List.length_nil] at this
  rw [show ((0 : Nat) : Int) = 0 from rfl] at this
  rw [this, Option.bind_some, Nat.zero_add]
  have h0 : decide (((pre.length : Nat) : Int) < 0) = false := by simp
  rw [h0, cond_false, ix_mid' h rfl, Option.bind_some, clone_eq (by decide) (by omega)]
  rfl
/-- The name of a packet. -/
theorem rid_ok {k : Nat} {p : T_api_Rtp} {l : List T_api_Elem} {d : List Int} (hr : p_ext_Read k p.Profile p.Ext = some (l, 0)) (hf : p_ext_Find k l 1 = some (d, true)) : p_ext_Rid k p = some (bif RidX.rightB (strB d) then (strB d, true) else (⟨#[]⟩, false)) := by
  unfold p_ext_Rid
  rw [hr, Option.bind_some]
  simp only [show ((0 : Int) != 0) = false from rfl, cond_false]
  rw [hf, Option.bind_some]
  simp only [Bool.not_true, cond_false, p_rid_Right, Option.bind_some]
  cases RidX.rightB (strB d) <;> rfl
end Go.Ev
/- Equations, printed by tracer2.py. -/
namespace Go.Ev
open Go.Proofs
set_option linter.unusedVariables false
set_option maxRecDepth 100000
-- 21 limelight/limelightbook.Within
theorem limelightbook_Within_entry (rec : CallF) (loop : LoopV) (σ : Stamp) (x0 : Int) (x1 : Int) (x2 : Int) (h : H) : cvBody G rec loop 21 σ [(.p (.int .i64 x0)), (.p (.int .i64 x1)), (.p (.int .i64 x2))] h =
 (bif decide (x0 ≥ x1) then (some (decide (x0 ≤ x2))) else (some false)).bind fun b1 =>
 bif b1 then (
 fin false σ (List.replicate 33 [] :: h) [(.p (.int .i64 x0))])
 else (
 (remI .i64 x0 (IntKind.wrap .i64 ((IntKind.wrap .i64 (x2 - x1)) + 1))).bind fun t2 =>
 (castI .i64 t2).bind fun n3 =>
 bif decide (n3 < 0) then (
 fin false σ (List.replicate 33 [] :: h) [(.p (.int .i64 (IntKind.wrap .i64 (x1 + (IntKind.wrap .i64 ((IntKind.wrap .i64 ((IntKind.wrap .i64 (n3 + x2)) - x1)) + 1))))))])
 else (
 fin false σ (List.replicate 33 [] :: h) [(.p (.int .i64 (IntKind.wrap .i64 (x1 + n3))))])) := by kernel_rfl
end Go.Ev
/- Lifted by lift.py: limelightbook_Within as a plain function. -/
namespace Go.Ev
open Go.Proofs
set_option linter.unusedVariables false
set_option linter.unusedSimpArgs false
set_option maxRecDepth 100000
def p_limelightbook_Within (x0 : Int) (x1 : Int) (x2 : Int) : Option (Int) :=
(bif decide (x0 ≥ x1) then (some (decide (x0 ≤ x2))) else (some false)).bind fun b1 =>
bif b1 then (
some (x0))
else (
(remP x0 (IntKind.wrap .i64 ((IntKind.wrap .i64 (x2 - x1)) + 1))).bind fun n5 =>
bif decide (n5 < 0) then (
some ((IntKind.wrap .i64 (x1 + (IntKind.wrap .i64 ((IntKind.wrap .i64 ((IntKind.wrap .i64 (n5 + x2)) - x1)) + 1))))))
else (
some ((IntKind.wrap .i64 (x1 + n5)))))
theorem limelightbook_Within_ok {h : H} {σ : Stamp} (x0 : Int) (x1 : Int) (x2 : Int) : Sim (p_limelightbook_Within x0 x1 x2) (ev G X0 21 σ [(.p (.int .i64 x0)), (.p (.int .i64 x1)), (.p (.int .i64 x2))] h) (fun r s => s = ([.v (.p (.int .i64 r))], h)) := by
  refine Sim.ev rfl (Sim.ext (limelightbook_Within_entry _ _ _ _ _ _ _) ?_)
  rw [p_limelightbook_Within]
  have S0 : Fm 33 h [] [] [] (List.replicate 33 [] :: h) := Fm.start0
  refine Sim.ch (P := fun r y => r = y) ?_ (fun b1 y2 h3 h4 => ?_)
  · refine Sim.cd (fun hc => ?_) (fun hc => ?_)
    · exact Sim.ret rfl rfl
    · exact Sim.ret rfl rfl
  subst h4
  refine Sim.cd (fun hc => ?_) (fun hc => ?_)
  · exact Sim.fin (S0.finN (lv_cons (still_int _ _).lv lv_nil)) rfl
  · refine Sim.bd fun n5 h6 => ?_
    refine Sim.op (remP_ok h6) ?_
    refine Sim.op (castI_p _ _) ?_
    refine Sim.cd (fun hc => ?_) (fun hc => ?_)
    · exact Sim.fin (S0.finN (lv_cons (still_int _ _).lv lv_nil)) rfl
    · exact Sim.fin (S0.finN (lv_cons (still_int _ _).lv lv_nil)) rfl
end Go.Ev
namespace Go.Ev
theorem strB_bytesS (s : ByteArray) : strB (bytesS s) = s := by
  have : ((bytesS s).map fun n => UInt8.ofNat n.toNat).toArray = s.data := by
    unfold bytesS
    rw [List.map_map]
    have : ((fun n : Int => UInt8.ofNat n.toNat) ∘ fun b : UInt8 => (b.toNat : Int)) = id := by
      funext b; simp
    rw [this, List.map_id]
  unfold strB
  rw [this]
theorem bytesS_len (s : ByteArray) : (bytesS s).length = s.size := by unfold bytesS; rw [List.length_map, Array.length_toList]; rfl
theorem within_lo {x hi : Int} (h0 : 0 ≤ hi) (h1 : hi < 2 ^ 40) : ∃ r, p_limelightbook_Within x 0 hi = some r ∧ 0 ≤ r ∧ r ≤ hi := by
  unfold p_limelightbook_Within
  by_cases h : 0 ≤ x ∧ x ≤ hi
  · refine ⟨x, ?_, h.1, h.2⟩
    have e1 : decide (x ≥ 0) = true := by simpa using h.1
    have e2 : decide (x ≤ hi) = true := by simpa using h.2
    simp only [e1, e2, cond_true, Option.bind_some]
  · have e : ∀ (a : Bool) (b : Bool), (a && b) = false → ((bif a then (some b) else (some false)) : Option Bool) = some false := by
      intro a b; cases a <;> cases b <;> simp
    rw [e (decide (x ≥ 0)) (decide (x ≤ hi)) (by simp; omega), Option.bind_some, cond_false]
    have w1 : IntKind.wrap .i64 (IntKind.wrap .i64 (hi - 0) + 1) = hi + 1 := by
      rw [wrap_i64 (n := hi - 0) (by omega) (by omega), wrap_i64 (by omega) (by omega)]; omega
    have hb : -(hi + 1) < x.tmod (hi + 1) ∧ x.tmod (hi + 1) < hi + 1 := by
      have h1 := Int.tmod_lt_of_pos x (show 0 < hi + 1 by omega)
      have h2 := Int.neg_tmod x (hi + 1)
      have h3 := Int.tmod_lt_of_pos (-x) (show 0 < hi + 1 by omega)
      omega
    rw [w1]
    unfold remP
    rw [if_neg (by omega), Option.bind_some]
    generalize x.tmod (hi + 1) = m at hb
    by_cases hm : m < 0
    · have : decide (m < 0) = true := by simpa using hm
      rw [this, cond_true]
      refine ⟨_, rfl, ?_⟩
      rw [wrap_i64 (n := m + hi) (by omega) (by omega), wrap_i64 (n := m + hi - 0) (by omega) (by omega), wrap_i64 (n := m + hi - 0 + 1) (by omega) (by omega), wrap_i64 (by omega) (by omega)]
      omega
    · have : decide (m < 0) = false := by simpa using hm
      rw [this, cond_false]
      refine ⟨_, rfl, ?_⟩
      rw [wrap_i64 (by omega) (by omega)]
      omega
end Go.Ev
/- Equations, printed by tracer2.py. -/
namespace Go.Ev
open Go.Proofs
set_option linter.unusedVariables false
set_option maxRecDepth 100000
-- 51 (*limelight/limelightkeep.Tape).Next
theorem limelightkeep_Tape_Next_entry (rec : CallF) (loop : LoopV) (σ : Stamp) (x0 : V) (x1 : Int) (h : H) : cvBody G rec loop 51 σ [x0, (.p (.int .i64 x1))] h =
 (nilChk x0).bind fun t1 =>
 (fA t1 1).bind fun t2 =>
 (ldO false 1 (List.replicate 40 [] :: h) t2).bind fun t3 =>
 (castI .i64 t3).bind fun n4 =>
 (nilChk x0).bind fun t5 =>
 (fA t5 0).bind fun t6 =>
 (ldO false 1 (List.replicate 40 [] :: h) t6).bind fun t7 =>
 (lenO t7).bind fun t8 =>
 (castI .i64 t8).bind fun n9 =>
 (bif decide (n4 ≥ n9) then (some true) else (some (decide (x1 < 1)))).bind fun b10 =>
 bif b10 then (
 fin false σ (List.replicate 40 [] :: h) [(.p (.int .i64 0))])
 else (
 (nilChk x0).bind fun t11 =>
 (fA t11 1).bind fun t12 =>
 (ldO false 1 (List.replicate 40 [] :: h) t12).bind fun t13 =>
 (castI .i64 t13).bind fun n14 =>
 (nilChk x0).bind fun t15 =>
 (fA t15 1).bind fun t16 =>
 ((stO true 1 (7 :: 0 :: 1 :: 1 :: 0 :: σ) (List.replicate 40 [] :: h) t16 (.p (.int .i64 (IntKind.wrap .i64 (n14 + 1))))).map fun h => (udf, h)).bind fun q17 =>
 (nilChk x0).bind fun t18 =>
 (fA t18 0).bind fun t19 =>
 (ldO false 1 q17.2 t19).bind fun t20 =>
 (nilChk x0).bind fun t21 =>
 (fA t21 1).bind fun t22 =>
 (ldO false 1 q17.2 t22).bind fun t23 =>
 (castI .i64 t23).bind fun n24 =>
 (iS 1 t20 (IntKind.wrap .i64 (n24 - 1))).bind fun t25 =>
 (ldO false 1 q17.2 t25).bind fun t26 =>
 (castI .i64 t26).bind fun n27 =>
 (callO rec 21 (11 :: 0 :: 1 :: 1 :: 1 :: 0 :: σ) [(.p (.int .i64 n27)), (.p (.int .i64 0)), (.p (.int .i64 1073741824))] q17.2 (some 37)).bind fun q28 =>
 (castI .i64 q28.1).bind fun n29 =>
 (remI .i64 n29 x1).bind fun t30 =>
 (castI .i64 t30).bind fun n31 =>
 fin false σ q28.2 [(.p (.int .i64 n31))]) := by kernel_rfl
end Go.Ev
/- Lifted by lift.py: limelightkeep_Tape_Next as a plain function. -/
namespace Go.Ev
open Go.Proofs
set_option linter.unusedVariables false
set_option linter.unusedSimpArgs false
set_option maxRecDepth 100000
def p_limelightkeep_Tape_Next (x0 : T_limelightkeep_Tape) (x1 : Int) : Option (Int × T_limelightkeep_Tape) :=
(bif decide (x0.f_At ≥ ((x0.f_L.length : Int))) then (some true) else (some (decide (x1 < 1)))).bind fun b1 =>
bif b1 then (
some (0, (⟨x0.f_L, x0.f_At⟩ : T_limelightkeep_Tape)))
else (
(ix x0.f_L (IntKind.wrap .i64 ((IntKind.wrap .i64 (x0.f_At + 1)) - 1))).bind fun a8 =>
(p_limelightbook_Within a8 0 1073741824).bind fun r11 =>
(remP r11 x1).bind fun n16 =>
some (n16, (⟨x0.f_L, (IntKind.wrap .i64 (x0.f_At + 1))⟩ : T_limelightkeep_Tape)))
theorem limelightkeep_Tape_Next_ok {h : H} {σ : Stamp} (x0 : T_limelightkeep_Tape) {u0_0 : V} (hu0_0 : SlF (dI .i64) x0.f_L u0_0) {l0 : Loc} {o0 : Nat} (ha0 : AtC h l0 o0 (List.map C.v [u0_0, (.p (.int .i64 x0.f_At))])) (x1 : Int) : Sim (p_limelightkeep_Tape_Next x0 x1) (ev G X0 51 σ [(.ref l0 o0), (.p (.int .i64 x1))] h) (fun r s => ∃ (vb0_0 : V), SlF (dI .i64) r.2.f_L vb0_0 ∧ s = ([.v (.p (.int .i64 r.1))], pts h [⟨l0, o0, [.v vb0_0, .v (.p (.int .i64 r.2.f_At))]⟩])) := by
  refine Sim.ev rfl (Sim.ext (limelightkeep_Tape_Next_entry _ _ _ _ _ _) ?_)
  rw [p_limelightkeep_Tape_Next]
  have S0 : Fm 40 h [⟨l0, o0, List.map C.v [u0_0, (.p (.int .i64 x0.f_At))]⟩] [] [] (List.replicate 40 [] :: h) := Fm.start1 ha0
  refine Sim.op (nilChk_ref _ _) ?_
  refine Sim.op (fA_ref _ _ _) ?_
  refine Sim.op ((S0.atB (i := 0) rfl).ld (j := 1) rfl) ?_
  refine Sim.op (castI_p _ _) ?_
  refine Sim.op (nilChk_ref _ _) ?_
  refine Sim.op (fA_ref _ _ _) ?_
  refine Sim.op ((S0.atB (i := 0) rfl).ld (j := 0) rfl) ?_
  refine Sim.op ((hu0_0.h (List.replicate 40 [] :: h)).len) ?_
  refine Sim.op (castI_p _ _) ?_
  refine Sim.ch (P := fun r y => r = y) ?_ (fun b1 y2 h3 h4 => ?_)
  · refine Sim.cd (fun hc => ?_) (fun hc => ?_)
    · exact Sim.ret rfl rfl
    · exact Sim.ret rfl rfl
  subst h4
  refine Sim.cd (fun hc => ?_) (fun hc => ?_)
  · exact Sim.fin (S0.finN (lv_cons (still_int _ _).lv lv_nil)) ⟨u0_0, hu0_0, rfl⟩
  · refine Sim.op (nilChk_ref _ _) ?_
    refine Sim.op (fA_ref _ _ _) ?_
    refine Sim.op ((S0.atB (i := 0) rfl).ld (j := 1) rfl) ?_
    refine Sim.op (castI_p _ _) ?_
    refine Sim.op (nilChk_ref _ _) ?_
    refine Sim.op (fA_ref _ _ _) ?_
    obtain ⟨H5, e6, S7⟩ := S0.stB (i := 0) (j := 1) (own := true) (σ := (7 :: 0 :: 1 :: 1 :: 0 :: σ)) (x := (.p (.int .i64 (IntKind.wrap .i64 (x0.f_At + 1))))) rfl (still_int _ _) rfl
    refine Sim.op (st_map e6) ?_
    refine Sim.op (nilChk_ref _ _) ?_
    refine Sim.op (fA_ref _ _ _) ?_
    refine Sim.op ((S7.atB (i := 0) rfl).ld (j := 0) rfl) ?_
    refine Sim.op (nilChk_ref _ _) ?_
    refine Sim.op (fA_ref _ _ _) ?_
    refine Sim.op ((S7.atB (i := 0) rfl).ld (j := 1) rfl) ?_
    refine Sim.op (castI_p _ _) ?_
    refine Sim.bd fun a8 h9 => ?_
    refine Sim.op ((hu0_0.h H5).iS h9 rfl) ?_
    obtain ⟨_, rfl, hE10⟩ := (hu0_0.h H5).el h9 rfl
    refine Sim.op (hE10.ld (j := 0) rfl) ?_
    refine Sim.op (castI_p _ _) ?_
    refine Sim.call (limelightbook_Within_ok a8 0 1073741824) fun r11 cs12 H13 h14 q15 => ?_
    cases q15
    refine Sim.op (castI_p _ _) ?_
    refine Sim.bd fun n16 h17 => ?_
    refine Sim.op (remP_ok h17) ?_
    refine Sim.op (castI_p _ _) ?_
    exact Sim.fin (S7.finN (lv_cons (still_int _ _).lv lv_nil)) ⟨u0_0, hu0_0, rfl⟩
end Go.Ev
namespace Go.Ev
/-- Bytes. -/
def isB (xs : List Int) : Prop := ∀ x ∈ xs, 0 ≤ x ∧ x < 256
def TP (t : T_limelightkeep_Tape) : Prop := 0 ≤ t.f_At ∧ t.f_At ≤ t.f_L.length ∧ t.f_L.length < 2 ^ 50
theorem next_tape {t : T_limelightkeep_Tape} (h : TP t) {n : Int} (h1 : 1 ≤ n) : ∃ r t', p_limelightkeep_Tape_Next t n = some (r, t') ∧ (0 ≤ r ∧ r < n) ∧ TP t' := by
  obtain ⟨a1, a2, a3⟩ := h
  unfold p_limelightkeep_Tape_Next
  have e2 : decide (n < 1) = false := by simp; omega
  by_cases hc : t.f_At ≥ t.f_L.length
  · have e1 : decide (t.f_At ≥ (t.f_L.length : Int)) = true := by simpa using hc
    simp only [e1, cond_true, Option.bind_some]
    exact ⟨0, t, rfl, ⟨by omega, by omega⟩, a1, a2, a3⟩
  · have e1 : decide (t.f_At ≥ (t.f_L.length : Int)) = false := by simpa using hc
    obtain ⟨i, hi⟩ : ∃ i : Nat, t.f_At = i := ⟨t.f_At.toNat, by omega⟩
    have hlt : i < t.f_L.length := by omega
    have w1 : IntKind.wrap .i64 (t.f_At + 1) = t.f_At + 1 := wrap_i64 (by omega) (by omega)
    have w2 : IntKind.wrap .i64 (t.f_At + 1 - 1) = (i : Int) := by rw [wrap_i64 (by omega) (by omega)]; omega
    have hx : ix t.f_L (i : Int) = some t.f_L[i] := ix_at (by simp [hlt])
    obtain ⟨r, hr, r0, r1⟩ := within_lo (x := t.f_L[i]) (hi := 1073741824) (by omega) (by omega)
    simp only [e1, e2, cond_false, Option.bind_some, w1, w2, hx, hr]
    unfold remP
    rw [if_neg (by omega), Option.bind_some]
    refine ⟨_, _, rfl, ⟨Int.tmod_nonneg _ r0, Int.tmod_lt_of_pos _ (by omega)⟩, ?_⟩
    unfold TP
    simp only
    omega
theorem tape_eta (t : T_limelightkeep_Tape) : (⟨t.f_L, t.f_At⟩ : T_limelightkeep_Tape) = t := rfl
end Go.Ev
/- Equations, printed by tracer2.py. -/
namespace Go.Ev
open Go.Proofs
set_option linter.unusedVariables false
set_option maxRecDepth 100000
-- 27 limelight/limelightref3.Rid
theorem limelightref3_Rid_entry (rec : CallF) (loop : LoopV) (σ : Stamp) (x0 : V) (h : H) : cvBody G rec loop 27 σ [x0] h =
 (boxO false (0 :: 0 :: 0 :: σ) 1 (List.replicate 33 [] :: h) x0).bind fun q1 =>
 (fA q1.1 6).bind fun t2 =>
 (ldO false 1 q1.2 t2).bind fun t3 =>
 (castI .u16 t3).bind fun n4 =>
 (fA q1.1 7).bind fun t5 =>
 (ldO false 1 q1.2 t5).bind fun t6 =>
 (callO rec 55 (4 :: 0 :: 1 :: 0 :: σ) [(.p (.int .u16 n4)), t6] q1.2 (some 13)).bind fun q7 =>
 (extV q7.1 0).bind fun t8 =>
 (extV q7.1 1).bind fun t9 =>
 (castI .i64 t9).bind fun n10 =>
 bif n10 != 0 then (
 fin false σ q7.2 [(.p (.string ((⟨#[]⟩ : ByteArray)))), (.p (.bool false))])
 else (
 (callO rec 53 (1 :: 0 :: 1 :: 1 :: 1 :: 0 :: σ) [t8, (.p (.int .i64 1))] q7.2 (some 20)).bind fun q11 =>
 (extV q11.1 0).bind fun t12 =>
 (extV q11.1 1).bind fun t13 =>
 (asB t13).bind fun b14 =>
 (bif !b14 then (some ((.p (.bool true)), q11.2)) else ((strO q11.2 t12).bind fun t15 =>
 (castS t15).bind fun s16 =>
 (callO rec 65 (5 :: 0 :: 0 :: 1 :: 1 :: 1 :: 1 :: 0 :: σ) [(.p (.string s16))] q11.2 (some 28)).bind fun q17 =>
 (asB q17.1).bind fun b18 =>
 some ((.p (.bool (!b18))), q17.2))).bind fun q19 =>
 (asB q19.1).bind fun b20 =>
 bif b20 then (
 fin false σ q19.2 [(.p (.string ((⟨#[]⟩ : ByteArray)))), (.p (.bool false))])
 else (
 (strO q19.2 t12).bind fun t21 =>
 (castS t21).bind fun s22 =>
 fin false σ q19.2 [(.p (.string s22)), (.p (.bool true))])) := by kernel_rfl
end Go.Ev
/- Told from outside: limelightref1_Rid. -/
namespace Go.Ev
open Go.Proofs
def p_limelightref1_Rid (x0 : ByteArray) : Option Bool := some (RidX.rightB x0)
theorem limelightref1_Rid_ok {h : H} {σ : Stamp} (x0 : ByteArray) : Sim (p_limelightref1_Rid x0) (ev G X0 65 σ [(.p (.string x0))] h) (fun r s => s = ([.v (.p (.bool r))], h)) := Sim.told (ev_ext rfl)
end Go.Ev
/- Equations, printed by tracer2.py. -/
namespace Go.Ev
open Go.Proofs
set_option linter.unusedVariables false
set_option maxRecDepth 100000
-- 53 limelight/limelightref3.Find
noncomputable def limelightref3_Find_c0 : Code := (codeAt (bodyOf Try.f53) [1, 0, 1, 0, 0])
def limelightref3_Find_l0 : Lv := ⟨0, 48, [(0, 0)]⟩
noncomputable def limelightref3_Find_k0 (rec : CallF) (loop : LoopV) (σ : Stamp) : Exit → Env → H → Option (List C × H) := (kBlock 0 (kSeq G rec loop (codeAt (bodyOf Try.f53) [1, 1]) ⟨48, 48, []⟩ (1 :: 0 :: σ) (finC G true Try.f53 (1 :: σ))))
theorem limelightref3_Find_entry (rec : CallF) (loop : LoopV) (σ : Stamp) (x0 : V) (x1 : Int) (h : H) : cvBody G rec loop 53 σ [x0, (.p (.int .i64 x1))] h =
 (lenO x0).bind fun t1 =>
 (castI .i64 t1).bind fun n2 =>
 (loop limelightref3_Find_c0 limelightref3_Find_l0 (1 :: 0 :: 1 :: 0 :: σ) (envL [(1, (.p (.int .i64 x1))), (8, x0), (9, (.p (.int .i64 n2))), (10, (.p (.int .i64 0)))]) (List.replicate 23 [] :: h)).bind fun r3 => limelightref3_Find_k0 rec loop σ r3.1 r3.2.1 r3.2.2 := by kernel_rfl
theorem limelightref3_Find_r0 (rec : CallF) (loop : LoopV) (σ : Stamp) (x1 : Int) (x8 : V) (x9 : Int) (x10 : Int) (h : H) : cvRound G rec loop limelightref3_Find_c0 limelightref3_Find_l0 σ (envL [(1, (.p (.int .i64 x1))), (8, x8), (9, (.p (.int .i64 x9))), (10, (.p (.int .i64 x10)))]) h =
 bif decide (x10 < x9) then (
 (iS 2 x8 x10).bind fun t4 =>
 (ldO true 2 h t4).bind fun t5 =>
 (some (alO [.p (.int .i64 0), .p (.slice none 0 0)] (2 :: 0 :: 0 :: 1 :: 1 :: 0 :: σ) 7 h)).bind fun q6 =>
 ((stO false 2 (3 :: 0 :: 0 :: 1 :: 1 :: 0 :: σ) q6.2 q6.1 t5).map fun h => (udf, h)).bind fun q7 =>
 (fA q6.1 0).bind fun t8 =>
 (ldO false 1 q7.2 t8).bind fun t9 =>
 (castI .i64 t9).bind fun n10 =>
 bif n10 == x1 then (
 (buildSliceV Try.prog 32 0 []).bind fun t11 =>
 (fA q6.1 1).bind fun t12 =>
 (ldO false 1 q7.2 t12).bind fun t13 =>
 (apO true 1 1 (3 :: 0 :: 1 :: 1 :: 0 :: 1 :: 1 :: 0 :: σ) 21 q7.2 t11 t13).bind fun q14 =>
 some (.ret, (envL [(4, q14.1), (5, (.p (.bool true)))]), q14.2))
 else (
 loop limelightref3_Find_c0 limelightref3_Find_l0 (1 :: σ) (envL [(1, (.p (.int .i64 x1))), (8, x8), (9, (.p (.int .i64 x9))), (10, (.p (.int .i64 (IntKind.wrap .i64 (x10 + 1)))))]) q7.2))
 else (
 some ((.exit 0), (envL []), h)) := by kernel_rfl
theorem limelightref3_Find_a0_0 (rec : CallF) (loop : LoopV) (σ : Stamp)  (h : H) : limelightref3_Find_k0 rec loop σ (.exit 0) (envL []) h =
 fin true σ h [(.p (.slice .none 0 0)), (.p (.bool false))] := by kernel_rfl
theorem limelightref3_Find_a0_ret (rec : CallF) (loop : LoopV) (σ : Stamp) (x4 : V) (x5 : Bool) (h : H) : limelightref3_Find_k0 rec loop σ .ret (envL [(4, x4), (5, (.p (.bool x5)))]) h =
 fin true σ h [x4, (.p (.bool x5))] := by kernel_rfl
end Go.Ev
/- Lifted by lift.py: limelightref3_Find as a plain function. -/
namespace Go.Ev
open Go.Proofs
set_option linter.unusedVariables false
set_option linter.unusedSimpArgs false
set_option maxRecDepth 100000
def p_limelightref3_Find_l0 {β : Type} (k : Nat) (kE0 : Unit → Option β) (kE1 : (List Int) → Bool → Option β) (x1 : Int) (x8 : (List T_api_Elem)) (x9 : Int) (x10 : Int) : Option β := match k with
| 0 => none
| k + 1 =>
bif decide (x10 < x9) then (
(ix x8 x10).bind fun a5 =>
bif a5.ID == x1 then (
(ap 1 (([] : List Int)) a5.Data).bind fun a22 =>
kE1 a22 true)
else (
p_limelightref3_Find_l0 k kE0 kE1 x1 x8 x9 (IntKind.wrap .i64 (x10 + 1))))
else (
kE0 ())
def p_limelightref3_Find (k : Nat) (x0 : (List T_api_Elem)) (x1 : Int) : Option ((List Int) × Bool) :=
p_limelightref3_Find_l0 k (fun (_ : Unit) =>
some ((([] : List Int)), false)) (fun r37_4 r37_5 =>
some (r37_4, r37_5)) x1 x0 ((x0.length : Int)) 0
theorem limelightref3_Find_l0_ok {h : H}  {β α : Type} {Q : β → α → Prop} {K : Exit × Env × H → Option α} {kE0 : Unit → Option β} {kE1 : (List Int) → Bool → Option β} (hE0 : ∀ (_u : Unit) (H28 : Go.Ev.H) (_ : Fm 23 h [] [] [] H28), Sim (kE0 ()) (K ((.exit 0), (envL []), H28)) Q) (hE1 : ∀ (q4 : (List Int)) (q5 : Bool) (v32 : V) (H30 : Go.Ev.H) (_ : Fm 23 h [] [] [⟨[21], v32, (dI .u8), q4⟩] H30), Sim (kE1 q4 q5) (K (.ret, (envL [(4, v32), (5, (.p (.bool q5)))]), H30)) Q) (k : Nat) : ∀ (x1 : Int) (x8 : (List T_api_Elem)) (x9 : Int) (x10 : Int) (v3 : V) (h4 : SlH h dT_api_Elem x8 v3) (H1 : Go.Ev.H) (_ : Fm 23 h [] [] [] H1) {σ : Stamp}, Sim (p_limelightref3_Find_l0 k kE0 kE1 x1 x8 x9 x10) ((cvL G X0 limelightref3_Find_c0 limelightref3_Find_l0 σ (envL [(1, (.p (.int .i64 x1))), (8, v3), (9, (.p (.int .i64 x9))), (10, (.p (.int .i64 x10)))]) H1).bind K) Q := by
  induction k with
  | zero => intros; exact Sim.no
  | succ k ih =>
    intro x1 x8 x9 x10 v3 h4 H1 S2 σ
    rw [p_limelightref3_Find_l0]
    refine Sim.round (Sim.ext (limelightref3_Find_r0 _ _ _ _ _ _ _ _) ?_)
    refine Sim.cd (fun hc => ?_) (fun hc => ?_)
    · refine Sim.bd fun a5 h6 => ?_
      refine Sim.op ((S2.low h4).iS h6 rfl) ?_
      obtain ⟨w8, h9, hE7⟩ := (S2.low h4).el h6 rfl
      obtain ⟨v10, rfl, h11⟩ := dT_api_Elem.inv h9
      refine Sim.op (hE7.all (by simp)) ?_
      obtain ⟨H12, e13, S14⟩ := S2.al (d := 7) (s := (2 :: 0 :: 0 :: 1 :: 1 :: 0 :: σ)) (z := [(.p (.int .i64 0)), (.p (.slice none 0 0))]) (by decide) rfl
      refine Sim.op (congrArg some e13) ?_
      obtain ⟨H16, e17, S18⟩ := S14.stGv (i := 0) (j := 0) (own := false) (σ := (3 :: 0 :: 0 :: 1 :: 1 :: 0 :: σ)) (xs := [.p (.int .i64 a5.ID), v10]) rfl rfl (stills_cons (still_int _ _) (stills_cons h11.still stills_nil)) rfl rfl
      refine Sim.op (st_map e17) ?_
      refine Sim.op (fA_ref _ _ _) ?_
      refine Sim.op ((S18.atG (i := 0) rfl).ld (j := 0) rfl) ?_
      refine Sim.op (castI_p _ _) ?_
      refine Sim.cd (fun hc => ?_) (fun hc => ?_)
      · have h19 : SlF (dI .u8) ([] : List Int) (.fz [] 0 1 true) := SlF.lit (cs := []) RL.nil rfl rfl true
        refine Sim.op (bldS pt_nil (by kernel_rfl : _ = some (.fz [] 0 1 true))) ?_
        refine Sim.op (fA_ref _ _ _) ?_
        refine Sim.op ((S18.atG (i := 0) rfl).ld (j := 1) rfl) ?_
        have S21 := S18.nil' (dI .u8) [] (e := 1) rfl
        refine Sim.bd fun a22 h23 => ?_
        obtain ⟨v24, H25, e26, S27⟩ := S21.app (i := 0) (d := 21) (e := 1) (own := true) (σ := (3 :: 0 :: 1 :: 1 :: 0 :: 1 :: 1 :: 0 :: σ)) rfl (h11.h H16).y h23 rfl (by decide) (by decide) rfl
        refine Sim.op (e26) ?_
        exact hE1 a22 true v24 H25 (S27.wk2 all_nil (all_cons ⟨[21], by simp, at_mem 0 rfl⟩ all_nil))
      · exact ih x1 x8 x9 (IntKind.wrap .i64 (x10 + 1)) v3 h4 H16 (S18.wk2 all_nil all_nil)
    · exact hE0 () H1 (S2.wk2 all_nil all_nil)
theorem limelightref3_Find_ok (k : Nat) {h : H} {σ : Stamp} (x0 : List T_api_Elem) {u0 : V} (hu0 : SlH h dT_api_Elem x0 u0) (x1 : Int) : Sim (p_limelightref3_Find k x0 x1) (ev G X0 53 σ [u0, (.p (.int .i64 x1))] h) (fun r s => ∃ (v0 : V), SlF (dI .u8) r.1 v0 ∧ s = ([.v v0, .v (.p (.bool r.2))], h)) := by
  refine Sim.ev rfl (Sim.ext (limelightref3_Find_entry _ _ _ _ _ _) ?_)
  rw [p_limelightref3_Find]
  have S0 : Fm 23 h [] [] [] (List.replicate 23 [] :: h) := Fm.start0
  refine Sim.op ((S0.low hu0).len) ?_
  refine Sim.op (castI_p _ _) ?_
  refine Sim.as (limelightref3_Find_l0_ok ?_ ?_ k x1 x0 ((x0.length : Int)) 0 u0 hu0 (List.replicate 23 [] :: h) (S0.wk2 all_nil all_nil)) 
  · intro _u H35 S36
    refine Sim.ext (limelightref3_Find_a0_0 _ _ _ _) ?_
    exact Sim.fin (S36.finN (lv_cons (SlF.nil (dI .u8)).still.lv (lv_cons (still_bool _).lv lv_nil))) ⟨(.p (.slice none 0 0)), (SlF.nil (dI .u8)), rfl⟩
  · intro r37_4 r37_5 v40 H38 S39
    refine Sim.ext (limelightref3_Find_a0_ret _ _ _ _ _ _) ?_
    obtain ⟨v47, H42, e43, h45, S44⟩ := S39.expFrz (i := 0) (τ := 0 :: 1 :: σ) rfl rfl
    exact Sim.fin (S44.finE (Ex.st e43 (Ex.pl (still_bool _).lv Ex.nil))) ⟨v47, h45, rfl⟩
end Go.Ev
/- Equations, printed by tracer2.py. -/
namespace Go.Ev
open Go.Proofs
set_option linter.unusedVariables false
set_option maxRecDepth 100000
-- 55 limelight/limelightref3.ReadElems
noncomputable def limelightref3_ReadElems_c0 : Code := (codeAt (bodyOf Try.f55) [1, 1, 1, 0, 1, 0, 0])
def limelightref3_ReadElems_l0 : Lv := ⟨64, 48, [(0, 64)]⟩
noncomputable def limelightref3_ReadElems_k0 (rec : CallF) (loop : LoopV) (σ : Stamp) : Exit → Env → H → Option (List C × H) := (kBlock 0 (kSeq G rec loop (codeAt (bodyOf Try.f55) [1, 1, 1, 1]) ⟨48, 48, []⟩ (1 :: 1 :: 1 :: 0 :: σ) (finC G true Try.f55 (1 :: σ))))
theorem limelightref3_ReadElems_entry (rec : CallF) (loop : LoopV) (σ : Stamp) (x0 : Int) (x1 : V) (h : H) : cvBody G rec loop 55 σ [(.p (.int .u16 x0)), x1] h =
 (bif x0 != 48862 then (some (x0 != 4096)) else (some false)).bind fun b1 =>
 bif b1 then (
 fin true σ (List.replicate 97 [] :: h) [(.p (.slice .none 0 0)), (.p (.int .i64 1))])
 else (
 (loop limelightref3_ReadElems_c0 limelightref3_ReadElems_l0 (1 :: 0 :: 1 :: 1 :: 1 :: 0 :: σ) (envL [(0, (.p (.int .u16 x0))), (1, x1), (6, (.p (.slice .none 0 0))), (7, (.p (.int .i64 0)))]) (List.replicate 97 [] :: h)).bind fun r2 => limelightref3_ReadElems_k0 rec loop σ r2.1 r2.2.1 r2.2.2) := by kernel_rfl
theorem limelightref3_ReadElems_r0 (rec : CallF) (loop : LoopV) (σ : Stamp) (x0 : Int) (x1 : V) (x6 : V) (x7 : Int) (h : H) : cvRound G rec loop limelightref3_ReadElems_c0 limelightref3_ReadElems_l0 σ (envL [(0, (.p (.int .u16 x0))), (1, x1), (6, x6), (7, (.p (.int .i64 x7)))]) h =
 (lenO x1).bind fun t3 =>
 (castI .i64 t3).bind fun n4 =>
 bif decide (x7 < n4) then (
 (iS 1 x1 x7).bind fun t5 =>
 (ldO false 1 h t5).bind fun t6 =>
 (castI .u8 t6).bind fun n7 =>
 bif n7 == 0 then (
 loop limelightref3_ReadElems_c0 limelightref3_ReadElems_l0 (1 :: σ) (envL [(0, (.p (.int .u16 x0))), (1, x1), (6, x6), (7, (.p (.int .i64 (IntKind.wrap .i64 (x7 + 1)))))]) h)
 else (
 (iS 1 x1 x7).bind fun t8 =>
 (ldO false 1 h t8).bind fun t9 =>
 (castI .u8 t9).bind fun n10 =>
 (iS 1 x1 x7).bind fun t11 =>
 (ldO false 1 h t11).bind fun t12 =>
 (castI .u8 t12).bind fun n13 =>
 (bif x0 == 48862 then ((bif (IntKind.wrap .i64 (Int.fdiv n10 (2 ^ 4))) == 15 then (some true) else (some ((IntKind.wrap .i64 (Int.fdiv n10 (2 ^ 4))) == 0))).bind fun b14 =>
 some b14) else (some false)).bind fun b15 =>
 bif b15 then (
 some ((.exit 0), (envL [(6, x6)]), h))
 else (
 bif x0 == 4096 then (
 (lenO x1).bind fun t16 =>
 (castI .i64 t16).bind fun n17 =>
 bif decide ((IntKind.wrap .i64 (x7 + 1)) ≥ n17) then (
 some (.ret, (envL [(4, (.p (.slice .none 0 0))), (5, (.p (.int .i64 13)))]), h))
 else (
 (iS 1 x1 x7).bind fun t18 =>
 (ldO false 1 h t18).bind fun t19 =>
 (castI .u8 t19).bind fun n20 =>
 (iS 1 x1 (IntKind.wrap .i64 (x7 + 1))).bind fun t21 =>
 (ldO false 1 h t21).bind fun t22 =>
 (castI .u8 t22).bind fun n23 =>
 (callO rec 90 (3 :: 0 :: 1 :: 1 :: 1 :: 1 :: 1 :: 0 :: σ) [x1, (.p (.int .i64 (IntKind.wrap .i64 (x7 + 2)))), (.p (.int .i64 (IntKind.wrap .i64 n23)))] h (some 79)).bind fun q24 =>
 (extV q24.1 0).bind fun t25 =>
 (extV q24.1 1).bind fun t26 =>
 (asB t26).bind fun b27 =>
 bif !b27 then (
 some (.ret, (envL [(4, (.p (.slice .none 0 0))), (5, (.p (.int .i64 13)))]), q24.2))
 else (
 (buildV Try.prog 38 [(0, (.p (.int .i64 (IntKind.wrap .i64 n20)))), (1, t25)]).bind fun t28 =>
 (buildSliceV Try.prog 27 1 [(0, t28)]).bind fun t29 =>
 (apO false 2 32 (5 :: 0 :: 1 :: 1 :: 1 :: 1 :: 1 :: 1 :: 1 :: 0 :: σ) 89 q24.2 x6 t29).bind fun q30 =>
 loop limelightref3_ReadElems_c0 limelightref3_ReadElems_l0 (1 :: σ) (envL [(0, (.p (.int .u16 x0))), (1, x1), (6, q30.1), (7, (.p (.int .i64 (IntKind.wrap .i64 ((IntKind.wrap .i64 (x7 + 2)) + (IntKind.wrap .i64 n23))))))]) q30.2)))
 else (
 (callO rec 90 (3 :: 0 :: 1 :: 1 :: 1 :: 1 :: 1 :: 0 :: σ) [x1, (.p (.int .i64 (IntKind.wrap .i64 (x7 + 1)))), (.p (.int .i64 (IntKind.wrap .i64 ((IntKind.wrap .i64 (intBits .and .u8 n13 15)) + 1))))] h (some 79)).bind fun q31 =>
 (extV q31.1 0).bind fun t32 =>
 (extV q31.1 1).bind fun t33 =>
 (asB t33).bind fun b34 =>
 bif !b34 then (
 some (.ret, (envL [(4, (.p (.slice .none 0 0))), (5, (.p (.int .i64 13)))]), q31.2))
 else (
 (buildV Try.prog 38 [(0, (.p (.int .i64 (IntKind.wrap .i64 (Int.fdiv n10 (2 ^ 4)))))), (1, t32)]).bind fun t35 =>
 (buildSliceV Try.prog 27 1 [(0, t35)]).bind fun t36 =>
 (apO false 2 32 (5 :: 0 :: 1 :: 1 :: 1 :: 1 :: 1 :: 1 :: 1 :: 0 :: σ) 89 q31.2 x6 t36).bind fun q37 =>
 loop limelightref3_ReadElems_c0 limelightref3_ReadElems_l0 (1 :: σ) (envL [(0, (.p (.int .u16 x0))), (1, x1), (6, q37.1), (7, (.p (.int .i64 (IntKind.wrap .i64 ((IntKind.wrap .i64 (x7 + 1)) + (IntKind.wrap .i64 ((IntKind.wrap .i64 (intBits .and .u8 n13 15)) + 1)))))))]) q37.2)))))
 else (
 some ((.exit 0), (envL [(6, x6)]), h)) := by kernel_rfl
theorem limelightref3_ReadElems_a0_0 (rec : CallF) (loop : LoopV) (σ : Stamp) (x6 : V) (h : H) : limelightref3_ReadElems_k0 rec loop σ (.exit 0) (envL [(6, x6)]) h =
 (lenO x6).bind fun t38 =>
 (castI .i64 t38).bind fun n39 =>
 bif decide (n39 > 8) then (
 fin true σ h [(.p (.slice .none 0 0)), (.p (.int .i64 3))])
 else (
 fin true σ h [x6, (.p (.int .i64 0))]) := by kernel_rfl
theorem limelightref3_ReadElems_a0_ret (rec : CallF) (loop : LoopV) (σ : Stamp) (x4 : V) (x5 : Int) (h : H) : limelightref3_ReadElems_k0 rec loop σ .ret (envL [(4, x4), (5, (.p (.int .i64 x5)))]) h =
 fin true σ h [x4, (.p (.int .i64 x5))] := by kernel_rfl
end Go.Ev
/- Equations, printed by tracer2.py. -/
namespace Go.Ev
open Go.Proofs
set_option linter.unusedVariables false
set_option maxRecDepth 100000
-- 90 limelight/limelightref1.Cut
theorem limelightref1_Cut_entry (rec : CallF) (loop : LoopV) (σ : Stamp) (x0 : V) (x1 : Int) (x2 : Int) (h : H) : cvBody G rec loop 90 σ [x0, (.p (.int .i64 x1)), (.p (.int .i64 x2))] h =
 (bif decide (x1 < 0) then (some true) else (some (decide (x2 < 0)))).bind fun b1 =>
 (bif b1 then (some true) else ((lenO x0).bind fun t2 =>
 (castI .i64 t2).bind fun n3 =>
 some (decide (x1 > n3)))).bind fun b4 =>
 (bif b4 then (some true) else ((lenO x0).bind fun t5 =>
 (castI .i64 t5).bind fun n6 =>
 some (decide (x2 > (IntKind.wrap .i64 (n6 - x1)))))).bind fun b7 =>
 bif b7 then (
 fin true σ (List.replicate 36 [] :: h) [(.p (.slice .none 0 0)), (.p (.bool false))])
 else (
 (buildSliceV Try.prog 32 0 []).bind fun t8 =>
 (slS 1 x0 (some x1) (some (IntKind.wrap .i64 (x1 + x2))) none).bind fun t9 =>
 (apO true 1 1 (7 :: 0 :: 1 :: 1 :: 0 :: σ) 35 (List.replicate 36 [] :: h) t8 t9).bind fun q10 =>
 fin true σ q10.2 [q10.1, (.p (.bool true))]) := by kernel_rfl
end Go.Ev
/- Lifted by lift.py: limelightref1_Cut as a plain function. -/
namespace Go.Ev
open Go.Proofs
set_option linter.unusedVariables false
set_option linter.unusedSimpArgs false
set_option maxRecDepth 100000
def p_limelightref1_Cut (x0 : (List Int)) (x1 : Int) (x2 : Int) : Option ((List Int) × Bool) :=
(bif decide (x1 < 0) then (some true) else (some (decide (x2 < 0)))).bind fun b1 =>
(bif b1 then (some true) else (some (decide (x1 > ((x0.length : Int)))))).bind fun b5 =>
(bif b5 then (some true) else (some (decide (x2 > (IntKind.wrap .i64 (((x0.length : Int)) - x1)))))).bind fun b9 =>
bif b9 then (
some ((([] : List Int)), false))
else (
(sub x0 x1 (IntKind.wrap .i64 (x1 + x2))).bind fun a14 =>
(ap 1 (([] : List Int)) a14).bind fun a18 =>
some (a18, true))
theorem limelightref1_Cut_ok {h : H} {σ : Stamp} (x0 : List Int) {u0 : V} (hu0 : SlH h (dI .u8) x0 u0) (x1 : Int) (x2 : Int) : Sim (p_limelightref1_Cut x0 x1 x2) (ev G X0 90 σ [u0, (.p (.int .i64 x1)), (.p (.int .i64 x2))] h) (fun r s => ∃ (v0 : V), SlF (dI .u8) r.1 v0 ∧ s = ([.v v0, .v (.p (.bool r.2))], h)) := by
  refine Sim.ev rfl (Sim.ext (limelightref1_Cut_entry _ _ _ _ _ _ _) ?_)
  rw [p_limelightref1_Cut]
  have S0 : Fm 36 h [] [] [] (List.replicate 36 [] :: h) := Fm.start0
  refine Sim.ch (P := fun r y => r = y) ?_ (fun b1 y2 h3 h4 => ?_)
  · refine Sim.cd (fun hc => ?_) (fun hc => ?_)
    · exact Sim.ret rfl rfl
    · exact Sim.ret rfl rfl
  subst h4
  refine Sim.ch (P := fun r y => r = y) ?_ (fun b5 y6 h7 h8 => ?_)
  · refine Sim.cd (fun hc => ?_) (fun hc => ?_)
    · exact Sim.ret rfl rfl
    · refine Sim.op ((S0.low hu0).len) ?_
      refine Sim.op (castI_p _ _) ?_
      exact Sim.ret rfl rfl
  subst h8
  refine Sim.ch (P := fun r y => r = y) ?_ (fun b9 y10 h11 h12 => ?_)
  · refine Sim.cd (fun hc => ?_) (fun hc => ?_)
    · exact Sim.ret rfl rfl
    · refine Sim.op ((S0.low hu0).len) ?_
      refine Sim.op (castI_p _ _) ?_
      exact Sim.ret rfl rfl
  subst h12
  refine Sim.cd (fun hc => ?_) (fun hc => ?_)
  · exact Sim.fin (S0.finN (lv_cons (SlF.nil (dI .u8)).still.lv (lv_cons (still_bool _).lv lv_nil))) ⟨(.p (.slice none 0 0)), (SlF.nil (dI .u8)), rfl⟩
  · have h13 : SlF (dI .u8) ([] : List Int) (.fz [] 0 1 true) := SlF.lit (cs := []) RL.nil rfl rfl true
    refine Sim.op (bldS pt_nil (by kernel_rfl : _ = some (.fz [] 0 1 true))) ?_
    refine Sim.bd fun a14 h15 => ?_
    refine Sim.op ((S0.low hu0).slS h15 rfl rfl rfl) ?_
    have S17 := S0.nil' (dI .u8) [] (e := 1) rfl
    refine Sim.bd fun a18 h19 => ?_
    obtain ⟨v20, H21, e22, S23⟩ := S17.app (i := 0) (d := 35) (e := 1) (own := true) (σ := (7 :: 0 :: 1 :: 1 :: 0 :: σ)) rfl ((S17.low hu0).sub h15 (e := 1) rfl).y h19 rfl (by decide) (by decide) rfl
    refine Sim.op (e22) ?_
    obtain ⟨v29, H24, e25, h27, S26⟩ := S23.expFrz (i := 0) (τ := 0 :: 1 :: σ) rfl rfl
    exact Sim.fin (S26.finE (Ex.st e25 (Ex.pl (still_bool _).lv Ex.nil))) ⟨v29, h27, rfl⟩
end Go.Ev
/- Lifted by lift.py: limelightref3_ReadElems as a plain function. -/
namespace Go.Ev
open Go.Proofs
set_option linter.unusedVariables false
set_option linter.unusedSimpArgs false
set_option maxRecDepth 100000
def p_limelightref3_ReadElems_l0 {β : Type} (k : Nat) (kE0 : (List T_api_Elem) → Option β) (kE1 : Int → Option β) (x0 : Int) (x1 : (List Int)) (x6 : (List T_api_Elem)) (x7 : Int) : Option β := match k with
| 0 => none
| k + 1 =>
bif decide (x7 < ((x1.length : Int))) then (
(ix x1 x7).bind fun a13 =>
bif a13 == 0 then (
p_limelightref3_ReadElems_l0 k kE0 kE1 x0 x1 x6 (IntKind.wrap .i64 (x7 + 1)))
else (
(ix x1 x7).bind fun a16 =>
(ix x1 x7).bind fun a19 =>
(bif x0 == 48862 then ((bif (IntKind.wrap .i64 (Int.fdiv a16 (2 ^ 4))) == 15 then (some true) else (some ((IntKind.wrap .i64 (Int.fdiv a16 (2 ^ 4))) == 0))).bind fun b22 =>
some b22) else (some false)).bind fun b26 =>
bif b26 then (
kE0 x6)
else (
bif x0 == 4096 then (
bif decide ((IntKind.wrap .i64 (x7 + 1)) ≥ ((x1.length : Int))) then (
kE1 13)
else (
(ix x1 x7).bind fun a30 =>
(ix x1 (IntKind.wrap .i64 (x7 + 1))).bind fun a33 =>
(p_limelightref1_Cut x1 (IntKind.wrap .i64 (x7 + 2)) (IntKind.wrap .i64 a33)).bind fun r36 =>
bif !r36.2 then (
kE1 13)
else (
(ap 32 x6 ([((⟨(IntKind.wrap .i64 a30), r36.1⟩ : T_api_Elem))])).bind fun a44 =>
p_limelightref3_ReadElems_l0 k kE0 kE1 x0 x1 a44 (IntKind.wrap .i64 ((IntKind.wrap .i64 (x7 + 2)) + (IntKind.wrap .i64 a33))))))
else (
(p_limelightref1_Cut x1 (IntKind.wrap .i64 (x7 + 1)) (IntKind.wrap .i64 ((IntKind.wrap .i64 (intBits .and .u8 a19 15)) + 1))).bind fun r50 =>
bif !r50.2 then (
kE1 13)
else (
(ap 32 x6 ([((⟨(IntKind.wrap .i64 (Int.fdiv a16 (2 ^ 4))), r50.1⟩ : T_api_Elem))])).bind fun a58 =>
p_limelightref3_ReadElems_l0 k kE0 kE1 x0 x1 a58 (IntKind.wrap .i64 ((IntKind.wrap .i64 (x7 + 1)) + (IntKind.wrap .i64 ((IntKind.wrap .i64 (intBits .and .u8 a19 15)) + 1)))))))))
else (
kE0 x6)
def p_limelightref3_ReadElems (k : Nat) (x0 : Int) (x1 : (List Int)) : Option ((List T_api_Elem) × Int) :=
(bif x0 != 48862 then (some (x0 != 4096)) else (some false)).bind fun b1 =>
bif b1 then (
some ((([] : List T_api_Elem)), 1))
else (
p_limelightref3_ReadElems_l0 k (fun r72_6 =>
bif decide (((r72_6.length : Int)) > 8) then (
some ((([] : List T_api_Elem)), 3))
else (
some (r72_6, 0))) (fun r83_5 =>
some ((([] : List T_api_Elem)), r83_5)) x0 x1 (([] : List T_api_Elem)) 0)
theorem limelightref3_ReadElems_l0_ok {h : H}  {β α : Type} {Q : β → α → Prop} {K : Exit × Env × H → Option α} {kE0 : (List T_api_Elem) → Option β} {kE1 : Int → Option β} (hE0 : ∀ (q6 : (List T_api_Elem)) (v66 : V) (H64 : Go.Ev.H) (_ : Fm 97 h [] [] [⟨[89], v66, dT_api_Elem, q6⟩] H64), Sim (kE0 q6) (K ((.exit 0), (envL [(6, v66)]), H64)) Q) (hE1 : ∀ (q5 : Int) (H68 : Go.Ev.H) (_ : Fm 97 h [] [] [] H68), Sim (kE1 q5) (K (.ret, (envL [(4, (.p (.slice none 0 0))), (5, (.p (.int .i64 q5)))]), H68)) Q) (k : Nat) : ∀ (x0 : Int) (x1 : (List Int)) (x6 : (List T_api_Elem)) (x7 : Int) (v9 : V) (h10 : SlH h (dI .u8) x1 v9) (v11 : V) (H7 : Go.Ev.H) (_ : Fm 97 h [] [] [⟨[89], v11, dT_api_Elem, x6⟩] H7) {σ : Stamp}, Sim (p_limelightref3_ReadElems_l0 k kE0 kE1 x0 x1 x6 x7) ((cvL G X0 limelightref3_ReadElems_c0 limelightref3_ReadElems_l0 σ (envL [(0, (.p (.int .u16 x0))), (1, v9), (6, v11), (7, (.p (.int .i64 x7)))]) H7).bind K) Q := by
  induction k with
  | zero => intros; exact Sim.no
  | succ k ih =>
    intro x0 x1 x6 x7 v9 h10 v11 H7 S8 σ
    rw [p_limelightref3_ReadElems_l0]
    refine Sim.round (Sim.ext (limelightref3_ReadElems_r0 _ _ _ _ _ _ _ _) ?_)
    refine Sim.op ((S8.low h10).len) ?_
    refine Sim.op (castI_p _ _) ?_
    refine Sim.cd (fun hc => ?_) (fun hc => ?_)
    · refine Sim.bd fun a13 h14 => ?_
      refine Sim.op ((S8.low h10).iS h14 rfl) ?_
      obtain ⟨_, rfl, hE15⟩ := (S8.low h10).el h14 rfl
      refine Sim.op (hE15.ld (j := 0) rfl) ?_
      refine Sim.op (castI_p _ _) ?_
      refine Sim.cd (fun hc => ?_) (fun hc => ?_)
      · exact ih x0 x1 x6 (IntKind.wrap .i64 (x7 + 1)) v9 h10 v11 H7 (S8.wk2 all_nil (all_cons ⟨[89], by simp, at_mem 0 rfl⟩ all_nil))
      · refine Sim.bd fun a16 h17 => ?_
        refine Sim.op ((S8.low h10).iS h17 rfl) ?_
        obtain ⟨_, rfl, hE18⟩ := (S8.low h10).el h17 rfl
        refine Sim.op (hE18.ld (j := 0) rfl) ?_
        refine Sim.op (castI_p _ _) ?_
        refine Sim.bd fun a19 h20 => ?_
        refine Sim.op ((S8.low h10).iS h20 rfl) ?_
        obtain ⟨_, rfl, hE21⟩ := (S8.low h10).el h20 rfl
        refine Sim.op (hE21.ld (j := 0) rfl) ?_
        refine Sim.op (castI_p _ _) ?_
        refine Sim.ch (P := fun r y => r = y) ?_ (fun b26 y27 h28 h29 => ?_)
        · refine Sim.cd (fun hc => ?_) (fun hc => ?_)
          · refine Sim.ch (P := fun r y => r = y) ?_ (fun b22 y23 h24 h25 => ?_)
            · refine Sim.cd (fun hc => ?_) (fun hc => ?_)
              · exact Sim.ret rfl rfl
              · exact Sim.ret rfl rfl
            subst h25
            exact Sim.ret rfl rfl
          · exact Sim.ret rfl rfl
        subst h29
        refine Sim.cd (fun hc => ?_) (fun hc => ?_)
        · exact hE0 x6 v11 H7 (S8.wk2 all_nil (all_cons ⟨[89], by simp, at_mem 0 rfl⟩ all_nil))
        · refine Sim.cd (fun hc => ?_) (fun hc => ?_)
          · refine Sim.op ((S8.low h10).len) ?_
            refine Sim.op (castI_p _ _) ?_
            refine Sim.cd (fun hc => ?_) (fun hc => ?_)
            · exact hE1 13 H7 (S8.wk2 all_nil all_nil)
            · refine Sim.bd fun a30 h31 => ?_
              refine Sim.op ((S8.low h10).iS h31 rfl) ?_
              obtain ⟨_, rfl, hE32⟩ := (S8.low h10).el h31 rfl
              refine Sim.op (hE32.ld (j := 0) rfl) ?_
              refine Sim.op (castI_p _ _) ?_
              refine Sim.bd fun a33 h34 => ?_
              refine Sim.op ((S8.low h10).iS h34 rfl) ?_
              obtain ⟨_, rfl, hE35⟩ := (S8.low h10).el h34 rfl
              refine Sim.op (hE35.ld (j := 0) rfl) ?_
              refine Sim.op (castI_p _ _) ?_
              refine Sim.call (limelightref1_Cut_ok x1 (S8.low h10) (IntKind.wrap .i64 (x7 + 2)) (IntKind.wrap .i64 a33)) fun r36 cs37 H38 h39 q40 => ?_
              obtain ⟨v41, h42, q40⟩ := q40
              cases q40
              refine Sim.op (rfl) ?_
              refine Sim.op (rfl) ?_
              refine Sim.op (asB_p _) ?_
              refine Sim.cd (fun hc => ?_) (fun hc => ?_)
              · exact hE1 13 H7 (S8.wk2 all_nil all_nil)
              · refine Sim.op (bldV (pt_cons rfl (pt_cons h42.still.cells pt_nil)) (by kernel_rfl : _ = some (.agg [.p (.int .i64 (IntKind.wrap .i64 a30)), v41]))) ?_
                have h43 : SlF dT_api_Elem [((⟨(IntKind.wrap .i64 a30), r36.1⟩ : T_api_Elem))] (.fz [(.p (.int .i64 (IntKind.wrap .i64 a30))), v41] 1 2 true) := SlF.lit (cs := [(.p (.int .i64 (IntKind.wrap .i64 a30))), v41]) (RL.cons (show dT_api_Elem.R ((⟨(IntKind.wrap .i64 a30), r36.1⟩ : T_api_Elem)) [.p (.int .i64 (IntKind.wrap .i64 a30)), v41] from (dT_api_Elem.mk h42)) RL.nil) rfl rfl true
                refine Sim.op (bldS (pt_cons (c := [.p (.int .i64 (IntKind.wrap .i64 a30)), v41]) rfl pt_nil) (by kernel_rfl : _ = some (.fz [(.p (.int .i64 (IntKind.wrap .i64 a30))), v41] 1 2 true))) ?_
                refine Sim.bd fun a44 h45 => ?_
                obtain ⟨v46, H47, e48, S49⟩ := S8.app (i := 0) (d := 89) (e := 2) (own := false) (σ := (5 :: 0 :: 1 :: 1 :: 1 :: 1 :: 1 :: 1 :: 1 :: 0 :: σ)) rfl (h43.h H7).y h45 rfl (by decide) (by decide) rfl
                refine Sim.op (e48) ?_
                exact ih x0 x1 a44 (IntKind.wrap .i64 ((IntKind.wrap .i64 (x7 + 2)) + (IntKind.wrap .i64 a33))) v9 h10 v46 H47 (S49.wk2 all_nil (all_cons ⟨[89, 89], by simp, at_mem 0 rfl⟩ all_nil))
          · refine Sim.call (limelightref1_Cut_ok x1 (S8.low h10) (IntKind.wrap .i64 (x7 + 1)) (IntKind.wrap .i64 ((IntKind.wrap .i64 (intBits .and .u8 a19 15)) + 1))) fun r50 cs51 H52 h53 q54 => ?_
            obtain ⟨v55, h56, q54⟩ := q54
            cases q54
            refine Sim.op (rfl) ?_
            refine Sim.op (rfl) ?_
            refine Sim.op (asB_p _) ?_
            refine Sim.cd (fun hc => ?_) (fun hc => ?_)
            · exact hE1 13 H7 (S8.wk2 all_nil all_nil)
            · refine Sim.op (bldV (pt_cons rfl (pt_cons h56.still.cells pt_nil)) (by kernel_rfl : _ = some (.agg [.p (.int .i64 (IntKind.wrap .i64 (Int.fdiv a16 (2 ^ 4)))), v55]))) ?_
              have h57 : SlF dT_api_Elem [((⟨(IntKind.wrap .i64 (Int.fdiv a16 (2 ^ 4))), r50.1⟩ : T_api_Elem))] (.fz [(.p (.int .i64 (IntKind.wrap .i64 (Int.fdiv a16 (2 ^ 4))))), v55] 1 2 true) := SlF.lit (cs := [(.p (.int .i64 (IntKind.wrap .i64 (Int.fdiv a16 (2 ^ 4))))), v55]) (RL.cons (show dT_api_Elem.R ((⟨(IntKind.wrap .i64 (Int.fdiv a16 (2 ^ 4))), r50.1⟩ : T_api_Elem)) [.p (.int .i64 (IntKind.wrap .i64 (Int.fdiv a16 (2 ^ 4)))), v55] from (dT_api_Elem.mk h56)) RL.nil) rfl rfl true
              refine Sim.op (bldS (pt_cons (c := [.p (.int .i64 (IntKind.wrap .i64 (Int.fdiv a16 (2 ^ 4)))), v55]) rfl pt_nil) (by kernel_rfl : _ = some (.fz [(.p (.int .i64 (IntKind.wrap .i64 (Int.fdiv a16 (2 ^ 4))))), v55] 1 2 true))) ?_
              refine Sim.bd fun a58 h59 => ?_
              obtain ⟨v60, H61, e62, S63⟩ := S8.app (i := 0) (d := 89) (e := 2) (own := false) (σ := (5 :: 0 :: 1 :: 1 :: 1 :: 1 :: 1 :: 1 :: 1 :: 0 :: σ)) rfl (h57.h H7).y h59 rfl (by decide) (by decide) rfl
              refine Sim.op (e62) ?_
              exact ih x0 x1 a58 (IntKind.wrap .i64 ((IntKind.wrap .i64 (x7 + 1)) + (IntKind.wrap .i64 ((IntKind.wrap .i64 (intBits .and .u8 a19 15)) + 1)))) v9 h10 v60 H61 (S63.wk2 all_nil (all_cons ⟨[89, 89], by simp, at_mem 0 rfl⟩ all_nil))
    · exact hE0 x6 v11 H7 (S8.wk2 all_nil (all_cons ⟨[89], by simp, at_mem 0 rfl⟩ all_nil))
theorem limelightref3_ReadElems_ok (k : Nat) {h : H} {σ : Stamp} (x0 : Int) (x1 : List Int) {u1 : V} (hu1 : SlH h (dI .u8) x1 u1) : Sim (p_limelightref3_ReadElems k x0 x1) (ev G X0 55 σ [(.p (.int .u16 x0)), u1] h) (fun r s => ∃ (v0 : V), SlF dT_api_Elem r.1 v0 ∧ s = ([.v v0, .v (.p (.int .i64 r.2))], h)) := by
  refine Sim.ev rfl (Sim.ext (limelightref3_ReadElems_entry _ _ _ _ _ _) ?_)
  rw [p_limelightref3_ReadElems]
  have S0 : Fm 97 h [] [] [] (List.replicate 97 [] :: h) := Fm.start0
  refine Sim.ch (P := fun r y => r = y) ?_ (fun b1 y2 h3 h4 => ?_)
  · refine Sim.cd (fun hc => ?_) (fun hc => ?_)
    · exact Sim.ret rfl rfl
    · exact Sim.ret rfl rfl
  subst h4
  refine Sim.cd (fun hc => ?_) (fun hc => ?_)
  · exact Sim.fin (S0.finN (lv_cons (SlF.nil dT_api_Elem).still.lv (lv_cons (still_int _ _).lv lv_nil))) ⟨(.p (.slice none 0 0)), (SlF.nil dT_api_Elem), rfl⟩
  · have S71 := S0.nil dT_api_Elem []
    refine Sim.as (limelightref3_ReadElems_l0_ok ?_ ?_ k x0 x1 (([] : List T_api_Elem)) 0 u1 hu1 (.p (.slice none 0 0)) (List.replicate 97 [] :: h) (S71.wk2 all_nil (all_cons ⟨[], by simp, at_mem 0 rfl⟩ all_nil))) 
    · intro r72_6 v75 H73 S74
      refine Sim.ext (limelightref3_ReadElems_a0_0 _ _ _ _ _) ?_
      refine Sim.op ((S74.sl (i := 0) rfl).len) ?_
      refine Sim.op (castI_p _ _) ?_
      refine Sim.cd (fun hc => ?_) (fun hc => ?_)
      · exact Sim.fin (S74.finN (lv_cons (SlF.nil dT_api_Elem).still.lv (lv_cons (still_int _ _).lv lv_nil))) ⟨(.p (.slice none 0 0)), (SlF.nil dT_api_Elem), rfl⟩
      · obtain ⟨v82, H77, e78, h80, S79⟩ := S74.expFrz (i := 0) (τ := 0 :: 1 :: σ) rfl rfl
        exact Sim.fin (S79.finE (Ex.st e78 (Ex.pl (still_int _ _).lv Ex.nil))) ⟨v82, h80, rfl⟩
    · intro r83_5 H84 S85
      refine Sim.ext (limelightref3_ReadElems_a0_ret _ _ _ _ _ _) ?_
      exact Sim.fin (S85.finN (lv_cons (SlF.nil dT_api_Elem).still.lv (lv_cons (still_int _ _).lv lv_nil))) ⟨(.p (.slice none 0 0)), (SlF.nil dT_api_Elem), rfl⟩
end Go.Ev
/- Lifted by lift.py: limelightref3_Rid as a plain function. -/
namespace Go.Ev
open Go.Proofs
set_option linter.unusedVariables false
set_option linter.unusedSimpArgs false
set_option maxRecDepth 100000
def p_limelightref3_Rid (k : Nat) (x0 : T_api_Rtp) : Option (ByteArray × Bool) :=
(p_limelightref3_ReadElems k x0.Profile x0.Ext).bind fun r11 =>
bif r11.2 != 0 then (
some (((⟨#[]⟩ : ByteArray)), false))
else (
(p_limelightref3_Find k r11.1 1).bind fun r18 =>
(bif !r18.2 then (some true) else ((p_limelightref1_Rid (strB r18.1)).bind fun r25 =>
some (!r25))).bind fun b30 =>
bif b30 then (
some (((⟨#[]⟩ : ByteArray)), false))
else (
some ((strB r18.1), true)))
theorem limelightref3_Rid_ok (k : Nat) {h : H} {σ : Stamp} (x0 : T_api_Rtp) {u0 : List V} (hu0 : dT_api_Rtp.R x0 u0) : Sim (p_limelightref3_Rid k x0) (ev G X0 27 σ [(.agg u0)] h) (fun r s => s = ([.v (.p (.string r.1)), .v (.p (.bool r.2))], h)) := by
  refine Sim.ev rfl (Sim.ext (limelightref3_Rid_entry _ _ _ _ _) ?_)
  rw [p_limelightref3_Rid]
  obtain ⟨v1, v3, v5, rfl, h2, h4, h6⟩ := dT_api_Rtp.inv hu0
  have S0 : Fm 33 h [] [] [] (List.replicate 33 [] :: h) := Fm.start0
  obtain ⟨H7, e8, S9⟩ := S0.box (own := false) (d := 1) (s := (0 :: 0 :: 0 :: σ)) (xs := [(.p (.bool x0.Marker)), (.p (.int .i64 x0.f_Type)), (.p (.int .u16 x0.Seq)), (.p (.int .u32 x0.Time)), (.p (.int .u32 x0.Ssrc)), v1, (.p (.int .u16 x0.Profile)), v3, v5]) (stills_cons (still_bool _) (stills_cons (still_int _ _) (stills_cons (still_int _ _) (stills_cons (still_int _ _) (stills_cons (still_int _ _) (stills_cons h2.still (stills_cons (still_int _ _) (stills_cons h4.still (stills_cons h6.still stills_nil))))))))) (by decide) rfl
  refine Sim.op (e8) ?_
  refine Sim.op (fA_ref _ _ _) ?_
  refine Sim.op ((S9.atG (i := 0) rfl).ld (j := 6) rfl) ?_
  refine Sim.op (castI_p _ _) ?_
  refine Sim.op (fA_ref _ _ _) ?_
  refine Sim.op ((S9.atG (i := 0) rfl).ld (j := 7) rfl) ?_
  refine Sim.call (limelightref3_ReadElems_ok k x0.Profile x0.Ext (h4.h H7)) fun r11 cs12 H13 h14 q15 => ?_
  obtain ⟨v16, h17, q15⟩ := q15
  cases q15
  refine Sim.op (rfl) ?_
  refine Sim.op (rfl) ?_
  refine Sim.op (castI_p _ _) ?_
  refine Sim.cd (fun hc => ?_) (fun hc => ?_)
  · exact Sim.fin (S9.finN (lv_cons (still_str _).lv (lv_cons (still_bool _).lv lv_nil))) rfl
  · refine Sim.call (limelightref3_Find_ok k r11.1 (h17.h H7) 1) fun r18 cs19 H20 h21 q22 => ?_
    obtain ⟨v23, h24, q22⟩ := q22
    cases q22
    refine Sim.op (rfl) ?_
    refine Sim.op (rfl) ?_
    refine Sim.op (asB_p _) ?_
    refine Sim.ch (P := fun r y => (.p (.bool r), H7) = y) ?_ (fun b30 y31 h32 h33 => ?_)
    · refine Sim.cd (fun hc => ?_) (fun hc => ?_)
      · exact Sim.ret rfl rfl
      · refine Sim.op ((h24.h H7).str) ?_
        refine Sim.op (castS_p _) ?_
        refine Sim.call (limelightref1_Rid_ok (strB r18.1)) fun r25 cs26 H27 h28 q29 => ?_
        cases q29
        refine Sim.op (asB_p _) ?_
        exact Sim.ret rfl rfl
    subst h33
    refine Sim.op (asB_p _) ?_
    refine Sim.cd (fun hc => ?_) (fun hc => ?_)
    · exact Sim.fin (S9.finN (lv_cons (still_str _).lv (lv_cons (still_bool _).lv lv_nil))) rfl
    · refine Sim.op ((h24.h H7).str) ?_
      refine Sim.op (castS_p _) ?_
      exact Sim.fin (S9.finN (lv_cons (still_str _).lv (lv_cons (still_bool _).lv lv_nil))) rfl
end Go.Ev
namespace Go.Ev
theorem cut_same (xs : List Int) (a n : Int) : p_limelightref1_Cut xs a n = p_octet_Cut xs a n := rfl
theorem cut_cases {xs : List Int} {a n : Nat} (hl : xs.length < 2 ^ 39) : (p_octet_Cut xs (a : Int) (n : Int) = some ((xs.drop a).take n, true) ∧ a + n ≤ xs.length) ∨ p_octet_Cut xs (a : Int) (n : Int) = some ([], false) := by
  by_cases h : a + n ≤ xs.length
  · exact .inl ⟨cut_ok h hl, h⟩
  · exact .inr (cut_no (by omega) hl)
theorem read_same {β : Type} (kE0 : List T_api_Elem → Option β) (kE1 : Int → Option β) (p : Int) (hp : p = 48862 ∨ p = 4096) (xs : List Int) (hx : isB xs) (hl : xs.length < 2 ^ 39) : ∀ (k : Nat) (out : List T_api_Elem) (i : Nat), i ≤ xs.length → p_limelightref3_ReadElems_l0 k kE0 kE1 p xs out (i : Int) = p_ext_Read_l0 k kE0 kE1 p xs out (i : Int)
  | 0, _, _, _ => by rw [p_limelightref3_ReadElems_l0, p_ext_Read_l0]
  | k + 1, out, i, hi => by
    have ih := read_same kE0 kE1 p hp xs hx hl k
    rw [p_limelightref3_ReadElems_l0, p_ext_Read_l0]
    by_cases h : i < xs.length
    · have d1 : decide ((i : Int) < (xs.length : Int)) = true := by simp; omega
      obtain ⟨v, hv⟩ : ∃ v, xs[i]? = some v := ⟨xs[i], by simp [h]⟩
      have hvb := hx v (List.mem_of_getElem? hv)
      have hv' := ix_at hv
      have e1 : IntKind.wrap .i64 ((i : Int) + 1) = ((i + 1 : Nat) : Int) := by rw [wrap_i64 (by omega) (by omega)]; rfl
      simp only [d1, cond_true, hv', Option.bind_some]
      cases h0 : (v == 0) with
      | true => simp only [cond_true, e1]; exact ih out (i + 1) (by omega)
      | false =>
        simp only [cond_false]
        have wv : IntKind.wrap .i64 v = v := wrap_i64 (by omega) (by omega)
        rcases hp with rfl | rfl
        · -- one byte's heads
          have hn : ∃ n : Nat, IntKind.wrap .i64 ((IntKind.wrap .i64 (intBits .and .u8 v 15)) + 1) = (n : Int) ∧ n ≤ 16 := by
            have : ∀ a : Fin 256, 0 ≤ intBits .and .u8 (a.1 : Int) 15 ∧ intBits .and .u8 (a.1 : Int) 15 ≤ 15 := by decide +kernel
            have := this ⟨v.toNat, by omega⟩
            simp only [Int.toNat_of_nonneg hvb.1] at this
            generalize intBits .and .u8 v 15 = m at this
            refine ⟨(m + 1).toNat, ?_, by omega⟩
            rw [wrap_i64 (n := m) (by omega) (by omega), wrap_i64 (by omega) (by omega)]
            omega
          obtain ⟨n, hn, hn16⟩ := hn
          have hq : ∃ q, Int.fdiv v (2 ^ 4) = q ∧ IntKind.wrap .i64 q = q := by
            refine ⟨_, rfl, ?_⟩
            rw [Int.fdiv_eq_ediv_of_nonneg _ (by decide)]
            exact wrap_i64 (by omega) (by omega)
          obtain ⟨q, hq, wq⟩ := hq
          unfold p_ext_next
          simp only [show ((48862 : Int) == 48862) = true from rfl, show ((48862 : Int) == 4096) = false from rfl, cond_true, cond_false, hv', Option.bind_some, wv, hn, e1, hq, wq]
          cases h15 : (q == 15) with
          | true =>
            have : (q != 15) = false := by simp [bne, h15]
            simp only [cond_true, Option.bind_some, this]
            cases (q != 0) <;> simp
          | false =>
            have h15' : (q != 15) = true := by simp [bne, h15]
            cases hq0 : (q == 0) with
            | true =>
              have : (q != 0) = false := by simp [bne, hq0]
              simp only [cond_true, cond_false, Option.bind_some, this]
              simp
            | false =>
              have hq0' : (q != 0) = true := by simp [bne, hq0]
              simp only [cond_true, cond_false, Option.bind_some, hq0', h15', Bool.not_true, cut_same]
              rcases cut_cases (xs := xs) (a := i + 1) (n := n) hl with ⟨c, hc⟩ | c
              · rw [c, Option.bind_some, Option.bind_some]
                simp only [Bool.not_true, cond_false]
                congr 1; funext a
                have : IntKind.wrap .i64 (((i + 1 : Nat) : Int) + (n : Int)) = ((i + 1 + n : Nat) : Int) := by rw [wrap_i64 (by omega) (by omega)]; rfl
                rw [this]; exact ih a (i + 1 + n) hc
              · rw [c]; rfl
        · -- two bytes' heads
          unfold p_ext_next
          simp only [show ((4096 : Int) == 48862) = false from rfl, show ((4096 : Int) == 4096) = true from rfl, cond_false, cond_true, Option.bind_some, e1]
          by_cases h2 : i + 1 < xs.length
          · have d2 : decide (((i + 1 : Nat) : Int) ≥ (xs.length : Int)) = false := by simp; omega
            obtain ⟨u, hu⟩ : ∃ u, xs[i + 1]? = some u := ⟨xs[i + 1], by simp [h2]⟩
            have hub := hx u (List.mem_of_getElem? hu)
            have e2 : IntKind.wrap .i64 ((i : Int) + 2) = ((i + 2 : Nat) : Int) := by rw [wrap_i64 (by omega) (by omega)]; rfl
            have wu : IntKind.wrap .i64 u = u := wrap_i64 (by omega) (by omega)
            simp only [d2, cond_false, hv', ix_at hu, Option.bind_some, wu, wv, e2, cut_same, Bool.not_true]
            obtain ⟨n, rfl⟩ : ∃ n : Nat, u = (n : Int) := ⟨u.toNat, by omega⟩
            rcases cut_cases (xs := xs) (a := i + 2) (n := n) hl with ⟨c, hc⟩ | c
            · rw [c, Option.bind_some, Option.bind_some]
              simp only [Bool.not_true, cond_false]
              congr 1; funext a
              have : IntKind.wrap .i64 (((i + 2 : Nat) : Int) + (n : Int)) = ((i + 2 + n : Nat) : Int) := by rw [wrap_i64 (by omega) (by omega)]; rfl
              rw [this]; exact ih a (i + 2 + n) hc
            · rw [c]; rfl
          · have d2 : decide (((i + 1 : Nat) : Int) ≥ (xs.length : Int)) = true := by simp; omega
            simp only [d2, cond_true, hv', Option.bind_some, Bool.not_true, cond_false]
            rw [cut_no (a := i + 1) (n := xs.length) (by omega) hl]
            rfl
    · have d1 : decide ((i : Int) < (xs.length : Int)) = false := by simp; omega
      rw [d1, cond_false, cond_false]
theorem readElems_same (k : Nat) (p : Int) {xs : List Int} (hx : isB xs) (hl : xs.length < 2 ^ 39) : p_limelightref3_ReadElems k p xs = p_ext_Read k p xs := by
  unfold p_limelightref3_ReadElems p_ext_Read
  by_cases h1 : p = 48862
  · subst h1
    simp only [show ((48862 : Int) != 48862) = false from rfl, cond_false, Option.bind_some]
    exact read_same _ _ _ (.inl rfl) xs hx hl k [] 0 (by omega)
  · have : (p != 48862) = true := by simpa using h1
    simp only [this, cond_true, Option.bind_some]
    by_cases h2 : p = 4096
    · subst h2
      simp only [show ((4096 : Int) != 4096) = false from rfl, cond_false]
      exact read_same _ _ _ (.inr rfl) xs hx hl k [] 0 (by omega)
    · have : (p != 4096) = true := by simpa using h2
      simp only [this, cond_true]
def findD (l : List T_api_Elem) (id : Int) : List Int × Bool := match l.find? (fun e => e.ID == id) with | some e => (e.Data, true) | none => ([], false)
theorem findI {β : Type} (kE0 : Unit → Option β) (kE1 : Int → Option β) (l : List T_api_Elem) (hl : l.length < 2 ^ 30) (id : Int) : ∀ (mid pre : List T_api_Elem) (j : Nat), l = pre ++ mid → (∀ x ∈ mid, x.ID ≠ id) →
    p_slices_IndexFunc_Lapi_Elem_api_Elem_ext_Find_1_l0 (j + mid.length + 1) kE0 kE1 l id (l.length : Int) (pre.length : Int) = kE0 ()
  | [], pre, j, h, _ => by
    rw [p_slices_IndexFunc_Lapi_Elem_api_Elem_ext_Find_1_l0]
    have h1 : decide ((pre.length : Int) < (l.length : Int)) = false := by subst h; simp
    rw [h1, cond_false]
  | x :: mid, pre, j, h, hn => by
    rw [List.length_cons, show j + (mid.length + 1) + 1 = (j + mid.length + 1) + 1 from rfl, p_slices_IndexFunc_Lapi_Elem_api_Elem_ext_Find_1_l0]
    have h1 : decide ((pre.length : Int) < (l.length : Int)) = true := by subst h; simp; omega
    have h2 : ix l (pre.length : Int) = some x := ix_mid' h rfl
    have h3 : p_ext_Find_1 x id = some false := by simpa [p_ext_Find_1] using hn x (List.mem_cons_self ..)
    have h4 : IntKind.wrap .i64 ((pre.length : Int) + 1) = (((pre ++ [x]).length : Nat) : Int) := by
      rw [wrap_i64 (by omega) (by have : pre.length ≤ l.length := by subst h; simp
                                  omega)]
      simp
    rw [h1, cond_true, h2, Option.bind_some, h3, Option.bind_some, cond_false, h4, findI kE0 kE1 l hl id mid (pre ++ [x]) j (by rw [h]; simp) fun y hy => hn y (List.mem_cons_of_mem _ hy)]
theorem find_eq {l : List T_api_Elem} {id : Int} {k : Nat} (hl : l.length < k) (hk : l.length < 2 ^ 30) (hd : ∀ e ∈ l, e.Data.length < 2 ^ 40) : p_ext_Find k l id = some (findD l id) := by
  unfold findD
  cases hf : l.find? (fun e => e.ID == id) with
  | some e =>
    obtain ⟨h1, pre, suf, h2, h3⟩ := List.find?_eq_some_iff_append.1 hf
    have hm : e ∈ l := by rw [h2]; simp
    unfold p_ext_Find p_slices_IndexFunc_Lapi_Elem_api_Elem_ext_Find_1
    have hlen : pre.length < l.length := by subst h2; simp
    have := fun kE0 (kE1 : Int → Option Int) => find_l0 kE0 kE1 l hk id e suf (by simpa using h1) pre [] (k - pre.length - 1) (by simpa using h2) (fun x hx => by simpa using h3 x hx)
    simp only [show k - pre.length - 1 + pre.length + 1 = k by omega, List.length_nil] at this
    rw [show ((0 : Nat) : Int) = 0 from rfl] at this
    rw [this, Option.bind_some, Nat.zero_add]
    have h0 : decide (((pre.length : Nat) : Int) < 0) = false := by simp
    rw [h0, cond_false, ix_mid' h2 rfl, Option.bind_some, clone_eq (by decide) (hd e hm)]
    rfl
  | none =>
    have hn : ∀ x ∈ l, x.ID ≠ id := fun x hx => by simpa using List.find?_eq_none.1 hf x hx
    unfold p_ext_Find p_slices_IndexFunc_Lapi_Elem_api_Elem_ext_Find_1
    have := fun kE0 (kE1 : Int → Option Int) => findI kE0 kE1 l hk id l [] (k - l.length - 1) rfl hn
    simp only [show k - l.length - 1 + l.length + 1 = k by omega, List.length_nil] at this
    rw [show ((0 : Nat) : Int) = 0 from rfl] at this
    rw [this, Option.bind_some]
    rfl
theorem rfind_l0 {β : Type} (kE0 : Unit → Option β) (kE1 : List Int → Bool → Option β) (l : List T_api_Elem) (hl : l.length < 2 ^ 30) (hd : ∀ e ∈ l, e.Data.length < 2 ^ 40) (id : Int) : ∀ (rest pre : List T_api_Elem) (j : Nat), l = pre ++ rest →
    p_limelightref3_Find_l0 (j + rest.length + 1) kE0 kE1 id l (l.length : Int) (pre.length : Int) = match rest.find? (fun e => e.ID == id) with | some e => kE1 e.Data true | none => kE0 ()
  | [], pre, j, h => by
    rw [p_limelightref3_Find_l0]
    have h1 : decide ((pre.length : Int) < (l.length : Int)) = false := by subst h; simp
    rw [h1, cond_false]; rfl
  | x :: rest, pre, j, h => by
    rw [List.length_cons, show j + (rest.length + 1) + 1 = (j + rest.length + 1) + 1 from rfl, p_limelightref3_Find_l0]
    have h1 : decide ((pre.length : Int) < (l.length : Int)) = true := by subst h; simp; omega
    have h2 : ix l (pre.length : Int) = some x := ix_mid' h rfl
    have h4 : IntKind.wrap .i64 ((pre.length : Int) + 1) = (((pre ++ [x]).length : Nat) : Int) := by
      rw [wrap_i64 (by omega) (by have : pre.length ≤ l.length := by subst h; simp
                                  omega)]
      simp
    have hm : x ∈ l := by rw [h]; simp
    rw [h1, cond_true, h2, Option.bind_some]
    rw [List.find?_cons]
    cases hc : (x.ID == id) with
    | true =>
      have := hd x hm
      rw [cond_true, ap_eq (by decide) (by simpa using this)]; rfl
    | false => rw [cond_false, h4, rfind_l0 kE0 kE1 l hl hd id rest (pre ++ [x]) j (by rw [h]; simp)]
theorem rfind_eq {l : List T_api_Elem} {id : Int} {k : Nat} (hl : l.length < k) (hk : l.length < 2 ^ 30) (hd : ∀ e ∈ l, e.Data.length < 2 ^ 40) : p_limelightref3_Find k l id = some (findD l id) := by
  unfold p_limelightref3_Find findD
  have := fun kE0 (kE1 : List Int → Bool → Option (List Int × Bool)) => rfind_l0 kE0 kE1 l hk hd id l [] (k - l.length - 1) rfl
  simp only [show k - l.length - 1 + l.length + 1 = k by omega, List.length_nil] at this
  rw [show ((0 : Nat) : Int) = 0 from rfl] at this
  rw [this]
  cases l.find? (fun e => e.ID == id) <;> rfl
end Go.Ev
/- Equations, printed by tracer2.py. -/
namespace Go.Ev
open Go.Proofs
set_option linter.unusedVariables false
set_option maxRecDepth 100000
-- 16 (*limelight/limelightkeep.Tape).Elems
noncomputable def limelightkeep_Tape_Elems_c0 : Code := (codeAt (bodyOf Try.f16) [1, 1, 0, 1, 0, 0])
def limelightkeep_Tape_Elems_l0 : Lv := ⟨32, 16, [(0, 32)]⟩
noncomputable def limelightkeep_Tape_Elems_k0 (rec : CallF) (loop : LoopV) (σ : Stamp) : Exit → Env → H → Option (List C × H) := (kBlock 0 (kSeq G rec loop (codeAt (bodyOf Try.f16) [1, 1, 1]) ⟨16, 16, []⟩ (1 :: 1 :: 0 :: σ) (finC G false Try.f16 (1 :: σ))))
theorem limelightkeep_Tape_Elems_entry (rec : CallF) (loop : LoopV) (σ : Stamp) (x0 : V) (x1 : Bool) (h : H) : cvBody G rec loop 16 σ [x0, (.p (.bool x1))] h =
 (callO rec 51 (1 :: 0 :: 0 :: 1 :: 1 :: 0 :: σ) [x0, (.p (.int .i64 4))] (List.replicate 42 [] :: h) (some 9)).bind fun q1 =>
 (castI .i64 q1.1).bind fun n2 =>
 (loop limelightkeep_Tape_Elems_c0 limelightkeep_Tape_Elems_l0 (1 :: 0 :: 1 :: 1 :: 0 :: σ) (envL [(0, x0), (1, (.p (.bool x1))), (5, (.p (.slice .none 0 0))), (6, (.p (.int .i64 n2)))]) q1.2).bind fun r3 => limelightkeep_Tape_Elems_k0 rec loop σ r3.1 r3.2.1 r3.2.2 := by kernel_rfl
theorem limelightkeep_Tape_Elems_r0 (rec : CallF) (loop : LoopV) (σ : Stamp) (x0 : V) (x1 : Bool) (x5 : V) (x6 : Int) (h : H) : cvRound G rec loop limelightkeep_Tape_Elems_c0 limelightkeep_Tape_Elems_l0 σ (envL [(0, x0), (1, (.p (.bool x1))), (5, x5), (6, (.p (.int .i64 x6)))]) h =
 bif decide (x6 > 0) then (
 (callO rec 51 (1 :: 0 :: 0 :: 1 :: 0 :: σ) [x0, (.p (.int .i64 14))] h (some 15)).bind fun q4 =>
 (castI .i64 q4.1).bind fun n5 =>
 (callO rec 51 (4 :: 0 :: 0 :: 1 :: 0 :: σ) [x0, (.p (.int .i64 256))] q4.2 (some 18)).bind fun q6 =>
 (castI .i64 q6.1).bind fun n7 =>
 (buildSliceV Try.prog 32 1 [(0, (.p (.int .u8 (IntKind.wrap .u8 n7))))]).bind fun t8 =>
 (callO rec 52 (8 :: 0 :: 0 :: 1 :: 0 :: σ) [x0, (.p (.int .i64 9))] q6.2 (some 22)).bind fun q9 =>
 (apO true 1 1 (9 :: 0 :: 0 :: 1 :: 0 :: σ) 23 q9.2 t8 q9.1).bind fun q10 =>
 (buildV Try.prog 38 [(0, (.p (.int .i64 (IntKind.wrap .i64 (1 + n5))))), (1, q10.1)]).bind fun t11 =>
 (some (alO [.p (.int .i64 0), .p (.slice none 0 0)] (11 :: 0 :: 0 :: 1 :: 0 :: σ) 7 q10.2)).bind fun q12 =>
 ((stO false 2 (12 :: 0 :: 0 :: 1 :: 0 :: σ) q12.2 q12.1 t11).map fun h => (udf, h)).bind fun q13 =>
 (bif x1 then ((callO rec 51 (3 :: 0 :: 0 :: 1 :: 0 :: 1 :: 0 :: σ) [x0, (.p (.int .i64 3))] q13.2 (some 28)).bind fun q14 =>
 (castI .i64 q14.1).bind fun n15 =>
 some ((.p (.bool (n15 == 0))), q14.2)) else (some ((.p (.bool false)), q13.2))).bind fun q16 =>
 (asB q16.1).bind fun b17 =>
 bif b17 then (
 (callO rec 51 (1 :: 1 :: 0 :: 1 :: 0 :: 1 :: 0 :: σ) [x0, (.p (.int .i64 255))] q16.2 (some 32)).bind fun q18 =>
 (castI .i64 q18.1).bind fun n19 =>
 (callO rec 52 (4 :: 1 :: 0 :: 1 :: 0 :: 1 :: 0 :: σ) [x0, (.p (.int .i64 20))] q18.2 (some 35)).bind fun q20 =>
 (buildV Try.prog 38 [(0, (.p (.int .i64 (IntKind.wrap .i64 (1 + n19))))), (1, q20.1)]).bind fun t21 =>
 ((stO false 2 (6 :: 1 :: 0 :: 1 :: 0 :: 1 :: 0 :: σ) q20.2 q12.1 t21).map fun h => (udf, h)).bind fun q22 =>
 (ldO true 2 q22.2 q12.1).bind fun t23 =>
 (buildSliceV Try.prog 27 1 [(0, t23)]).bind fun t24 =>
 (apO false 2 32 (3 :: 1 :: 1 :: 0 :: 1 :: 0 :: σ) 40 q22.2 x5 t24).bind fun q25 =>
 loop limelightkeep_Tape_Elems_c0 limelightkeep_Tape_Elems_l0 (1 :: σ) (envL [(0, x0), (1, (.p (.bool x1))), (5, q25.1), (6, (.p (.int .i64 (IntKind.wrap .i64 (x6 - 1)))))]) q25.2)
 else (
 (ldO true 2 q16.2 q12.1).bind fun t26 =>
 (buildSliceV Try.prog 27 1 [(0, t26)]).bind fun t27 =>
 (apO false 2 32 (3 :: 1 :: 1 :: 0 :: 1 :: 0 :: σ) 40 q16.2 x5 t27).bind fun q28 =>
 loop limelightkeep_Tape_Elems_c0 limelightkeep_Tape_Elems_l0 (1 :: σ) (envL [(0, x0), (1, (.p (.bool x1))), (5, q28.1), (6, (.p (.int .i64 (IntKind.wrap .i64 (x6 - 1)))))]) q28.2))
 else (
 some ((.exit 0), (envL [(5, x5)]), h)) := by kernel_rfl
theorem limelightkeep_Tape_Elems_a0_0 (rec : CallF) (loop : LoopV) (σ : Stamp) (x5 : V) (h : H) : limelightkeep_Tape_Elems_k0 rec loop σ (.exit 0) (envL [(5, x5)]) h =
 fin false σ h [x5] := by kernel_rfl
end Go.Ev
/- Equations, printed by tracer2.py. -/
namespace Go.Ev
open Go.Proofs
set_option linter.unusedVariables false
set_option maxRecDepth 100000
-- 52 (*limelight/limelightkeep.Tape).Bytes
noncomputable def limelightkeep_Tape_Bytes_c0 : Code := (codeAt (bodyOf Try.f52) [1, 1, 0, 1, 0, 0])
def limelightkeep_Tape_Bytes_l0 : Lv := ⟨32, 16, [(0, 32)]⟩
noncomputable def limelightkeep_Tape_Bytes_k0 (rec : CallF) (loop : LoopV) (σ : Stamp) : Exit → Env → H → Option (List C × H) := (kBlock 0 (kSeq G rec loop (codeAt (bodyOf Try.f52) [1, 1, 1]) ⟨16, 16, []⟩ (1 :: 1 :: 0 :: σ) (finC G false Try.f52 (1 :: σ))))
theorem limelightkeep_Tape_Bytes_entry (rec : CallF) (loop : LoopV) (σ : Stamp) (x0 : V) (x1 : Int) (h : H) : cvBody G rec loop 52 σ [x0, (.p (.int .i64 x1))] h =
 (callO rec 51 (3 :: 0 :: 0 :: 1 :: 1 :: 0 :: σ) [x0, (.p (.int .i64 (IntKind.wrap .i64 (x1 + 1))))] (List.replicate 22 [] :: h) (some 10)).bind fun q1 =>
 (castI .i64 q1.1).bind fun n2 =>
 (loop limelightkeep_Tape_Bytes_c0 limelightkeep_Tape_Bytes_l0 (1 :: 0 :: 1 :: 1 :: 0 :: σ) (envL [(0, x0), (5, (.p (.slice .none 0 0))), (6, (.p (.int .i64 n2)))]) q1.2).bind fun r3 => limelightkeep_Tape_Bytes_k0 rec loop σ r3.1 r3.2.1 r3.2.2 := by kernel_rfl
theorem limelightkeep_Tape_Bytes_r0 (rec : CallF) (loop : LoopV) (σ : Stamp) (x0 : V) (x5 : V) (x6 : Int) (h : H) : cvRound G rec loop limelightkeep_Tape_Bytes_c0 limelightkeep_Tape_Bytes_l0 σ (envL [(0, x0), (5, x5), (6, (.p (.int .i64 x6)))]) h =
 bif decide (x6 > 0) then (
 (callO rec 51 (2 :: 0 :: 1 :: 0 :: σ) [x0, (.p (.int .i64 256))] h (some 17)).bind fun q4 =>
 (castI .i64 q4.1).bind fun n5 =>
 (buildSliceV Try.prog 32 1 [(0, (.p (.int .u8 (IntKind.wrap .u8 n5))))]).bind fun t6 =>
 (apO true 1 1 (5 :: 0 :: 1 :: 0 :: σ) 20 q4.2 x5 t6).bind fun q7 =>
 loop limelightkeep_Tape_Bytes_c0 limelightkeep_Tape_Bytes_l0 (1 :: σ) (envL [(0, x0), (5, q7.1), (6, (.p (.int .i64 (IntKind.wrap .i64 (x6 - 1)))))]) q7.2)
 else (
 some ((.exit 0), (envL [(5, x5)]), h)) := by kernel_rfl
theorem limelightkeep_Tape_Bytes_a0_0 (rec : CallF) (loop : LoopV) (σ : Stamp) (x5 : V) (h : H) : limelightkeep_Tape_Bytes_k0 rec loop σ (.exit 0) (envL [(5, x5)]) h =
 fin false σ h [x5] := by kernel_rfl
end Go.Ev
/- Lifted by lift.py: limelightkeep_Tape_Bytes as a plain function. -/
namespace Go.Ev
open Go.Proofs
set_option linter.unusedVariables false
set_option linter.unusedSimpArgs false
set_option maxRecDepth 100000
def p_limelightkeep_Tape_Bytes_l0 {β : Type} (k : Nat) (kE0 : (List Int) → T_limelightkeep_Tape → Option β) (x5 : (List Int)) (x6 : Int) (zp0 : T_limelightkeep_Tape) : Option β := match k with
| 0 => none
| k + 1 =>
bif decide (x6 > 0) then (
(p_limelightkeep_Tape_Next (⟨zp0.f_L, zp0.f_At⟩ : T_limelightkeep_Tape) 256).bind fun r17 =>
(ap 1 x5 ([(IntKind.wrap .u8 r17.1)])).bind fun a26 =>
p_limelightkeep_Tape_Bytes_l0 k kE0 a26 (IntKind.wrap .i64 (x6 - 1)) ((⟨r17.2.f_L, r17.2.f_At⟩ : T_limelightkeep_Tape)))
else (
kE0 x5 ((⟨zp0.f_L, zp0.f_At⟩ : T_limelightkeep_Tape)))
def p_limelightkeep_Tape_Bytes (k : Nat) (x0 : T_limelightkeep_Tape) (x1 : Int) : Option ((List Int) × T_limelightkeep_Tape) :=
(p_limelightkeep_Tape_Next (⟨x0.f_L, x0.f_At⟩ : T_limelightkeep_Tape) (IntKind.wrap .i64 (x1 + 1))).bind fun r1 =>
p_limelightkeep_Tape_Bytes_l0 k (fun r40_5 zp0 =>
some (r40_5, (⟨zp0.f_L, zp0.f_At⟩ : T_limelightkeep_Tape))) (([] : List Int)) r1.1 ((⟨r1.2.f_L, r1.2.f_At⟩ : T_limelightkeep_Tape))
theorem limelightkeep_Tape_Bytes_l0_ok {h : H} {l0 : Loc} {o0 : Nat} {β α : Type} {Q : β → α → Prop} {K : Exit × Env × H → Option α} {kE0 : (List Int) → T_limelightkeep_Tape → Option β} (hE0 : ∀ (q5 : (List Int)) (zp0 : T_limelightkeep_Tape) (v34 : V) (v36 : V) (h37 : SlF (dI .i64) zp0.f_L v36) (H32 : Go.Ev.H) (_ : Fm 22 h [⟨l0, o0, List.map C.v [v36, (.p (.int .i64 zp0.f_At))]⟩] [] [⟨[20], v34, (dI .u8), q5⟩] H32), Sim (kE0 q5 zp0) (K ((.exit 0), (envL [(5, v34)]), H32)) Q) (k : Nat) : ∀ (x5 : (List Int)) (x6 : Int) (zp0 : T_limelightkeep_Tape) (v13 : V) (v15 : V) (h16 : SlF (dI .i64) zp0.f_L v15) (H11 : Go.Ev.H) (_ : Fm 22 h [⟨l0, o0, List.map C.v [v15, (.p (.int .i64 zp0.f_At))]⟩] [] [⟨[20], v13, (dI .u8), x5⟩] H11) {σ : Stamp}, Sim (p_limelightkeep_Tape_Bytes_l0 k kE0 x5 x6 zp0) ((cvL G X0 limelightkeep_Tape_Bytes_c0 limelightkeep_Tape_Bytes_l0 σ (envL [(0, (.ref l0 o0)), (5, v13), (6, (.p (.int .i64 x6)))]) H11).bind K) Q := by
  induction k with
  | zero => intros; exact Sim.no
  | succ k ih =>
    intro x5 x6 zp0 v13 v15 h16 H11 S12 σ
    rw [p_limelightkeep_Tape_Bytes_l0]
    refine Sim.round (Sim.ext (limelightkeep_Tape_Bytes_r0 _ _ _ _ _ _ _) ?_)
    refine Sim.cd (fun hc => ?_) (fun hc => ?_)
    · refine Sim.call (limelightkeep_Tape_Next_ok (⟨zp0.f_L, zp0.f_At⟩ : T_limelightkeep_Tape) h16 (S12.atB (i := 0) rfl) 256) fun r17 cs18 H19 h20 q21 => ?_
      obtain ⟨v22, h23, q21⟩ := q21
      cases q21
      have S24 := S12.setB (i := 0) (cs := List.map C.v [v22, (.p (.int .i64 r17.2.f_At))]) rfl rfl
      refine Sim.op (castI_p _ _) ?_
      have h25 : SlF (dI .u8) [(IntKind.wrap .u8 r17.1)] (.fz [(.p (.int .u8 (IntKind.wrap .u8 r17.1)))] 1 1 true) := SlF.lit (cs := [(.p (.int .u8 (IntKind.wrap .u8 r17.1)))]) (RL.cons (show (dI .u8).R (IntKind.wrap .u8 r17.1) [(.p (.int .u8 (IntKind.wrap .u8 r17.1)))] from rfl) RL.nil) rfl rfl true
      refine Sim.op (bldS (pt_cons rfl pt_nil) (by kernel_rfl : _ = some (.fz [(.p (.int .u8 (IntKind.wrap .u8 r17.1)))] 1 1 true))) ?_
      refine Sim.bd fun a26 h27 => ?_
      obtain ⟨v28, H29, e30, S31⟩ := S24.app (i := 0) (d := 20) (e := 1) (own := true) (σ := (5 :: 0 :: 1 :: 0 :: σ)) rfl (h25.h (ptC H11 l0 o0 (List.map C.v [v22, (.p (.int .i64 r17.2.f_At))]))).y h27 rfl (by decide) (by decide) rfl
      refine Sim.op (e30) ?_
      exact ih a26 (IntKind.wrap .i64 (x6 - 1)) ((⟨r17.2.f_L, r17.2.f_At⟩ : T_limelightkeep_Tape)) v28 v22 h23 H29 (S31.wk2 all_nil (all_cons ⟨[20, 20], by simp, at_mem 0 rfl⟩ all_nil))
    · exact hE0 x5 ((⟨zp0.f_L, zp0.f_At⟩ : T_limelightkeep_Tape)) v13 v15 h16 H11 (S12.wk2 all_nil (all_cons ⟨[20], by simp, at_mem 0 rfl⟩ all_nil))
theorem limelightkeep_Tape_Bytes_ok (k : Nat) {h : H} {σ : Stamp} (x0 : T_limelightkeep_Tape) {u0_0 : V} (hu0_0 : SlF (dI .i64) x0.f_L u0_0) {l0 : Loc} {o0 : Nat} (ha0 : AtC h l0 o0 (List.map C.v [u0_0, (.p (.int .i64 x0.f_At))])) (x1 : Int) : Sim (p_limelightkeep_Tape_Bytes k x0 x1) (ev G X0 52 σ [(.ref l0 o0), (.p (.int .i64 x1))] h) (fun r s => ∃ (c0 : C), ∃ (a0 : List V), ∃ (vb0_0 : V), OwnS c0 (dI .u8).sz r.1.length a0 ∧ (dI .u8).L r.1 a0 ∧ SlF (dI .i64) r.2.f_L vb0_0 ∧ s = ([c0], pts h [⟨l0, o0, [.v vb0_0, .v (.p (.int .i64 r.2.f_At))]⟩])) := by
  refine Sim.ev rfl (Sim.ext (limelightkeep_Tape_Bytes_entry _ _ _ _ _ _) ?_)
  rw [p_limelightkeep_Tape_Bytes]
  have S0 : Fm 22 h [⟨l0, o0, List.map C.v [u0_0, (.p (.int .i64 x0.f_At))]⟩] [] [] (List.replicate 22 [] :: h) := Fm.start1 ha0
  refine Sim.call (limelightkeep_Tape_Next_ok (⟨x0.f_L, x0.f_At⟩ : T_limelightkeep_Tape) hu0_0 (S0.atB (i := 0) rfl) (IntKind.wrap .i64 (x1 + 1))) fun r1 cs2 H3 h4 q5 => ?_
  obtain ⟨v6, h7, q5⟩ := q5
  cases q5
  have S8 := S0.setB (i := 0) (cs := List.map C.v [v6, (.p (.int .i64 r1.2.f_At))]) rfl rfl
  refine Sim.op (castI_p _ _) ?_
  have S39 := S8.nil (dI .u8) []
  refine Sim.as (limelightkeep_Tape_Bytes_l0_ok ?_ k (([] : List Int)) r1.1 ((⟨r1.2.f_L, r1.2.f_At⟩ : T_limelightkeep_Tape)) (.p (.slice none 0 0)) v6 h7 (ptC (List.replicate 22 [] :: h) l0 o0 (List.map C.v [v6, (.p (.int .i64 r1.2.f_At))])) (S39.wk2 all_nil (all_cons ⟨[], by simp, at_mem 0 rfl⟩ all_nil))) 
  · intro r40_5 zp0 v43 v45 h46 H41 S42
    refine Sim.ext (limelightkeep_Tape_Bytes_a0_0 _ _ _ _ _) ?_
    obtain ⟨c52, cs53, H47, e48, h50, h51, S49⟩ := S42.expOwn (i := 0) (τ := 0 :: 1 :: σ) rfl rfl rfl
    exact Sim.fin (S49.finE (Ex.st e48 Ex.nil)) ⟨c52, cs53, v45, h50, h51, h46, rfl⟩
end Go.Ev
/- Lifted by lift.py: limelightkeep_Tape_Elems as a plain function. -/
namespace Go.Ev
open Go.Proofs
set_option linter.unusedVariables false
set_option linter.unusedSimpArgs false
set_option maxRecDepth 100000
def p_limelightkeep_Tape_Elems_l0 {β : Type} (k : Nat) (kE0 : (List T_api_Elem) → T_limelightkeep_Tape → Option β) (x1 : Bool) (x5 : (List T_api_Elem)) (x6 : Int) (zp0 : T_limelightkeep_Tape) : Option β := match k with
| 0 => none
| k + 1 =>
bif decide (x6 > 0) then (
(p_limelightkeep_Tape_Next (⟨zp0.f_L, zp0.f_At⟩ : T_limelightkeep_Tape) 14).bind fun r17 =>
(p_limelightkeep_Tape_Next (⟨r17.2.f_L, r17.2.f_At⟩ : T_limelightkeep_Tape) 256).bind fun r25 =>
(p_limelightkeep_Tape_Bytes k (⟨r25.2.f_L, r25.2.f_At⟩ : T_limelightkeep_Tape) 9).bind fun r34 =>
(ap 1 ([(IntKind.wrap .u8 r25.1)]) r34.1).bind fun a53 =>
bif x1 then ((p_limelightkeep_Tape_Next (⟨r34.2.f_L, r34.2.f_At⟩ : T_limelightkeep_Tape) 3).bind fun r78 =>
bif r78.1 == 0 then (
(p_limelightkeep_Tape_Next (⟨r78.2.f_L, r78.2.f_At⟩ : T_limelightkeep_Tape) 255).bind fun r86 =>
(p_limelightkeep_Tape_Bytes k (⟨r86.2.f_L, r86.2.f_At⟩ : T_limelightkeep_Tape) 20).bind fun r94 =>
(ap 32 x5 ([((⟨(IntKind.wrap .i64 (1 + r86.1)), r94.1⟩ : T_api_Elem))])).bind fun a121 =>
p_limelightkeep_Tape_Elems_l0 k kE0 x1 a121 (IntKind.wrap .i64 (x6 - 1)) ((⟨r94.2.f_L, r94.2.f_At⟩ : T_limelightkeep_Tape)))
else (
(ap 32 x5 ([((⟨(IntKind.wrap .i64 (1 + r17.1)), a53⟩ : T_api_Elem))])).bind fun a128 =>
p_limelightkeep_Tape_Elems_l0 k kE0 x1 a128 (IntKind.wrap .i64 (x6 - 1)) ((⟨r78.2.f_L, r78.2.f_At⟩ : T_limelightkeep_Tape)))) else (bif false then (
(p_limelightkeep_Tape_Next (⟨r34.2.f_L, r34.2.f_At⟩ : T_limelightkeep_Tape) 255).bind fun r134 =>
(p_limelightkeep_Tape_Bytes k (⟨r134.2.f_L, r134.2.f_At⟩ : T_limelightkeep_Tape) 20).bind fun r142 =>
(ap 32 x5 ([((⟨(IntKind.wrap .i64 (1 + r134.1)), r142.1⟩ : T_api_Elem))])).bind fun a169 =>
p_limelightkeep_Tape_Elems_l0 k kE0 x1 a169 (IntKind.wrap .i64 (x6 - 1)) ((⟨r142.2.f_L, r142.2.f_At⟩ : T_limelightkeep_Tape)))
else (
(ap 32 x5 ([((⟨(IntKind.wrap .i64 (1 + r17.1)), a53⟩ : T_api_Elem))])).bind fun a176 =>
p_limelightkeep_Tape_Elems_l0 k kE0 x1 a176 (IntKind.wrap .i64 (x6 - 1)) ((⟨r34.2.f_L, r34.2.f_At⟩ : T_limelightkeep_Tape)))))
else (
kE0 x5 ((⟨zp0.f_L, zp0.f_At⟩ : T_limelightkeep_Tape)))
def p_limelightkeep_Tape_Elems (k : Nat) (x0 : T_limelightkeep_Tape) (x1 : Bool) : Option ((List T_api_Elem) × T_limelightkeep_Tape) :=
(p_limelightkeep_Tape_Next (⟨x0.f_L, x0.f_At⟩ : T_limelightkeep_Tape) 4).bind fun r1 =>
p_limelightkeep_Tape_Elems_l0 k (fun r190_5 zp0 =>
some (r190_5, (⟨zp0.f_L, zp0.f_At⟩ : T_limelightkeep_Tape))) x1 (([] : List T_api_Elem)) r1.1 ((⟨r1.2.f_L, r1.2.f_At⟩ : T_limelightkeep_Tape))
theorem limelightkeep_Tape_Elems_l0_ok {h : H} {l0 : Loc} {o0 : Nat} {β α : Type} {Q : β → α → Prop} {K : Exit × Env × H → Option α} {kE0 : (List T_api_Elem) → T_limelightkeep_Tape → Option β} (hE0 : ∀ (q5 : (List T_api_Elem)) (zp0 : T_limelightkeep_Tape) (v184 : V) (v186 : V) (h187 : SlF (dI .i64) zp0.f_L v186) (H182 : Go.Ev.H) (_ : Fm 42 h [⟨l0, o0, List.map C.v [v186, (.p (.int .i64 zp0.f_At))]⟩] [] [⟨[40], v184, dT_api_Elem, q5⟩] H182), Sim (kE0 q5 zp0) (K ((.exit 0), (envL [(5, v184)]), H182)) Q) (k : Nat) : ∀ (x1 : Bool) (x5 : (List T_api_Elem)) (x6 : Int) (zp0 : T_limelightkeep_Tape) (v13 : V) (v15 : V) (h16 : SlF (dI .i64) zp0.f_L v15) (H11 : Go.Ev.H) (_ : Fm 42 h [⟨l0, o0, List.map C.v [v15, (.p (.int .i64 zp0.f_At))]⟩] [] [⟨[40], v13, dT_api_Elem, x5⟩] H11) {σ : Stamp}, Sim (p_limelightkeep_Tape_Elems_l0 k kE0 x1 x5 x6 zp0) ((cvL G X0 limelightkeep_Tape_Elems_c0 limelightkeep_Tape_Elems_l0 σ (envL [(0, (.ref l0 o0)), (1, (.p (.bool x1))), (5, v13), (6, (.p (.int .i64 x6)))]) H11).bind K) Q := by
  induction k with
  | zero => intros; exact Sim.no
  | succ k ih =>
    intro x1 x5 x6 zp0 v13 v15 h16 H11 S12 σ
    rw [p_limelightkeep_Tape_Elems_l0]
    refine Sim.round (Sim.ext (limelightkeep_Tape_Elems_r0 _ _ _ _ _ _ _ _) ?_)
    refine Sim.cd (fun hc => ?_) (fun hc => ?_)
    · refine Sim.call (limelightkeep_Tape_Next_ok (⟨zp0.f_L, zp0.f_At⟩ : T_limelightkeep_Tape) h16 (S12.atB (i := 0) rfl) 14) fun r17 cs18 H19 h20 q21 => ?_
      obtain ⟨v22, h23, q21⟩ := q21
      cases q21
      have S24 := S12.setB (i := 0) (cs := List.map C.v [v22, (.p (.int .i64 r17.2.f_At))]) rfl rfl
      refine Sim.op (castI_p _ _) ?_
      refine Sim.call (limelightkeep_Tape_Next_ok (⟨r17.2.f_L, r17.2.f_At⟩ : T_limelightkeep_Tape) h23 (S24.atB (i := 0) rfl) 256) fun r25 cs26 H27 h28 q29 => ?_
      obtain ⟨v30, h31, q29⟩ := q29
      cases q29
      have S32 := S24.setB (i := 0) (cs := List.map C.v [v30, (.p (.int .i64 r25.2.f_At))]) rfl rfl
      refine Sim.op (castI_p _ _) ?_
      have h33 : SlF (dI .u8) [(IntKind.wrap .u8 r25.1)] (.fz [(.p (.int .u8 (IntKind.wrap .u8 r25.1)))] 1 1 true) := SlF.lit (cs := [(.p (.int .u8 (IntKind.wrap .u8 r25.1)))]) (RL.cons (show (dI .u8).R (IntKind.wrap .u8 r25.1) [(.p (.int .u8 (IntKind.wrap .u8 r25.1)))] from rfl) RL.nil) rfl rfl true
      refine Sim.op (bldS (pt_cons rfl pt_nil) (by kernel_rfl : _ = some (.fz [(.p (.int .u8 (IntKind.wrap .u8 r25.1)))] 1 1 true))) ?_
      refine Sim.call (limelightkeep_Tape_Bytes_ok k (⟨r25.2.f_L, r25.2.f_At⟩ : T_limelightkeep_Tape) h31 (S32.atB (i := 0) rfl) 9) fun r34 cs35 H36 h37 q38 => ?_
      obtain ⟨c39, cs40, v43, h41, h42, h44, q38⟩ := q38
      cases q38
      have S45 := S32.setB (i := 0) (cs := List.map C.v [v43, (.p (.int .i64 r34.2.f_At))]) rfl rfl
      obtain ⟨v46, H47, e48, S49⟩ := S45.land (dt := (dI .u8)) (d := 22) (e := 0) (n := 0) h41 h42 (by decide) rfl
      erw [e48]
      have S52 := S49.lit (d := (dI .u8)) (xs := [(IntKind.wrap .u8 r25.1)]) (cs := [(.p (.int .u8 (IntKind.wrap .u8 r25.1)))]) (n := 1) (e := 1) (m := 1000001) (RL.cons (show (dI .u8).R (IntKind.wrap .u8 r25.1) [(.p (.int .u8 (IntKind.wrap .u8 r25.1)))] from rfl) RL.nil) rfl rfl (by decide)
      refine Sim.bd fun a53 h54 => ?_
      obtain ⟨v55, H56, e57, S58⟩ := S52.app (i := 0) (d := 23) (e := 1) (own := true) (σ := (9 :: 0 :: 0 :: 1 :: 0 :: σ)) rfl (S52.sl (i := 1) rfl).y h54 rfl (by decide) (by decide) rfl
      refine Sim.op (e57) ?_
      obtain ⟨v59, H60, e61, h62, S63⟩ := S58.layD (i := 0) rfl rfl
      have e64 : layCs false H56 [(.p (.int .i64 (IntKind.wrap .i64 (1 + r17.1)))), v55] = some (List.map C.v [.p (.int .i64 (IntKind.wrap .i64 (1 + r17.1))), v59], H60) := (lc_pl (still_int _ _) (lc_st e61 lc_nil))
      refine Sim.op (bldV (pt_cons rfl (pt_cons (S58.cellsD (i := 0) rfl) pt_nil)) (by kernel_rfl : _ = some (.agg [(.p (.int .i64 (IntKind.wrap .i64 (1 + r17.1)))), v55]))) ?_
      obtain ⟨H65, e66, S67⟩ := S58.al (d := 7) (s := (11 :: 0 :: 0 :: 1 :: 0 :: σ)) (z := [(.p (.int .i64 0)), (.p (.slice none 0 0))]) (by decide) rfl
      refine Sim.op (congrArg some e66) ?_
      obtain ⟨v72, H73, e74, h75, S76⟩ := S67.layD (i := 0) rfl rfl
      have e77 : layCs false H65 [(.p (.int .i64 (IntKind.wrap .i64 (1 + r17.1)))), v55] = some (List.map C.v [.p (.int .i64 (IntKind.wrap .i64 (1 + r17.1))), v72], H73) := (lc_pl (still_int _ _) (lc_st e74 lc_nil))
      obtain ⟨H69, e70, S71⟩ := Fm.stFrz (S0 := S67) (i0 := 0) (i := 0) (j := 0) (n := 2) (σ := (12 :: 0 :: 0 :: 1 :: 0 :: σ)) S76 rfl e77 rfl rfl (show List.length [(.p (.int .i64 (IntKind.wrap .i64 (1 + r17.1)))), v55] = List.length [.p (.int .i64 (IntKind.wrap .i64 (1 + r17.1))), v72] from rfl) rfl rfl
      refine Sim.op (st_map e70) ?_
      refine Sim.cdk (fun hc => ?_) (fun hc => ?_)
      · refine Sim.as ?_
        refine Sim.call (limelightkeep_Tape_Next_ok (⟨r34.2.f_L, r34.2.f_At⟩ : T_limelightkeep_Tape) h44 (S71.atB (i := 0) rfl) 3) fun r78 cs79 H80 h81 q82 => ?_
        obtain ⟨v83, h84, q82⟩ := q82
        cases q82
        have S85 := S71.setB (i := 0) (cs := List.map C.v [v83, (.p (.int .i64 r78.2.f_At))]) rfl rfl
        refine Sim.op (castI_p _ _) ?_
        refine Sim.pure ?_
        refine Sim.op (asB_p _) ?_
        refine Sim.cd (fun hc => ?_) (fun hc => ?_)
        · refine Sim.call (limelightkeep_Tape_Next_ok (⟨r78.2.f_L, r78.2.f_At⟩ : T_limelightkeep_Tape) h84 (S85.atB (i := 0) rfl) 255) fun r86 cs87 H88 h89 q90 => ?_
          obtain ⟨v91, h92, q90⟩ := q90
          cases q90
          have S93 := S85.setB (i := 0) (cs := List.map C.v [v91, (.p (.int .i64 r86.2.f_At))]) rfl rfl
          refine Sim.op (castI_p _ _) ?_
          refine Sim.call (limelightkeep_Tape_Bytes_ok k (⟨r86.2.f_L, r86.2.f_At⟩ : T_limelightkeep_Tape) h92 (S93.atB (i := 0) rfl) 20) fun r94 cs95 H96 h97 q98 => ?_
          obtain ⟨c99, cs100, v103, h101, h102, h104, q98⟩ := q98
          cases q98
          have S105 := S93.setB (i := 0) (cs := List.map C.v [v103, (.p (.int .i64 r94.2.f_At))]) rfl rfl
          obtain ⟨v106, H107, e108, S109⟩ := S105.land (dt := (dI .u8)) (d := 35) (e := 0) (n := 0) h101 h102 (by decide) rfl
          erw [e108]
          obtain ⟨v111, H112, e113, h114, S115⟩ := S109.layD (i := 0) rfl rfl
          have e116 : layCs false H107 [(.p (.int .i64 (IntKind.wrap .i64 (1 + r86.1)))), v106] = some (List.map C.v [.p (.int .i64 (IntKind.wrap .i64 (1 + r86.1))), v111], H112) := (lc_pl (still_int _ _) (lc_st e113 lc_nil))
          refine Sim.op (bldV (pt_cons rfl (pt_cons (S109.cellsD (i := 0) rfl) pt_nil)) (by kernel_rfl : _ = some (.agg [(.p (.int .i64 (IntKind.wrap .i64 (1 + r86.1)))), v106]))) ?_
          obtain ⟨H117, e118, S119⟩ := Fm.stFrz (S0 := S109) (i0 := 0) (i := 0) (j := 0) (n := 2) (σ := (6 :: 1 :: 0 :: 1 :: 0 :: 1 :: 0 :: σ)) S115 rfl e116 rfl rfl (show List.length [(.p (.int .i64 (IntKind.wrap .i64 (1 + r86.1)))), v106] = List.length [.p (.int .i64 (IntKind.wrap .i64 (1 + r86.1))), v111] from rfl) rfl rfl
          refine Sim.op (st_map e118) ?_
          refine Sim.op ((S119.atG (i := 0) rfl).ldVs (j := 0) (xs := [.p (.int .i64 (IntKind.wrap .i64 (1 + r86.1))), v111]) rfl rfl (by decide)) ?_
          have h120 : SlF dT_api_Elem [((⟨(IntKind.wrap .i64 (1 + r86.1)), r94.1⟩ : T_api_Elem))] (.fz [(.p (.int .i64 (IntKind.wrap .i64 (1 + r86.1)))), v111] 1 2 true) := SlF.lit (cs := [(.p (.int .i64 (IntKind.wrap .i64 (1 + r86.1)))), v111]) (RL.cons (show dT_api_Elem.R ((⟨(IntKind.wrap .i64 (1 + r86.1)), r94.1⟩ : T_api_Elem)) [.p (.int .i64 (IntKind.wrap .i64 (1 + r86.1))), v111] from (dT_api_Elem.mk h114)) RL.nil) rfl rfl true
          refine Sim.op (bldS (pt_cons (c := [.p (.int .i64 (IntKind.wrap .i64 (1 + r86.1))), v111]) rfl pt_nil) (by kernel_rfl : _ = some (.fz [(.p (.int .i64 (IntKind.wrap .i64 (1 + r86.1)))), v111] 1 2 true))) ?_
          refine Sim.bd fun a121 h122 => ?_
          obtain ⟨v123, H124, e125, S126⟩ := S119.app (i := 1) (d := 40) (e := 2) (own := false) (σ := (3 :: 1 :: 1 :: 0 :: 1 :: 0 :: σ)) rfl (h120.h H117).y h122 rfl (by decide) (by decide) rfl
          refine Sim.op (e125) ?_
          exact ih x1 a121 (IntKind.wrap .i64 (x6 - 1)) ((⟨r94.2.f_L, r94.2.f_At⟩ : T_limelightkeep_Tape)) v123 v103 h104 H124 (S126.wk2 all_nil (all_cons ⟨[40, 40], by simp, at_mem 1 rfl⟩ all_nil))
        · refine Sim.op ((S85.atG (i := 0) rfl).ldVs (j := 0) (xs := [.p (.int .i64 (IntKind.wrap .i64 (1 + r17.1))), v72]) rfl rfl (by decide)) ?_
          have h127 : SlF dT_api_Elem [((⟨(IntKind.wrap .i64 (1 + r17.1)), a53⟩ : T_api_Elem))] (.fz [(.p (.int .i64 (IntKind.wrap .i64 (1 + r17.1)))), v72] 1 2 true) := SlF.lit (cs := [(.p (.int .i64 (IntKind.wrap .i64 (1 + r17.1)))), v72]) (RL.cons (show dT_api_Elem.R ((⟨(IntKind.wrap .i64 (1 + r17.1)), a53⟩ : T_api_Elem)) [.p (.int .i64 (IntKind.wrap .i64 (1 + r17.1))), v72] from (dT_api_Elem.mk h75)) RL.nil) rfl rfl true
          refine Sim.op (bldS (pt_cons (c := [.p (.int .i64 (IntKind.wrap .i64 (1 + r17.1))), v72]) rfl pt_nil) (by kernel_rfl : _ = some (.fz [(.p (.int .i64 (IntKind.wrap .i64 (1 + r17.1)))), v72] 1 2 true))) ?_
          refine Sim.bd fun a128 h129 => ?_
          obtain ⟨v130, H131, e132, S133⟩ := S85.app (i := 1) (d := 40) (e := 2) (own := false) (σ := (3 :: 1 :: 1 :: 0 :: 1 :: 0 :: σ)) rfl (h127.h (ptC H69 l0 o0 (List.map C.v [v83, (.p (.int .i64 r78.2.f_At))]))).y h129 rfl (by decide) (by decide) rfl
          refine Sim.op (e132) ?_
          exact ih x1 a128 (IntKind.wrap .i64 (x6 - 1)) ((⟨r78.2.f_L, r78.2.f_At⟩ : T_limelightkeep_Tape)) v130 v83 h84 H131 (S133.wk2 all_nil (all_cons ⟨[40, 40], by simp, at_mem 1 rfl⟩ all_nil))
      · refine Sim.as ?_
        refine Sim.pure ?_
        refine Sim.op (asB_p _) ?_
        refine Sim.cd (fun hc => ?_) (fun hc => ?_)
        · refine Sim.call (limelightkeep_Tape_Next_ok (⟨r34.2.f_L, r34.2.f_At⟩ : T_limelightkeep_Tape) h44 (S71.atB (i := 0) rfl) 255) fun r134 cs135 H136 h137 q138 => ?_
          obtain ⟨v139, h140, q138⟩ := q138
          cases q138
          have S141 := S71.setB (i := 0) (cs := List.map C.v [v139, (.p (.int .i64 r134.2.f_At))]) rfl rfl
          refine Sim.op (castI_p _ _) ?_
          refine Sim.call (limelightkeep_Tape_Bytes_ok k (⟨r134.2.f_L, r134.2.f_At⟩ : T_limelightkeep_Tape) h140 (S141.atB (i := 0) rfl) 20) fun r142 cs143 H144 h145 q146 => ?_
          obtain ⟨c147, cs148, v151, h149, h150, h152, q146⟩ := q146
          cases q146
          have S153 := S141.setB (i := 0) (cs := List.map C.v [v151, (.p (.int .i64 r142.2.f_At))]) rfl rfl
          obtain ⟨v154, H155, e156, S157⟩ := S153.land (dt := (dI .u8)) (d := 35) (e := 0) (n := 0) h149 h150 (by decide) rfl
          erw [e156]
          obtain ⟨v159, H160, e161, h162, S163⟩ := S157.layD (i := 0) rfl rfl
          have e164 : layCs false H155 [(.p (.int .i64 (IntKind.wrap .i64 (1 + r134.1)))), v154] = some (List.map C.v [.p (.int .i64 (IntKind.wrap .i64 (1 + r134.1))), v159], H160) := (lc_pl (still_int _ _) (lc_st e161 lc_nil))
          refine Sim.op (bldV (pt_cons rfl (pt_cons (S157.cellsD (i := 0) rfl) pt_nil)) (by kernel_rfl : _ = some (.agg [(.p (.int .i64 (IntKind.wrap .i64 (1 + r134.1)))), v154]))) ?_
          obtain ⟨H165, e166, S167⟩ := Fm.stFrz (S0 := S157) (i0 := 0) (i := 0) (j := 0) (n := 2) (σ := (6 :: 1 :: 0 :: 1 :: 0 :: 1 :: 0 :: σ)) S163 rfl e164 rfl rfl (show List.length [(.p (.int .i64 (IntKind.wrap .i64 (1 + r134.1)))), v154] = List.length [.p (.int .i64 (IntKind.wrap .i64 (1 + r134.1))), v159] from rfl) rfl rfl
          refine Sim.op (st_map e166) ?_
          refine Sim.op ((S167.atG (i := 0) rfl).ldVs (j := 0) (xs := [.p (.int .i64 (IntKind.wrap .i64 (1 + r134.1))), v159]) rfl rfl (by decide)) ?_
          have h168 : SlF dT_api_Elem [((⟨(IntKind.wrap .i64 (1 + r134.1)), r142.1⟩ : T_api_Elem))] (.fz [(.p (.int .i64 (IntKind.wrap .i64 (1 + r134.1)))), v159] 1 2 true) := SlF.lit (cs := [(.p (.int .i64 (IntKind.wrap .i64 (1 + r134.1)))), v159]) (RL.cons (show dT_api_Elem.R ((⟨(IntKind.wrap .i64 (1 + r134.1)), r142.1⟩ : T_api_Elem)) [.p (.int .i64 (IntKind.wrap .i64 (1 + r134.1))), v159] from (dT_api_Elem.mk h162)) RL.nil) rfl rfl true
          refine Sim.op (bldS (pt_cons (c := [.p (.int .i64 (IntKind.wrap .i64 (1 + r134.1))), v159]) rfl pt_nil) (by kernel_rfl : _ = some (.fz [(.p (.int .i64 (IntKind.wrap .i64 (1 + r134.1)))), v159] 1 2 true))) ?_
          refine Sim.bd fun a169 h170 => ?_
          obtain ⟨v171, H172, e173, S174⟩ := S167.app (i := 1) (d := 40) (e := 2) (own := false) (σ := (3 :: 1 :: 1 :: 0 :: 1 :: 0 :: σ)) rfl (h168.h H165).y h170 rfl (by decide) (by decide) rfl
          refine Sim.op (e173) ?_
          exact ih x1 a169 (IntKind.wrap .i64 (x6 - 1)) ((⟨r142.2.f_L, r142.2.f_At⟩ : T_limelightkeep_Tape)) v171 v151 h152 H172 (S174.wk2 all_nil (all_cons ⟨[40, 40], by simp, at_mem 1 rfl⟩ all_nil))
        · refine Sim.op ((S71.atG (i := 0) rfl).ldVs (j := 0) (xs := [.p (.int .i64 (IntKind.wrap .i64 (1 + r17.1))), v72]) rfl rfl (by decide)) ?_
          have h175 : SlF dT_api_Elem [((⟨(IntKind.wrap .i64 (1 + r17.1)), a53⟩ : T_api_Elem))] (.fz [(.p (.int .i64 (IntKind.wrap .i64 (1 + r17.1)))), v72] 1 2 true) := SlF.lit (cs := [(.p (.int .i64 (IntKind.wrap .i64 (1 + r17.1)))), v72]) (RL.cons (show dT_api_Elem.R ((⟨(IntKind.wrap .i64 (1 + r17.1)), a53⟩ : T_api_Elem)) [.p (.int .i64 (IntKind.wrap .i64 (1 + r17.1))), v72] from (dT_api_Elem.mk h75)) RL.nil) rfl rfl true
          refine Sim.op (bldS (pt_cons (c := [.p (.int .i64 (IntKind.wrap .i64 (1 + r17.1))), v72]) rfl pt_nil) (by kernel_rfl : _ = some (.fz [(.p (.int .i64 (IntKind.wrap .i64 (1 + r17.1)))), v72] 1 2 true))) ?_
          refine Sim.bd fun a176 h177 => ?_
          obtain ⟨v178, H179, e180, S181⟩ := S71.app (i := 1) (d := 40) (e := 2) (own := false) (σ := (3 :: 1 :: 1 :: 0 :: 1 :: 0 :: σ)) rfl (h175.h H69).y h177 rfl (by decide) (by decide) rfl
          refine Sim.op (e180) ?_
          exact ih x1 a176 (IntKind.wrap .i64 (x6 - 1)) ((⟨r34.2.f_L, r34.2.f_At⟩ : T_limelightkeep_Tape)) v178 v43 h44 H179 (S181.wk2 all_nil (all_cons ⟨[40, 40], by simp, at_mem 1 rfl⟩ all_nil))
    · exact hE0 x5 ((⟨zp0.f_L, zp0.f_At⟩ : T_limelightkeep_Tape)) v13 v15 h16 H11 (S12.wk2 all_nil (all_cons ⟨[40], by simp, at_mem 0 rfl⟩ all_nil))
theorem limelightkeep_Tape_Elems_ok (k : Nat) {h : H} {σ : Stamp} (x0 : T_limelightkeep_Tape) {u0_0 : V} (hu0_0 : SlF (dI .i64) x0.f_L u0_0) {l0 : Loc} {o0 : Nat} (ha0 : AtC h l0 o0 (List.map C.v [u0_0, (.p (.int .i64 x0.f_At))])) (x1 : Bool) : Sim (p_limelightkeep_Tape_Elems k x0 x1) (ev G X0 16 σ [(.ref l0 o0), (.p (.bool x1))] h) (fun r s => ∃ (c0 : C), ∃ (a0 : List V), ∃ (vb0_0 : V), OwnS c0 dT_api_Elem.sz r.1.length a0 ∧ dT_api_Elem.L r.1 a0 ∧ SlF (dI .i64) r.2.f_L vb0_0 ∧ s = ([c0], pts h [⟨l0, o0, [.v vb0_0, .v (.p (.int .i64 r.2.f_At))]⟩])) := by
  refine Sim.ev rfl (Sim.ext (limelightkeep_Tape_Elems_entry _ _ _ _ _ _) ?_)
  rw [p_limelightkeep_Tape_Elems]
  have S0 : Fm 42 h [⟨l0, o0, List.map C.v [u0_0, (.p (.int .i64 x0.f_At))]⟩] [] [] (List.replicate 42 [] :: h) := Fm.start1 ha0
  refine Sim.call (limelightkeep_Tape_Next_ok (⟨x0.f_L, x0.f_At⟩ : T_limelightkeep_Tape) hu0_0 (S0.atB (i := 0) rfl) 4) fun r1 cs2 H3 h4 q5 => ?_
  obtain ⟨v6, h7, q5⟩ := q5
  cases q5
  have S8 := S0.setB (i := 0) (cs := List.map C.v [v6, (.p (.int .i64 r1.2.f_At))]) rfl rfl
  refine Sim.op (castI_p _ _) ?_
  have S189 := S8.nil dT_api_Elem []
  refine Sim.as (limelightkeep_Tape_Elems_l0_ok ?_ k x1 (([] : List T_api_Elem)) r1.1 ((⟨r1.2.f_L, r1.2.f_At⟩ : T_limelightkeep_Tape)) (.p (.slice none 0 0)) v6 h7 (ptC (List.replicate 42 [] :: h) l0 o0 (List.map C.v [v6, (.p (.int .i64 r1.2.f_At))])) (S189.wk2 all_nil (all_cons ⟨[], by simp, at_mem 0 rfl⟩ all_nil))) 
  · intro r190_5 zp0 v193 v195 h196 H191 S192
    refine Sim.ext (limelightkeep_Tape_Elems_a0_0 _ _ _ _ _) ?_
    obtain ⟨c202, cs203, H197, e198, h200, h201, S199⟩ := S192.expOwn (i := 0) (τ := 0 :: 1 :: σ) rfl rfl rfl
    exact Sim.fin (S199.finE (Ex.st e198 Ex.nil)) ⟨c202, cs203, v195, h200, h201, h196, rfl⟩
end Go.Ev
namespace Go.Ev
theorem tape_bytes_l0 {β : Type} (kE0 : List Int → T_limelightkeep_Tape → Option β) : ∀ (m : Nat) (j : Nat) (out : List Int) (t : T_limelightkeep_Tape), TP t → isB out → out.length + m < 1000 → m < 1000 →
    ∃ xs t', p_limelightkeep_Tape_Bytes_l0 (j + m + 1) kE0 out (m : Int) t = kE0 xs t' ∧ xs.length = out.length + m ∧ isB xs ∧ TP t'
  | 0, j, out, t, h, hb, _, _ => by
    rw [p_limelightkeep_Tape_Bytes_l0]
    have : decide (((0 : Nat) : Int) > 0) = false := by decide
    rw [this, cond_false]
    exact ⟨out, t, rfl, rfl, hb, h⟩
  | m + 1, j, out, t, h, hb, ho, hm => by
    obtain ⟨r, t1, e1, r1, h1⟩ := next_tape h (n := 256) (by omega)
    obtain ⟨xs, t2, e2, l2, b2, h2⟩ := tape_bytes_l0 kE0 m j (out ++ [r]) t1 h1 (fun x hx => by
      rcases List.mem_append.1 hx with hx | hx
      · exact hb x hx
      · simp at hx; subst hx; exact r1) (by simp; omega) (by omega)
    refine ⟨xs, t2, ?_, by rw [l2]; simp; omega, b2, h2⟩
    rw [show j + (m + 1) + 1 = (j + m + 1) + 1 from rfl, p_limelightkeep_Tape_Bytes_l0]
    have c1 : decide (((m + 1 : Nat) : Int) > 0) = true := decide_eq_true (by omega)
    have w1 : IntKind.wrap .i64 (((m + 1 : Nat) : Int) - 1) = (m : Int) := by rw [wrap_i64 (by omega) (by omega)]; omega
    rw [c1, cond_true, tape_eta, e1, Option.bind_some]
    simp only [wrap_u8 r1.1 r1.2, w1, tape_eta]
    rw [ap_eq (by decide) (by simp; omega), Option.bind_some]
    exact e2
theorem tape_bytes {t : T_limelightkeep_Tape} (h : TP t) {n k : Nat} (hn : n < 900) (hk : n + 1 ≤ k) : ∃ xs t', p_limelightkeep_Tape_Bytes k t (n : Int) = some (xs, t') ∧ xs.length ≤ n ∧ isB xs ∧ TP t' := by
  unfold p_limelightkeep_Tape_Bytes
  obtain ⟨r, t1, e1, r1, h1⟩ := next_tape h (n := (n : Int) + 1) (by omega)
  obtain ⟨m, rfl⟩ : ∃ m : Nat, r = m := ⟨r.toNat, by omega⟩
  obtain ⟨xs, t2, e2, l2, b2, h2⟩ := tape_bytes_l0 (fun a b => some (a, b)) m (k - m - 1) [] t1 h1 (fun x hx => by simp at hx) (by simp; omega) (by omega)
  rw [show k - m - 1 + m + 1 = k by omega] at e2
  refine ⟨xs, t2, ?_, by rw [l2]; simp; omega, b2, h2⟩
  rw [tape_eta, wrap_i64 (by omega) (by omega), e1, Option.bind_some]
  exact e2
def okB (two : Bool) (e : T_api_Elem) : Prop := (two = false → ok1 e) ∧ ok2 e ∧ isB e.Data
theorem tape_elems_l0 {β : Type} (kE0 : List T_api_Elem → T_limelightkeep_Tape → Option β) (two : Bool) : ∀ (m : Nat) (j : Nat) (out : List T_api_Elem) (t : T_limelightkeep_Tape), TP t → (∀ e ∈ out, okB two e) → out.length + m < 100 → 22 ≤ j →
    ∃ xs t', p_limelightkeep_Tape_Elems_l0 (j + m + 1) kE0 two out (m : Int) t = kE0 xs t' ∧ xs.length = out.length + m ∧ (∀ e ∈ xs, okB two e) ∧ TP t'
  | 0, j, out, t, h, hb, _, _ => by
    rw [p_limelightkeep_Tape_Elems_l0]
    have : decide (((0 : Nat) : Int) > 0) = false := by decide
    rw [this, cond_false]
    exact ⟨out, t, rfl, rfl, hb, h⟩
  | m + 1, j, out, t, h, hb, ho, hj => by
    obtain ⟨id, t1, e1, r1, h1⟩ := next_tape h (n := 14) (by omega)
    obtain ⟨b0, t2, e2, r2, h2⟩ := next_tape h1 (n := 256) (by omega)
    obtain ⟨bs, t3, e3, l3, b3, h3⟩ := tape_bytes h2 (n := 9) (k := j + m + 1) (by omega) (by omega)
    rw [show j + (m + 1) + 1 = (j + m + 1) + 1 from rfl, p_limelightkeep_Tape_Elems_l0]
    have c1 : decide (((m + 1 : Nat) : Int) > 0) = true := decide_eq_true (by omega)
    have w1 : IntKind.wrap .i64 (((m + 1 : Nat) : Int) - 1) = (m : Int) := by rw [wrap_i64 (by omega) (by omega)]; omega
    have w2 : IntKind.wrap .i64 (1 + id) = 1 + id := wrap_i64 (by omega) (by omega)
    have ha : ap 1 [b0] bs = some ([b0] ++ bs) := ap_eq (by decide) (by simp; omega)
    have hap : ∀ e : T_api_Elem, ap 32 out [e] = some (out ++ [e]) := fun e => ap_eq (by decide) (by simp; omega)
    have one : okB two ⟨1 + id, [b0] ++ bs⟩ := by
      have h1 : ok1 ⟨1 + id, [b0] ++ bs⟩ := by unfold ok1; simp; omega
      refine ⟨fun _ => h1, h1.ok2, fun x hx => ?_⟩
      rcases List.mem_append.1 hx with hx | hx
      · simp at hx; subst hx; exact r2
      · exact b3 x hx
    have add : ∀ e, okB two e → ∀ x ∈ out ++ [e], okB two x := fun e he x hx => by
      rcases List.mem_append.1 hx with hx | hx
      · exact hb x hx
      · simp at hx; subst hx; exact he
    simp only [c1, cond_true, cond_false, tape_eta, w1, e1, e2, Option.bind_some, wrap_u8 r2.1 r2.2]
    rw [show ((9 : Nat) : Int) = 9 from rfl] at e3
    rw [e3, Option.bind_some]
    simp only [ha, Option.bind_some, hap, w2]
    cases two with
    | false =>
      simp only [cond_false]
      obtain ⟨xs, t4, e4, l4, b4, h4⟩ := tape_elems_l0 kE0 false m j (out ++ [⟨1 + id, [b0] ++ bs⟩]) t3 h3 (add _ one) (by simp; omega) hj
      exact ⟨xs, t4, e4, by rw [l4]; simp; omega, b4, h4⟩
    | true =>
      simp only [cond_true]
      obtain ⟨q, t4, e4, r4, h4⟩ := next_tape h3 (n := 3) (by omega)
      rw [e4, Option.bind_some]
      simp only
      cases (q == 0) with
      | false =>
        simp only [cond_false]
        obtain ⟨xs, t5, e5, l5, b5, h5⟩ := tape_elems_l0 kE0 true m j (out ++ [⟨1 + id, [b0] ++ bs⟩]) t4 h4 (add _ one) (by simp; omega) hj
        exact ⟨xs, t5, e5, by rw [l5]; simp; omega, b5, h5⟩
      | true =>
        simp only [cond_true]
        obtain ⟨id2, t5, e5, r5, h5⟩ := next_tape h4 (n := 255) (by omega)
        obtain ⟨bs2, t6, e6, l6, b6, h6⟩ := tape_bytes h5 (n := 20) (k := j + m + 1) (by omega) (by omega)
        rw [show ((20 : Nat) : Int) = 20 from rfl] at e6
        have w3 : IntKind.wrap .i64 (1 + id2) = 1 + id2 := wrap_i64 (by omega) (by omega)
        rw [e5, Option.bind_some]
        simp only
        rw [e6, Option.bind_some]
        simp only [w3]
        have tw : okB true ⟨1 + id2, bs2⟩ := ⟨fun h => (by cases h), by unfold ok2; simp only; omega, b6⟩
        obtain ⟨xs, t7, e7, l7, b7, h7⟩ := tape_elems_l0 kE0 true m j (out ++ [⟨1 + id2, bs2⟩]) t6 h6 (add _ tw) (by simp; omega) hj
        exact ⟨xs, t7, e7, by rw [l7]; simp; omega, b7, h7⟩
theorem tape_elems {t : T_limelightkeep_Tape} (h : TP t) (two : Bool) {k : Nat} (hk : 30 ≤ k) : ∃ l t', p_limelightkeep_Tape_Elems k t two = some (l, t') ∧ l.length ≤ 3 ∧ (∀ e ∈ l, okB two e) ∧ TP t' := by
  unfold p_limelightkeep_Tape_Elems
  obtain ⟨r, t1, e1, r1, h1⟩ := next_tape h (n := 4) (by omega)
  obtain ⟨m, rfl⟩ : ∃ m : Nat, r = m := ⟨r.toNat, by omega⟩
  obtain ⟨xs, t2, e2, l2, b2, h2⟩ := tape_elems_l0 (fun a b => some (a, b)) two m (k - m - 1) [] t1 h1 (fun x hx => by simp at hx) (by simp; omega) (by omega)
  rw [show k - m - 1 + m + 1 = k by omega] at e2
  refine ⟨xs, t2, ?_, by rw [l2]; simp; omega, b2, h2⟩
  rw [tape_eta, e1, Option.bind_some]
  exact e2
end Go.Ev
/- Equations, printed by tracer2.py. -/
namespace Go.Ev
open Go.Proofs
set_option linter.unusedVariables false
set_option maxRecDepth 100000
-- 24 limelight/limelightlaw4.elems
noncomputable def limelightlaw4_elems_c0 : Code := (codeAt (bodyOf Try.f24) [1, 1, 0, 1, 0, 0])
def limelightlaw4_elems_l0 : Lv := ⟨0, 16, [(0, 0)]⟩
noncomputable def limelightlaw4_elems_k0 (rec : CallF) (loop : LoopV) (σ : Stamp) : Exit → Env → H → Option (List C × H) := (kBlock 0 (kSeq G rec loop (codeAt (bodyOf Try.f24) [1, 1, 1]) ⟨16, 16, []⟩ (1 :: 1 :: 0 :: σ) (finC G false Try.f24 (1 :: σ))))
theorem limelightlaw4_elems_entry (rec : CallF) (loop : LoopV) (σ : Stamp) (x0 : V) (x1 : V) (h : H) : cvBody G rec loop 24 σ [x0, x1] h =
 (lenO x0).bind fun t1 =>
 (castI .i64 t1).bind fun n2 =>
 (lenO x1).bind fun t3 =>
 (castI .i64 t3).bind fun n4 =>
 bif n2 != n4 then (
 fin false σ (List.replicate 43 [] :: h) [(.p (.bool false))])
 else (
 (lenO x0).bind fun t5 =>
 (castI .i64 t5).bind fun n6 =>
 (loop limelightlaw4_elems_c0 limelightlaw4_elems_l0 (1 :: 0 :: 1 :: 1 :: 0 :: σ) (envL [(0, x0), (1, x1), (12, (.p (.int .i64 n6))), (13, (.p (.int .i64 0)))]) (List.replicate 43 [] :: h)).bind fun r7 => limelightlaw4_elems_k0 rec loop σ r7.1 r7.2.1 r7.2.2) := by kernel_rfl
theorem limelightlaw4_elems_r0 (rec : CallF) (loop : LoopV) (σ : Stamp) (x0 : V) (x1 : V) (x12 : Int) (x13 : Int) (h : H) : cvRound G rec loop limelightlaw4_elems_c0 limelightlaw4_elems_l0 σ (envL [(0, x0), (1, x1), (12, (.p (.int .i64 x12))), (13, (.p (.int .i64 x13)))]) h =
 bif decide (x13 < x12) then (
 (iS 2 x0 x13).bind fun t8 =>
 (fA t8 0).bind fun t9 =>
 (ldO false 1 h t9).bind fun t10 =>
 (castI .i64 t10).bind fun n11 =>
 (iS 2 x1 x13).bind fun t12 =>
 (fA t12 0).bind fun t13 =>
 (ldO false 1 h t13).bind fun t14 =>
 (castI .i64 t14).bind fun n15 =>
 (bif n11 != n15 then (some true) else ((iS 2 x0 x13).bind fun t16 =>
 (fA t16 1).bind fun t17 =>
 (ldO false 1 h t17).bind fun t18 =>
 (strO h t18).bind fun t19 =>
 (castS t19).bind fun s20 =>
 (iS 2 x1 x13).bind fun t21 =>
 (fA t21 1).bind fun t22 =>
 (ldO false 1 h t22).bind fun t23 =>
 (strO h t23).bind fun t24 =>
 (castS t24).bind fun s25 =>
 some (!(s20.toList == s25.toList)))).bind fun b26 =>
 bif b26 then (
 some (.ret, (envL [(4, (.p (.bool false)))]), h))
 else (
 loop limelightlaw4_elems_c0 limelightlaw4_elems_l0 (1 :: σ) (envL [(0, x0), (1, x1), (12, (.p (.int .i64 x12))), (13, (.p (.int .i64 (IntKind.wrap .i64 (x13 + 1)))))]) h))
 else (
 some ((.exit 0), (envL []), h)) := by kernel_rfl
theorem limelightlaw4_elems_a0_0 (rec : CallF) (loop : LoopV) (σ : Stamp)  (h : H) : limelightlaw4_elems_k0 rec loop σ (.exit 0) (envL []) h =
 fin false σ h [(.p (.bool true))] := by kernel_rfl
theorem limelightlaw4_elems_a0_ret (rec : CallF) (loop : LoopV) (σ : Stamp) (x4 : Bool) (h : H) : limelightlaw4_elems_k0 rec loop σ .ret (envL [(4, (.p (.bool x4)))]) h =
 fin false σ h [(.p (.bool x4))] := by kernel_rfl
end Go.Ev
/- Lifted by lift.py: limelightlaw4_elems as a plain function. -/
namespace Go.Ev
open Go.Proofs
set_option linter.unusedVariables false
set_option linter.unusedSimpArgs false
set_option maxRecDepth 100000
def p_limelightlaw4_elems_l0 {β : Type} (k : Nat) (kE0 : Unit → Option β) (kE1 : Bool → Option β) (x0 : (List T_api_Elem)) (x1 : (List T_api_Elem)) (x12 : Int) (x13 : Int) : Option β := match k with
| 0 => none
| k + 1 =>
bif decide (x13 < x12) then (
(ix x0 x13).bind fun a7 =>
(ix x1 x13).bind fun a19 =>
(bif a7.ID != a19.ID then (some true) else ((ix x0 x13).bind fun a31 =>
(ix x1 x13).bind fun a43 =>
some (!((strB a31.Data).toList == (strB a43.Data).toList)))).bind fun b55 =>
bif b55 then (
kE1 false)
else (
p_limelightlaw4_elems_l0 k kE0 kE1 x0 x1 x12 (IntKind.wrap .i64 (x13 + 1))))
else (
kE0 ())
def p_limelightlaw4_elems (k : Nat) (x0 : (List T_api_Elem)) (x1 : (List T_api_Elem)) : Option (Bool) :=
bif ((x0.length : Int)) != ((x1.length : Int)) then (
some (false))
else (
p_limelightlaw4_elems_l0 k (fun (_ : Unit) =>
some (true)) (fun r66_4 =>
some (r66_4)) x0 x1 ((x0.length : Int)) 0)
theorem limelightlaw4_elems_l0_ok {h : H}  {β α : Type} {Q : β → α → Prop} {K : Exit × Env × H → Option α} {kE0 : Unit → Option β} {kE1 : Bool → Option β} (hE0 : ∀ (_u : Unit) (H59 : Go.Ev.H) (_ : Fm 43 h [] [] [] H59), Sim (kE0 ()) (K ((.exit 0), (envL []), H59)) Q) (hE1 : ∀ (q4 : Bool) (H61 : Go.Ev.H) (_ : Fm 43 h [] [] [] H61), Sim (kE1 q4) (K (.ret, (envL [(4, (.p (.bool q4)))]), H61)) Q) (k : Nat) : ∀ (x0 : (List T_api_Elem)) (x1 : (List T_api_Elem)) (x12 : Int) (x13 : Int) (v3 : V) (h4 : SlH h dT_api_Elem x0 v3) (v5 : V) (h6 : SlH h dT_api_Elem x1 v5) (H1 : Go.Ev.H) (_ : Fm 43 h [] [] [] H1) {σ : Stamp}, Sim (p_limelightlaw4_elems_l0 k kE0 kE1 x0 x1 x12 x13) ((cvL G X0 limelightlaw4_elems_c0 limelightlaw4_elems_l0 σ (envL [(0, v3), (1, v5), (12, (.p (.int .i64 x12))), (13, (.p (.int .i64 x13)))]) H1).bind K) Q := by
  induction k with
  | zero => intros; exact Sim.no
  | succ k ih =>
    intro x0 x1 x12 x13 v3 h4 v5 h6 H1 S2 σ
    rw [p_limelightlaw4_elems_l0]
    refine Sim.round (Sim.ext (limelightlaw4_elems_r0 _ _ _ _ _ _ _ _) ?_)
    refine Sim.cd (fun hc => ?_) (fun hc => ?_)
    · refine Sim.bd fun a7 h8 => ?_
      refine Sim.op ((S2.low h4).iS h8 rfl) ?_
      obtain ⟨w10, h11, hE9⟩ := (S2.low h4).el h8 rfl
      obtain ⟨v12, rfl, h13⟩ := dT_api_Elem.inv h11
      refine Sim.op (hE9.fa (j := 0) (by simp)) ?_
      obtain ⟨w15, h16, hE14⟩ := (S2.low h4).el h8 rfl
      obtain ⟨v17, rfl, h18⟩ := dT_api_Elem.inv h16
      refine Sim.op (hE14.ld (j := 0) rfl) ?_
      refine Sim.op (castI_p _ _) ?_
      refine Sim.bd fun a19 h20 => ?_
      refine Sim.op ((S2.low h6).iS h20 rfl) ?_
      obtain ⟨w22, h23, hE21⟩ := (S2.low h6).el h20 rfl
      obtain ⟨v24, rfl, h25⟩ := dT_api_Elem.inv h23
      refine Sim.op (hE21.fa (j := 0) (by simp)) ?_
      obtain ⟨w27, h28, hE26⟩ := (S2.low h6).el h20 rfl
      obtain ⟨v29, rfl, h30⟩ := dT_api_Elem.inv h28
      refine Sim.op (hE26.ld (j := 0) rfl) ?_
      refine Sim.op (castI_p _ _) ?_
      refine Sim.ch (P := fun r y => r = y) ?_ (fun b55 y56 h57 h58 => ?_)
      · refine Sim.cd (fun hc => ?_) (fun hc => ?_)
        · exact Sim.ret rfl rfl
        · refine Sim.bd fun a31 h32 => ?_
          refine Sim.op ((S2.low h4).iS h32 rfl) ?_
          obtain ⟨w34, h35, hE33⟩ := (S2.low h4).el h32 rfl
          obtain ⟨v36, rfl, h37⟩ := dT_api_Elem.inv h35
          refine Sim.op (hE33.fa (j := 1) (by simp)) ?_
          obtain ⟨w39, h40, hE38⟩ := (S2.low h4).el h32 rfl
          obtain ⟨v41, rfl, h42⟩ := dT_api_Elem.inv h40
          refine Sim.op (hE38.ld (j := 1) rfl) ?_
          refine Sim.op ((h42.h H1).str) ?_
          refine Sim.op (castS_p _) ?_
          refine Sim.bd fun a43 h44 => ?_
          refine Sim.op ((S2.low h6).iS h44 rfl) ?_
          obtain ⟨w46, h47, hE45⟩ := (S2.low h6).el h44 rfl
          obtain ⟨v48, rfl, h49⟩ := dT_api_Elem.inv h47
          refine Sim.op (hE45.fa (j := 1) (by simp)) ?_
          obtain ⟨w51, h52, hE50⟩ := (S2.low h6).el h44 rfl
          obtain ⟨v53, rfl, h54⟩ := dT_api_Elem.inv h52
          refine Sim.op (hE50.ld (j := 1) rfl) ?_
          refine Sim.op ((h54.h H1).str) ?_
          refine Sim.op (castS_p _) ?_
          exact Sim.ret rfl rfl
      subst h58
      refine Sim.cd (fun hc => ?_) (fun hc => ?_)
      · exact hE1 false H1 (S2.wk2 all_nil all_nil)
      · exact ih x0 x1 x12 (IntKind.wrap .i64 (x13 + 1)) v3 h4 v5 h6 H1 (S2.wk2 all_nil all_nil)
    · exact hE0 () H1 (S2.wk2 all_nil all_nil)
theorem limelightlaw4_elems_ok (k : Nat) {h : H} {σ : Stamp} (x0 : List T_api_Elem) {u0 : V} (hu0 : SlH h dT_api_Elem x0 u0) (x1 : List T_api_Elem) {u1 : V} (hu1 : SlH h dT_api_Elem x1 u1) : Sim (p_limelightlaw4_elems k x0 x1) (ev G X0 24 σ [u0, u1] h) (fun r s => s = ([.v (.p (.bool r))], h)) := by
  refine Sim.ev rfl (Sim.ext (limelightlaw4_elems_entry _ _ _ _ _ _) ?_)
  rw [p_limelightlaw4_elems]
  have S0 : Fm 43 h [] [] [] (List.replicate 43 [] :: h) := Fm.start0
  refine Sim.op ((S0.low hu0).len) ?_
  refine Sim.op (castI_p _ _) ?_
  refine Sim.op ((S0.low hu1).len) ?_
  refine Sim.op (castI_p _ _) ?_
  refine Sim.cd (fun hc => ?_) (fun hc => ?_)
  · exact Sim.fin (S0.finN (lv_cons (still_bool _).lv lv_nil)) rfl
  · refine Sim.op ((S0.low hu0).len) ?_
    refine Sim.op (castI_p _ _) ?_
    refine Sim.as (limelightlaw4_elems_l0_ok ?_ ?_ k x0 x1 ((x0.length : Int)) 0 u0 hu0 u1 hu1 (List.replicate 43 [] :: h) (S0.wk2 all_nil all_nil)) 
    · intro _u H64 S65
      refine Sim.ext (limelightlaw4_elems_a0_0 _ _ _ _) ?_
      exact Sim.fin (S65.finN (lv_cons (still_bool _).lv lv_nil)) rfl
    · intro r66_4 H67 S68
      refine Sim.ext (limelightlaw4_elems_a0_ret _ _ _ _ _) ?_
      exact Sim.fin (S68.finN (lv_cons (still_bool _).lv lv_nil)) rfl
end Go.Ev
namespace Go.Ev
theorem elems_l0 {β : Type} (kE0 : Unit → Option β) (kE1 : Bool → Option β) (l : List T_api_Elem) (hl : l.length < 2 ^ 30) : ∀ (rest pre : List T_api_Elem) (j : Nat), l = pre ++ rest →
    p_limelightlaw4_elems_l0 (j + rest.length + 1) kE0 kE1 l l (l.length : Int) (pre.length : Int) = kE0 ()
  | [], pre, j, h => by
    rw [p_limelightlaw4_elems_l0]
    have h1 : decide ((pre.length : Int) < (l.length : Int)) = false := by subst h; simp
    rw [h1, cond_false]
  | x :: rest, pre, j, h => by
    rw [List.length_cons, show j + (rest.length + 1) + 1 = (j + rest.length + 1) + 1 from rfl, p_limelightlaw4_elems_l0]
    have h1 : decide ((pre.length : Int) < (l.length : Int)) = true := by subst h; simp; omega
    have h2 : ix l (pre.length : Int) = some x := ix_mid' h rfl
    have h4 : IntKind.wrap .i64 ((pre.length : Int) + 1) = (((pre ++ [x]).length : Nat) : Int) := by
      rw [wrap_i64 (by omega) (by have : pre.length ≤ l.length := by subst h; simp
                                  omega)]
      simp
    have h5 : (x.ID != x.ID) = false := by simp
    simp only [h1, cond_true, h2, Option.bind_some, h5, cond_false, beq_self_eq_true, Bool.not_true, h4]
    exact elems_l0 kE0 kE1 l hl rest (pre ++ [x]) j (by rw [h]; simp)
theorem elems_self {l : List T_api_Elem} {k : Nat} (hl : l.length < 2 ^ 30) (hk : l.length < k) : p_limelightlaw4_elems k l l = some true := by
  unfold p_limelightlaw4_elems
  have h0 : ((l.length : Int) != (l.length : Int)) = false := by simp
  rw [h0, cond_false]
  have := fun kE0 (kE1 : Bool → Option Bool) => elems_l0 kE0 kE1 l hl l [] (k - l.length - 1) rfl
  simp only [show k - l.length - 1 + l.length + 1 = k by omega, List.length_nil] at this
  exact this _ _
end Go.Ev
/- Equations, printed by tracer2.py. -/
namespace Go.Ev
open Go.Proofs
set_option linter.unusedVariables false
set_option maxRecDepth 100000
-- 20 limelight/limelightlaw4.known
theorem limelightlaw4_known_entry (rec : CallF) (loop : LoopV) (σ : Stamp)  (h : H) : cvBody G rec loop 20 σ [] h =
 (buildSliceV Try.prog 32 2 [(0, (.p (.int .u8 104))), (1, (.p (.int .u8 105)))]).bind fun t1 =>
 (litS true t1).bind fun t2 =>
 (buildV Try.prog 38 [(0, (.p (.int .i64 1))), (1, t2)]).bind fun t3 =>
 (buildSliceV Try.prog 27 1 [(0, t3)]).bind fun t4 =>
 (callO rec 22 (4 :: 0 :: 1 :: 0 :: σ) [(.p (.int .u16 48862)), t4] (List.replicate 95 [] :: h) (some 20)).bind fun q5 =>
 (extV q5.1 0).bind fun t6 =>
 (extV q5.1 1).bind fun t7 =>
 (castI .i64 t7).bind fun n8 =>
 (callO rec 23 (1 :: 0 :: 1 :: 1 :: 0 :: σ) [(.p (.int .u16 48862)), t6] q5.2 (some 25)).bind fun q9 =>
 (extV q9.1 0).bind fun t10 =>
 (extV q9.1 1).bind fun t11 =>
 (castI .i64 t11).bind fun n12 =>
 (callO rec 22 (0 :: 0 :: 1 :: 1 :: 1 :: 0 :: σ) [(.p (.int .u16 0)), (.p (.slice .none 0 0))] q9.2 (some 29)).bind fun q13 =>
 (extV q13.1 0).bind fun t14 =>
 (extV q13.1 1).bind fun t15 =>
 (castI .i64 t15).bind fun n16 =>
 (callO rec 25 (1 :: 0 :: 1 :: 1 :: 1 :: 1 :: 0 :: σ) [t10, (.p (.int .i64 1))] q13.2 (some 34)).bind fun q17 =>
 (extV q17.1 0).bind fun t18 =>
 (extV q17.1 1).bind fun t19 =>
 (asB t19).bind fun b20 =>
 (callO rec 25 (0 :: 0 :: 1 :: 1 :: 1 :: 1 :: 1 :: 0 :: σ) [(.p (.slice .none 0 0)), (.p (.int .i64 1))] q17.2 (some 38)).bind fun q21 =>
 (extV q21.1 0).bind fun t22 =>
 (extV q21.1 1).bind fun t23 =>
 (asB t23).bind fun b24 =>
 (buildV Try.prog 52 [(6, (.p (.int .u16 48862))), (7, t6)]).bind fun t25 =>
 (callO rec 26 (2 :: 0 :: 1 :: 1 :: 1 :: 1 :: 1 :: 1 :: 0 :: σ) [t25] q21.2 (some 44)).bind fun q26 =>
 (extV q26.1 0).bind fun t27 =>
 (castS t27).bind fun s28 =>
 (extV q26.1 1).bind fun t29 =>
 (asB t29).bind fun b30 =>
 (buildSliceV Try.prog 32 4 [(0, (.p (.int .u8 5))), (1, (.p (.int .u8 9))), (2, (.p (.int .u8 1))), (3, (.p (.int .u8 1)))]).bind fun t31 =>
 (callO rec 23 (1 :: 0 :: 1 :: 1 :: 1 :: 1 :: 1 :: 1 :: 1 :: 0 :: σ) [(.p (.int .u16 4096)), t31] q26.2 (some 49)).bind fun q32 =>
 (extV q32.1 0).bind fun t33 =>
 (extV q32.1 1).bind fun t34 =>
 (castI .i64 t34).bind fun n35 =>
 (bif n8 == 0 then ((strO q32.2 t6).bind fun t36 =>
 (castS t36).bind fun s37 =>
 some (s37.toList == ((⟨#[17, 104, 105, 0]⟩ : ByteArray)).toList)) else (some false)).bind fun b38 =>
 (bif b38 then (some (n12 == 0)) else (some false)).bind fun b39 =>
 (bif b39 then ((lenO t10).bind fun t40 =>
 (castI .i64 t40).bind fun n41 =>
 some (n41 == 1)) else (some false)).bind fun b42 =>
 (bif b42 then (some (n16 == 1)) else (some false)).bind fun b43 =>
 (bif b43 then (some b20) else (some false)).bind fun b44 =>
 (bif b44 then ((strO q32.2 t18).bind fun t45 =>
 (castS t45).bind fun s46 =>
 some (s46.toList == ((⟨#[104, 105]⟩ : ByteArray)).toList)) else (some false)).bind fun b47 =>
 (bif b47 then (some (!b24)) else (some false)).bind fun b48 =>
 (bif b48 then (some b30) else (some false)).bind fun b49 =>
 (bif b49 then (some (s28.toList == ((⟨#[104, 105]⟩ : ByteArray)).toList)) else (some false)).bind fun b50 =>
 (bif b50 then (some (n35 == 13)) else (some false)).bind fun b51 =>
 fin false σ q32.2 [(.p (.bool b51))] := by kernel_rfl
end Go.Ev
/- Lifted by lift.py: limelightlaw4_known as a plain function. -/
namespace Go.Ev
open Go.Proofs
set_option linter.unusedVariables false
set_option linter.unusedSimpArgs false
set_option maxRecDepth 100000
def p_limelightlaw4_known (k : Nat)  : Option (Bool) :=
(p_ext_Bytes k 48862 ([((⟨1, ([104, 105])⟩ : T_api_Elem))])).bind fun r3 =>
(p_ext_Read k 48862 r3.1).bind fun r10 =>
(p_ext_Bytes k 0 (([] : List T_api_Elem))).bind fun r17 =>
(p_ext_Find k r10.1 1).bind fun r24 =>
(p_ext_Find k (([] : List T_api_Elem)) 1).bind fun r31 =>
(p_ext_Rid k ((⟨false, 0, 0, 0, 0, (([] : List Int)), 48862, r3.1, (([] : List Int))⟩ : T_api_Rtp))).bind fun r38 =>
(p_ext_Read k 4096 ([5, 9, 1, 1])).bind fun r44 =>
(bif r3.2 == 0 then (some ((strB r3.1).toList == ((⟨#[17, 104, 105, 0]⟩ : ByteArray)).toList)) else (some false)).bind fun b51 =>
(bif b51 then (some (r10.2 == 0)) else (some false)).bind fun b55 =>
(bif b55 then (some (((r10.1.length : Int)) == 1)) else (some false)).bind fun b59 =>
(bif b59 then (some (r17.2 == 1)) else (some false)).bind fun b63 =>
(bif b63 then (some r24.2) else (some false)).bind fun b67 =>
(bif b67 then (some ((strB r24.1).toList == ((⟨#[104, 105]⟩ : ByteArray)).toList)) else (some false)).bind fun b71 =>
(bif b71 then (some (!r31.2)) else (some false)).bind fun b75 =>
(bif b75 then (some r38.2) else (some false)).bind fun b79 =>
(bif b79 then (some (r38.1.toList == ((⟨#[104, 105]⟩ : ByteArray)).toList)) else (some false)).bind fun b83 =>
(bif b83 then (some (r44.2 == 13)) else (some false)).bind fun b87 =>
some (b87)
theorem limelightlaw4_known_ok (k : Nat) {h : H} {σ : Stamp}  : Sim (p_limelightlaw4_known k ) (ev G X0 20 σ [] h) (fun r s => s = ([.v (.p (.bool r))], h)) := by
  refine Sim.ev rfl (Sim.ext (limelightlaw4_known_entry _ _ _ _) ?_)
  rw [p_limelightlaw4_known]
  have S0 : Fm 95 h [] [] [] (List.replicate 95 [] :: h) := Fm.start0
  have h1 : SlF (dI .u8) [104, 105] (.fz [(.p (.int .u8 104)), (.p (.int .u8 105))] 2 1 true) := SlF.lit (cs := [(.p (.int .u8 104)), (.p (.int .u8 105))]) (RL.cons (show (dI .u8).R 104 [(.p (.int .u8 104))] from rfl) (RL.cons (show (dI .u8).R 105 [(.p (.int .u8 105))] from rfl) RL.nil)) rfl rfl true
  refine Sim.op (bldS (pt_cons rfl (pt_cons rfl pt_nil)) (by kernel_rfl : _ = some (.fz [(.p (.int .u8 104)), (.p (.int .u8 105))] 2 1 true))) ?_
  refine Sim.op (rfl) ?_
  refine Sim.op (bldV (pt_cons rfl (pt_cons h1.still.cells pt_nil)) (by kernel_rfl : _ = some (.agg [.p (.int .i64 1), .fz [(.p (.int .u8 104)), (.p (.int .u8 105))] 2 1 true]))) ?_
  have h2 : SlF dT_api_Elem [((⟨1, ([104, 105])⟩ : T_api_Elem))] (.fz [(.p (.int .i64 1)), (.fz [(.p (.int .u8 104)), (.p (.int .u8 105))] 2 1 true)] 1 2 true) := SlF.lit (cs := [(.p (.int .i64 1)), (.fz [(.p (.int .u8 104)), (.p (.int .u8 105))] 2 1 true)]) (RL.cons (show dT_api_Elem.R ((⟨1, ([104, 105])⟩ : T_api_Elem)) [.p (.int .i64 1), .fz [(.p (.int .u8 104)), (.p (.int .u8 105))] 2 1 true] from (dT_api_Elem.mk h1)) RL.nil) rfl rfl true
  refine Sim.op (bldS (pt_cons (c := [.p (.int .i64 1), .fz [(.p (.int .u8 104)), (.p (.int .u8 105))] 2 1 true]) rfl pt_nil) (by kernel_rfl : _ = some (.fz [(.p (.int .i64 1)), (.fz [(.p (.int .u8 104)), (.p (.int .u8 105))] 2 1 true)] 1 2 true))) ?_
  refine Sim.call (ext_Bytes_ok k 48862 ([((⟨1, ([104, 105])⟩ : T_api_Elem))]) (h2.h (List.replicate 95 [] :: h))) fun r3 cs4 H5 h6 q7 => ?_
  obtain ⟨v8, h9, q7⟩ := q7
  cases q7
  refine Sim.op (rfl) ?_
  refine Sim.op (rfl) ?_
  refine Sim.op (castI_p _ _) ?_
  refine Sim.call (ext_Read_ok k 48862 r3.1 (h9.h (List.replicate 95 [] :: h))) fun r10 cs11 H12 h13 q14 => ?_
  obtain ⟨v15, h16, q14⟩ := q14
  cases q14
  refine Sim.op (rfl) ?_
  refine Sim.op (rfl) ?_
  refine Sim.op (castI_p _ _) ?_
  refine Sim.call (ext_Bytes_ok k 0 (([] : List T_api_Elem)) ((SlF.nil dT_api_Elem).h (List.replicate 95 [] :: h))) fun r17 cs18 H19 h20 q21 => ?_
  obtain ⟨v22, h23, q21⟩ := q21
  cases q21
  refine Sim.op (rfl) ?_
  refine Sim.op (rfl) ?_
  refine Sim.op (castI_p _ _) ?_
  refine Sim.call (ext_Find_ok k r10.1 (h16.h (List.replicate 95 [] :: h)) 1) fun r24 cs25 H26 h27 q28 => ?_
  obtain ⟨v29, h30, q28⟩ := q28
  cases q28
  refine Sim.op (rfl) ?_
  refine Sim.op (rfl) ?_
  refine Sim.op (asB_p _) ?_
  refine Sim.call (ext_Find_ok k (([] : List T_api_Elem)) ((SlF.nil dT_api_Elem).h (List.replicate 95 [] :: h)) 1) fun r31 cs32 H33 h34 q35 => ?_
  obtain ⟨v36, h37, q35⟩ := q35
  cases q35
  refine Sim.op (rfl) ?_
  refine Sim.op (rfl) ?_
  refine Sim.op (asB_p _) ?_
  refine Sim.op (bldV (pt_cons rfl (pt_cons h9.still.cells pt_nil)) (by kernel_rfl : _ = some (.agg [.p (.bool false), .p (.int .i64 0), .p (.int .u16 0), .p (.int .u32 0), .p (.int .u32 0), .p (.slice none 0 0), .p (.int .u16 48862), v8, .p (.slice none 0 0)]))) ?_
  refine Sim.call (ext_Rid_ok k ((⟨false, 0, 0, 0, 0, (([] : List Int)), 48862, r3.1, (([] : List Int))⟩ : T_api_Rtp)) (show dT_api_Rtp.R ((⟨false, 0, 0, 0, 0, (([] : List Int)), 48862, r3.1, (([] : List Int))⟩ : T_api_Rtp)) [.p (.bool false), .p (.int .i64 0), .p (.int .u16 0), .p (.int .u32 0), .p (.int .u32 0), .p (.slice none 0 0), .p (.int .u16 48862), v8, .p (.slice none 0 0)] from (dT_api_Rtp.mk (SlF.nil (dI .u32)) h9 (SlF.nil (dI .u8))))) fun r38 cs39 H40 h41 q42 => ?_
  cases q42
  refine Sim.op (rfl) ?_
  refine Sim.op (castS_p _) ?_
  refine Sim.op (rfl) ?_
  refine Sim.op (asB_p _) ?_
  have h43 : SlF (dI .u8) [5, 9, 1, 1] (.fz [(.p (.int .u8 5)), (.p (.int .u8 9)), (.p (.int .u8 1)), (.p (.int .u8 1))] 4 1 true) := SlF.lit (cs := [(.p (.int .u8 5)), (.p (.int .u8 9)), (.p (.int .u8 1)), (.p (.int .u8 1))]) (RL.cons (show (dI .u8).R 5 [(.p (.int .u8 5))] from rfl) (RL.cons (show (dI .u8).R 9 [(.p (.int .u8 9))] from rfl) (RL.cons (show (dI .u8).R 1 [(.p (.int .u8 1))] from rfl) (RL.cons (show (dI .u8).R 1 [(.p (.int .u8 1))] from rfl) RL.nil)))) rfl rfl true
  refine Sim.op (bldS (pt_cons rfl (pt_cons rfl (pt_cons rfl (pt_cons rfl pt_nil)))) (by kernel_rfl : _ = some (.fz [(.p (.int .u8 5)), (.p (.int .u8 9)), (.p (.int .u8 1)), (.p (.int .u8 1))] 4 1 true))) ?_
  refine Sim.call (ext_Read_ok k 4096 ([5, 9, 1, 1]) (h43.h (List.replicate 95 [] :: h))) fun r44 cs45 H46 h47 q48 => ?_
  obtain ⟨v49, h50, q48⟩ := q48
  cases q48
  refine Sim.op (rfl) ?_
  refine Sim.op (rfl) ?_
  refine Sim.op (castI_p _ _) ?_
  refine Sim.ch (P := fun r y => r = y) ?_ (fun b51 y52 h53 h54 => ?_)
  · refine Sim.cd (fun hc => ?_) (fun hc => ?_)
    · refine Sim.op ((h9.h (List.replicate 95 [] :: h)).str) ?_
      refine Sim.op (castS_p _) ?_
      exact Sim.ret rfl rfl
    · exact Sim.ret rfl rfl
  subst h54
  refine Sim.ch (P := fun r y => r = y) ?_ (fun b55 y56 h57 h58 => ?_)
  · refine Sim.cd (fun hc => ?_) (fun hc => ?_)
    · exact Sim.ret rfl rfl
    · exact Sim.ret rfl rfl
  subst h58
  refine Sim.ch (P := fun r y => r = y) ?_ (fun b59 y60 h61 h62 => ?_)
  · refine Sim.cd (fun hc => ?_) (fun hc => ?_)
    · refine Sim.op ((h16.h (List.replicate 95 [] :: h)).len) ?_
      refine Sim.op (castI_p _ _) ?_
      exact Sim.ret rfl rfl
    · exact Sim.ret rfl rfl
  subst h62
  refine Sim.ch (P := fun r y => r = y) ?_ (fun b63 y64 h65 h66 => ?_)
  · refine Sim.cd (fun hc => ?_) (fun hc => ?_)
    · exact Sim.ret rfl rfl
    · exact Sim.ret rfl rfl
  subst h66
  refine Sim.ch (P := fun r y => r = y) ?_ (fun b67 y68 h69 h70 => ?_)
  · refine Sim.cd (fun hc => ?_) (fun hc => ?_)
    · exact Sim.ret rfl rfl
    · exact Sim.ret rfl rfl
  subst h70
  refine Sim.ch (P := fun r y => r = y) ?_ (fun b71 y72 h73 h74 => ?_)
  · refine Sim.cd (fun hc => ?_) (fun hc => ?_)
    · refine Sim.op ((h30.h (List.replicate 95 [] :: h)).str) ?_
      refine Sim.op (castS_p _) ?_
      exact Sim.ret rfl rfl
    · exact Sim.ret rfl rfl
  subst h74
  refine Sim.ch (P := fun r y => r = y) ?_ (fun b75 y76 h77 h78 => ?_)
  · refine Sim.cd (fun hc => ?_) (fun hc => ?_)
    · exact Sim.ret rfl rfl
    · exact Sim.ret rfl rfl
  subst h78
  refine Sim.ch (P := fun r y => r = y) ?_ (fun b79 y80 h81 h82 => ?_)
  · refine Sim.cd (fun hc => ?_) (fun hc => ?_)
    · exact Sim.ret rfl rfl
    · exact Sim.ret rfl rfl
  subst h82
  refine Sim.ch (P := fun r y => r = y) ?_ (fun b83 y84 h85 h86 => ?_)
  · refine Sim.cd (fun hc => ?_) (fun hc => ?_)
    · exact Sim.ret rfl rfl
    · exact Sim.ret rfl rfl
  subst h86
  refine Sim.ch (P := fun r y => r = y) ?_ (fun b87 y88 h89 h90 => ?_)
  · refine Sim.cd (fun hc => ?_) (fun hc => ?_)
    · exact Sim.ret rfl rfl
    · exact Sim.ret rfl rfl
  subst h90
  exact Sim.fin (S0.finN (lv_cons (still_bool _).lv lv_nil)) rfl
end Go.Ev
namespace Go.Ev
set_option maxRecDepth 100000
theorem known4 : p_limelightlaw4_known 40 = some true := by kernel_rfl
end Go.Ev
/- Equations, printed by tracer2.py. -/
namespace Go.Ev
open Go.Proofs
set_option linter.unusedVariables false
set_option maxRecDepth 100000
-- 4 limelight/limelightlaw4.ExtTells
theorem limelightlaw4_ExtTells_entry (rec : CallF) (loop : LoopV) (σ : Stamp) (x0 : V) (x1 : V) (x2 : V) (x3 : Int) (x4 : Int) (x5 : Int) (x6 : Int) (h : H) : cvBody G rec loop 4 σ [x0, x1, x2, (.p (.int .i64 x3)), (.p (.int .u16 x4)), (.p (.int .i64 x5)), (.p (.int .u8 x6))] h =
 (buildV Try.prog 26 [(0, x0)]).bind fun t1 =>
 (boxO false (2 :: 0 :: 1 :: 0 :: σ) 22 (List.replicate 96 [] :: h) t1).bind fun q2 =>
 (callO rec 16 (1 :: 0 :: 1 :: 1 :: 0 :: σ) [q2.1, (.p (.bool false))] q2.2 (some 24)).bind fun q3 =>
 (callO rec 16 (3 :: 0 :: 1 :: 1 :: 0 :: σ) [q2.1, (.p (.bool true))] q3.2 (some 26)).bind fun q4 =>
 (lenO x1).bind fun t5 =>
 (castI .i64 t5).bind fun n6 =>
 bif decide (n6 > 12) then (
 (slS 2 x1 none (some 12) none).bind fun t7 =>
 (callO rec 18 (1 :: 0 :: 1 :: 1 :: 1 :: 1 :: 0 :: σ) [(.p (.int .u16 4096)), q4.1] q4.2 (some 34)).bind fun q8 =>
 (extV q8.1 0).bind fun t9 =>
 (extV q8.1 1).bind fun t10 =>
 (castI .i64 t10).bind fun n11 =>
 (lenO t9).bind fun t12 =>
 (castI .i64 t12).bind fun n13 =>
 bif decide (n13 > 0) then (
 (lenO t9).bind fun t14 =>
 (castI .i64 t14).bind fun n15 =>
 (callO rec 21 (5 :: 1 :: 0 :: 1 :: 1 :: 1 :: 1 :: 1 :: 0 :: σ) [(.p (.int .i64 x5)), (.p (.int .i64 0)), (.p (.int .i64 (IntKind.wrap .i64 (n15 - 1))))] q8.2 (some 45)).bind fun q16 =>
 (castI .i64 q16.1).bind fun n17 =>
 (iS 1 t9 n17).bind fun t18 =>
 (ldO false 1 q16.2 t18).bind fun t19 =>
 (castI .u8 t19).bind fun n20 =>
 (iS 1 t9 n17).bind fun t21 =>
 ((stO true 1 (11 :: 1 :: 0 :: 1 :: 1 :: 1 :: 1 :: 1 :: 0 :: σ) q16.2 t21 (.p (.int .u8 (intBits .xor .u8 n20 x6)))).map fun h => (udf, h)).bind fun q22 =>
 (callO rec 17 (3 :: 0 :: 1 :: 1 :: 1 :: 1 :: 1 :: 1 :: 0 :: σ) [(.p (.int .u16 48862)), q3.1, (.p (.int .i64 (intBits .and .i64 x3 15)))] q22.2 (some 54)).bind fun q23 =>
 (asB q23.1).bind fun b24 =>
 (bif b24 then ((callO rec 17 (8 :: 0 :: 1 :: 1 :: 1 :: 1 :: 1 :: 1 :: 0 :: σ) [(.p (.int .u16 4096)), q4.1, (.p (.int .i64 (intBits .and .i64 x3 255)))] q23.2 (some 59)).bind fun q25 =>
 (asB q25.1).bind fun b26 =>
 some ((.p (.bool b26)), q25.2)) else (some ((.p (.bool false)), q23.2))).bind fun q27 =>
 (asB q27.1).bind fun b28 =>
 (bif b28 then ((callO rec 17 (13 :: 0 :: 1 :: 1 :: 1 :: 1 :: 1 :: 1 :: 0 :: σ) [(.p (.int .u16 48862)), t7, (.p (.int .i64 x3))] q27.2 (some 64)).bind fun q29 =>
 (asB q29.1).bind fun b30 =>
 some ((.p (.bool b30)), q29.2)) else (some ((.p (.bool false)), q27.2))).bind fun q31 =>
 (asB q31.1).bind fun b32 =>
 (bif b32 then ((callO rec 17 (18 :: 0 :: 1 :: 1 :: 1 :: 1 :: 1 :: 1 :: 0 :: σ) [(.p (.int .u16 4096)), t7, (.p (.int .i64 x3))] q31.2 (some 69)).bind fun q33 =>
 (asB q33.1).bind fun b34 =>
 some ((.p (.bool b34)), q33.2)) else (some ((.p (.bool false)), q31.2))).bind fun q35 =>
 (asB q35.1).bind fun b36 =>
 (bif b36 then ((callO rec 17 (23 :: 0 :: 1 :: 1 :: 1 :: 1 :: 1 :: 1 :: 0 :: σ) [(.p (.int .u16 x4)), q3.1, (.p (.int .i64 1))] q35.2 (some 74)).bind fun q37 =>
 (asB q37.1).bind fun b38 =>
 some ((.p (.bool b38)), q37.2)) else (some ((.p (.bool false)), q35.2))).bind fun q39 =>
 (asB q39.1).bind fun b40 =>
 (bif b40 then ((callFO rec 19 (27 :: 0 :: 1 :: 1 :: 1 :: 1 :: 1 :: 1 :: 0 :: σ) [(.p (.int .u16 48862)), x2] q39.2 (some 78)).bind fun q41 =>
 (asB q41.1).bind fun b42 =>
 some ((.p (.bool b42)), q41.2)) else (some ((.p (.bool false)), q39.2))).bind fun q43 =>
 (asB q43.1).bind fun b44 =>
 (bif b44 then ((callFO rec 19 (31 :: 0 :: 1 :: 1 :: 1 :: 1 :: 1 :: 1 :: 0 :: σ) [(.p (.int .u16 4096)), x2] q43.2 (some 82)).bind fun q45 =>
 (asB q45.1).bind fun b46 =>
 some ((.p (.bool b46)), q45.2)) else (some ((.p (.bool false)), q43.2))).bind fun q47 =>
 (asB q47.1).bind fun b48 =>
 (bif b48 then ((callFO rec 19 (36 :: 0 :: 1 :: 1 :: 1 :: 1 :: 1 :: 1 :: 0 :: σ) [(.p (.int .u16 x4)), x2] q47.2 (some 87)).bind fun q49 =>
 (asB q49.1).bind fun b50 =>
 some ((.p (.bool b50)), q49.2)) else (some ((.p (.bool false)), q47.2))).bind fun q51 =>
 (asB q51.1).bind fun b52 =>
 (bif b52 then ((callFO rec 19 (40 :: 0 :: 1 :: 1 :: 1 :: 1 :: 1 :: 1 :: 0 :: σ) [(.p (.int .u16 4096)), t9] q51.2 (some 91)).bind fun q53 =>
 (asB q53.1).bind fun b54 =>
 some ((.p (.bool b54)), q53.2)) else (some ((.p (.bool false)), q51.2))).bind fun q55 =>
 (asB q55.1).bind fun b56 =>
 (bif b56 then ((callO rec 20 (43 :: 0 :: 1 :: 1 :: 1 :: 1 :: 1 :: 1 :: 0 :: σ) [] q55.2 (some 94)).bind fun q57 =>
 (asB q57.1).bind fun b58 =>
 some ((.p (.bool b58)), q57.2)) else (some ((.p (.bool false)), q55.2))).bind fun q59 =>
 (asB q59.1).bind fun b60 =>
 fin false σ q59.2 [(.p (.bool b60))])
 else (
 (callO rec 17 (3 :: 0 :: 1 :: 1 :: 1 :: 1 :: 1 :: 1 :: 0 :: σ) [(.p (.int .u16 48862)), q3.1, (.p (.int .i64 (intBits .and .i64 x3 15)))] q8.2 (some 54)).bind fun q61 =>
 (asB q61.1).bind fun b62 =>
 (bif b62 then ((callO rec 17 (8 :: 0 :: 1 :: 1 :: 1 :: 1 :: 1 :: 1 :: 0 :: σ) [(.p (.int .u16 4096)), q4.1, (.p (.int .i64 (intBits .and .i64 x3 255)))] q61.2 (some 59)).bind fun q63 =>
 (asB q63.1).bind fun b64 =>
 some ((.p (.bool b64)), q63.2)) else (some ((.p (.bool false)), q61.2))).bind fun q65 =>
 (asB q65.1).bind fun b66 =>
 (bif b66 then ((callO rec 17 (13 :: 0 :: 1 :: 1 :: 1 :: 1 :: 1 :: 1 :: 0 :: σ) [(.p (.int .u16 48862)), t7, (.p (.int .i64 x3))] q65.2 (some 64)).bind fun q67 =>
 (asB q67.1).bind fun b68 =>
 some ((.p (.bool b68)), q67.2)) else (some ((.p (.bool false)), q65.2))).bind fun q69 =>
 (asB q69.1).bind fun b70 =>
 (bif b70 then ((callO rec 17 (18 :: 0 :: 1 :: 1 :: 1 :: 1 :: 1 :: 1 :: 0 :: σ) [(.p (.int .u16 4096)), t7, (.p (.int .i64 x3))] q69.2 (some 69)).bind fun q71 =>
 (asB q71.1).bind fun b72 =>
 some ((.p (.bool b72)), q71.2)) else (some ((.p (.bool false)), q69.2))).bind fun q73 =>
 (asB q73.1).bind fun b74 =>
 (bif b74 then ((callO rec 17 (23 :: 0 :: 1 :: 1 :: 1 :: 1 :: 1 :: 1 :: 0 :: σ) [(.p (.int .u16 x4)), q3.1, (.p (.int .i64 1))] q73.2 (some 74)).bind fun q75 =>
 (asB q75.1).bind fun b76 =>
 some ((.p (.bool b76)), q75.2)) else (some ((.p (.bool false)), q73.2))).bind fun q77 =>
 (asB q77.1).bind fun b78 =>
 (bif b78 then ((callFO rec 19 (27 :: 0 :: 1 :: 1 :: 1 :: 1 :: 1 :: 1 :: 0 :: σ) [(.p (.int .u16 48862)), x2] q77.2 (some 78)).bind fun q79 =>
 (asB q79.1).bind fun b80 =>
 some ((.p (.bool b80)), q79.2)) else (some ((.p (.bool false)), q77.2))).bind fun q81 =>
 (asB q81.1).bind fun b82 =>
 (bif b82 then ((callFO rec 19 (31 :: 0 :: 1 :: 1 :: 1 :: 1 :: 1 :: 1 :: 0 :: σ) [(.p (.int .u16 4096)), x2] q81.2 (some 82)).bind fun q83 =>
 (asB q83.1).bind fun b84 =>
 some ((.p (.bool b84)), q83.2)) else (some ((.p (.bool false)), q81.2))).bind fun q85 =>
 (asB q85.1).bind fun b86 =>
 (bif b86 then ((callFO rec 19 (36 :: 0 :: 1 :: 1 :: 1 :: 1 :: 1 :: 1 :: 0 :: σ) [(.p (.int .u16 x4)), x2] q85.2 (some 87)).bind fun q87 =>
 (asB q87.1).bind fun b88 =>
 some ((.p (.bool b88)), q87.2)) else (some ((.p (.bool false)), q85.2))).bind fun q89 =>
 (asB q89.1).bind fun b90 =>
 (bif b90 then ((callFO rec 19 (40 :: 0 :: 1 :: 1 :: 1 :: 1 :: 1 :: 1 :: 0 :: σ) [(.p (.int .u16 4096)), t9] q89.2 (some 91)).bind fun q91 =>
 (asB q91.1).bind fun b92 =>
 some ((.p (.bool b92)), q91.2)) else (some ((.p (.bool false)), q89.2))).bind fun q93 =>
 (asB q93.1).bind fun b94 =>
 (bif b94 then ((callO rec 20 (43 :: 0 :: 1 :: 1 :: 1 :: 1 :: 1 :: 1 :: 0 :: σ) [] q93.2 (some 94)).bind fun q95 =>
 (asB q95.1).bind fun b96 =>
 some ((.p (.bool b96)), q95.2)) else (some ((.p (.bool false)), q93.2))).bind fun q97 =>
 (asB q97.1).bind fun b98 =>
 fin false σ q97.2 [(.p (.bool b98))]))
 else (
 (callO rec 18 (1 :: 0 :: 1 :: 1 :: 1 :: 1 :: 0 :: σ) [(.p (.int .u16 4096)), q4.1] q4.2 (some 34)).bind fun q99 =>
 (extV q99.1 0).bind fun t100 =>
 (extV q99.1 1).bind fun t101 =>
 (castI .i64 t101).bind fun n102 =>
 (lenO t100).bind fun t103 =>
 (castI .i64 t103).bind fun n104 =>
 bif decide (n104 > 0) then (
 (lenO t100).bind fun t105 =>
 (castI .i64 t105).bind fun n106 =>
 (callO rec 21 (5 :: 1 :: 0 :: 1 :: 1 :: 1 :: 1 :: 1 :: 0 :: σ) [(.p (.int .i64 x5)), (.p (.int .i64 0)), (.p (.int .i64 (IntKind.wrap .i64 (n106 - 1))))] q99.2 (some 45)).bind fun q107 =>
 (castI .i64 q107.1).bind fun n108 =>
 (iS 1 t100 n108).bind fun t109 =>
 (ldO false 1 q107.2 t109).bind fun t110 =>
 (castI .u8 t110).bind fun n111 =>
 (iS 1 t100 n108).bind fun t112 =>
 ((stO true 1 (11 :: 1 :: 0 :: 1 :: 1 :: 1 :: 1 :: 1 :: 0 :: σ) q107.2 t112 (.p (.int .u8 (intBits .xor .u8 n111 x6)))).map fun h => (udf, h)).bind fun q113 =>
 (callO rec 17 (3 :: 0 :: 1 :: 1 :: 1 :: 1 :: 1 :: 1 :: 0 :: σ) [(.p (.int .u16 48862)), q3.1, (.p (.int .i64 (intBits .and .i64 x3 15)))] q113.2 (some 54)).bind fun q114 =>
 (asB q114.1).bind fun b115 =>
 (bif b115 then ((callO rec 17 (8 :: 0 :: 1 :: 1 :: 1 :: 1 :: 1 :: 1 :: 0 :: σ) [(.p (.int .u16 4096)), q4.1, (.p (.int .i64 (intBits .and .i64 x3 255)))] q114.2 (some 59)).bind fun q116 =>
 (asB q116.1).bind fun b117 =>
 some ((.p (.bool b117)), q116.2)) else (some ((.p (.bool false)), q114.2))).bind fun q118 =>
 (asB q118.1).bind fun b119 =>
 (bif b119 then ((callO rec 17 (13 :: 0 :: 1 :: 1 :: 1 :: 1 :: 1 :: 1 :: 0 :: σ) [(.p (.int .u16 48862)), x1, (.p (.int .i64 x3))] q118.2 (some 64)).bind fun q120 =>
 (asB q120.1).bind fun b121 =>
 some ((.p (.bool b121)), q120.2)) else (some ((.p (.bool false)), q118.2))).bind fun q122 =>
 (asB q122.1).bind fun b123 =>
 (bif b123 then ((callO rec 17 (18 :: 0 :: 1 :: 1 :: 1 :: 1 :: 1 :: 1 :: 0 :: σ) [(.p (.int .u16 4096)), x1, (.p (.int .i64 x3))] q122.2 (some 69)).bind fun q124 =>
 (asB q124.1).bind fun b125 =>
 some ((.p (.bool b125)), q124.2)) else (some ((.p (.bool false)), q122.2))).bind fun q126 =>
 (asB q126.1).bind fun b127 =>
 (bif b127 then ((callO rec 17 (23 :: 0 :: 1 :: 1 :: 1 :: 1 :: 1 :: 1 :: 0 :: σ) [(.p (.int .u16 x4)), q3.1, (.p (.int .i64 1))] q126.2 (some 74)).bind fun q128 =>
 (asB q128.1).bind fun b129 =>
 some ((.p (.bool b129)), q128.2)) else (some ((.p (.bool false)), q126.2))).bind fun q130 =>
 (asB q130.1).bind fun b131 =>
 (bif b131 then ((callFO rec 19 (27 :: 0 :: 1 :: 1 :: 1 :: 1 :: 1 :: 1 :: 0 :: σ) [(.p (.int .u16 48862)), x2] q130.2 (some 78)).bind fun q132 =>
 (asB q132.1).bind fun b133 =>
 some ((.p (.bool b133)), q132.2)) else (some ((.p (.bool false)), q130.2))).bind fun q134 =>
 (asB q134.1).bind fun b135 =>
 (bif b135 then ((callFO rec 19 (31 :: 0 :: 1 :: 1 :: 1 :: 1 :: 1 :: 1 :: 0 :: σ) [(.p (.int .u16 4096)), x2] q134.2 (some 82)).bind fun q136 =>
 (asB q136.1).bind fun b137 =>
 some ((.p (.bool b137)), q136.2)) else (some ((.p (.bool false)), q134.2))).bind fun q138 =>
 (asB q138.1).bind fun b139 =>
 (bif b139 then ((callFO rec 19 (36 :: 0 :: 1 :: 1 :: 1 :: 1 :: 1 :: 1 :: 0 :: σ) [(.p (.int .u16 x4)), x2] q138.2 (some 87)).bind fun q140 =>
 (asB q140.1).bind fun b141 =>
 some ((.p (.bool b141)), q140.2)) else (some ((.p (.bool false)), q138.2))).bind fun q142 =>
 (asB q142.1).bind fun b143 =>
 (bif b143 then ((callFO rec 19 (40 :: 0 :: 1 :: 1 :: 1 :: 1 :: 1 :: 1 :: 0 :: σ) [(.p (.int .u16 4096)), t100] q142.2 (some 91)).bind fun q144 =>
 (asB q144.1).bind fun b145 =>
 some ((.p (.bool b145)), q144.2)) else (some ((.p (.bool false)), q142.2))).bind fun q146 =>
 (asB q146.1).bind fun b147 =>
 (bif b147 then ((callO rec 20 (43 :: 0 :: 1 :: 1 :: 1 :: 1 :: 1 :: 1 :: 0 :: σ) [] q146.2 (some 94)).bind fun q148 =>
 (asB q148.1).bind fun b149 =>
 some ((.p (.bool b149)), q148.2)) else (some ((.p (.bool false)), q146.2))).bind fun q150 =>
 (asB q150.1).bind fun b151 =>
 fin false σ q150.2 [(.p (.bool b151))])
 else (
 (callO rec 17 (3 :: 0 :: 1 :: 1 :: 1 :: 1 :: 1 :: 1 :: 0 :: σ) [(.p (.int .u16 48862)), q3.1, (.p (.int .i64 (intBits .and .i64 x3 15)))] q99.2 (some 54)).bind fun q152 =>
 (asB q152.1).bind fun b153 =>
 (bif b153 then ((callO rec 17 (8 :: 0 :: 1 :: 1 :: 1 :: 1 :: 1 :: 1 :: 0 :: σ) [(.p (.int .u16 4096)), q4.1, (.p (.int .i64 (intBits .and .i64 x3 255)))] q152.2 (some 59)).bind fun q154 =>
 (asB q154.1).bind fun b155 =>
 some ((.p (.bool b155)), q154.2)) else (some ((.p (.bool false)), q152.2))).bind fun q156 =>
 (asB q156.1).bind fun b157 =>
 (bif b157 then ((callO rec 17 (13 :: 0 :: 1 :: 1 :: 1 :: 1 :: 1 :: 1 :: 0 :: σ) [(.p (.int .u16 48862)), x1, (.p (.int .i64 x3))] q156.2 (some 64)).bind fun q158 =>
 (asB q158.1).bind fun b159 =>
 some ((.p (.bool b159)), q158.2)) else (some ((.p (.bool false)), q156.2))).bind fun q160 =>
 (asB q160.1).bind fun b161 =>
 (bif b161 then ((callO rec 17 (18 :: 0 :: 1 :: 1 :: 1 :: 1 :: 1 :: 1 :: 0 :: σ) [(.p (.int .u16 4096)), x1, (.p (.int .i64 x3))] q160.2 (some 69)).bind fun q162 =>
 (asB q162.1).bind fun b163 =>
 some ((.p (.bool b163)), q162.2)) else (some ((.p (.bool false)), q160.2))).bind fun q164 =>
 (asB q164.1).bind fun b165 =>
 (bif b165 then ((callO rec 17 (23 :: 0 :: 1 :: 1 :: 1 :: 1 :: 1 :: 1 :: 0 :: σ) [(.p (.int .u16 x4)), q3.1, (.p (.int .i64 1))] q164.2 (some 74)).bind fun q166 =>
 (asB q166.1).bind fun b167 =>
 some ((.p (.bool b167)), q166.2)) else (some ((.p (.bool false)), q164.2))).bind fun q168 =>
 (asB q168.1).bind fun b169 =>
 (bif b169 then ((callFO rec 19 (27 :: 0 :: 1 :: 1 :: 1 :: 1 :: 1 :: 1 :: 0 :: σ) [(.p (.int .u16 48862)), x2] q168.2 (some 78)).bind fun q170 =>
 (asB q170.1).bind fun b171 =>
 some ((.p (.bool b171)), q170.2)) else (some ((.p (.bool false)), q168.2))).bind fun q172 =>
 (asB q172.1).bind fun b173 =>
 (bif b173 then ((callFO rec 19 (31 :: 0 :: 1 :: 1 :: 1 :: 1 :: 1 :: 1 :: 0 :: σ) [(.p (.int .u16 4096)), x2] q172.2 (some 82)).bind fun q174 =>
 (asB q174.1).bind fun b175 =>
 some ((.p (.bool b175)), q174.2)) else (some ((.p (.bool false)), q172.2))).bind fun q176 =>
 (asB q176.1).bind fun b177 =>
 (bif b177 then ((callFO rec 19 (36 :: 0 :: 1 :: 1 :: 1 :: 1 :: 1 :: 1 :: 0 :: σ) [(.p (.int .u16 x4)), x2] q176.2 (some 87)).bind fun q178 =>
 (asB q178.1).bind fun b179 =>
 some ((.p (.bool b179)), q178.2)) else (some ((.p (.bool false)), q176.2))).bind fun q180 =>
 (asB q180.1).bind fun b181 =>
 (bif b181 then ((callFO rec 19 (40 :: 0 :: 1 :: 1 :: 1 :: 1 :: 1 :: 1 :: 0 :: σ) [(.p (.int .u16 4096)), t100] q180.2 (some 91)).bind fun q182 =>
 (asB q182.1).bind fun b183 =>
 some ((.p (.bool b183)), q182.2)) else (some ((.p (.bool false)), q180.2))).bind fun q184 =>
 (asB q184.1).bind fun b185 =>
 (bif b185 then ((callO rec 20 (43 :: 0 :: 1 :: 1 :: 1 :: 1 :: 1 :: 1 :: 0 :: σ) [] q184.2 (some 94)).bind fun q186 =>
 (asB q186.1).bind fun b187 =>
 some ((.p (.bool b187)), q186.2)) else (some ((.p (.bool false)), q184.2))).bind fun q188 =>
 (asB q188.1).bind fun b189 =>
 fin false σ q188.2 [(.p (.bool b189))])) := by kernel_rfl
end Go.Ev
/- Equations, printed by tracer2.py. -/
namespace Go.Ev
open Go.Proofs
set_option linter.unusedVariables false
set_option maxRecDepth 100000
-- 19 limelight/limelightlaw4.reads
theorem limelightlaw4_reads_entry (rec : CallF) (loop : LoopV) (σ : Stamp) (x0 : Int) (x1 : V) (h : H) : cvBody G rec loop 19 σ [(.p (.int .u16 x0)), x1] h =
 (callO rec 23 (2 :: 0 :: 1 :: 0 :: σ) [(.p (.int .u16 x0)), x1] (List.replicate 57 [] :: h) (some 16)).bind fun q1 =>
 (extV q1.1 0).bind fun t2 =>
 (extV q1.1 1).bind fun t3 =>
 (castI .i64 t3).bind fun n4 =>
 (callO rec 55 (2 :: 0 :: 1 :: 1 :: 0 :: σ) [(.p (.int .u16 x0)), x1] q1.2 (some 22)).bind fun q5 =>
 (extV q5.1 0).bind fun t6 =>
 (extV q5.1 1).bind fun t7 =>
 (castI .i64 t7).bind fun n8 =>
 (buildV Try.prog 52 [(6, (.p (.int .u16 x0))), (7, x1)]).bind fun t9 =>
 (callO rec 26 (3 :: 0 :: 1 :: 1 :: 1 :: 0 :: σ) [t9] q5.2 (some 29)).bind fun q10 =>
 (extV q10.1 0).bind fun t11 =>
 (castS t11).bind fun s12 =>
 (extV q10.1 1).bind fun t13 =>
 (asB t13).bind fun b14 =>
 (buildV Try.prog 52 [(6, (.p (.int .u16 x0))), (7, x1)]).bind fun t15 =>
 (callO rec 27 (3 :: 0 :: 1 :: 1 :: 1 :: 1 :: 0 :: σ) [t15] q10.2 (some 36)).bind fun q16 =>
 (extV q16.1 0).bind fun t17 =>
 (castS t17).bind fun s18 =>
 (extV q16.1 1).bind fun t19 =>
 (asB t19).bind fun b20 =>
 (bif n4 == n8 then ((callO rec 24 (6 :: 0 :: 1 :: 1 :: 1 :: 1 :: 1 :: 0 :: σ) [t2, t6] q16.2 (some 45)).bind fun q21 =>
 (asB q21.1).bind fun b22 =>
 some ((.p (.bool b22)), q21.2)) else (some ((.p (.bool false)), q16.2))).bind fun q23 =>
 (asB q23.1).bind fun b24 =>
 (bif b24 then (some (s12.toList == s18.toList)) else (some false)).bind fun b25 =>
 (bif b25 then (some (b14 == b20)) else (some false)).bind fun b26 =>
 fin false σ q23.2 [(.p (.bool b26))] := by kernel_rfl
end Go.Ev
/- Lifted by lift.py: limelightlaw4_reads as a plain function. -/
namespace Go.Ev
open Go.Proofs
set_option linter.unusedVariables false
set_option linter.unusedSimpArgs false
set_option maxRecDepth 100000
def p_limelightlaw4_reads (k : Nat) (x0 : Int) (x1 : (List Int)) : Option (Bool) :=
(p_ext_Read k x0 x1).bind fun r1 =>
(p_limelightref3_ReadElems k x0 x1).bind fun r8 =>
(p_ext_Rid k ((⟨false, 0, 0, 0, 0, (([] : List Int)), x0, x1, (([] : List Int))⟩ : T_api_Rtp))).bind fun r15 =>
(p_limelightref3_Rid k ((⟨false, 0, 0, 0, 0, (([] : List Int)), x0, x1, (([] : List Int))⟩ : T_api_Rtp))).bind fun r20 =>
(bif r1.2 == r8.2 then ((p_limelightlaw4_elems k r1.1 r8.1).bind fun r25 =>
some r25) else (some false)).bind fun b30 =>
(bif b30 then (some (r15.1.toList == r20.1.toList)) else (some false)).bind fun b34 =>
(bif b34 then (some (r15.2 == r20.2)) else (some false)).bind fun b38 =>
some (b38)
theorem limelightlaw4_reads_ok (k : Nat) {h : H} {σ : Stamp} (x0 : Int) (x1 : List Int) {u1 : V} (hu1 : SlF (dI .u8) x1 u1) : Sim (p_limelightlaw4_reads k x0 x1) (ev G X0 19 σ [(.p (.int .u16 x0)), u1] h) (fun r s => s = ([.v (.p (.bool r))], h)) := by
  refine Sim.ev rfl (Sim.ext (limelightlaw4_reads_entry _ _ _ _ _ _) ?_)
  rw [p_limelightlaw4_reads]
  have S0 : Fm 57 h [] [] [] (List.replicate 57 [] :: h) := Fm.start0
  refine Sim.call (ext_Read_ok k x0 x1 (hu1.h (List.replicate 57 [] :: h))) fun r1 cs2 H3 h4 q5 => ?_
  obtain ⟨v6, h7, q5⟩ := q5
  cases q5
  refine Sim.op (rfl) ?_
  refine Sim.op (rfl) ?_
  refine Sim.op (castI_p _ _) ?_
  refine Sim.call (limelightref3_ReadElems_ok k x0 x1 (hu1.h (List.replicate 57 [] :: h))) fun r8 cs9 H10 h11 q12 => ?_
  obtain ⟨v13, h14, q12⟩ := q12
  cases q12
  refine Sim.op (rfl) ?_
  refine Sim.op (rfl) ?_
  refine Sim.op (castI_p _ _) ?_
  refine Sim.op (bldV (pt_cons rfl (pt_cons hu1.still.cells pt_nil)) (by kernel_rfl : _ = some (.agg [.p (.bool false), .p (.int .i64 0), .p (.int .u16 0), .p (.int .u32 0), .p (.int .u32 0), .p (.slice none 0 0), .p (.int .u16 x0), u1, .p (.slice none 0 0)]))) ?_
  refine Sim.call (ext_Rid_ok k ((⟨false, 0, 0, 0, 0, (([] : List Int)), x0, x1, (([] : List Int))⟩ : T_api_Rtp)) (show dT_api_Rtp.R ((⟨false, 0, 0, 0, 0, (([] : List Int)), x0, x1, (([] : List Int))⟩ : T_api_Rtp)) [.p (.bool false), .p (.int .i64 0), .p (.int .u16 0), .p (.int .u32 0), .p (.int .u32 0), .p (.slice none 0 0), .p (.int .u16 x0), u1, .p (.slice none 0 0)] from (dT_api_Rtp.mk (SlF.nil (dI .u32)) hu1 (SlF.nil (dI .u8))))) fun r15 cs16 H17 h18 q19 => ?_
  cases q19
  refine Sim.op (rfl) ?_
  refine Sim.op (castS_p _) ?_
  refine Sim.op (rfl) ?_
  refine Sim.op (asB_p _) ?_
  refine Sim.op (bldV (pt_cons rfl (pt_cons hu1.still.cells pt_nil)) (by kernel_rfl : _ = some (.agg [.p (.bool false), .p (.int .i64 0), .p (.int .u16 0), .p (.int .u32 0), .p (.int .u32 0), .p (.slice none 0 0), .p (.int .u16 x0), u1, .p (.slice none 0 0)]))) ?_
  refine Sim.call (limelightref3_Rid_ok k ((⟨false, 0, 0, 0, 0, (([] : List Int)), x0, x1, (([] : List Int))⟩ : T_api_Rtp)) (show dT_api_Rtp.R ((⟨false, 0, 0, 0, 0, (([] : List Int)), x0, x1, (([] : List Int))⟩ : T_api_Rtp)) [.p (.bool false), .p (.int .i64 0), .p (.int .u16 0), .p (.int .u32 0), .p (.int .u32 0), .p (.slice none 0 0), .p (.int .u16 x0), u1, .p (.slice none 0 0)] from (dT_api_Rtp.mk (SlF.nil (dI .u32)) hu1 (SlF.nil (dI .u8))))) fun r20 cs21 H22 h23 q24 => ?_
  cases q24
  refine Sim.op (rfl) ?_
  refine Sim.op (castS_p _) ?_
  refine Sim.op (rfl) ?_
  refine Sim.op (asB_p _) ?_
  refine Sim.ch (P := fun r y => (.p (.bool r), (List.replicate 57 [] :: h)) = y) ?_ (fun b30 y31 h32 h33 => ?_)
  · refine Sim.cd (fun hc => ?_) (fun hc => ?_)
    · refine Sim.call (limelightlaw4_elems_ok k r1.1 (h7.h (List.replicate 57 [] :: h)) r8.1 (h14.h (List.replicate 57 [] :: h))) fun r25 cs26 H27 h28 q29 => ?_
      cases q29
      refine Sim.op (asB_p _) ?_
      exact Sim.ret rfl rfl
    · exact Sim.ret rfl rfl
  subst h33
  refine Sim.op (asB_p _) ?_
  refine Sim.ch (P := fun r y => r = y) ?_ (fun b34 y35 h36 h37 => ?_)
  · refine Sim.cd (fun hc => ?_) (fun hc => ?_)
    · exact Sim.ret rfl rfl
    · exact Sim.ret rfl rfl
  subst h37
  refine Sim.ch (P := fun r y => r = y) ?_ (fun b38 y39 h40 h41 => ?_)
  · refine Sim.cd (fun hc => ?_) (fun hc => ?_)
    · exact Sim.ret rfl rfl
    · exact Sim.ret rfl rfl
  subst h41
  exact Sim.fin (S0.finN (lv_cons (still_bool _).lv lv_nil)) rfl
end Go.Ev
/- Equations, printed by tracer2.py. -/
namespace Go.Ev
open Go.Proofs
set_option linter.unusedVariables false
set_option maxRecDepth 100000
-- 17 limelight/limelightlaw4.same
theorem limelightlaw4_same_entry (rec : CallF) (loop : LoopV) (σ : Stamp) (x0 : Int) (x1 : V) (x2 : Int) (h : H) : cvBody G rec loop 17 σ [(.p (.int .u16 x0)), x1, (.p (.int .i64 x2))] h =
 (callO rec 22 (2 :: 0 :: 1 :: 0 :: σ) [(.p (.int .u16 x0)), x1] (List.replicate 66 [] :: h) (some 18)).bind fun q1 =>
 (extV q1.1 0).bind fun t2 =>
 (extV q1.1 1).bind fun t3 =>
 (castI .i64 t3).bind fun n4 =>
 (callO rec 18 (2 :: 0 :: 1 :: 1 :: 0 :: σ) [(.p (.int .u16 x0)), x1] q1.2 (some 24)).bind fun q5 =>
 (extV q5.1 0).bind fun t6 =>
 (extV q5.1 1).bind fun t7 =>
 (castI .i64 t7).bind fun n8 =>
 (callO rec 25 (2 :: 0 :: 1 :: 1 :: 1 :: 0 :: σ) [x1, (.p (.int .i64 x2))] q5.2 (some 30)).bind fun q9 =>
 (extV q9.1 0).bind fun t10 =>
 (extV q9.1 1).bind fun t11 =>
 (asB t11).bind fun b12 =>
 (callO rec 53 (2 :: 0 :: 1 :: 1 :: 1 :: 1 :: 0 :: σ) [x1, (.p (.int .i64 x2))] q9.2 (some 36)).bind fun q13 =>
 (extV q13.1 0).bind fun t14 =>
 (extV q13.1 1).bind fun t15 =>
 (asB t15).bind fun b16 =>
 (bif n4 == n8 then ((strO q13.2 t2).bind fun t17 =>
 (castS t17).bind fun s18 =>
 (strO q13.2 t6).bind fun t19 =>
 (castS t19).bind fun s20 =>
 some (s18.toList == s20.toList)) else (some false)).bind fun b21 =>
 (bif b21 then ((strO q13.2 t10).bind fun t22 =>
 (castS t22).bind fun s23 =>
 (strO q13.2 t14).bind fun t24 =>
 (castS t24).bind fun s25 =>
 some (s23.toList == s25.toList)) else (some false)).bind fun b26 =>
 (bif b26 then (some (b12 == b16)) else (some false)).bind fun b27 =>
 (bif b27 then ((callFO rec 19 (25 :: 0 :: 1 :: 1 :: 1 :: 1 :: 1 :: 0 :: σ) [(.p (.int .u16 x0)), t6] q13.2 (some 64)).bind fun q28 =>
 (asB q28.1).bind fun b29 =>
 some ((.p (.bool b29)), q28.2)) else (some ((.p (.bool false)), q13.2))).bind fun q30 =>
 (asB q30.1).bind fun b31 =>
 fin false σ q30.2 [(.p (.bool b31))] := by kernel_rfl
end Go.Ev
/- Equations, printed by tracer2.py. -/
namespace Go.Ev
open Go.Proofs
set_option linter.unusedVariables false
set_option maxRecDepth 100000
-- 18 limelight/limelightref3.Elems
noncomputable def limelightref3_Elems_c0 : Code := (codeAt (bodyOf Try.f18) [1, 1, 1, 1, 0, 1, 0, 0])
def limelightref3_Elems_l0 : Lv := ⟨64, 48, [(0, 64)]⟩
noncomputable def limelightref3_Elems_k0 (rec : CallF) (loop : LoopV) (σ : Stamp) : Exit → Env → H → Option (List C × H) := (kBlock 0 (kSeq G rec loop (codeAt (bodyOf Try.f18) [1, 1, 1, 1, 1]) ⟨48, 48, []⟩ (1 :: 1 :: 1 :: 1 :: 0 :: σ) (finC G false Try.f18 (1 :: σ))))
theorem limelightref3_Elems_entry (rec : CallF) (loop : LoopV) (σ : Stamp) (x0 : Int) (x1 : V) (h : H) : cvBody G rec loop 18 σ [(.p (.int .u16 x0)), x1] h =
 (bif x0 != 48862 then (some (x0 != 4096)) else (some false)).bind fun b1 =>
 bif b1 then (
 fin false σ (List.replicate 89 [] :: h) [(.p (.slice .none 0 0)), (.p (.int .i64 1))])
 else (
 (lenO x1).bind fun t2 =>
 (castI .i64 t2).bind fun n3 =>
 bif decide (n3 > 8) then (
 fin false σ (List.replicate 89 [] :: h) [(.p (.slice .none 0 0)), (.p (.int .i64 3))])
 else (
 (lenO x1).bind fun t4 =>
 (castI .i64 t4).bind fun n5 =>
 (loop limelightref3_Elems_c0 limelightref3_Elems_l0 (1 :: 0 :: 1 :: 1 :: 1 :: 1 :: 0 :: σ) (envL [(0, (.p (.int .u16 x0))), (6, (.p (.slice .none 0 0))), (19, x1), (20, (.p (.int .i64 n5))), (21, (.p (.int .i64 0)))]) (List.replicate 89 [] :: h)).bind fun r6 => limelightref3_Elems_k0 rec loop σ r6.1 r6.2.1 r6.2.2)) := by kernel_rfl
theorem limelightref3_Elems_r0 (rec : CallF) (loop : LoopV) (σ : Stamp) (x0 : Int) (x6 : V) (x19 : V) (x20 : Int) (x21 : Int) (h : H) : cvRound G rec loop limelightref3_Elems_c0 limelightref3_Elems_l0 σ (envL [(0, (.p (.int .u16 x0))), (6, x6), (19, x19), (20, (.p (.int .i64 x20))), (21, (.p (.int .i64 x21)))]) h =
 bif decide (x21 < x20) then (
 (iS 2 x19 x21).bind fun t7 =>
 (ldO true 2 h t7).bind fun t8 =>
 (some (alO [.p (.int .i64 0), .p (.slice none 0 0)] (2 :: 0 :: 0 :: 1 :: 1 :: 0 :: σ) 8 h)).bind fun q9 =>
 ((stO false 2 (3 :: 0 :: 0 :: 1 :: 1 :: 0 :: σ) q9.2 q9.1 t8).map fun h => (udf, h)).bind fun q10 =>
 (fA q9.1 1).bind fun t11 =>
 (ldO false 1 q10.2 t11).bind fun t12 =>
 (lenO t12).bind fun t13 =>
 (castI .i64 t13).bind fun n14 =>
 (bif x0 == 48862 then ((fA q9.1 0).bind fun t15 =>
 (ldO false 1 q10.2 t15).bind fun t16 =>
 (castI .i64 t16).bind fun n17 =>
 (bif decide (n17 < 1) then (some true) else ((fA q9.1 0).bind fun t18 =>
 (ldO false 1 q10.2 t18).bind fun t19 =>
 (castI .i64 t19).bind fun n20 =>
 some (decide (n20 > 14)))).bind fun b21 =>
 (bif b21 then (some true) else (some (decide (n14 < 1)))).bind fun b22 =>
 (bif b22 then (some true) else (some (decide (n14 > 16)))).bind fun b23 =>
 some b23) else (some false)).bind fun b24 =>
 (bif b24 then (some true) else ((fA q9.1 0).bind fun t25 =>
 (ldO false 1 q10.2 t25).bind fun t26 =>
 (castI .i64 t26).bind fun n27 =>
 some (decide (n27 < 1)))).bind fun b28 =>
 (bif b28 then (some true) else ((fA q9.1 0).bind fun t29 =>
 (ldO false 1 q10.2 t29).bind fun t30 =>
 (castI .i64 t30).bind fun n31 =>
 some (decide (n31 > 255)))).bind fun b32 =>
 (bif b32 then (some true) else (some (decide (n14 > 255)))).bind fun b33 =>
 bif b33 then (
 some (.ret, (envL [(4, (.p (.slice .none 0 0))), (5, (.p (.int .i64 1)))]), q10.2))
 else (
 bif x0 == 48862 then (
 (fA q9.1 0).bind fun t34 =>
 (ldO false 1 q10.2 t34).bind fun t35 =>
 (castI .i64 t35).bind fun n36 =>
 (buildSliceV Try.prog 32 1 [(0, (.p (.int .u8 (IntKind.wrap .u8 (IntKind.wrap .i64 ((IntKind.wrap .i64 ((IntKind.wrap .i64 (16 * n36)) + n14)) - 1))))))]).bind fun t37 =>
 (apO true 1 1 (9 :: 1 :: 0 :: 1 :: 1 :: 1 :: 0 :: 1 :: 1 :: 0 :: σ) 73 q10.2 x6 t37).bind fun q38 =>
 (fA q9.1 1).bind fun t39 =>
 (ldO false 1 q38.2 t39).bind fun t40 =>
 (apO true 1 1 (3 :: 1 :: 1 :: 1 :: 1 :: 0 :: 1 :: 1 :: 0 :: σ) 85 q38.2 q38.1 t40).bind fun q41 =>
 loop limelightref3_Elems_c0 limelightref3_Elems_l0 (1 :: σ) (envL [(0, (.p (.int .u16 x0))), (6, q41.1), (19, x19), (20, (.p (.int .i64 x20))), (21, (.p (.int .i64 (IntKind.wrap .i64 (x21 + 1)))))]) q41.2)
 else (
 (fA q9.1 0).bind fun t42 =>
 (ldO false 1 q10.2 t42).bind fun t43 =>
 (castI .i64 t43).bind fun n44 =>
 (buildSliceV Try.prog 32 2 [(0, (.p (.int .u8 (IntKind.wrap .u8 n44)))), (1, (.p (.int .u8 (IntKind.wrap .u8 n14))))]).bind fun t45 =>
 (apO true 1 1 (7 :: 1 :: 0 :: 1 :: 1 :: 1 :: 0 :: 1 :: 1 :: 0 :: σ) 81 q10.2 x6 t45).bind fun q46 =>
 (fA q9.1 1).bind fun t47 =>
 (ldO false 1 q46.2 t47).bind fun t48 =>
 (apO true 1 1 (3 :: 1 :: 1 :: 1 :: 1 :: 0 :: 1 :: 1 :: 0 :: σ) 85 q46.2 q46.1 t48).bind fun q49 =>
 loop limelightref3_Elems_c0 limelightref3_Elems_l0 (1 :: σ) (envL [(0, (.p (.int .u16 x0))), (6, q49.1), (19, x19), (20, (.p (.int .i64 x20))), (21, (.p (.int .i64 (IntKind.wrap .i64 (x21 + 1)))))]) q49.2)))
 else (
 some ((.exit 0), (envL [(6, x6)]), h)) := by kernel_rfl
theorem limelightref3_Elems_a0_0 (rec : CallF) (loop : LoopV) (σ : Stamp) (x6 : V) (h : H) : limelightref3_Elems_k0 rec loop σ (.exit 0) (envL [(6, x6)]) h =
 (callO rec 54 (1 :: 0 :: 1 :: 1 :: 1 :: 1 :: 1 :: 0 :: σ) [x6, (.p (.int .i64 4))] h (some 88)).bind fun q50 =>
 fin false σ q50.2 [q50.1, (.p (.int .i64 0))] := by kernel_rfl
theorem limelightref3_Elems_a0_ret (rec : CallF) (loop : LoopV) (σ : Stamp) (x4 : V) (x5 : Int) (h : H) : limelightref3_Elems_k0 rec loop σ .ret (envL [(4, x4), (5, (.p (.int .i64 x5)))]) h =
 fin false σ h [x4, (.p (.int .i64 x5))] := by kernel_rfl
end Go.Ev
/- Equations, printed by tracer2.py. -/
namespace Go.Ev
open Go.Proofs
set_option linter.unusedVariables false
set_option maxRecDepth 100000
-- 54 limelight/limelightref1.Pad
noncomputable def limelightref1_Pad_c0 : Code := (codeAt (bodyOf Try.f54) [1, 1, 0, 0, 0])
def limelightref1_Pad_l0 : Lv := ⟨32, 16, [(0, 32)]⟩
noncomputable def limelightref1_Pad_k0 (rec : CallF) (loop : LoopV) (σ : Stamp) : Exit → Env → H → Option (List C × H) := (kBlock 0 (kSeq G rec loop (codeAt (bodyOf Try.f54) [1, 1, 1]) ⟨16, 16, []⟩ (1 :: 1 :: 0 :: σ) (finC G false Try.f54 (1 :: σ))))
theorem limelightref1_Pad_entry (rec : CallF) (loop : LoopV) (σ : Stamp) (x0 : V) (x1 : Int) (h : H) : cvBody G rec loop 54 σ [x0, (.p (.int .i64 x1))] h =
 (buildSliceV Try.prog 32 0 []).bind fun t1 =>
 (apO true 1 1 (2 :: 0 :: 1 :: 0 :: σ) 8 (List.replicate 26 [] :: h) t1 x0).bind fun q2 =>
 (loop limelightref1_Pad_c0 limelightref1_Pad_l0 (0 :: 1 :: 1 :: 0 :: σ) (envL [(1, (.p (.int .i64 x1))), (5, q2.1)]) q2.2).bind fun r3 => limelightref1_Pad_k0 rec loop σ r3.1 r3.2.1 r3.2.2 := by kernel_rfl
theorem limelightref1_Pad_r0 (rec : CallF) (loop : LoopV) (σ : Stamp) (x1 : Int) (x5 : V) (h : H) : cvRound G rec loop limelightref1_Pad_c0 limelightref1_Pad_l0 σ (envL [(1, (.p (.int .i64 x1))), (5, x5)]) h =
 (bif decide (x1 ≥ 1) then (some (decide (x1 ≤ 64))) else (some false)).bind fun b4 =>
 (bif b4 then ((lenO x5).bind fun t5 =>
 (castI .i64 t5).bind fun n6 =>
 (remI .i64 n6 x1).bind fun t7 =>
 (castI .i64 t7).bind fun n8 =>
 some (n8 != 0)) else (some false)).bind fun b9 =>
 bif b9 then (
 (buildSliceV Try.prog 32 1 [(0, (.p (.int .u8 0)))]).bind fun t10 =>
 (apO true 1 1 (2 :: 1 :: 0 :: σ) 24 h x5 t10).bind fun q11 =>
 loop limelightref1_Pad_c0 limelightref1_Pad_l0 (1 :: σ) (envL [(1, (.p (.int .i64 x1))), (5, q11.1)]) q11.2)
 else (
 some ((.exit 0), (envL [(5, x5)]), h)) := by kernel_rfl
theorem limelightref1_Pad_a0_0 (rec : CallF) (loop : LoopV) (σ : Stamp) (x5 : V) (h : H) : limelightref1_Pad_k0 rec loop σ (.exit 0) (envL [(5, x5)]) h =
 fin false σ h [x5] := by kernel_rfl
end Go.Ev
/- Lifted by lift.py: limelightref1_Pad as a plain function. -/
namespace Go.Ev
open Go.Proofs
set_option linter.unusedVariables false
set_option linter.unusedSimpArgs false
set_option maxRecDepth 100000
def p_limelightref1_Pad_l0 {β : Type} (k : Nat) (kE0 : (List Int) → Option β) (x1 : Int) (x5 : (List Int)) : Option β := match k with
| 0 => none
| k + 1 =>
(bif decide (x1 ≥ 1) then (some (decide (x1 ≤ 64))) else (some false)).bind fun b14 =>
(bif b14 then ((remP ((x5.length : Int)) x1).bind fun n18 =>
some (n18 != 0)) else (some false)).bind fun b20 =>
bif b20 then (
(ap 1 x5 ([0])).bind fun a25 =>
p_limelightref1_Pad_l0 k kE0 x1 a25)
else (
kE0 x5)
def p_limelightref1_Pad (k : Nat) (x0 : (List Int)) (x1 : Int) : Option ((List Int)) :=
(ap 1 (([] : List Int)) x0).bind fun a4 =>
p_limelightref1_Pad_l0 k (fun r35_5 =>
some (r35_5)) x1 a4
theorem limelightref1_Pad_l0_ok {h : H}  {β α : Type} {Q : β → α → Prop} {K : Exit × Env × H → Option α} {kE0 : (List Int) → Option β} (hE0 : ∀ (q5 : (List Int)) (v33 : V) (H31 : Go.Ev.H) (_ : Fm 26 h [] [] [⟨[8, 24], v33, (dI .u8), q5⟩] H31), Sim (kE0 q5) (K ((.exit 0), (envL [(5, v33)]), H31)) Q) (k : Nat) : ∀ (x1 : Int) (x5 : (List Int)) (v12 : V) (H10 : Go.Ev.H) (_ : Fm 26 h [] [] [⟨[8, 24], v12, (dI .u8), x5⟩] H10) {σ : Stamp}, Sim (p_limelightref1_Pad_l0 k kE0 x1 x5) ((cvL G X0 limelightref1_Pad_c0 limelightref1_Pad_l0 σ (envL [(1, (.p (.int .i64 x1))), (5, v12)]) H10).bind K) Q := by
  induction k with
  | zero => intros; exact Sim.no
  | succ k ih =>
    intro x1 x5 v12 H10 S11 σ
    rw [p_limelightref1_Pad_l0]
    refine Sim.round (Sim.ext (limelightref1_Pad_r0 _ _ _ _ _ _) ?_)
    refine Sim.ch (P := fun r y => r = y) ?_ (fun b14 y15 h16 h17 => ?_)
    · refine Sim.cd (fun hc => ?_) (fun hc => ?_)
      · exact Sim.ret rfl rfl
      · exact Sim.ret rfl rfl
    subst h17
    refine Sim.ch (P := fun r y => r = y) ?_ (fun b20 y21 h22 h23 => ?_)
    · refine Sim.cd (fun hc => ?_) (fun hc => ?_)
      · refine Sim.op ((S11.sl (i := 0) rfl).len) ?_
        refine Sim.op (castI_p _ _) ?_
        refine Sim.bd fun n18 h19 => ?_
        refine Sim.op (remP_ok h19) ?_
        refine Sim.op (castI_p _ _) ?_
        exact Sim.ret rfl rfl
      · exact Sim.ret rfl rfl
    subst h23
    refine Sim.cd (fun hc => ?_) (fun hc => ?_)
    · have h24 : SlF (dI .u8) [0] (.fz [(.p (.int .u8 0))] 1 1 true) := SlF.lit (cs := [(.p (.int .u8 0))]) (RL.cons (show (dI .u8).R 0 [(.p (.int .u8 0))] from rfl) RL.nil) rfl rfl true
      refine Sim.op (bldS (pt_cons rfl pt_nil) (by kernel_rfl : _ = some (.fz [(.p (.int .u8 0))] 1 1 true))) ?_
      refine Sim.bd fun a25 h26 => ?_
      obtain ⟨v27, H28, e29, S30⟩ := S11.app (i := 0) (d := 24) (e := 1) (own := true) (σ := (2 :: 1 :: 0 :: σ)) rfl (h24.h H10).y h26 rfl (by decide) (by decide) rfl
      refine Sim.op (e29) ?_
      exact ih x1 a25 v27 H28 (S30.wk2 all_nil (all_cons ⟨[24, 8, 24], by simp, at_mem 0 rfl⟩ all_nil))
    · exact hE0 x5 v12 H10 (S11.wk2 all_nil (all_cons ⟨[8, 24], by simp, at_mem 0 rfl⟩ all_nil))
theorem limelightref1_Pad_ok (k : Nat) {h : H} {σ : Stamp} (x0 : List Int) {u0 : V} (hu0 : SlH h (dI .u8) x0 u0) (x1 : Int) : Sim (p_limelightref1_Pad k x0 x1) (ev G X0 54 σ [u0, (.p (.int .i64 x1))] h) (fun r s => ∃ (c0 : C), ∃ (a0 : List V), OwnS c0 (dI .u8).sz r.length a0 ∧ (dI .u8).L r a0 ∧ s = ([c0], h)) := by
  refine Sim.ev rfl (Sim.ext (limelightref1_Pad_entry _ _ _ _ _ _) ?_)
  rw [p_limelightref1_Pad]
  have S0 : Fm 26 h [] [] [] (List.replicate 26 [] :: h) := Fm.start0
  have h1 : SlF (dI .u8) ([] : List Int) (.fz [] 0 1 true) := SlF.lit (cs := []) RL.nil rfl rfl true
  refine Sim.op (bldS pt_nil (by kernel_rfl : _ = some (.fz [] 0 1 true))) ?_
  have S3 := S0.nil' (dI .u8) [] (e := 1) rfl
  refine Sim.bd fun a4 h5 => ?_
  obtain ⟨v6, H7, e8, S9⟩ := S3.app (i := 0) (d := 8) (e := 1) (own := true) (σ := (2 :: 0 :: 1 :: 0 :: σ)) rfl (S3.low hu0).y h5 rfl (by decide) (by decide) rfl
  refine Sim.op (e8) ?_
  refine Sim.as (limelightref1_Pad_l0_ok ?_ k x1 a4 v6 H7 (S9.wk2 all_nil (all_cons ⟨[8], by simp, at_mem 0 rfl⟩ all_nil))) 
  · intro r35_5 v38 H36 S37
    refine Sim.ext (limelightref1_Pad_a0_0 _ _ _ _ _) ?_
    obtain ⟨c45, cs46, H40, e41, h43, h44, S42⟩ := S37.expOwn (i := 0) (τ := 0 :: 1 :: σ) rfl rfl rfl
    exact Sim.fin (S42.finE (Ex.st e41 Ex.nil)) ⟨c45, cs46, h43, h44, rfl⟩
end Go.Ev
/- Lifted by lift.py: limelightref3_Elems as a plain function. -/
namespace Go.Ev
open Go.Proofs
set_option linter.unusedVariables false
set_option linter.unusedSimpArgs false
set_option maxRecDepth 100000
def p_limelightref3_Elems_l0 {β : Type} (k : Nat) (kE0 : (List Int) → Option β) (kE1 : Int → Option β) (x0 : Int) (x6 : (List Int)) (x19 : (List T_api_Elem)) (x20 : Int) (x21 : Int) : Option β := match k with
| 0 => none
| k + 1 =>
bif decide (x21 < x20) then (
(ix x19 x21).bind fun a13 =>
(bif x0 == 48862 then ((bif decide (a13.ID < 1) then (some true) else (some (decide (a13.ID > 14)))).bind fun b27 =>
(bif b27 then (some true) else (some (decide (((a13.Data.length : Int)) < 1)))).bind fun b31 =>
(bif b31 then (some true) else (some (decide (((a13.Data.length : Int)) > 16)))).bind fun b35 =>
some b35) else (some false)).bind fun b39 =>
(bif b39 then (some true) else (some (decide (a13.ID < 1)))).bind fun b43 =>
(bif b43 then (some true) else (some (decide (a13.ID > 255)))).bind fun b47 =>
(bif b47 then (some true) else (some (decide (((a13.Data.length : Int)) > 255)))).bind fun b51 =>
bif b51 then (
kE1 1)
else (
bif x0 == 48862 then (
(ap 1 x6 ([(IntKind.wrap .u8 (IntKind.wrap .i64 ((IntKind.wrap .i64 ((IntKind.wrap .i64 (16 * a13.ID)) + ((a13.Data.length : Int)))) - 1)))])).bind fun a56 =>
(ap 1 a56 a13.Data).bind fun a62 =>
p_limelightref3_Elems_l0 k kE0 kE1 x0 a62 x19 x20 (IntKind.wrap .i64 (x21 + 1)))
else (
(ap 1 x6 ([(IntKind.wrap .u8 a13.ID), (IntKind.wrap .u8 ((a13.Data.length : Int)))])).bind fun a69 =>
(ap 1 a69 a13.Data).bind fun a75 =>
p_limelightref3_Elems_l0 k kE0 kE1 x0 a75 x19 x20 (IntKind.wrap .i64 (x21 + 1)))))
else (
kE0 x6)
def p_limelightref3_Elems (k : Nat) (x0 : Int) (x1 : (List T_api_Elem)) : Option ((List Int) × Int) :=
(bif x0 != 48862 then (some (x0 != 4096)) else (some false)).bind fun b1 =>
bif b1 then (
some ((([] : List Int)), 1))
else (
bif decide (((x1.length : Int)) > 8) then (
some ((([] : List Int)), 3))
else (
p_limelightref3_Elems_l0 k (fun r89_6 =>
(p_limelightref1_Pad k r89_6 4).bind fun r94 =>
some (r94, 0)) (fun r115_5 =>
some ((([] : List Int)), r115_5)) x0 (([] : List Int)) x1 ((x1.length : Int)) 0))
theorem limelightref3_Elems_l0_ok {h : H}  {β α : Type} {Q : β → α → Prop} {K : Exit × Env × H → Option α} {kE0 : (List Int) → Option β} {kE1 : Int → Option β} (hE0 : ∀ (q6 : (List Int)) (v83 : V) (H81 : Go.Ev.H) (_ : Fm 89 h [] [] [⟨[73, 81, 85], v83, (dI .u8), q6⟩] H81), Sim (kE0 q6) (K ((.exit 0), (envL [(6, v83)]), H81)) Q) (hE1 : ∀ (q5 : Int) (H85 : Go.Ev.H) (_ : Fm 89 h [] [] [] H85), Sim (kE1 q5) (K (.ret, (envL [(4, (.p (.slice none 0 0))), (5, (.p (.int .i64 q5)))]), H85)) Q) (k : Nat) : ∀ (x0 : Int) (x6 : (List Int)) (x19 : (List T_api_Elem)) (x20 : Int) (x21 : Int) (v9 : V) (v11 : V) (h12 : SlH h dT_api_Elem x19 v11) (H7 : Go.Ev.H) (_ : Fm 89 h [] [] [⟨[73, 81, 85], v9, (dI .u8), x6⟩] H7) {σ : Stamp}, Sim (p_limelightref3_Elems_l0 k kE0 kE1 x0 x6 x19 x20 x21) ((cvL G X0 limelightref3_Elems_c0 limelightref3_Elems_l0 σ (envL [(0, (.p (.int .u16 x0))), (6, v9), (19, v11), (20, (.p (.int .i64 x20))), (21, (.p (.int .i64 x21)))]) H7).bind K) Q := by
  induction k with
  | zero => intros; exact Sim.no
  | succ k ih =>
    intro x0 x6 x19 x20 x21 v9 v11 h12 H7 S8 σ
    rw [p_limelightref3_Elems_l0]
    refine Sim.round (Sim.ext (limelightref3_Elems_r0 _ _ _ _ _ _ _ _ _) ?_)
    refine Sim.cd (fun hc => ?_) (fun hc => ?_)
    · refine Sim.bd fun a13 h14 => ?_
      refine Sim.op ((S8.low h12).iS h14 rfl) ?_
      obtain ⟨w16, h17, hE15⟩ := (S8.low h12).el h14 rfl
      obtain ⟨v18, rfl, h19⟩ := dT_api_Elem.inv h17
      refine Sim.op (hE15.all (by simp)) ?_
      obtain ⟨H20, e21, S22⟩ := S8.al (d := 8) (s := (2 :: 0 :: 0 :: 1 :: 1 :: 0 :: σ)) (z := [(.p (.int .i64 0)), (.p (.slice none 0 0))]) (by decide) rfl
      refine Sim.op (congrArg some e21) ?_
      obtain ⟨H24, e25, S26⟩ := S22.stGv (i := 0) (j := 0) (own := false) (σ := (3 :: 0 :: 0 :: 1 :: 1 :: 0 :: σ)) (xs := [.p (.int .i64 a13.ID), v18]) rfl rfl (stills_cons (still_int _ _) (stills_cons h19.still stills_nil)) rfl rfl
      refine Sim.op (st_map e25) ?_
      refine Sim.op (fA_ref _ _ _) ?_
      refine Sim.op ((S26.atG (i := 0) rfl).ld (j := 1) rfl) ?_
      refine Sim.op ((h19.h H24).len) ?_
      refine Sim.op (castI_p _ _) ?_
      refine Sim.ch (P := fun r y => r = y) ?_ (fun b39 y40 h41 h42 => ?_)
      · refine Sim.cd (fun hc => ?_) (fun hc => ?_)
        · refine Sim.op (fA_ref _ _ _) ?_
          refine Sim.op ((S26.atG (i := 0) rfl).ld (j := 0) rfl) ?_
          refine Sim.op (castI_p _ _) ?_
          refine Sim.ch (P := fun r y => r = y) ?_ (fun b27 y28 h29 h30 => ?_)
          · refine Sim.cd (fun hc => ?_) (fun hc => ?_)
            · exact Sim.ret rfl rfl
            · refine Sim.op (fA_ref _ _ _) ?_
              refine Sim.op ((S26.atG (i := 0) rfl).ld (j := 0) rfl) ?_
              refine Sim.op (castI_p _ _) ?_
              exact Sim.ret rfl rfl
          subst h30
          refine Sim.ch (P := fun r y => r = y) ?_ (fun b31 y32 h33 h34 => ?_)
          · refine Sim.cd (fun hc => ?_) (fun hc => ?_)
            · exact Sim.ret rfl rfl
            · exact Sim.ret rfl rfl
          subst h34
          refine Sim.ch (P := fun r y => r = y) ?_ (fun b35 y36 h37 h38 => ?_)
          · refine Sim.cd (fun hc => ?_) (fun hc => ?_)
            · exact Sim.ret rfl rfl
            · exact Sim.ret rfl rfl
          subst h38
          exact Sim.ret rfl rfl
        · exact Sim.ret rfl rfl
      subst h42
      refine Sim.ch (P := fun r y => r = y) ?_ (fun b43 y44 h45 h46 => ?_)
      · refine Sim.cd (fun hc => ?_) (fun hc => ?_)
        · exact Sim.ret rfl rfl
        · refine Sim.op (fA_ref _ _ _) ?_
          refine Sim.op ((S26.atG (i := 0) rfl).ld (j := 0) rfl) ?_
          refine Sim.op (castI_p _ _) ?_
          exact Sim.ret rfl rfl
      subst h46
      refine Sim.ch (P := fun r y => r = y) ?_ (fun b47 y48 h49 h50 => ?_)
      · refine Sim.cd (fun hc => ?_) (fun hc => ?_)
        · exact Sim.ret rfl rfl
        · refine Sim.op (fA_ref _ _ _) ?_
          refine Sim.op ((S26.atG (i := 0) rfl).ld (j := 0) rfl) ?_
          refine Sim.op (castI_p _ _) ?_
          exact Sim.ret rfl rfl
      subst h50
      refine Sim.ch (P := fun r y => r = y) ?_ (fun b51 y52 h53 h54 => ?_)
      · refine Sim.cd (fun hc => ?_) (fun hc => ?_)
        · exact Sim.ret rfl rfl
        · exact Sim.ret rfl rfl
      subst h54
      refine Sim.cd (fun hc => ?_) (fun hc => ?_)
      · exact hE1 1 H24 (S26.wk2 all_nil all_nil)
      · refine Sim.cd (fun hc => ?_) (fun hc => ?_)
        · refine Sim.op (fA_ref _ _ _) ?_
          refine Sim.op ((S26.atG (i := 0) rfl).ld (j := 0) rfl) ?_
          refine Sim.op (castI_p _ _) ?_
          have h55 : SlF (dI .u8) [(IntKind.wrap .u8 (IntKind.wrap .i64 ((IntKind.wrap .i64 ((IntKind.wrap .i64 (16 * a13.ID)) + ((a13.Data.length : Int)))) - 1)))] (.fz [(.p (.int .u8 (IntKind.wrap .u8 (IntKind.wrap .i64 ((IntKind.wrap .i64 ((IntKind.wrap .i64 (16 * a13.ID)) + ((a13.Data.length : Int)))) - 1)))))] 1 1 true) := SlF.lit (cs := [(.p (.int .u8 (IntKind.wrap .u8 (IntKind.wrap .i64 ((IntKind.wrap .i64 ((IntKind.wrap .i64 (16 * a13.ID)) + ((a13.Data.length : Int)))) - 1)))))]) (RL.cons (show (dI .u8).R (IntKind.wrap .u8 (IntKind.wrap .i64 ((IntKind.wrap .i64 ((IntKind.wrap .i64 (16 * a13.ID)) + ((a13.Data.length : Int)))) - 1))) [(.p (.int .u8 (IntKind.wrap .u8 (IntKind.wrap .i64 ((IntKind.wrap .i64 ((IntKind.wrap .i64 (16 * a13.ID)) + ((a13.Data.length : Int)))) - 1)))))] from rfl) RL.nil) rfl rfl true
          refine Sim.op (bldS (pt_cons rfl pt_nil) (by kernel_rfl : _ = some (.fz [(.p (.int .u8 (IntKind.wrap .u8 (IntKind.wrap .i64 ((IntKind.wrap .i64 ((IntKind.wrap .i64 (16 * a13.ID)) + ((a13.Data.length : Int)))) - 1)))))] 1 1 true))) ?_
          refine Sim.bd fun a56 h57 => ?_
          obtain ⟨v58, H59, e60, S61⟩ := S26.app (i := 0) (d := 73) (e := 1) (own := true) (σ := (9 :: 1 :: 0 :: 1 :: 1 :: 1 :: 0 :: 1 :: 1 :: 0 :: σ)) rfl (h55.h H24).y h57 rfl (by decide) (by decide) rfl
          refine Sim.op (e60) ?_
          refine Sim.op (fA_ref _ _ _) ?_
          refine Sim.op ((S61.atG (i := 0) rfl).ld (j := 1) rfl) ?_
          refine Sim.bd fun a62 h63 => ?_
          obtain ⟨v64, H65, e66, S67⟩ := S61.app (i := 0) (d := 85) (e := 1) (own := true) (σ := (3 :: 1 :: 1 :: 1 :: 1 :: 0 :: 1 :: 1 :: 0 :: σ)) rfl (h19.h H59).y h63 rfl (by decide) (by decide) rfl
          refine Sim.op (e66) ?_
          exact ih x0 a62 x19 x20 (IntKind.wrap .i64 (x21 + 1)) v64 v11 h12 H65 (S67.wk2 all_nil (all_cons ⟨[85, 73, 73, 81, 85], by simp, at_mem 0 rfl⟩ all_nil))
        · refine Sim.op (fA_ref _ _ _) ?_
          refine Sim.op ((S26.atG (i := 0) rfl).ld (j := 0) rfl) ?_
          refine Sim.op (castI_p _ _) ?_
          have h68 : SlF (dI .u8) [(IntKind.wrap .u8 a13.ID), (IntKind.wrap .u8 ((a13.Data.length : Int)))] (.fz [(.p (.int .u8 (IntKind.wrap .u8 a13.ID))), (.p (.int .u8 (IntKind.wrap .u8 ((a13.Data.length : Int)))))] 2 1 true) := SlF.lit (cs := [(.p (.int .u8 (IntKind.wrap .u8 a13.ID))), (.p (.int .u8 (IntKind.wrap .u8 ((a13.Data.length : Int)))))]) (RL.cons (show (dI .u8).R (IntKind.wrap .u8 a13.ID) [(.p (.int .u8 (IntKind.wrap .u8 a13.ID)))] from rfl) (RL.cons (show (dI .u8).R (IntKind.wrap .u8 ((a13.Data.length : Int))) [(.p (.int .u8 (IntKind.wrap .u8 ((a13.Data.length : Int)))))] from rfl) RL.nil)) rfl rfl true
          refine Sim.op (bldS (pt_cons rfl (pt_cons rfl pt_nil)) (by kernel_rfl : _ = some (.fz [(.p (.int .u8 (IntKind.wrap .u8 a13.ID))), (.p (.int .u8 (IntKind.wrap .u8 ((a13.Data.length : Int)))))] 2 1 true))) ?_
          refine Sim.bd fun a69 h70 => ?_
          obtain ⟨v71, H72, e73, S74⟩ := S26.app (i := 0) (d := 81) (e := 1) (own := true) (σ := (7 :: 1 :: 0 :: 1 :: 1 :: 1 :: 0 :: 1 :: 1 :: 0 :: σ)) rfl (h68.h H24).y h70 rfl (by decide) (by decide) rfl
          refine Sim.op (e73) ?_
          refine Sim.op (fA_ref _ _ _) ?_
          refine Sim.op ((S74.atG (i := 0) rfl).ld (j := 1) rfl) ?_
          refine Sim.bd fun a75 h76 => ?_
          obtain ⟨v77, H78, e79, S80⟩ := S74.app (i := 0) (d := 85) (e := 1) (own := true) (σ := (3 :: 1 :: 1 :: 1 :: 1 :: 0 :: 1 :: 1 :: 0 :: σ)) rfl (h19.h H72).y h76 rfl (by decide) (by decide) rfl
          refine Sim.op (e79) ?_
          exact ih x0 a75 x19 x20 (IntKind.wrap .i64 (x21 + 1)) v77 v11 h12 H78 (S80.wk2 all_nil (all_cons ⟨[85, 81, 73, 81, 85], by simp, at_mem 0 rfl⟩ all_nil))
    · exact hE0 x6 v9 H7 (S8.wk2 all_nil (all_cons ⟨[73, 81, 85], by simp, at_mem 0 rfl⟩ all_nil))
theorem limelightref3_Elems_ok (k : Nat) {h : H} {σ : Stamp} (x0 : Int) (x1 : List T_api_Elem) {u1 : V} (hu1 : SlH h dT_api_Elem x1 u1) : Sim (p_limelightref3_Elems k x0 x1) (ev G X0 18 σ [(.p (.int .u16 x0)), u1] h) (fun r s => ∃ (c0 : C), ∃ (a0 : List V), OwnS c0 (dI .u8).sz r.1.length a0 ∧ (dI .u8).L r.1 a0 ∧ s = ([c0, .v (.p (.int .i64 r.2))], h)) := by
  refine Sim.ev rfl (Sim.ext (limelightref3_Elems_entry _ _ _ _ _ _) ?_)
  rw [p_limelightref3_Elems]
  have S0 : Fm 89 h [] [] [] (List.replicate 89 [] :: h) := Fm.start0
  refine Sim.ch (P := fun r y => r = y) ?_ (fun b1 y2 h3 h4 => ?_)
  · refine Sim.cd (fun hc => ?_) (fun hc => ?_)
    · exact Sim.ret rfl rfl
    · exact Sim.ret rfl rfl
  subst h4
  refine Sim.cd (fun hc => ?_) (fun hc => ?_)
  · exact Sim.fin (S0.finN (lv_cons (SlF.nil (dI .u8)).still.lv (lv_cons (still_int _ _).lv lv_nil))) ⟨(.v (.p (.slice none 0 0))), [], ⟨by simp, .inl ⟨rfl, rfl, .inl rfl⟩⟩, rfl, rfl⟩
  · refine Sim.op ((S0.low hu1).len) ?_
    refine Sim.op (castI_p _ _) ?_
    refine Sim.cd (fun hc => ?_) (fun hc => ?_)
    · exact Sim.fin (S0.finN (lv_cons (SlF.nil (dI .u8)).still.lv (lv_cons (still_int _ _).lv lv_nil))) ⟨(.v (.p (.slice none 0 0))), [], ⟨by simp, .inl ⟨rfl, rfl, .inl rfl⟩⟩, rfl, rfl⟩
    · refine Sim.op ((S0.low hu1).len) ?_
      refine Sim.op (castI_p _ _) ?_
      have S88 := S0.nil (dI .u8) []
      refine Sim.as (limelightref3_Elems_l0_ok ?_ ?_ k x0 (([] : List Int)) x1 ((x1.length : Int)) 0 (.p (.slice none 0 0)) u1 hu1 (List.replicate 89 [] :: h) (S88.wk2 all_nil (all_cons ⟨[], by simp, at_mem 0 rfl⟩ all_nil))) 
      · intro r89_6 v92 H90 S91
        refine Sim.ext (limelightref3_Elems_a0_0 _ _ _ _ _) ?_
        refine Sim.call (limelightref1_Pad_ok k r89_6 (S91.sl (i := 0) rfl) 4) fun r94 cs95 H96 h97 q98 => ?_
        obtain ⟨c99, cs100, h101, h102, q98⟩ := q98
        cases q98
        obtain ⟨v103, H104, e105, S106⟩ := S91.land (dt := (dI .u8)) (d := 88) (e := 0) (n := 0) h101 h102 (by decide) rfl
        erw [e105]
        obtain ⟨c113, cs114, H108, e109, h111, h112, S110⟩ := S106.expOwn (i := 0) (τ := 0 :: 1 :: σ) rfl rfl rfl
        exact Sim.fin (S110.finE (Ex.st e109 (Ex.pl (still_int _ _).lv Ex.nil))) ⟨c113, cs114, h111, h112, rfl⟩
      · intro r115_5 H116 S117
        refine Sim.ext (limelightref3_Elems_a0_ret _ _ _ _ _ _) ?_
        exact Sim.fin (S117.finN (lv_cons (SlF.nil (dI .u8)).still.lv (lv_cons (still_int _ _).lv lv_nil))) ⟨(.v (.p (.slice none 0 0))), [], ⟨by simp, .inl ⟨rfl, rfl, .inl rfl⟩⟩, rfl, rfl⟩
end Go.Ev
/- Lifted by lift.py: limelightlaw4_same as a plain function. -/
namespace Go.Ev
open Go.Proofs
set_option linter.unusedVariables false
set_option linter.unusedSimpArgs false
set_option maxRecDepth 100000
def p_limelightlaw4_same (k : Nat) (x0 : Int) (x1 : (List T_api_Elem)) (x2 : Int) : Option (Bool) :=
(p_ext_Bytes k x0 x1).bind fun r1 =>
(p_limelightref3_Elems k x0 x1).bind fun r8 =>
(p_ext_Find k x1 x2).bind fun r22 =>
(p_limelightref3_Find k x1 x2).bind fun r29 =>
(bif r1.2 == r8.2 then (some ((strB r1.1).toList == (strB r8.1).toList)) else (some false)).bind fun b36 =>
(bif b36 then (some ((strB r22.1).toList == (strB r29.1).toList)) else (some false)).bind fun b40 =>
(bif b40 then (some (r22.2 == r29.2)) else (some false)).bind fun b44 =>
bif b44 then ((p_limelightlaw4_reads k x0 r8.1).bind fun r53 =>
some (r53)) else (some (false))
theorem limelightlaw4_same_ok (k : Nat) {h : H} {σ : Stamp} (x0 : Int) (x1 : List T_api_Elem) {u1 : V} (hu1 : SlH h dT_api_Elem x1 u1) (x2 : Int) : Sim (p_limelightlaw4_same k x0 x1 x2) (ev G X0 17 σ [(.p (.int .u16 x0)), u1, (.p (.int .i64 x2))] h) (fun r s => s = ([.v (.p (.bool r))], h)) := by
  refine Sim.ev rfl (Sim.ext (limelightlaw4_same_entry _ _ _ _ _ _ _) ?_)
  rw [p_limelightlaw4_same]
  have S0 : Fm 66 h [] [] [] (List.replicate 66 [] :: h) := Fm.start0
  refine Sim.call (ext_Bytes_ok k x0 x1 (S0.low hu1)) fun r1 cs2 H3 h4 q5 => ?_
  obtain ⟨v6, h7, q5⟩ := q5
  cases q5
  refine Sim.op (rfl) ?_
  refine Sim.op (rfl) ?_
  refine Sim.op (castI_p _ _) ?_
  refine Sim.call (limelightref3_Elems_ok k x0 x1 (S0.low hu1)) fun r8 cs9 H10 h11 q12 => ?_
  obtain ⟨c13, cs14, h15, h16, q12⟩ := q12
  cases q12
  obtain ⟨v17, H18, e19, S20⟩ := S0.landN (dt := (dI .u8)) (d := 24) h15 h16 (by decide) rfl (.p (.int .i64 r8.2)) []
  erw [e19]
  refine Sim.op (rfl) ?_
  refine Sim.op (rfl) ?_
  refine Sim.op (castI_p _ _) ?_
  refine Sim.call (ext_Find_ok k x1 (S20.low hu1) x2) fun r22 cs23 H24 h25 q26 => ?_
  obtain ⟨v27, h28, q26⟩ := q26
  cases q26
  refine Sim.op (rfl) ?_
  refine Sim.op (rfl) ?_
  refine Sim.op (asB_p _) ?_
  refine Sim.call (limelightref3_Find_ok k x1 (S20.low hu1) x2) fun r29 cs30 H31 h32 q33 => ?_
  obtain ⟨v34, h35, q33⟩ := q33
  cases q33
  refine Sim.op (rfl) ?_
  refine Sim.op (rfl) ?_
  refine Sim.op (asB_p _) ?_
  refine Sim.ch (P := fun r y => r = y) ?_ (fun b36 y37 h38 h39 => ?_)
  · refine Sim.cd (fun hc => ?_) (fun hc => ?_)
    · refine Sim.op ((h7.h H18).str) ?_
      refine Sim.op (castS_p _) ?_
      refine Sim.op ((S20.sl (i := 0) rfl).str) ?_
      refine Sim.op (castS_p _) ?_
      exact Sim.ret rfl rfl
    · exact Sim.ret rfl rfl
  subst h39
  refine Sim.ch (P := fun r y => r = y) ?_ (fun b40 y41 h42 h43 => ?_)
  · refine Sim.cd (fun hc => ?_) (fun hc => ?_)
    · refine Sim.op ((h28.h H18).str) ?_
      refine Sim.op (castS_p _) ?_
      refine Sim.op ((h35.h H18).str) ?_
      refine Sim.op (castS_p _) ?_
      exact Sim.ret rfl rfl
    · exact Sim.ret rfl rfl
  subst h43
  refine Sim.ch (P := fun r y => r = y) ?_ (fun b44 y45 h46 h47 => ?_)
  · refine Sim.cd (fun hc => ?_) (fun hc => ?_)
    · exact Sim.ret rfl rfl
    · exact Sim.ret rfl rfl
  subst h47
  refine Sim.cdk (fun hc => ?_) (fun hc => ?_)
  · refine Sim.as ?_
    obtain ⟨v48, H49, e50, h51, S52⟩ := S20.layF (i := 0) rfl rfl
    erw [callFO_eq (frzAs_cons frzA_int (frzAs_cons e50 frzAs_nil))]
    refine Sim.call (limelightlaw4_reads_ok k x0 r8.1 h51) fun r53 cs54 H55 h56 q57 => ?_
    cases q57
    refine Sim.op (asB_p _) ?_
    refine Sim.pure ?_
    refine Sim.op (asB_p _) ?_
    exact Sim.fin (S52.finN (lv_cons (still_bool _).lv lv_nil)) rfl
  · refine Sim.as ?_
    refine Sim.pure ?_
    refine Sim.op (asB_p _) ?_
    exact Sim.fin (S20.finN (lv_cons (still_bool _).lv lv_nil)) rfl
end Go.Ev
/- Lifted by lift.py: limelightlaw4_ExtTells as a plain function. -/
namespace Go.Ev
open Go.Proofs
set_option linter.unusedVariables false
set_option linter.unusedSimpArgs false
set_option maxRecDepth 100000
def p_limelightlaw4_ExtTells (k : Nat) (x0 : (List Int)) (x1 : (List T_api_Elem)) (x2 : (List Int)) (x3 : Int) (x4 : Int) (x5 : Int) (x6 : Int) : Option (Bool) :=
(p_limelightkeep_Tape_Elems k (⟨x0, 0⟩ : T_limelightkeep_Tape) false).bind fun r5 =>
(p_limelightkeep_Tape_Elems k (⟨r5.2.f_L, r5.2.f_At⟩ : T_limelightkeep_Tape) true).bind fun r22 =>
bif decide (((x1.length : Int)) > 12) then (
(sub x1 0 12).bind fun a39 =>
(p_limelightref3_Elems k 4096 r22.1).bind fun r41 =>
bif decide (((r41.1.length : Int)) > 0) then (
(p_limelightbook_Within x5 0 (IntKind.wrap .i64 (((r41.1.length : Int)) - 1))).bind fun r55 =>
(ix r41.1 r55).bind fun a60 =>
(ix r41.1 r55).bind fun a63 =>
(stx r41.1 r55 (intBits .xor .u8 a60 x6)).bind fun a68 =>
(p_limelightlaw4_same k 48862 r5.1 (intBits .and .i64 x3 15)).bind fun r70 =>
(bif r70 then ((p_limelightlaw4_same k 4096 r22.1 (intBits .and .i64 x3 255)).bind fun r75 =>
some r75) else (some false)).bind fun b80 =>
(bif b80 then ((p_limelightlaw4_same k 48862 a39 x3).bind fun r84 =>
some r84) else (some false)).bind fun b89 =>
(bif b89 then ((p_limelightlaw4_same k 4096 a39 x3).bind fun r93 =>
some r93) else (some false)).bind fun b98 =>
(bif b98 then ((p_limelightlaw4_same k x4 r5.1 1).bind fun r102 =>
some r102) else (some false)).bind fun b107 =>
(bif b107 then ((p_limelightlaw4_reads k 48862 x2).bind fun r111 =>
some r111) else (some false)).bind fun b116 =>
(bif b116 then ((p_limelightlaw4_reads k 4096 x2).bind fun r120 =>
some r120) else (some false)).bind fun b125 =>
(bif b125 then ((p_limelightlaw4_reads k x4 x2).bind fun r129 =>
some r129) else (some false)).bind fun b134 =>
bif b134 then ((p_limelightlaw4_reads k 4096 a68).bind fun r143 =>
(bif r143 then ((p_limelightlaw4_known k).bind fun r148 =>
some r148) else (some false)).bind fun b153 =>
some (b153)) else ((bif false then ((p_limelightlaw4_known k).bind fun r157 =>
some r157) else (some false)).bind fun b162 =>
some (b162)))
else (
(p_limelightlaw4_same k 48862 r5.1 (intBits .and .i64 x3 15)).bind fun r166 =>
(bif r166 then ((p_limelightlaw4_same k 4096 r22.1 (intBits .and .i64 x3 255)).bind fun r171 =>
some r171) else (some false)).bind fun b176 =>
(bif b176 then ((p_limelightlaw4_same k 48862 a39 x3).bind fun r180 =>
some r180) else (some false)).bind fun b185 =>
(bif b185 then ((p_limelightlaw4_same k 4096 a39 x3).bind fun r189 =>
some r189) else (some false)).bind fun b194 =>
(bif b194 then ((p_limelightlaw4_same k x4 r5.1 1).bind fun r198 =>
some r198) else (some false)).bind fun b203 =>
(bif b203 then ((p_limelightlaw4_reads k 48862 x2).bind fun r207 =>
some r207) else (some false)).bind fun b212 =>
(bif b212 then ((p_limelightlaw4_reads k 4096 x2).bind fun r216 =>
some r216) else (some false)).bind fun b221 =>
(bif b221 then ((p_limelightlaw4_reads k x4 x2).bind fun r225 =>
some r225) else (some false)).bind fun b230 =>
bif b230 then ((p_limelightlaw4_reads k 4096 r41.1).bind fun r239 =>
(bif r239 then ((p_limelightlaw4_known k).bind fun r244 =>
some r244) else (some false)).bind fun b249 =>
some (b249)) else ((bif false then ((p_limelightlaw4_known k).bind fun r253 =>
some r253) else (some false)).bind fun b258 =>
some (b258))))
else (
(p_limelightref3_Elems k 4096 r22.1).bind fun r262 =>
bif decide (((r262.1.length : Int)) > 0) then (
(p_limelightbook_Within x5 0 (IntKind.wrap .i64 (((r262.1.length : Int)) - 1))).bind fun r276 =>
(ix r262.1 r276).bind fun a281 =>
(ix r262.1 r276).bind fun a284 =>
(stx r262.1 r276 (intBits .xor .u8 a281 x6)).bind fun a289 =>
(p_limelightlaw4_same k 48862 r5.1 (intBits .and .i64 x3 15)).bind fun r291 =>
(bif r291 then ((p_limelightlaw4_same k 4096 r22.1 (intBits .and .i64 x3 255)).bind fun r296 =>
some r296) else (some false)).bind fun b301 =>
(bif b301 then ((p_limelightlaw4_same k 48862 x1 x3).bind fun r305 =>
some r305) else (some false)).bind fun b310 =>
(bif b310 then ((p_limelightlaw4_same k 4096 x1 x3).bind fun r314 =>
some r314) else (some false)).bind fun b319 =>
(bif b319 then ((p_limelightlaw4_same k x4 r5.1 1).bind fun r323 =>
some r323) else (some false)).bind fun b328 =>
(bif b328 then ((p_limelightlaw4_reads k 48862 x2).bind fun r332 =>
some r332) else (some false)).bind fun b337 =>
(bif b337 then ((p_limelightlaw4_reads k 4096 x2).bind fun r341 =>
some r341) else (some false)).bind fun b346 =>
(bif b346 then ((p_limelightlaw4_reads k x4 x2).bind fun r350 =>
some r350) else (some false)).bind fun b355 =>
bif b355 then ((p_limelightlaw4_reads k 4096 a289).bind fun r364 =>
(bif r364 then ((p_limelightlaw4_known k).bind fun r369 =>
some r369) else (some false)).bind fun b374 =>
some (b374)) else ((bif false then ((p_limelightlaw4_known k).bind fun r378 =>
some r378) else (some false)).bind fun b383 =>
some (b383)))
else (
(p_limelightlaw4_same k 48862 r5.1 (intBits .and .i64 x3 15)).bind fun r387 =>
(bif r387 then ((p_limelightlaw4_same k 4096 r22.1 (intBits .and .i64 x3 255)).bind fun r392 =>
some r392) else (some false)).bind fun b397 =>
(bif b397 then ((p_limelightlaw4_same k 48862 x1 x3).bind fun r401 =>
some r401) else (some false)).bind fun b406 =>
(bif b406 then ((p_limelightlaw4_same k 4096 x1 x3).bind fun r410 =>
some r410) else (some false)).bind fun b415 =>
(bif b415 then ((p_limelightlaw4_same k x4 r5.1 1).bind fun r419 =>
some r419) else (some false)).bind fun b424 =>
(bif b424 then ((p_limelightlaw4_reads k 48862 x2).bind fun r428 =>
some r428) else (some false)).bind fun b433 =>
(bif b433 then ((p_limelightlaw4_reads k 4096 x2).bind fun r437 =>
some r437) else (some false)).bind fun b442 =>
(bif b442 then ((p_limelightlaw4_reads k x4 x2).bind fun r446 =>
some r446) else (some false)).bind fun b451 =>
bif b451 then ((p_limelightlaw4_reads k 4096 r262.1).bind fun r460 =>
(bif r460 then ((p_limelightlaw4_known k).bind fun r465 =>
some r465) else (some false)).bind fun b470 =>
some (b470)) else ((bif false then ((p_limelightlaw4_known k).bind fun r474 =>
some r474) else (some false)).bind fun b479 =>
some (b479))))
theorem limelightlaw4_ExtTells_ok (k : Nat) {h : H} {σ : Stamp} (x0 : List Int) {u0 : V} (hu0 : SlF (dI .i64) x0 u0) (x1 : List T_api_Elem) {u1 : V} (hu1 : SlH h dT_api_Elem x1 u1) (x2 : List Int) {u2 : V} (hu2 : SlF (dI .u8) x2 u2) (x3 : Int) (x4 : Int) (x5 : Int) (x6 : Int) : Sim (p_limelightlaw4_ExtTells k x0 x1 x2 x3 x4 x5 x6) (ev G X0 4 σ [u0, u1, u2, (.p (.int .i64 x3)), (.p (.int .u16 x4)), (.p (.int .i64 x5)), (.p (.int .u8 x6))] h) (fun r s => s = ([.v (.p (.bool r))], h)) := by
  refine Sim.ev rfl (Sim.ext (limelightlaw4_ExtTells_entry _ _ _ _ _ _ _ _ _ _ _) ?_)
  rw [p_limelightlaw4_ExtTells]
  have S0 : Fm 96 h [] [] [] (List.replicate 96 [] :: h) := Fm.start0
  refine Sim.op (bldV (pt_cons hu0.still.cells pt_nil) (by kernel_rfl : _ = some (.agg [u0, .p (.int .i64 0)]))) ?_
  obtain ⟨H1, e2, S3⟩ := S0.box (own := false) (d := 22) (s := (2 :: 0 :: 1 :: 0 :: σ)) (xs := [u0, .p (.int .i64 0)]) (stills_cons hu0.still (stills_cons (still_int _ _) stills_nil)) (by decide) rfl
  refine Sim.op (e2) ?_
  refine Sim.call (limelightkeep_Tape_Elems_ok k (⟨x0, 0⟩ : T_limelightkeep_Tape) hu0 (S3.atG (i := 0) rfl) false) fun r5 cs6 H7 h8 q9 => ?_
  obtain ⟨c10, cs11, v14, h12, h13, h15, q9⟩ := q9
  cases q9
  have S16 := S3.setG (i := 0) (cs' := List.map C.v [v14, (.p (.int .i64 r5.2.f_At))]) rfl rfl rfl
  obtain ⟨v17, H18, e19, S20⟩ := S16.land (dt := dT_api_Elem) (d := 24) (e := 0) (n := 0) h12 h13 (by decide) rfl
  erw [e19]
  refine Sim.call (limelightkeep_Tape_Elems_ok k (⟨r5.2.f_L, r5.2.f_At⟩ : T_limelightkeep_Tape) h15 (S20.atG (i := 0) rfl) true) fun r22 cs23 H24 h25 q26 => ?_
  obtain ⟨c27, cs28, v31, h29, h30, h32, q26⟩ := q26
  cases q26
  have S33 := S20.setG (i := 0) (cs' := List.map C.v [v31, (.p (.int .i64 r22.2.f_At))]) rfl rfl rfl
  obtain ⟨v34, H35, e36, S37⟩ := S33.land (dt := dT_api_Elem) (d := 26) (e := 0) (n := 0) h29 h30 (by decide) rfl
  erw [e36]
  refine Sim.op ((S37.low hu1).len) ?_
  refine Sim.op (castI_p _ _) ?_
  refine Sim.cd (fun hc => ?_) (fun hc => ?_)
  · refine Sim.bd fun a39 h40 => ?_
    refine Sim.op ((S37.low hu1).slS h40 rfl rfl rfl) ?_
    refine Sim.call (limelightref3_Elems_ok k 4096 r22.1 (S37.sl (i := 0) rfl)) fun r41 cs42 H43 h44 q45 => ?_
    obtain ⟨c46, cs47, h48, h49, q45⟩ := q45
    cases q45
    obtain ⟨v50, H51, e52, S53⟩ := S37.landN (dt := (dI .u8)) (d := 34) h48 h49 (by decide) rfl (.p (.int .i64 r41.2)) []
    erw [e52]
    refine Sim.op (rfl) ?_
    refine Sim.op (rfl) ?_
    refine Sim.op (castI_p _ _) ?_
    refine Sim.op ((S53.sl (i := 0) rfl).len) ?_
    refine Sim.op (castI_p _ _) ?_
    refine Sim.cd (fun hc => ?_) (fun hc => ?_)
    · refine Sim.op ((S53.sl (i := 0) rfl).len) ?_
      refine Sim.op (castI_p _ _) ?_
      refine Sim.call (limelightbook_Within_ok x5 0 (IntKind.wrap .i64 (((r41.1.length : Int)) - 1))) fun r55 cs56 H57 h58 q59 => ?_
      cases q59
      refine Sim.op (castI_p _ _) ?_
      refine Sim.bd fun a60 h61 => ?_
      refine Sim.op ((S53.sl (i := 0) rfl).iS h61 rfl) ?_
      obtain ⟨_, rfl, hE62⟩ := (S53.sl (i := 0) rfl).el h61 rfl
      refine Sim.op (hE62.ld (j := 0) rfl) ?_
      refine Sim.op (castI_p _ _) ?_
      refine Sim.bd fun a63 h64 => ?_
      refine Sim.op ((S53.sl (i := 0) rfl).iS h64 rfl) ?_
      refine Sim.bd fun a68 h69 => ?_
      obtain ⟨H65, e66, S67⟩ := S53.setD (i := 0) (e := 1) (own := true) (σ := (11 :: 1 :: 0 :: 1 :: 1 :: 1 :: 1 :: 1 :: 0 :: σ)) (xv := (.p (.int .u8 (intBits .xor .u8 a60 x6)))) rfl h69 rfl rfl rfl rfl
      refine Sim.op (st_map e66) ?_
      refine Sim.call (limelightlaw4_same_ok k 48862 r5.1 (S67.sl (i := 2) rfl) (intBits .and .i64 x3 15)) fun r70 cs71 H72 h73 q74 => ?_
      cases q74
      refine Sim.op (asB_p _) ?_
      refine Sim.ch (P := fun r y => (.p (.bool r), H65) = y) ?_ (fun b80 y81 h82 h83 => ?_)
      · refine Sim.cd (fun hc => ?_) (fun hc => ?_)
        · refine Sim.call (limelightlaw4_same_ok k 4096 r22.1 (S67.sl (i := 1) rfl) (intBits .and .i64 x3 255)) fun r75 cs76 H77 h78 q79 => ?_
          cases q79
          refine Sim.op (asB_p _) ?_
          exact Sim.ret rfl rfl
        · exact Sim.ret rfl rfl
      subst h83
      refine Sim.op (asB_p _) ?_
      refine Sim.ch (P := fun r y => (.p (.bool r), H65) = y) ?_ (fun b89 y90 h91 h92 => ?_)
      · refine Sim.cd (fun hc => ?_) (fun hc => ?_)
        · refine Sim.call (limelightlaw4_same_ok k 48862 a39 ((S67.low hu1).sub h40 (e := 2) rfl) x3) fun r84 cs85 H86 h87 q88 => ?_
          cases q88
          refine Sim.op (asB_p _) ?_
          exact Sim.ret rfl rfl
        · exact Sim.ret rfl rfl
      subst h92
      refine Sim.op (asB_p _) ?_
      refine Sim.ch (P := fun r y => (.p (.bool r), H65) = y) ?_ (fun b98 y99 h100 h101 => ?_)
      · refine Sim.cd (fun hc => ?_) (fun hc => ?_)
        · refine Sim.call (limelightlaw4_same_ok k 4096 a39 ((S67.low hu1).sub h40 (e := 2) rfl) x3) fun r93 cs94 H95 h96 q97 => ?_
          cases q97
          refine Sim.op (asB_p _) ?_
          exact Sim.ret rfl rfl
        · exact Sim.ret rfl rfl
      subst h101
      refine Sim.op (asB_p _) ?_
      refine Sim.ch (P := fun r y => (.p (.bool r), H65) = y) ?_ (fun b107 y108 h109 h110 => ?_)
      · refine Sim.cd (fun hc => ?_) (fun hc => ?_)
        · refine Sim.call (limelightlaw4_same_ok k x4 r5.1 (S67.sl (i := 2) rfl) 1) fun r102 cs103 H104 h105 q106 => ?_
          cases q106
          refine Sim.op (asB_p _) ?_
          exact Sim.ret rfl rfl
        · exact Sim.ret rfl rfl
      subst h110
      refine Sim.op (asB_p _) ?_
      refine Sim.ch (P := fun r y => (.p (.bool r), H65) = y) ?_ (fun b116 y117 h118 h119 => ?_)
      · refine Sim.cd (fun hc => ?_) (fun hc => ?_)
        · erw [callFO_eq (frzAs_cons frzA_int (frzAs_cons (frzA_F hu2) frzAs_nil))]
          refine Sim.call (limelightlaw4_reads_ok k 48862 x2 hu2) fun r111 cs112 H113 h114 q115 => ?_
          cases q115
          refine Sim.op (asB_p _) ?_
          exact Sim.ret rfl rfl
        · exact Sim.ret rfl rfl
      subst h119
      refine Sim.op (asB_p _) ?_
      refine Sim.ch (P := fun r y => (.p (.bool r), H65) = y) ?_ (fun b125 y126 h127 h128 => ?_)
      · refine Sim.cd (fun hc => ?_) (fun hc => ?_)
        · erw [callFO_eq (frzAs_cons frzA_int (frzAs_cons (frzA_F hu2) frzAs_nil))]
          refine Sim.call (limelightlaw4_reads_ok k 4096 x2 hu2) fun r120 cs121 H122 h123 q124 => ?_
          cases q124
          refine Sim.op (asB_p _) ?_
          exact Sim.ret rfl rfl
        · exact Sim.ret rfl rfl
      subst h128
      refine Sim.op (asB_p _) ?_
      refine Sim.ch (P := fun r y => (.p (.bool r), H65) = y) ?_ (fun b134 y135 h136 h137 => ?_)
      · refine Sim.cd (fun hc => ?_) (fun hc => ?_)
        · erw [callFO_eq (frzAs_cons frzA_int (frzAs_cons (frzA_F hu2) frzAs_nil))]
          refine Sim.call (limelightlaw4_reads_ok k x4 x2 hu2) fun r129 cs130 H131 h132 q133 => ?_
          cases q133
          refine Sim.op (asB_p _) ?_
          exact Sim.ret rfl rfl
        · exact Sim.ret rfl rfl
      subst h137
      refine Sim.op (asB_p _) ?_
      refine Sim.cdk (fun hc => ?_) (fun hc => ?_)
      · refine Sim.as ?_
        obtain ⟨v138, H139, e140, h141, S142⟩ := S67.layF (i := 0) rfl rfl
        erw [callFO_eq (frzAs_cons frzA_int (frzAs_cons e140 frzAs_nil))]
        refine Sim.call (limelightlaw4_reads_ok k 4096 a68 h141) fun r143 cs144 H145 h146 q147 => ?_
        cases q147
        refine Sim.op (asB_p _) ?_
        refine Sim.pure ?_
        refine Sim.op (asB_p _) ?_
        refine Sim.ch (P := fun r y => (.p (.bool r), H139) = y) ?_ (fun b153 y154 h155 h156 => ?_)
        · refine Sim.cd (fun hc => ?_) (fun hc => ?_)
          · refine Sim.call (limelightlaw4_known_ok k ) fun r148 cs149 H150 h151 q152 => ?_
            cases q152
            refine Sim.op (asB_p _) ?_
            exact Sim.ret rfl rfl
          · exact Sim.ret rfl rfl
        subst h156
        refine Sim.op (asB_p _) ?_
        exact Sim.fin (S142.finN (lv_cons (still_bool _).lv lv_nil)) rfl
      · refine Sim.as ?_
        refine Sim.pure ?_
        refine Sim.op (asB_p _) ?_
        refine Sim.ch (P := fun r y => (.p (.bool r), H65) = y) ?_ (fun b162 y163 h164 h165 => ?_)
        · refine Sim.cd (fun hc => ?_) (fun hc => ?_)
          · refine Sim.call (limelightlaw4_known_ok k ) fun r157 cs158 H159 h160 q161 => ?_
            cases q161
            refine Sim.op (asB_p _) ?_
            exact Sim.ret rfl rfl
          · exact Sim.ret rfl rfl
        subst h165
        refine Sim.op (asB_p _) ?_
        exact Sim.fin (S67.finN (lv_cons (still_bool _).lv lv_nil)) rfl
    · refine Sim.call (limelightlaw4_same_ok k 48862 r5.1 (S53.sl (i := 2) rfl) (intBits .and .i64 x3 15)) fun r166 cs167 H168 h169 q170 => ?_
      cases q170
      refine Sim.op (asB_p _) ?_
      refine Sim.ch (P := fun r y => (.p (.bool r), H51) = y) ?_ (fun b176 y177 h178 h179 => ?_)
      · refine Sim.cd (fun hc => ?_) (fun hc => ?_)
        · refine Sim.call (limelightlaw4_same_ok k 4096 r22.1 (S53.sl (i := 1) rfl) (intBits .and .i64 x3 255)) fun r171 cs172 H173 h174 q175 => ?_
          cases q175
          refine Sim.op (asB_p _) ?_
          exact Sim.ret rfl rfl
        · exact Sim.ret rfl rfl
      subst h179
      refine Sim.op (asB_p _) ?_
      refine Sim.ch (P := fun r y => (.p (.bool r), H51) = y) ?_ (fun b185 y186 h187 h188 => ?_)
      · refine Sim.cd (fun hc => ?_) (fun hc => ?_)
        · refine Sim.call (limelightlaw4_same_ok k 48862 a39 ((S53.low hu1).sub h40 (e := 2) rfl) x3) fun r180 cs181 H182 h183 q184 => ?_
          cases q184
          refine Sim.op (asB_p _) ?_
          exact Sim.ret rfl rfl
        · exact Sim.ret rfl rfl
      subst h188
      refine Sim.op (asB_p _) ?_
      refine Sim.ch (P := fun r y => (.p (.bool r), H51) = y) ?_ (fun b194 y195 h196 h197 => ?_)
      · refine Sim.cd (fun hc => ?_) (fun hc => ?_)
        · refine Sim.call (limelightlaw4_same_ok k 4096 a39 ((S53.low hu1).sub h40 (e := 2) rfl) x3) fun r189 cs190 H191 h192 q193 => ?_
          cases q193
          refine Sim.op (asB_p _) ?_
          exact Sim.ret rfl rfl
        · exact Sim.ret rfl rfl
      subst h197
      refine Sim.op (asB_p _) ?_
      refine Sim.ch (P := fun r y => (.p (.bool r), H51) = y) ?_ (fun b203 y204 h205 h206 => ?_)
      · refine Sim.cd (fun hc => ?_) (fun hc => ?_)
        · refine Sim.call (limelightlaw4_same_ok k x4 r5.1 (S53.sl (i := 2) rfl) 1) fun r198 cs199 H200 h201 q202 => ?_
          cases q202
          refine Sim.op (asB_p _) ?_
          exact Sim.ret rfl rfl
        · exact Sim.ret rfl rfl
      subst h206
      refine Sim.op (asB_p _) ?_
      refine Sim.ch (P := fun r y => (.p (.bool r), H51) = y) ?_ (fun b212 y213 h214 h215 => ?_)
      · refine Sim.cd (fun hc => ?_) (fun hc => ?_)
        · erw [callFO_eq (frzAs_cons frzA_int (frzAs_cons (frzA_F hu2) frzAs_nil))]
          refine Sim.call (limelightlaw4_reads_ok k 48862 x2 hu2) fun r207 cs208 H209 h210 q211 => ?_
          cases q211
          refine Sim.op (asB_p _) ?_
          exact Sim.ret rfl rfl
        · exact Sim.ret rfl rfl
      subst h215
      refine Sim.op (asB_p _) ?_
      refine Sim.ch (P := fun r y => (.p (.bool r), H51) = y) ?_ (fun b221 y222 h223 h224 => ?_)
      · refine Sim.cd (fun hc => ?_) (fun hc => ?_)
        · erw [callFO_eq (frzAs_cons frzA_int (frzAs_cons (frzA_F hu2) frzAs_nil))]
          refine Sim.call (limelightlaw4_reads_ok k 4096 x2 hu2) fun r216 cs217 H218 h219 q220 => ?_
          cases q220
          refine Sim.op (asB_p _) ?_
          exact Sim.ret rfl rfl
        · exact Sim.ret rfl rfl
      subst h224
      refine Sim.op (asB_p _) ?_
      refine Sim.ch (P := fun r y => (.p (.bool r), H51) = y) ?_ (fun b230 y231 h232 h233 => ?_)
      · refine Sim.cd (fun hc => ?_) (fun hc => ?_)
        · erw [callFO_eq (frzAs_cons frzA_int (frzAs_cons (frzA_F hu2) frzAs_nil))]
          refine Sim.call (limelightlaw4_reads_ok k x4 x2 hu2) fun r225 cs226 H227 h228 q229 => ?_
          cases q229
          refine Sim.op (asB_p _) ?_
          exact Sim.ret rfl rfl
        · exact Sim.ret rfl rfl
      subst h233
      refine Sim.op (asB_p _) ?_
      refine Sim.cdk (fun hc => ?_) (fun hc => ?_)
      · refine Sim.as ?_
        obtain ⟨v234, H235, e236, h237, S238⟩ := S53.layF (i := 0) rfl rfl
        erw [callFO_eq (frzAs_cons frzA_int (frzAs_cons e236 frzAs_nil))]
        refine Sim.call (limelightlaw4_reads_ok k 4096 r41.1 h237) fun r239 cs240 H241 h242 q243 => ?_
        cases q243
        refine Sim.op (asB_p _) ?_
        refine Sim.pure ?_
        refine Sim.op (asB_p _) ?_
        refine Sim.ch (P := fun r y => (.p (.bool r), H235) = y) ?_ (fun b249 y250 h251 h252 => ?_)
        · refine Sim.cd (fun hc => ?_) (fun hc => ?_)
          · refine Sim.call (limelightlaw4_known_ok k ) fun r244 cs245 H246 h247 q248 => ?_
            cases q248
            refine Sim.op (asB_p _) ?_
            exact Sim.ret rfl rfl
          · exact Sim.ret rfl rfl
        subst h252
        refine Sim.op (asB_p _) ?_
        exact Sim.fin (S238.finN (lv_cons (still_bool _).lv lv_nil)) rfl
      · refine Sim.as ?_
        refine Sim.pure ?_
        refine Sim.op (asB_p _) ?_
        refine Sim.ch (P := fun r y => (.p (.bool r), H51) = y) ?_ (fun b258 y259 h260 h261 => ?_)
        · refine Sim.cd (fun hc => ?_) (fun hc => ?_)
          · refine Sim.call (limelightlaw4_known_ok k ) fun r253 cs254 H255 h256 q257 => ?_
            cases q257
            refine Sim.op (asB_p _) ?_
            exact Sim.ret rfl rfl
          · exact Sim.ret rfl rfl
        subst h261
        refine Sim.op (asB_p _) ?_
        exact Sim.fin (S53.finN (lv_cons (still_bool _).lv lv_nil)) rfl
  · refine Sim.call (limelightref3_Elems_ok k 4096 r22.1 (S37.sl (i := 0) rfl)) fun r262 cs263 H264 h265 q266 => ?_
    obtain ⟨c267, cs268, h269, h270, q266⟩ := q266
    cases q266
    obtain ⟨v271, H272, e273, S274⟩ := S37.landN (dt := (dI .u8)) (d := 34) h269 h270 (by decide) rfl (.p (.int .i64 r262.2)) []
    erw [e273]
    refine Sim.op (rfl) ?_
    refine Sim.op (rfl) ?_
    refine Sim.op (castI_p _ _) ?_
    refine Sim.op ((S274.sl (i := 0) rfl).len) ?_
    refine Sim.op (castI_p _ _) ?_
    refine Sim.cd (fun hc => ?_) (fun hc => ?_)
    · refine Sim.op ((S274.sl (i := 0) rfl).len) ?_
      refine Sim.op (castI_p _ _) ?_
      refine Sim.call (limelightbook_Within_ok x5 0 (IntKind.wrap .i64 (((r262.1.length : Int)) - 1))) fun r276 cs277 H278 h279 q280 => ?_
      cases q280
      refine Sim.op (castI_p _ _) ?_
      refine Sim.bd fun a281 h282 => ?_
      refine Sim.op ((S274.sl (i := 0) rfl).iS h282 rfl) ?_
      obtain ⟨_, rfl, hE283⟩ := (S274.sl (i := 0) rfl).el h282 rfl
      refine Sim.op (hE283.ld (j := 0) rfl) ?_
      refine Sim.op (castI_p _ _) ?_
      refine Sim.bd fun a284 h285 => ?_
      refine Sim.op ((S274.sl (i := 0) rfl).iS h285 rfl) ?_
      refine Sim.bd fun a289 h290 => ?_
      obtain ⟨H286, e287, S288⟩ := S274.setD (i := 0) (e := 1) (own := true) (σ := (11 :: 1 :: 0 :: 1 :: 1 :: 1 :: 1 :: 1 :: 0 :: σ)) (xv := (.p (.int .u8 (intBits .xor .u8 a281 x6)))) rfl h290 rfl rfl rfl rfl
      refine Sim.op (st_map e287) ?_
      refine Sim.call (limelightlaw4_same_ok k 48862 r5.1 (S288.sl (i := 2) rfl) (intBits .and .i64 x3 15)) fun r291 cs292 H293 h294 q295 => ?_
      cases q295
      refine Sim.op (asB_p _) ?_
      refine Sim.ch (P := fun r y => (.p (.bool r), H286) = y) ?_ (fun b301 y302 h303 h304 => ?_)
      · refine Sim.cd (fun hc => ?_) (fun hc => ?_)
        · refine Sim.call (limelightlaw4_same_ok k 4096 r22.1 (S288.sl (i := 1) rfl) (intBits .and .i64 x3 255)) fun r296 cs297 H298 h299 q300 => ?_
          cases q300
          refine Sim.op (asB_p _) ?_
          exact Sim.ret rfl rfl
        · exact Sim.ret rfl rfl
      subst h304
      refine Sim.op (asB_p _) ?_
      refine Sim.ch (P := fun r y => (.p (.bool r), H286) = y) ?_ (fun b310 y311 h312 h313 => ?_)
      · refine Sim.cd (fun hc => ?_) (fun hc => ?_)
        · refine Sim.call (limelightlaw4_same_ok k 48862 x1 (S288.low hu1) x3) fun r305 cs306 H307 h308 q309 => ?_
          cases q309
          refine Sim.op (asB_p _) ?_
          exact Sim.ret rfl rfl
        · exact Sim.ret rfl rfl
      subst h313
      refine Sim.op (asB_p _) ?_
      refine Sim.ch (P := fun r y => (.p (.bool r), H286) = y) ?_ (fun b319 y320 h321 h322 => ?_)
      · refine Sim.cd (fun hc => ?_) (fun hc => ?_)
        · refine Sim.call (limelightlaw4_same_ok k 4096 x1 (S288.low hu1) x3) fun r314 cs315 H316 h317 q318 => ?_
          cases q318
          refine Sim.op (asB_p _) ?_
          exact Sim.ret rfl rfl
        · exact Sim.ret rfl rfl
      subst h322
      refine Sim.op (asB_p _) ?_
      refine Sim.ch (P := fun r y => (.p (.bool r), H286) = y) ?_ (fun b328 y329 h330 h331 => ?_)
      · refine Sim.cd (fun hc => ?_) (fun hc => ?_)
        · refine Sim.call (limelightlaw4_same_ok k x4 r5.1 (S288.sl (i := 2) rfl) 1) fun r323 cs324 H325 h326 q327 => ?_
          cases q327
          refine Sim.op (asB_p _) ?_
          exact Sim.ret rfl rfl
        · exact Sim.ret rfl rfl
      subst h331
      refine Sim.op (asB_p _) ?_
      refine Sim.ch (P := fun r y => (.p (.bool r), H286) = y) ?_ (fun b337 y338 h339 h340 => ?_)
      · refine Sim.cd (fun hc => ?_) (fun hc => ?_)
        · erw [callFO_eq (frzAs_cons frzA_int (frzAs_cons (frzA_F hu2) frzAs_nil))]
          refine Sim.call (limelightlaw4_reads_ok k 48862 x2 hu2) fun r332 cs333 H334 h335 q336 => ?_
          cases q336
          refine Sim.op (asB_p _) ?_
          exact Sim.ret rfl rfl
        · exact Sim.ret rfl rfl
      subst h340
      refine Sim.op (asB_p _) ?_
      refine Sim.ch (P := fun r y => (.p (.bool r), H286) = y) ?_ (fun b346 y347 h348 h349 => ?_)
      · refine Sim.cd (fun hc => ?_) (fun hc => ?_)
        · erw [callFO_eq (frzAs_cons frzA_int (frzAs_cons (frzA_F hu2) frzAs_nil))]
          refine Sim.call (limelightlaw4_reads_ok k 4096 x2 hu2) fun r341 cs342 H343 h344 q345 => ?_
          cases q345
          refine Sim.op (asB_p _) ?_
          exact Sim.ret rfl rfl
        · exact Sim.ret rfl rfl
      subst h349
      refine Sim.op (asB_p _) ?_
      refine Sim.ch (P := fun r y => (.p (.bool r), H286) = y) ?_ (fun b355 y356 h357 h358 => ?_)
      · refine Sim.cd (fun hc => ?_) (fun hc => ?_)
        · erw [callFO_eq (frzAs_cons frzA_int (frzAs_cons (frzA_F hu2) frzAs_nil))]
          refine Sim.call (limelightlaw4_reads_ok k x4 x2 hu2) fun r350 cs351 H352 h353 q354 => ?_
          cases q354
          refine Sim.op (asB_p _) ?_
          exact Sim.ret rfl rfl
        · exact Sim.ret rfl rfl
      subst h358
      refine Sim.op (asB_p _) ?_
      refine Sim.cdk (fun hc => ?_) (fun hc => ?_)
      · refine Sim.as ?_
        obtain ⟨v359, H360, e361, h362, S363⟩ := S288.layF (i := 0) rfl rfl
        erw [callFO_eq (frzAs_cons frzA_int (frzAs_cons e361 frzAs_nil))]
        refine Sim.call (limelightlaw4_reads_ok k 4096 a289 h362) fun r364 cs365 H366 h367 q368 => ?_
        cases q368
        refine Sim.op (asB_p _) ?_
        refine Sim.pure ?_
        refine Sim.op (asB_p _) ?_
        refine Sim.ch (P := fun r y => (.p (.bool r), H360) = y) ?_ (fun b374 y375 h376 h377 => ?_)
        · refine Sim.cd (fun hc => ?_) (fun hc => ?_)
          · refine Sim.call (limelightlaw4_known_ok k ) fun r369 cs370 H371 h372 q373 => ?_
            cases q373
            refine Sim.op (asB_p _) ?_
            exact Sim.ret rfl rfl
          · exact Sim.ret rfl rfl
        subst h377
        refine Sim.op (asB_p _) ?_
        exact Sim.fin (S363.finN (lv_cons (still_bool _).lv lv_nil)) rfl
      · refine Sim.as ?_
        refine Sim.pure ?_
        refine Sim.op (asB_p _) ?_
        refine Sim.ch (P := fun r y => (.p (.bool r), H286) = y) ?_ (fun b383 y384 h385 h386 => ?_)
        · refine Sim.cd (fun hc => ?_) (fun hc => ?_)
          · refine Sim.call (limelightlaw4_known_ok k ) fun r378 cs379 H380 h381 q382 => ?_
            cases q382
            refine Sim.op (asB_p _) ?_
            exact Sim.ret rfl rfl
          · exact Sim.ret rfl rfl
        subst h386
        refine Sim.op (asB_p _) ?_
        exact Sim.fin (S288.finN (lv_cons (still_bool _).lv lv_nil)) rfl
    · refine Sim.call (limelightlaw4_same_ok k 48862 r5.1 (S274.sl (i := 2) rfl) (intBits .and .i64 x3 15)) fun r387 cs388 H389 h390 q391 => ?_
      cases q391
      refine Sim.op (asB_p _) ?_
      refine Sim.ch (P := fun r y => (.p (.bool r), H272) = y) ?_ (fun b397 y398 h399 h400 => ?_)
      · refine Sim.cd (fun hc => ?_) (fun hc => ?_)
        · refine Sim.call (limelightlaw4_same_ok k 4096 r22.1 (S274.sl (i := 1) rfl) (intBits .and .i64 x3 255)) fun r392 cs393 H394 h395 q396 => ?_
          cases q396
          refine Sim.op (asB_p _) ?_
          exact Sim.ret rfl rfl
        · exact Sim.ret rfl rfl
      subst h400
      refine Sim.op (asB_p _) ?_
      refine Sim.ch (P := fun r y => (.p (.bool r), H272) = y) ?_ (fun b406 y407 h408 h409 => ?_)
      · refine Sim.cd (fun hc => ?_) (fun hc => ?_)
        · refine Sim.call (limelightlaw4_same_ok k 48862 x1 (S274.low hu1) x3) fun r401 cs402 H403 h404 q405 => ?_
          cases q405
          refine Sim.op (asB_p _) ?_
          exact Sim.ret rfl rfl
        · exact Sim.ret rfl rfl
      subst h409
      refine Sim.op (asB_p _) ?_
      refine Sim.ch (P := fun r y => (.p (.bool r), H272) = y) ?_ (fun b415 y416 h417 h418 => ?_)
      · refine Sim.cd (fun hc => ?_) (fun hc => ?_)
        · refine Sim.call (limelightlaw4_same_ok k 4096 x1 (S274.low hu1) x3) fun r410 cs411 H412 h413 q414 => ?_
          cases q414
          refine Sim.op (asB_p _) ?_
          exact Sim.ret rfl rfl
        · exact Sim.ret rfl rfl
      subst h418
      refine Sim.op (asB_p _) ?_
      refine Sim.ch (P := fun r y => (.p (.bool r), H272) = y) ?_ (fun b424 y425 h426 h427 => ?_)
      · refine Sim.cd (fun hc => ?_) (fun hc => ?_)
        · refine Sim.call (limelightlaw4_same_ok k x4 r5.1 (S274.sl (i := 2) rfl) 1) fun r419 cs420 H421 h422 q423 => ?_
          cases q423
          refine Sim.op (asB_p _) ?_
          exact Sim.ret rfl rfl
        · exact Sim.ret rfl rfl
      subst h427
      refine Sim.op (asB_p _) ?_
      refine Sim.ch (P := fun r y => (.p (.bool r), H272) = y) ?_ (fun b433 y434 h435 h436 => ?_)
      · refine Sim.cd (fun hc => ?_) (fun hc => ?_)
        · erw [callFO_eq (frzAs_cons frzA_int (frzAs_cons (frzA_F hu2) frzAs_nil))]
          refine Sim.call (limelightlaw4_reads_ok k 48862 x2 hu2) fun r428 cs429 H430 h431 q432 => ?_
          cases q432
          refine Sim.op (asB_p _) ?_
          exact Sim.ret rfl rfl
        · exact Sim.ret rfl rfl
      subst h436
      refine Sim.op (asB_p _) ?_
      refine Sim.ch (P := fun r y => (.p (.bool r), H272) = y) ?_ (fun b442 y443 h444 h445 => ?_)
      · refine Sim.cd (fun hc => ?_) (fun hc => ?_)
        · erw [callFO_eq (frzAs_cons frzA_int (frzAs_cons (frzA_F hu2) frzAs_nil))]
          refine Sim.call (limelightlaw4_reads_ok k 4096 x2 hu2) fun r437 cs438 H439 h440 q441 => ?_
          cases q441
          refine Sim.op (asB_p _) ?_
          exact Sim.ret rfl rfl
        · exact Sim.ret rfl rfl
      subst h445
      refine Sim.op (asB_p _) ?_
      refine Sim.ch (P := fun r y => (.p (.bool r), H272) = y) ?_ (fun b451 y452 h453 h454 => ?_)
      · refine Sim.cd (fun hc => ?_) (fun hc => ?_)
        · erw [callFO_eq (frzAs_cons frzA_int (frzAs_cons (frzA_F hu2) frzAs_nil))]
          refine Sim.call (limelightlaw4_reads_ok k x4 x2 hu2) fun r446 cs447 H448 h449 q450 => ?_
          cases q450
          refine Sim.op (asB_p _) ?_
          exact Sim.ret rfl rfl
        · exact Sim.ret rfl rfl
      subst h454
      refine Sim.op (asB_p _) ?_
      refine Sim.cdk (fun hc => ?_) (fun hc => ?_)
      · refine Sim.as ?_
        obtain ⟨v455, H456, e457, h458, S459⟩ := S274.layF (i := 0) rfl rfl
        erw [callFO_eq (frzAs_cons frzA_int (frzAs_cons e457 frzAs_nil))]
        refine Sim.call (limelightlaw4_reads_ok k 4096 r262.1 h458) fun r460 cs461 H462 h463 q464 => ?_
        cases q464
        refine Sim.op (asB_p _) ?_
        refine Sim.pure ?_
        refine Sim.op (asB_p _) ?_
        refine Sim.ch (P := fun r y => (.p (.bool r), H456) = y) ?_ (fun b470 y471 h472 h473 => ?_)
        · refine Sim.cd (fun hc => ?_) (fun hc => ?_)
          · refine Sim.call (limelightlaw4_known_ok k ) fun r465 cs466 H467 h468 q469 => ?_
            cases q469
            refine Sim.op (asB_p _) ?_
            exact Sim.ret rfl rfl
          · exact Sim.ret rfl rfl
        subst h473
        refine Sim.op (asB_p _) ?_
        exact Sim.fin (S459.finN (lv_cons (still_bool _).lv lv_nil)) rfl
      · refine Sim.as ?_
        refine Sim.pure ?_
        refine Sim.op (asB_p _) ?_
        refine Sim.ch (P := fun r y => (.p (.bool r), H272) = y) ?_ (fun b479 y480 h481 h482 => ?_)
        · refine Sim.cd (fun hc => ?_) (fun hc => ?_)
          · refine Sim.call (limelightlaw4_known_ok k ) fun r474 cs475 H476 h477 q478 => ?_
            cases q478
            refine Sim.op (asB_p _) ?_
            exact Sim.ret rfl rfl
          · exact Sim.ret rfl rfl
        subst h482
        refine Sim.op (asB_p _) ?_
        exact Sim.fin (S274.finN (lv_cons (still_bool _).lv lv_nil)) rfl
end Go.Ev
namespace Go.Ev
set_option maxRecDepth 100000
/-! ### What is written is the document's -/
theorem pad_same_l0 {β : Type} (kE0 : List Int → Option β) : ∀ (k : Nat) (xs : List Int), p_limelightref1_Pad_l0 k kE0 4 xs = p_octet_Pad_l0 k kE0 4 xs
  | 0, _ => rfl
  | k + 1, xs => by
    rw [p_limelightref1_Pad_l0, p_octet_Pad_l0]
    simp only [show decide ((4 : Int) ≥ 1) = true from rfl, show decide ((4 : Int) ≤ 64) = true from rfl, cond_true, Option.bind_some, pad_same_l0 kE0 k]
    cases remP (xs.length : Int) 4 <;> rfl
theorem pad_same (k : Nat) (xs : List Int) : p_limelightref1_Pad k xs 4 = p_octet_Pad k xs 4 := by
  unfold p_limelightref1_Pad p_octet_Pad p_clone
  simp only [show decide ((4 : Int) < 1) = false from rfl, show decide ((4 : Int) > 64) = false from rfl, cond_false, Option.bind_some, pad_same_l0]
def rightP (p : Int) (e : T_api_Elem) : Bool := bif p == 48862 then ((decide (e.ID ≥ 1) && decide (e.ID ≤ 14)) && decide ((e.Data.length : Int) ≥ 1)) && decide ((e.Data.length : Int) ≤ 16) else (decide (e.ID ≥ 1) && decide (e.ID ≤ 255)) && decide ((e.Data.length : Int) ≤ 255)
theorem rightP_ok (p : Int) (e : T_api_Elem) : p_ext_right p e = some (rightP p e) := by
  have andO : ∀ a b : Bool, (bif a then some b else some false) = some (a && b) := by intro a b; cases a <;> rfl
  unfold p_ext_right rightP
  simp only [andO, Option.bind_some]
  cases (p == 48862) <;> rfl
theorem elems_same_l0 {β : Type} (kE0 : List Int → Option β) (kE1 : Int → Option β) (p : Int) (l : List T_api_Elem) (hl : l.length < 2 ^ 30) (hd : ∀ e ∈ l, e.Data.length < 2 ^ 40) : ∀ (k : Nat) (out : List Int) (i : Nat), p_limelightref3_Elems_l0 k kE0 kE1 p out l (l.length : Int) (i : Int) = p_ext_Bytes_l0 k kE0 kE1 p out l (l.length : Int) (i : Int)
  | 0, _, _ => rfl
  | k + 1, out, i => by
    have ih := elems_same_l0 kE0 kE1 p l hl hd k
    rw [p_limelightref3_Elems_l0, p_ext_Bytes_l0]
    by_cases h : i < l.length
    · have d1 : decide ((i : Int) < (l.length : Int)) = true := decide_eq_true (by omega)
      have hx : ix l (i : Int) = some l[i] := ix_at (by simp [h])
      have hm : l[i] ∈ l := List.getElem_mem h
      have hdl := hd _ hm
      have w : IntKind.wrap .i64 ((i : Int) + 1) = ((i + 1 : Nat) : Int) := by rw [wrap_i64 (by omega) (by omega)]; rfl
      have orO : ∀ a b : Bool, (bif a then some true else some b) = some (a || b) := by intro a b; cases a <;> rfl
      generalize l[i] = e at hx hdl
      have hr : p_ext_right p (⟨e.ID, e.Data⟩ : T_api_Elem) = some (rightP p e) := rightP_ok p e
      rw [d1, cond_true, cond_true, hx, Option.bind_some, Option.bind_some, hr, Option.bind_some, w]
      cases hp : (p == 48862) with
      | true =>
        simp only [cond_true, orO, Option.bind_some]
        have hrp : rightP p e = (((decide (e.ID ≥ 1) && decide (e.ID ≤ 14)) && decide ((e.Data.length : Int) ≥ 1)) && decide ((e.Data.length : Int) ≤ 16)) := by unfold rightP; rw [hp, cond_true]
        have hb : ((((((decide (e.ID < 1) || decide (e.ID > 14)) || decide ((e.Data.length : Int) < 1)) || decide ((e.Data.length : Int) > 16)) || decide (e.ID < 1)) || decide (e.ID > 255)) || decide ((e.Data.length : Int) > 255)) = !rightP p e := by
          rw [hrp, Bool.eq_iff_iff]
          simp only [Bool.or_eq_true, decide_eq_true_eq, Bool.not_eq_true', Bool.and_eq_false_iff, decide_eq_false_iff_not]
          omega
        rw [hb]
        cases hrt : rightP p e with
        | false => rfl
        | true =>
          rw [hrp] at hrt
          simp only [Bool.and_eq_true, decide_eq_true_eq] at hrt
          obtain ⟨⟨⟨h1, h2⟩, h3⟩, h4⟩ := hrt
          obtain ⟨a, ha⟩ : ∃ a : Fin 15, (a.1 : Int) = e.ID := ⟨⟨e.ID.toNat, by omega⟩, by simp; omega⟩
          obtain ⟨b, hbb⟩ : ∃ b : Fin 16, b.1 + 1 = e.Data.length := ⟨⟨e.Data.length - 1, by omega⟩, by simp; omega⟩
          have u1 : IntKind.wrap .u8 (intBits .or .i64 (IntKind.wrap .i64 (e.ID * 2 ^ 4)) (IntKind.wrap .i64 ((e.Data.length : Int) - 1))) = (a.1 : Int) * 16 + b.1 := by
            rw [← ha, show ((e.Data.length : Int) - 1) = (b.1 : Int) by omega, wrap_i64 (n := (b.1 : Int)) (by omega) (by omega), nib_or]
          have u2 : IntKind.wrap .u8 (IntKind.wrap .i64 (IntKind.wrap .i64 (IntKind.wrap .i64 (16 * e.ID) + (e.Data.length : Int)) - 1)) = (a.1 : Int) * 16 + b.1 := by
            rw [wrap_i64 (n := 16 * e.ID) (by omega) (by omega), wrap_i64 (n := 16 * e.ID + (e.Data.length : Int)) (by omega) (by omega), wrap_i64 (by omega) (by omega), wrap_u8 (by omega) (by omega)]
            omega
          simp only [Bool.not_true, cond_false, u1, u2, ih]
      | false =>
        simp only [cond_false, orO, Option.bind_some, Bool.false_or]
        have hrp : rightP p e = ((decide (e.ID ≥ 1) && decide (e.ID ≤ 255)) && decide ((e.Data.length : Int) ≤ 255)) := by unfold rightP; rw [hp, cond_false]
        have hb : ((decide (e.ID < 1) || decide (e.ID > 255)) || decide ((e.Data.length : Int) > 255)) = !rightP p e := by
          rw [hrp, Bool.eq_iff_iff]
          simp only [Bool.or_eq_true, decide_eq_true_eq, Bool.not_eq_true', Bool.and_eq_false_iff, decide_eq_false_iff_not]
          omega
        rw [hb]
        cases rightP p e with
        | false => rfl
        | true => simp only [Bool.not_true, cond_false, ih]
    · have d1 : decide ((i : Int) < (l.length : Int)) = false := decide_eq_false (by omega)
      rw [d1, cond_false, cond_false]
theorem elems_same (k : Nat) (p : Int) {l : List T_api_Elem} (hl : l.length < 2 ^ 30) (hd : ∀ e ∈ l, e.Data.length < 2 ^ 40) : p_limelightref3_Elems k p l = p_ext_Bytes k p l := by
  unfold p_limelightref3_Elems p_ext_Bytes
  have := fun kE0 (kE1 : Int → Option (List Int × Int)) => elems_same_l0 kE0 kE1 p l hl hd k [] 0
  rw [show ((0 : Nat) : Int) = 0 from rfl] at this
  simp only [this, pad_same]
/-! ### It is always written, or told why not -/
theorem bytes_any_l0 {β : Type} (kE0 : List Int → Option β) (kE1 : Int → Option β) (p : Int) (l : List T_api_Elem) (hl : l.length < 2 ^ 20) : ∀ (rest pre : List T_api_Elem) (j : Nat) (out : List Int), l = pre ++ rest → out.length + 300 * rest.length < 2 ^ 39 → (∀ e ∈ rest, isB e.Data) → isB out →
    (∃ out', p_ext_Bytes_l0 (j + rest.length + 1) kE0 kE1 p out l (l.length : Int) (pre.length : Int) = kE0 out' ∧ isB out' ∧ out'.length ≤ out.length + 300 * rest.length) ∨ p_ext_Bytes_l0 (j + rest.length + 1) kE0 kE1 p out l (l.length : Int) (pre.length : Int) = kE1 1
  | [], pre, j, out, h, _, _, hB => by
    rw [p_ext_Bytes_l0]
    have : decide ((pre.length : Int) < (l.length : Int)) = false := by subst h; simp
    rw [this]
    exact .inl ⟨out, rfl, hB, by simp⟩
  | e :: rest, pre, j, out, h, ho, hd, hB => by
    rw [List.length_cons] at ho
    have hplen : pre.length + 1 ≤ l.length := by rw [h, List.length_append, List.length_cons]; omega
    rw [List.length_cons, show j + (rest.length + 1) + 1 = (j + rest.length + 1) + 1 from rfl, p_ext_Bytes_l0]
    have h1 : decide ((pre.length : Int) < (l.length : Int)) = true := decide_eq_true (by omega)
    have h2 : ix l (pre.length : Int) = some e := ix_mid' h rfl
    have h3 : p_ext_right p (⟨e.ID, e.Data⟩ : T_api_Elem) = some (rightP p e) := rightP_ok p e
    have h4 : IntKind.wrap .i64 ((pre.length : Int) + 1) = (((pre ++ [e]).length : Nat) : Int) := by rw [wrap_i64 (by omega) (by omega)]; simp
    rw [h1, cond_true, h2, Option.bind_some, h3, Option.bind_some, h4]
    have hh : l = (pre ++ [e]) ++ rest := by rw [h]; simp
    cases hr : rightP p e with
    | false => exact .inr (by rw [Bool.not_false, cond_true])
    | true =>
      rw [Bool.not_true, cond_false]
      have hlen : e.Data.length ≤ 255 := by
        unfold rightP at hr
        cases hp : (p == 48862) with
        | true => rw [hp, cond_true] at hr; simp only [Bool.and_eq_true, decide_eq_true_eq] at hr; omega
        | false => rw [hp, cond_false] at hr; simp only [Bool.and_eq_true, decide_eq_true_eq] at hr; omega
      have eB := hd e (List.mem_cons_self ..)
      have wB : ∀ n : Int, 0 ≤ IntKind.wrap .u8 n ∧ IntKind.wrap .u8 n < 256 := fun n => by
        have : IntKind.wrap .u8 n = n % 256 := by simp [IntKind.wrap, IntKind.signed, IntKind.bits]
        omega
      have apB : ∀ {a b : List Int}, isB a → isB b → isB (a ++ b) := fun ha hb x hx => by
        rcases List.mem_append.1 hx with hx | hx
        · exact ha x hx
        · exact hb x hx
      have hd' := fun x hx => hd x (List.mem_cons_of_mem _ hx)
      cases hp : (p == 48862) with
      | true =>
        rw [cond_true, ap_eq (by decide) (by simp only [List.length_cons, List.length_nil]; omega), Option.bind_some, ap_eq (by decide) (by rw [List.length_append]; simp only [List.length_cons, List.length_nil]; omega), Option.bind_some]
        rcases bytes_any_l0 kE0 kE1 p l hl rest (pre ++ [e]) j ((out ++ [IntKind.wrap .u8 (intBits .or .i64 (IntKind.wrap .i64 (e.ID * 2 ^ 4)) (IntKind.wrap .i64 ((e.Data.length : Int) - 1)))]) ++ e.Data) hh (by simp only [List.length_append, List.length_cons, List.length_nil]; omega) hd' (apB (apB hB fun x hx => by rw [List.mem_singleton] at hx; subst hx; exact wB _) eB) with ⟨o, e1, e2, e3⟩ | e1
        · exact .inl ⟨o, e1, e2, by simp only [List.length_append, List.length_cons, List.length_nil] at e3; omega⟩
        · exact .inr e1
      | false =>
        rw [cond_false, ap_eq (by decide) (by simp only [List.length_cons, List.length_nil]; omega), Option.bind_some, ap_eq (by decide) (by rw [List.length_append]; simp only [List.length_cons, List.length_nil]; omega), Option.bind_some]
        rcases bytes_any_l0 kE0 kE1 p l hl rest (pre ++ [e]) j ((out ++ [IntKind.wrap .u8 e.ID, IntKind.wrap .u8 (e.Data.length : Int)]) ++ e.Data) hh (by simp only [List.length_append, List.length_cons, List.length_nil]; omega) hd' (apB (apB hB fun x hx => by
          simp only [List.mem_cons, List.not_mem_nil, or_false] at hx
          rcases hx with rfl | rfl <;> exact wB _) eB) with ⟨o, e1, e2, e3⟩ | e1
        · exact .inl ⟨o, e1, e2, by simp only [List.length_append, List.length_cons, List.length_nil] at e3; omega⟩
        · exact .inr e1
theorem bytes_any {k : Nat} (hk : 20 ≤ k) (p : Int) {l : List T_api_Elem} (hl : l.length ≤ 12) (hB : ∀ e ∈ l, isB e.Data) : ∃ xs e, p_ext_Bytes k p l = some (xs, e) ∧ isB xs ∧ xs.length < 10000 := by
  unfold p_ext_Bytes
  have nB : isB ([] : List Int) := fun x hx => by cases hx
  have orA : ∀ a b : Bool, (bif a then some b else some false) = some (a && b) := by intro a b; cases a <;> rfl
  rw [orA, Option.bind_some]
  cases ((p != 48862) && (p != 4096)) with
  | true => exact ⟨_, _, by rw [cond_true], nB, by simp⟩
  | false =>
    rw [cond_false]
    cases decide ((l.length : Int) > 8) with
    | true => exact ⟨_, _, by rw [cond_true], nB, by simp⟩
    | false =>
      rw [cond_false]
      have := bytes_any_l0 (fun r66_6 => (p_octet_Pad k r66_6 4).bind fun r71 => some (r71, (0 : Int))) (fun r91_5 => some ((([] : List Int)), r91_5)) p l (by omega) l [] (k - l.length - 1) [] rfl (by simp only [List.length_nil]; omega) hB nB
      rw [show k - l.length - 1 + l.length + 1 = k by omega, List.length_nil, show ((0 : Nat) : Int) = 0 from rfl] at this
      rcases this with ⟨o, e1, e2, e3⟩ | e1
      · rw [List.length_nil] at e3
        rw [e1]
        obtain ⟨j, rfl⟩ : ∃ j, k = j + 4 := ⟨k - 4, by omega⟩
        rw [pad_ok _ _ (by omega), Option.bind_some]
        refine ⟨_, _, rfl, fun x hx => ?_, by rw [List.length_append, List.length_replicate]; omega⟩
        rcases List.mem_append.1 hx with hx | hx
        · exact e2 x hx
        · have := (List.mem_replicate.1 hx).2; omega
      · exact ⟨_, _, e1, nB, by simp⟩
/-! ### It is always read, or told why not -/
theorem read_any_l0 {β : Type} (kE0 : List T_api_Elem → Option β) (kE1 : Int → Option β) (p : Int) (hp : p = 48862 ∨ p = 4096) (xs : List Int) (hx : isB xs) (hl : xs.length < 2 ^ 30) : ∀ (m : Nat) (k i : Nat) (out : List T_api_Elem), i ≤ xs.length → xs.length - i ≤ m → m < k → out.length ≤ i → (∀ e ∈ out, e.Data.length ≤ xs.length) →
    (∃ o, p_ext_Read_l0 k kE0 kE1 p xs out (i : Int) = kE0 o ∧ ∀ e ∈ o, e.Data.length ≤ xs.length) ∨ p_ext_Read_l0 k kE0 kE1 p xs out (i : Int) = kE1 13 := by
  intro m
  induction m with
  | zero =>
    intro k i out hi hm hk ho hd
    obtain ⟨k, rfl⟩ : ∃ k', k = k' + 1 := ⟨k - 1, by omega⟩
    rw [p_ext_Read_l0]
    have d1 : decide ((i : Int) < (xs.length : Int)) = false := decide_eq_false (by omega)
    rw [d1, cond_false]
    exact .inl ⟨out, rfl, hd⟩
  | succ m ih =>
    intro k i out hi hm hk ho hd
    obtain ⟨k, rfl⟩ : ∃ k', k = k' + 1 := ⟨k - 1, by omega⟩
    rw [p_ext_Read_l0]
    by_cases h : i < xs.length
    · have d1 : decide ((i : Int) < (xs.length : Int)) = true := decide_eq_true (by omega)
      obtain ⟨v, hv⟩ : ∃ v, xs[i]? = some v := ⟨xs[i], by simp [h]⟩
      have hvb := hx v (List.mem_of_getElem? hv)
      have hv' := ix_at hv
      have e1 : IntKind.wrap .i64 ((i : Int) + 1) = ((i + 1 : Nat) : Int) := by rw [wrap_i64 (by omega) (by omega)]; rfl
      rw [d1, cond_true, hv', Option.bind_some, e1]
      cases h0 : (v == 0) with
      | true => rw [cond_true]; exact ih k (i + 1) out (by omega) (by omega) (by omega) (by omega) hd
      | false =>
        rw [cond_false]
        have goon : ∀ (id : Int) (a n : Nat), i < a → (∃ o, ((p_octet_Cut xs (a : Int) (n : Int)).bind fun r21 => bif !r21.2 then kE1 13 else (ap 32 out [(⟨id, r21.1⟩ : T_api_Elem)]).bind fun a29 => p_ext_Read_l0 k kE0 kE1 p xs a29 (IntKind.wrap .i64 ((a : Int) + (n : Int)))) = kE0 o ∧ ∀ e ∈ o, e.Data.length ≤ xs.length) ∨ ((p_octet_Cut xs (a : Int) (n : Int)).bind fun r21 => bif !r21.2 then kE1 13 else (ap 32 out [(⟨id, r21.1⟩ : T_api_Elem)]).bind fun a29 => p_ext_Read_l0 k kE0 kE1 p xs a29 (IntKind.wrap .i64 ((a : Int) + (n : Int)))) = kE1 13 := by
          intro id a n ha
          rcases cut_cases (xs := xs) (a := a) (n := n) (by omega) with ⟨c, hc⟩ | c
          · rw [c, Option.bind_some]
            simp only [Bool.not_true, cond_false]
            rw [ap_eq (by decide) (by simp only [List.length_cons, List.length_nil]; omega), Option.bind_some]
            have w : IntKind.wrap .i64 ((a : Int) + (n : Int)) = ((a + n : Nat) : Int) := by rw [wrap_i64 (by omega) (by omega)]; rfl
            rw [w]
            refine ih k (a + n) _ hc (by omega) (by omega) (by rw [List.length_append]; simp only [List.length_cons, List.length_nil]; omega) fun e he => ?_
            rcases List.mem_append.1 he with he | he
            · exact hd e he
            · rw [List.mem_singleton] at he; subst he
              simp only
              rw [List.length_take, List.length_drop]
              omega
          · rw [c, Option.bind_some]; exact .inr rfl
        rcases hp with rfl | rfl
        · have hn : ∃ n : Nat, IntKind.wrap .i64 ((IntKind.wrap .i64 (intBits .and .u8 v 15)) + 1) = (n : Int) := by
            have : ∀ a : Fin 256, 0 ≤ intBits .and .u8 (a.1 : Int) 15 ∧ intBits .and .u8 (a.1 : Int) 15 ≤ 15 := by decide +kernel
            have := this ⟨v.toNat, by omega⟩
            simp only [Int.toNat_of_nonneg hvb.1] at this
            generalize intBits .and .u8 v 15 = q at this
            refine ⟨(q + 1).toNat, ?_⟩
            rw [wrap_i64 (n := q) (by omega) (by omega), wrap_i64 (by omega) (by omega)]
            omega
          obtain ⟨n, hn⟩ := hn
          have hnx : ∃ id ok, p_ext_next 48862 xs (i : Int) = some (id, (n : Int), ((i + 1 : Nat) : Int), ok) := by
            unfold p_ext_next
            have andO : ∀ a b : Bool, (bif a then some b else some false) = some (a && b) := by intro a b; cases a <;> rfl
            simp only [show ((48862 : Int) == 48862) = true from rfl, cond_true, hv', Option.bind_some, hn, e1, andO]
            exact ⟨_, _, rfl⟩
          obtain ⟨id, ok, hnx⟩ := hnx
          rw [hnx, Option.bind_some]
          cases ok with
          | false => exact .inl ⟨out, rfl, hd⟩
          | true => exact goon id (i + 1) n (by omega)
        · by_cases h2 : i + 1 < xs.length
          · obtain ⟨u, hu⟩ : ∃ u, xs[i + 1]? = some u := ⟨xs[i + 1], by simp [h2]⟩
            have hub := hx u (List.mem_of_getElem? hu)
            obtain ⟨n, rfl⟩ : ∃ n : Nat, u = (n : Int) := ⟨u.toNat, by omega⟩
            rw [next_two hv hu (by omega) (by omega) (by omega), Option.bind_some]
            exact goon v (i + 2) n (by omega)
          · have d2 : decide (((i + 1 : Nat) : Int) ≥ (xs.length : Int)) = true := decide_eq_true (by omega)
            have hnx : ∃ id, p_ext_next 4096 xs (i : Int) = some (id, (xs.length : Int), ((i + 1 : Nat) : Int), true) := by
              unfold p_ext_next
              simp only [show ((4096 : Int) == 48862) = false from rfl, cond_false, e1, d2, cond_true, hv', Option.bind_some]
              exact ⟨_, rfl⟩
            obtain ⟨id, hnx⟩ := hnx
            rw [hnx, Option.bind_some]
            exact goon id (i + 1) xs.length (by omega)
    · have d1 : decide ((i : Int) < (xs.length : Int)) = false := decide_eq_false (by omega)
      rw [d1, cond_false]
      exact .inl ⟨out, rfl, hd⟩
theorem read_any {k : Nat} (p : Int) {xs : List Int} (hx : isB xs) (hl : xs.length < 2 ^ 30) (hk : xs.length + 1 < k) : ∃ l e, p_ext_Read k p xs = some (l, e) ∧ l.length ≤ 8 ∧ ∀ x ∈ l, x.Data.length ≤ xs.length := by
  unfold p_ext_Read
  have orA : ∀ a b : Bool, (bif a then some b else some false) = some (a && b) := by intro a b; cases a <;> rfl
  rw [orA, Option.bind_some]
  cases hb : ((p != 48862) && (p != 4096)) with
  | true => exact ⟨[], 1, by rw [cond_true], by simp, fun x hx => by cases hx⟩
  | false =>
    rw [cond_false]
    have hp : p = 48862 ∨ p = 4096 := by
      simp only [Bool.and_eq_false_iff, bne_eq_false_iff_eq] at hb
      exact hb
    have := read_any_l0 (fun r43_6 => bif decide (((r43_6.length : Int)) > 8) then (some ((([] : List T_api_Elem)), (3 : Int))) else (some (r43_6, 0))) (fun r57_5 => some ((([] : List T_api_Elem)), r57_5)) p hp xs hx hl xs.length k 0 [] (by omega) (by omega) (by omega) (by simp) (fun e he => by cases he)
    rw [show ((0 : Nat) : Int) = 0 from rfl] at this
    rcases this with ⟨o, e1, e2⟩ | e1
    · rw [e1]
      by_cases h8 : o.length ≤ 8
      · have d : decide ((o.length : Int) > 8) = false := decide_eq_false (by omega)
        exact ⟨o, 0, by rw [d, cond_false], h8, e2⟩
      · have d : decide ((o.length : Int) > 8) = true := decide_eq_true (by omega)
        exact ⟨[], 3, by rw [d, cond_true], by simp, fun x hx => by cases hx⟩
    · exact ⟨[], 13, e1, by simp, fun x hx => by cases hx⟩
end Go.Ev
