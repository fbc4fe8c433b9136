/- A part of the proof that follows: A control message is read as it was written; cut off, or longer, it is none: for every tape, every cut and every byte more. -/
import Derived.Test.YtigkdihkmihmmaaMCtlBack2
import Derived.KernelRfl
/- Lifted by lift.py: limelightkeep_Tape_Layers as a plain function. -/
namespace Go.Ev
open Go.Proofs
set_option linter.unusedVariables false
set_option linter.unusedSimpArgs false
set_option maxRecDepth 100000
def p_limelightkeep_Tape_Layers_l0 {β : Type} (k : Nat) (kE0 : (List T_api_Layer) → T_limelightkeep_Tape → Option β) (x1 : Int) (x5 : (List T_api_Layer)) (x6 : Int) (zp0 : T_limelightkeep_Tape) : Option β := match k with
| 0 => none
| k + 1 =>
(p_limelightkeep_Tape_Next (⟨zp0.f_L, zp0.f_At⟩ : T_limelightkeep_Tape) 3).bind fun r9 =>
bif decide (x6 ≤ r9.1) then (
(ix ([((⟨#[108, 111]⟩ : ByteArray)), ((⟨#[109, 105, 100]⟩ : ByteArray)), ((⟨#[72, 73]⟩ : ByteArray))]) x6).bind fun a18 =>
(p_limelightkeep_Tape_Next (⟨r9.2.f_L, r9.2.f_At⟩ : T_limelightkeep_Tape) 90).bind fun r21 =>
(ap 32 x5 ([((⟨a18, (IntKind.wrap .u32 (IntKind.wrap .i64 ((IntKind.wrap .i64 ((IntKind.wrap .i64 (100 * x1)) + x6)) + 7))), (IntKind.wrap .i64 ((IntKind.wrap .i64 (180 * (IntKind.wrap .i64 (x6 + 1)))) + r21.1))⟩ : T_api_Layer))])).bind fun a31 =>
p_limelightkeep_Tape_Layers_l0 k kE0 x1 a31 (IntKind.wrap .i64 (x6 + 1)) ((⟨r21.2.f_L, r21.2.f_At⟩ : T_limelightkeep_Tape)))
else (
kE0 x5 ((⟨r9.2.f_L, r9.2.f_At⟩ : T_limelightkeep_Tape)))
def p_limelightkeep_Tape_Layers (k : Nat) (x0 : T_limelightkeep_Tape) (x1 : Int) : Option ((List T_api_Layer) × T_limelightkeep_Tape) :=
p_limelightkeep_Tape_Layers_l0 k (fun r45_5 zp0 =>
some (r45_5, (⟨zp0.f_L, zp0.f_At⟩ : T_limelightkeep_Tape))) x1 (([] : List T_api_Layer)) 0 ((⟨x0.f_L, x0.f_At⟩ : T_limelightkeep_Tape))
theorem limelightkeep_Tape_Layers_l0_ok {h : H} {l0 : Loc} {o0 : Nat} {β α : Type} {Q : β → α → Prop} {K : Exit × Env × H → Option α} {kE0 : (List T_api_Layer) → T_limelightkeep_Tape → Option β} (hE0 : ∀ (q5 : (List T_api_Layer)) (zp0 : T_limelightkeep_Tape) (v39 : V) (v41 : V) (h42 : SlF (dI .i64) zp0.f_L v41) (H37 : Go.Ev.H) (_ : Fm 34 h [⟨l0, o0, List.map C.v [v41, (.p (.int .i64 zp0.f_At))]⟩] [] [⟨[32], v39, dT_api_Layer, q5⟩] H37), Sim (kE0 q5 zp0) (K ((.exit 0), (envL [(5, v39)]), H37)) Q) (k : Nat) : ∀ (x1 : Int) (x5 : (List T_api_Layer)) (x6 : Int) (zp0 : T_limelightkeep_Tape) (v5 : V) (v7 : V) (h8 : SlF (dI .i64) zp0.f_L v7) (H3 : Go.Ev.H) (_ : Fm 34 h [⟨l0, o0, List.map C.v [v7, (.p (.int .i64 zp0.f_At))]⟩] [] [⟨[32], v5, dT_api_Layer, x5⟩] H3) {σ : Stamp}, Sim (p_limelightkeep_Tape_Layers_l0 k kE0 x1 x5 x6 zp0) ((cvL G X0 limelightkeep_Tape_Layers_c0 limelightkeep_Tape_Layers_l0 σ (envL [(0, (.ref l0 o0)), (1, (.p (.int .i64 x1))), (5, v5), (6, (.p (.int .i64 x6)))]) H3).bind K) Q := by
  induction k with
  | zero => intros; exact Sim.no
  | succ k ih =>
    intro x1 x5 x6 zp0 v5 v7 h8 H3 S4 σ
    rw [p_limelightkeep_Tape_Layers_l0]
    refine Sim.round (Sim.ext (limelightkeep_Tape_Layers_r0 _ _ _ _ _ _ _ _) ?_)
    refine Sim.call (limelightkeep_Tape_Next_ok (⟨zp0.f_L, zp0.f_At⟩ : T_limelightkeep_Tape) h8 (S4.atB (i := 0) rfl) 3) fun r9 cs10 H11 h12 q13 => ?_
    obtain ⟨v14, h15, q13⟩ := q13
    cases q13
    have S16 := S4.setB (i := 0) (cs := List.map C.v [v14, (.p (.int .i64 r9.2.f_At))]) rfl rfl
    refine Sim.op (castI_p _ _) ?_
    refine Sim.cd (fun hc => ?_) (fun hc => ?_)
    · have h17 : SlF dS [((⟨#[108, 111]⟩ : ByteArray)), ((⟨#[109, 105, 100]⟩ : ByteArray)), ((⟨#[72, 73]⟩ : ByteArray))] (.fz [(.p (.string ((⟨#[108, 111]⟩ : ByteArray)))), (.p (.string ((⟨#[109, 105, 100]⟩ : ByteArray)))), (.p (.string ((⟨#[72, 73]⟩ : ByteArray))))] 3 1 true) := SlF.lit (cs := [(.p (.string ((⟨#[108, 111]⟩ : ByteArray)))), (.p (.string ((⟨#[109, 105, 100]⟩ : ByteArray)))), (.p (.string ((⟨#[72, 73]⟩ : ByteArray))))]) (RL.cons (show dS.R ((⟨#[108, 111]⟩ : ByteArray)) [(.p (.string ((⟨#[108, 111]⟩ : ByteArray))))] from rfl) (RL.cons (show dS.R ((⟨#[109, 105, 100]⟩ : ByteArray)) [(.p (.string ((⟨#[109, 105, 100]⟩ : ByteArray))))] from rfl) (RL.cons (show dS.R ((⟨#[72, 73]⟩ : ByteArray)) [(.p (.string ((⟨#[72, 73]⟩ : ByteArray))))] from rfl) RL.nil))) rfl rfl true
      refine Sim.op (bldS (pt_cons rfl (pt_cons rfl (pt_cons rfl pt_nil))) (by kernel_rfl : _ = some (.fz [(.p (.string ((⟨#[108, 111]⟩ : ByteArray)))), (.p (.string ((⟨#[109, 105, 100]⟩ : ByteArray)))), (.p (.string ((⟨#[72, 73]⟩ : ByteArray))))] 3 1 true))) ?_
      refine Sim.bd fun a18 h19 => ?_
      refine Sim.op ((h17.h (ptC H3 l0 o0 (List.map C.v [v14, (.p (.int .i64 r9.2.f_At))]))).iS h19 rfl) ?_
      obtain ⟨_, rfl, hE20⟩ := (h17.h (ptC H3 l0 o0 (List.map C.v [v14, (.p (.int .i64 r9.2.f_At))]))).el h19 rfl
      refine Sim.op (hE20.ld (j := 0) rfl) ?_
      refine Sim.op (castS_p _) ?_
      refine Sim.call (limelightkeep_Tape_Next_ok (⟨r9.2.f_L, r9.2.f_At⟩ : T_limelightkeep_Tape) h15 (S16.atB (i := 0) rfl) 90) fun r21 cs22 H23 h24 q25 => ?_
      obtain ⟨v26, h27, q25⟩ := q25
      cases q25
      have S28 := S16.setB (i := 0) (cs := List.map C.v [v26, (.p (.int .i64 r21.2.f_At))]) rfl rfl
      refine Sim.op (castI_p _ _) ?_
      refine Sim.nd (rfl) ?_
      obtain ⟨_, rfl, hE29⟩ := (h17.h (ptC (ptC H3 l0 o0 (List.map C.v [v14, (.p (.int .i64 r9.2.f_At))])) l0 o0 (List.map C.v [v26, (.p (.int .i64 r21.2.f_At))]))).el h19 rfl
      refine Sim.nd (hE29.ld (j := 0) rfl) ?_
      refine Sim.op (bldV (pt_cons rfl (pt_cons rfl (pt_cons rfl pt_nil))) (by kernel_rfl : _ = some (.agg [.p (.string a18), .p (.int .u32 (IntKind.wrap .u32 (IntKind.wrap .i64 ((IntKind.wrap .i64 ((IntKind.wrap .i64 (100 * x1)) + x6)) + 7)))), .p (.int .i64 (IntKind.wrap .i64 ((IntKind.wrap .i64 (180 * (IntKind.wrap .i64 (x6 + 1)))) + r21.1)))]))) ?_
      have h30 : SlF dT_api_Layer [((⟨a18, (IntKind.wrap .u32 (IntKind.wrap .i64 ((IntKind.wrap .i64 ((IntKind.wrap .i64 (100 * x1)) + x6)) + 7))), (IntKind.wrap .i64 ((IntKind.wrap .i64 (180 * (IntKind.wrap .i64 (x6 + 1)))) + r21.1))⟩ : T_api_Layer))] (.fz [(.p (.string a18)), (.p (.int .u32 (IntKind.wrap .u32 (IntKind.wrap .i64 ((IntKind.wrap .i64 ((IntKind.wrap .i64 (100 * x1)) + x6)) + 7))))), (.p (.int .i64 (IntKind.wrap .i64 ((IntKind.wrap .i64 (180 * (IntKind.wrap .i64 (x6 + 1)))) + r21.1))))] 1 3 true) := SlF.lit (cs := [(.p (.string a18)), (.p (.int .u32 (IntKind.wrap .u32 (IntKind.wrap .i64 ((IntKind.wrap .i64 ((IntKind.wrap .i64 (100 * x1)) + x6)) + 7))))), (.p (.int .i64 (IntKind.wrap .i64 ((IntKind.wrap .i64 (180 * (IntKind.wrap .i64 (x6 + 1)))) + r21.1))))]) (RL.cons (show dT_api_Layer.R ((⟨a18, (IntKind.wrap .u32 (IntKind.wrap .i64 ((IntKind.wrap .i64 ((IntKind.wrap .i64 (100 * x1)) + x6)) + 7))), (IntKind.wrap .i64 ((IntKind.wrap .i64 (180 * (IntKind.wrap .i64 (x6 + 1)))) + r21.1))⟩ : T_api_Layer)) [.p (.string a18), .p (.int .u32 (IntKind.wrap .u32 (IntKind.wrap .i64 ((IntKind.wrap .i64 ((IntKind.wrap .i64 (100 * x1)) + x6)) + 7)))), .p (.int .i64 (IntKind.wrap .i64 ((IntKind.wrap .i64 (180 * (IntKind.wrap .i64 (x6 + 1)))) + r21.1)))] from (dT_api_Layer.mk)) RL.nil) rfl rfl true
      refine Sim.op (bldS (pt_cons (c := [.p (.string a18), .p (.int .u32 (IntKind.wrap .u32 (IntKind.wrap .i64 ((IntKind.wrap .i64 ((IntKind.wrap .i64 (100 * x1)) + x6)) + 7)))), .p (.int .i64 (IntKind.wrap .i64 ((IntKind.wrap .i64 (180 * (IntKind.wrap .i64 (x6 + 1)))) + r21.1)))]) rfl pt_nil) (by kernel_rfl : _ = some (.fz [(.p (.string a18)), (.p (.int .u32 (IntKind.wrap .u32 (IntKind.wrap .i64 ((IntKind.wrap .i64 ((IntKind.wrap .i64 (100 * x1)) + x6)) + 7))))), (.p (.int .i64 (IntKind.wrap .i64 ((IntKind.wrap .i64 (180 * (IntKind.wrap .i64 (x6 + 1)))) + r21.1))))] 1 3 true))) ?_
      refine Sim.bd fun a31 h32 => ?_
      obtain ⟨v33, H34, e35, S36⟩ := S28.app (i := 0) (d := 32) (e := 3) (own := false) (σ := (19 :: 0 :: 1 :: 0 :: σ)) rfl (h30.h (ptC (ptC H3 l0 o0 (List.map C.v [v14, (.p (.int .i64 r9.2.f_At))])) l0 o0 (List.map C.v [v26, (.p (.int .i64 r21.2.f_At))]))).y h32 rfl (by decide) (by decide) rfl
      refine Sim.op (e35) ?_
      exact ih x1 a31 (IntKind.wrap .i64 (x6 + 1)) ((⟨r21.2.f_L, r21.2.f_At⟩ : T_limelightkeep_Tape)) v33 v26 h27 H34 (S36.wk2 all_nil (all_cons ⟨[32, 32], by simp, at_mem 0 rfl⟩ all_nil))
    · exact hE0 x5 ((⟨r9.2.f_L, r9.2.f_At⟩ : T_limelightkeep_Tape)) v5 v14 h15 (ptC H3 l0 o0 (List.map C.v [v14, (.p (.int .i64 r9.2.f_At))])) (S16.wk2 all_nil (all_cons ⟨[32], by simp, at_mem 0 rfl⟩ all_nil))
theorem limelightkeep_Tape_Layers_ok (k : Nat) {h : H} {σ : Stamp} (x0 : T_limelightkeep_Tape) {u0_0 : V} (hu0_0 : SlF (dI .i64) x0.f_L u0_0) {l0 : Loc} {o0 : Nat} (ha0 : AtC h l0 o0 (List.map C.v [u0_0, (.p (.int .i64 x0.f_At))])) (x1 : Int) : Sim (p_limelightkeep_Tape_Layers k x0 x1) (ev G X0 33 σ [(.ref l0 o0), (.p (.int .i64 x1))] h) (fun r s => ∃ (c0 : C), ∃ (a0 : List V), ∃ (vb0_0 : V), OwnS c0 dT_api_Layer.sz r.1.length a0 ∧ dT_api_Layer.L r.1 a0 ∧ SlF (dI .i64) r.2.f_L vb0_0 ∧ s = ([c0], pts h [⟨l0, o0, [.v vb0_0, .v (.p (.int .i64 r.2.f_At))]⟩])) := by
  refine Sim.ev rfl (Sim.ext (limelightkeep_Tape_Layers_entry _ _ _ _ _ _) ?_)
  rw [p_limelightkeep_Tape_Layers]
  have S0 : Fm 34 h [⟨l0, o0, List.map C.v [u0_0, (.p (.int .i64 x0.f_At))]⟩] [] [] (List.replicate 34 [] :: h) := Fm.start1 ha0
  have S44 := S0.nil dT_api_Layer []
  refine Sim.as (limelightkeep_Tape_Layers_l0_ok ?_ k x1 (([] : List T_api_Layer)) 0 ((⟨x0.f_L, x0.f_At⟩ : T_limelightkeep_Tape)) (.p (.slice none 0 0)) u0_0 hu0_0 (List.replicate 34 [] :: h) (S44.wk2 all_nil (all_cons ⟨[], by simp, at_mem 0 rfl⟩ all_nil))) 
  · intro r45_5 zp0 v48 v50 h51 H46 S47
    refine Sim.ext (limelightkeep_Tape_Layers_a0_0 _ _ _ _ _) ?_
    obtain ⟨c57, cs58, H52, e53, h55, h56, S54⟩ := S47.expOwn (i := 0) (τ := 0 :: 1 :: σ) rfl rfl rfl
    exact Sim.fin (S54.finE (Ex.st e53 Ex.nil)) ⟨c57, cs58, v50, h55, h56, h51, rfl⟩
end Go.Ev
namespace Go.Ev
set_option maxRecDepth 100000
/-- One of these is as another one is. -/
def sameL (b a : T_api_Layer) : Bool := b.Ssrc == a.Ssrc || (RidX.foldB b.Rid).toList == (RidX.foldB a.Rid).toList
def okL (a : T_api_Layer) (prev : Option T_api_Layer) : Bool :=
  RidX.rightB a.Rid && (decide (1 ≤ a.Height) && (decide (a.Height ≤ 8192) && (match prev with | none => true | some b => decide (b.Height < a.Height))))
def chkL : List T_api_Layer → List T_api_Layer → Bool
  | _, [] => true
  | pre, a :: rest => okL a pre.getLast? && (!(pre.any fun b => sameL b a) && chkL (pre ++ [a]) rest)
theorem same_ok {a b : T_api_Layer} (ha : a.Rid.size < 2 ^ 40) (hb : b.Rid.size < 2 ^ 40) : p_ctl_Layers_1 b a = some (sameL b a) := by
  unfold p_ctl_Layers_1 p_rid_Same sameL p_rid_Fold
  rw [if_pos ha, if_pos hb]
  cases (b.Ssrc == a.Ssrc) <;> rfl
theorem idx_l0 {β : Type} (kE0 : Unit → Option β) (kE1 : Int → Option β) (a : T_api_Layer) (ha : a.Rid.size < 2 ^ 40) (l : List T_api_Layer) (hl : l.length < 2 ^ 30) (hs : ∀ b ∈ l, b.Rid.size < 2 ^ 40) : ∀ (rest pre : List T_api_Layer) (j : Nat), l = pre ++ rest →
    ∃ i : Nat, p_slices_IndexFunc_Lapi_Layer_api_Layer_ctl_Layers_1_l0 (j + rest.length + 1) kE0 kE1 l a (l.length : Int) (pre.length : Int) = bif rest.any (fun b => sameL b a) then kE1 (i : Int) else kE0 ()
  | [], pre, j, h => by
    rw [p_slices_IndexFunc_Lapi_Layer_api_Layer_ctl_Layers_1_l0]
    have h1 : decide ((pre.length : Int) < (l.length : Int)) = false := by subst h; simp
    rw [h1, cond_false]
    exact ⟨0, rfl⟩
  | b :: rest, pre, j, h => by
    rw [List.length_cons, show j + (rest.length + 1) + 1 = (j + rest.length + 1) + 1 from rfl, p_slices_IndexFunc_Lapi_Layer_api_Layer_ctl_Layers_1_l0]
    have h1 : decide ((pre.length : Int) < (l.length : Int)) = true := by subst h; simp; omega
    have h2 : ix l (pre.length : Int) = some b := ix_mid' h rfl
    have h4 : IntKind.wrap .i64 ((pre.length : Int) + 1) = (((pre ++ [b]).length : Nat) : Int) := by
      rw [wrap_i64 (by omega) (by have : pre.length ≤ l.length := by subst h; simp
                                  omega)]
      simp
    have h3 : p_ctl_Layers_1 b (⟨a.Rid, a.Ssrc, a.Height⟩ : T_api_Layer) = some (sameL b a) := same_ok ha (hs b (by rw [h]; simp))
    rw [h1, cond_true, h2, Option.bind_some, h3, Option.bind_some, List.any_cons]
    cases sameL b a with
    | true => exact ⟨pre.length, by simp⟩
    | false =>
      rw [cond_false, Bool.false_or, h4]
      exact idx_l0 kE0 kE1 a ha l hl hs rest (pre ++ [b]) j (by rw [h]; simp)
theorem contains_ok {a : T_api_Layer} (ha : a.Rid.size < 2 ^ 40) {l : List T_api_Layer} (hl : l.length < 2 ^ 30) (hs : ∀ b ∈ l, b.Rid.size < 2 ^ 40) {k : Nat} (hk : l.length < k) : p_slices_ContainsFunc_Lapi_Layer_api_Layer_ctl_Layers_1 k l (⟨a.Rid, a.Ssrc, a.Height⟩ : T_api_Layer) = some (l.any fun b => sameL b a) := by
  unfold p_slices_ContainsFunc_Lapi_Layer_api_Layer_ctl_Layers_1 p_slices_IndexFunc_Lapi_Layer_api_Layer_ctl_Layers_1
  obtain ⟨i, hi⟩ := idx_l0 (fun (_ : Unit) => (some (-1) : Option Int)) (fun r => some r) a ha l hl hs l [] (k - l.length - 1) rfl
  simp only [show k - l.length - 1 + l.length + 1 = k by omega, List.length_nil] at hi
  rw [show ((0 : Nat) : Int) = 0 from rfl] at hi
  refine (congrArg (fun x => Option.bind x _) hi).trans ?_
  cases l.any (fun b => sameL b a) with
  | true => simp
  | false => simp
theorem layers_l0 {β : Type} (kE0 : Unit → Option β) (kE1 : Int → Option β) (l : List T_api_Layer) (hl : l.length ≤ 3) (hs : ∀ b ∈ l, b.Rid.size < 2 ^ 40) : ∀ (rest pre : List T_api_Layer) (j : Nat), l = pre ++ rest → 6 ≤ j →
    p_ctl_Layers_l0 (j + rest.length + 1) kE0 kE1 l l (l.length : Int) (pre.length : Int) = bif chkL pre rest then kE0 () else kE1 26
  | [], pre, j, h, _ => by
    rw [p_ctl_Layers_l0]
    have h1 : decide ((pre.length : Int) < (l.length : Int)) = false := by subst h; simp
    rw [h1, cond_false, chkL, cond_true]
  | a :: rest, pre, j, h, hj => by
    have hplen : pre.length + 1 ≤ l.length := by rw [h, List.length_append, List.length_cons]; omega
    rw [List.length_cons, show j + (rest.length + 1) + 1 = (j + rest.length + 1) + 1 from rfl, p_ctl_Layers_l0]
    have h1 : decide ((pre.length : Int) < (l.length : Int)) = true := decide_eq_true (by omega)
    have h2 : ix l (pre.length : Int) = some a := ix_mid' h rfl
    have h4 : IntKind.wrap .i64 ((pre.length : Int) + 1) = (((pre ++ [a]).length : Nat) : Int) := by
      rw [wrap_i64 (by omega) (by omega)]
      simp
    have hsub : sub l 0 (pre.length : Int) = some pre := by
      have := sub_eq (xs := l) (a := 0) (n := pre.length) (by omega)
      rw [Nat.zero_add, List.drop_zero] at this
      rw [show ((0 : Nat) : Int) = 0 from rfl] at this
      rw [this, h, List.take_left]
    have hcon := contains_ok (a := a) (hs a (by rw [h]; simp)) (l := pre) (by omega) (fun b hb => hs b (by rw [h]; simp [hb])) (k := j + rest.length + 1) (by omega)
    have hprev : (bif decide ((pre.length : Int) > 0) then ((ix l (IntKind.wrap .i64 ((pre.length : Int) - 1))).bind fun a36 => some (decide (a.Height ≤ a36.Height))) else (some false)) = some (match pre.getLast? with | none => false | some b => decide (a.Height ≤ b.Height)) := by
      rcases List.eq_nil_or_concat pre with rfl | ⟨q, b, rfl⟩
      · rfl
      · rw [List.concat_eq_append] at h hplen ⊢
        have g1 : decide ((((q ++ [b]).length : Nat) : Int) > 0) = true := decide_eq_true (by rw [List.length_append, List.length_cons]; omega)
        have g2 : IntKind.wrap .i64 ((((q ++ [b]).length : Nat) : Int) - 1) = (q.length : Int) := by
          rw [List.length_append, List.length_cons, List.length_nil] at hplen ⊢
          rw [wrap_i64 (by omega) (by omega)]; omega
        have g3 : ix l (q.length : Int) = some b := ix_mid' (ys := a :: rest) (by rw [h]; simp) rfl
        rw [g1, cond_true, g2, g3, Option.bind_some, List.getLast?_concat]
    rw [h1, cond_true, h2, Option.bind_some]
    simp only [p_rid_Right, Option.bind_some]
    rw [chkL]
    unfold okL
    have ih := layers_l0 kE0 kE1 l hl hs rest (pre ++ [a]) j (by rw [h]; simp) hj
    cases hr : RidX.rightB a.Rid with
    | false => simp
    | true =>
      simp only [Bool.not_true, cond_false, Option.bind_some, Bool.true_and]
      by_cases c1 : a.Height < 1
      · have d1 : decide (a.Height < 1) = true := decide_eq_true c1
        have d2 : decide (1 ≤ a.Height) = false := decide_eq_false (by omega)
        simp only [d1, d2, cond_true, Option.bind_some, Bool.false_and, cond_false]
      · have d1 : decide (a.Height < 1) = false := decide_eq_false c1
        have d2 : decide (1 ≤ a.Height) = true := decide_eq_true (by omega)
        by_cases c2 : a.Height > 8192
        · have e1 : decide (a.Height > 8192) = true := decide_eq_true c2
          have e2 : decide (a.Height ≤ 8192) = false := decide_eq_false (by omega)
          simp only [d1, d2, e1, e2, cond_true, cond_false, Option.bind_some, Bool.false_and, Bool.true_and]
        · have e1 : decide (a.Height > 8192) = false := decide_eq_false c2
          have e2 : decide (a.Height ≤ 8192) = true := decide_eq_true (by omega)
          simp only [d1, d2, e1, e2, cond_false, Option.bind_some, Bool.true_and, hprev]
          have key : ∀ (p q : Bool), p = !q → (bif p then kE1 26 else (sub l 0 (pre.length : Int)).bind fun a52 => (p_slices_ContainsFunc_Lapi_Layer_api_Layer_ctl_Layers_1 (j + rest.length + 1) a52 (⟨a.Rid, a.Ssrc, a.Height⟩ : T_api_Layer)).bind fun r54 => bif r54 then kE1 26 else p_ctl_Layers_l0 (j + rest.length + 1) kE0 kE1 l l (l.length : Int) (IntKind.wrap .i64 ((pre.length : Int) + 1))) = bif q && (!(pre.any fun b => sameL b a) && chkL (pre ++ [a]) rest) then kE0 () else kE1 26 := by
            intro p q hpq
            subst hpq
            cases q with
            | false => rfl
            | true =>
              rw [Bool.not_true, cond_false, hsub, Option.bind_some, hcon, Option.bind_some, h4, ih]
              cases (pre.any fun b => sameL b a) <;> simp
          refine key _ _ ?_
          cases pre.getLast? with
          | none => rfl
          | some b => by_cases hh : a.Height ≤ b.Height <;> simp [hh] <;> omega
theorem layers_eq {l : List T_api_Layer} (h1 : 1 ≤ l.length) (h3 : l.length ≤ 3) (hs : ∀ b ∈ l, b.Rid.size < 2 ^ 40) : p_ctl_Layers 40 l = some (bif chkL [] l then 0 else 26) := by
  unfold p_ctl_Layers
  have d1 : decide ((l.length : Int) < 1) = false := decide_eq_false (by omega)
  have d2 : decide ((l.length : Int) > 3) = false := decide_eq_false (by omega)
  simp only [d1, d2, cond_false, Option.bind_some]
  have := layers_l0 (fun (_ : Unit) => (some 0 : Option Int)) (fun r => some r) l h3 hs l [] (40 - l.length - 1) rfl (by omega)
  simp only [show 40 - l.length - 1 + l.length + 1 = 40 by omega, List.length_nil] at this
  rw [show ((0 : Nat) : Int) = 0 from rfl] at this
  refine this.trans ?_
  cases chkL [] l <;> rfl
theorem layers_many {l : List T_api_Layer} (h3 : 3 < l.length) (k : Nat) : p_ctl_Layers k l = some 26 := by
  unfold p_ctl_Layers
  have d1 : decide ((l.length : Int) < 1) = false := decide_eq_false (by omega)
  have d2 : decide ((l.length : Int) > 3) = true := decide_eq_true (by omega)
  simp only [d1, d2, cond_false, cond_true, Option.bind_some]
def nmL : Nat → ByteArray | 0 => ⟨#[108, 111]⟩ | 1 => ⟨#[109, 105, 100]⟩ | _ => ⟨#[72, 73]⟩
/-- The layer i of a tape. -/
def tpL (p : Int) (i : Nat) (r : Int) : T_api_Layer := ⟨nmL i, 100 * p + i + 7, 180 * ((i : Int) + 1) + r⟩
theorem nmL_right : ∀ i : Nat, RidX.rightB (nmL i) = true
  | 0 => by kernel_rfl
  | 1 => by kernel_rfl
  | _ + 2 => by show RidX.rightB ⟨#[72, 73]⟩ = true; kernel_rfl
theorem nmL_size : ∀ i : Nat, (nmL i).size < 2 ^ 40
  | 0 => by decide
  | 1 => by decide
  | _ + 2 => by show (⟨#[72, 73]⟩ : ByteArray).size < 2 ^ 40; decide
theorem nm01 : ((RidX.foldB (nmL 0)).toList == (RidX.foldB (nmL 1)).toList) = false := by kernel_rfl
theorem nm02 : ((RidX.foldB (nmL 0)).toList == (RidX.foldB (nmL 2)).toList) = false := by kernel_rfl
theorem nm12 : ((RidX.foldB (nmL 1)).toList == (RidX.foldB (nmL 2)).toList) = false := by kernel_rfl
theorem and3 (x : Int) : 0 ≤ intBits .and .i64 x 3 ∧ intBits .and .i64 x 3 ≤ 3 := by
  have h : intBits .and .i64 x ((2 ^ 2 - 1 : Nat) : Int) = x % 2 ^ 2 := intBits_and_nat (k := .i64) (by decide)
  have h2 : ((2 ^ 2 - 1 : Nat) : Int) = 3 := rfl
  rw [h2] at h
  rw [h]
  omega
theorem wrap_u32 {n : Int} (h1 : 0 ≤ n) (h2 : n < 4294967296) : IntKind.wrap .u32 n = n := by
  simp only [IntKind.wrap, IntKind.signed, IntKind.bits]
  simp
  omega
/-- One round of a tape's layers: it goes on, or is over. -/
theorem tlayers_step {β : Type} (kE0 : List T_api_Layer → T_limelightkeep_Tape → Option β) {p : Int} (hp : 0 ≤ p ∧ p ≤ 5) {i : Nat} (hi : i ≤ 2) {out : List T_api_Layer} (ho : out.length ≤ 3) {t : T_limelightkeep_Tape} (h : TP t) (k : Nat) :
    (∃ t', p_limelightkeep_Tape_Layers_l0 (k + 1) kE0 p out (i : Int) t = kE0 out t' ∧ 1 ≤ i) ∨
    (∃ r t', p_limelightkeep_Tape_Layers_l0 (k + 1) kE0 p out (i : Int) t = p_limelightkeep_Tape_Layers_l0 k kE0 p (out ++ [tpL p i r]) ((i + 1 : Nat) : Int) t' ∧ (0 ≤ r ∧ r < 90) ∧ TP t') := by
  obtain ⟨m, t1, e1, r1, h1⟩ := next_tape h (n := 3) (by omega)
  rw [p_limelightkeep_Tape_Layers_l0, tape_eta, e1, Option.bind_some]
  by_cases hm : (i : Int) ≤ m
  · have d : decide ((i : Int) ≤ m) = true := decide_eq_true hm
    obtain ⟨r, t2, e2, r2, h2⟩ := next_tape h1 (n := 90) (by omega)
    refine .inr ⟨r, t2, ?_, r2, h2⟩
    have hx : ix ([((⟨#[108, 111]⟩ : ByteArray)), ((⟨#[109, 105, 100]⟩ : ByteArray)), ((⟨#[72, 73]⟩ : ByteArray))]) (i : Int) = some (nmL i) := by
      rcases i with _ | _ | _ | i
      · rfl
      · rfl
      · rfl
      · omega
    simp only [d, cond_true, hx, Option.bind_some, tape_eta, e2]
    have w1 : IntKind.wrap .i64 (100 * p) = 100 * p := wrap_i64 (by omega) (by omega)
    have w2 : IntKind.wrap .i64 (100 * p + (i : Int)) = 100 * p + i := wrap_i64 (by omega) (by omega)
    have w3 : IntKind.wrap .i64 (100 * p + (i : Int) + 7) = 100 * p + i + 7 := wrap_i64 (by omega) (by omega)
    have w4 : IntKind.wrap .u32 (100 * p + (i : Int) + 7) = 100 * p + i + 7 := wrap_u32 (by omega) (by omega)
    have w5 : IntKind.wrap .i64 ((i : Int) + 1) = (i : Int) + 1 := wrap_i64 (by omega) (by omega)
    have w6 : IntKind.wrap .i64 (180 * ((i : Int) + 1)) = 180 * ((i : Int) + 1) := wrap_i64 (by omega) (by omega)
    have w7 : IntKind.wrap .i64 (180 * ((i : Int) + 1) + r) = 180 * ((i : Int) + 1) + r := wrap_i64 (by omega) (by omega)
    simp only [w1, w2, w3, w4, w5, w6, w7]
    rw [ap_eq (by decide) (by simp only [List.length_cons, List.length_nil]; omega), Option.bind_some]
    rfl
  · have d : decide ((i : Int) ≤ m) = false := decide_eq_false hm
    rw [d, cond_false]
    exact .inl ⟨t1, rfl, by omega⟩
theorem tlayers_end {β : Type} (kE0 : List T_api_Layer → T_limelightkeep_Tape → Option β) {p : Int} {out : List T_api_Layer} {t : T_limelightkeep_Tape} (h : TP t) (k : Nat) :
    ∃ t', p_limelightkeep_Tape_Layers_l0 (k + 1) kE0 p out ((3 : Nat) : Int) t = kE0 out t' := by
  obtain ⟨m, t1, e1, r1, h1⟩ := next_tape h (n := 3) (by omega)
  rw [p_limelightkeep_Tape_Layers_l0, tape_eta, e1, Option.bind_some]
  have d : decide (((3 : Nat) : Int) ≤ m) = false := decide_eq_false (by omega)
  rw [d, cond_false]
  exact ⟨t1, rfl⟩
def Ly (p : Int) (l : List T_api_Layer) : Prop := (∃ r, (0 ≤ r ∧ r < 90) ∧ l = [tpL p 0 r]) ∨ (∃ r s, (0 ≤ r ∧ r < 90) ∧ (0 ≤ s ∧ s < 90) ∧ l = [tpL p 0 r, tpL p 1 s]) ∨ ∃ r s u, (0 ≤ r ∧ r < 90) ∧ (0 ≤ s ∧ s < 90) ∧ (0 ≤ u ∧ u < 90) ∧ l = [tpL p 0 r, tpL p 1 s, tpL p 2 u]
theorem tape_layers {t : T_limelightkeep_Tape} (h : TP t) {p : Int} (hp : 0 ≤ p ∧ p ≤ 5) (k : Nat) : ∃ l t', p_limelightkeep_Tape_Layers (k + 4) t p = some (l, t') ∧ Ly p l := by
  unfold p_limelightkeep_Tape_Layers
  rw [tape_eta]
  rw [show (0 : Int) = ((0 : Nat) : Int) from rfl]
  rcases tlayers_step (fun a b => some (a, b)) hp (i := 0) (by omega) (out := []) (by simp) h (k + 3) with ⟨t1, _, h1⟩ | ⟨r, t1, e1, r1, h1⟩
  · omega
  rcases tlayers_step (fun a b => some (a, b)) hp (i := 1) (by omega) (out := [tpL p 0 r]) (by simp) h1 (k + 2) with ⟨t2, e2, _⟩ | ⟨s, t2, e2, r2, h2⟩
  · exact ⟨_, _, e1.trans e2, .inl ⟨r, r1, rfl⟩⟩
  rcases tlayers_step (fun a b => some (a, b)) hp (i := 2) (by omega) (out := [tpL p 0 r, tpL p 1 s]) (by simp) h2 (k + 1) with ⟨t3, e3, _⟩ | ⟨u, t3, e3, r3, h3⟩
  · exact ⟨_, _, (e1.trans e2).trans e3, .inr (.inl ⟨r, s, r1, r2, rfl⟩)⟩
  obtain ⟨t4, e4⟩ := tlayers_end (fun a b => some (a, b)) (p := p) (out := [tpL p 0 r, tpL p 1 s, tpL p 2 u]) h3 k
  exact ⟨_, _, ((e1.trans e2).trans e3).trans e4, .inr (.inr ⟨r, s, u, r1, r2, r3, rfl⟩)⟩
theorem okL_ok {a : T_api_Layer} (h1 : RidX.rightB a.Rid = true) (h2 : 1 ≤ a.Height ∧ a.Height ≤ 8192) : okL a none = true ∧ ∀ b : T_api_Layer, okL a (some b) = decide (b.Height < a.Height) := by
  have d1 : decide (1 ≤ a.Height) = true := decide_eq_true h2.1
  have d2 : decide (a.Height ≤ 8192) = true := decide_eq_true h2.2
  refine ⟨?_, fun b => ?_⟩ <;> simp [okL, h1, d1, d2]
end Go.Ev
/- Equations, printed by tracer2.py. -/
namespace Go.Ev
open Go.Proofs
set_option linter.unusedVariables false
set_option maxRecDepth 100000
-- 29 limelight/ctl.Bytes
noncomputable def ctl_Bytes_c0 : Code := (codeAt (bodyOf Try.f29) [1, 1, 1, 0, 1, 0, 0])
def ctl_Bytes_l0 : Lv := ⟨34, 12, [(0, 34)]⟩
noncomputable def ctl_Bytes_k0 (rec : CallF) (loop : LoopV) (σ : Stamp) : Exit → Env → H → Option (List C × H) := (kBlock 0 (kSeq G rec loop (codeAt (bodyOf Try.f29) [1, 1, 1, 1]) ⟨12, 12, []⟩ (1 :: 1 :: 1 :: 0 :: σ) (finC G false Try.f29 (1 :: σ))))
noncomputable def ctl_Bytes_c1 : Code := (codeAt (bodyOf Try.f29) [1, 1, 1, 1, 0, 1, 0, 0])
def ctl_Bytes_l1 : Lv := ⟨34, 12, [(2, 34)]⟩
noncomputable def ctl_Bytes_k1 (rec : CallF) (loop : LoopV) (σ : Stamp) : Exit → Env → H → Option (List C × H) := (kBlock 2 (kSeq G rec loop (codeAt (bodyOf Try.f29) [1, 1, 1, 1, 1]) ⟨12, 12, []⟩ (1 :: 1 :: 1 :: 1 :: 0 :: σ) (finC G false Try.f29 (1 :: σ))))
theorem ctl_Bytes_entry (rec : CallF) (loop : LoopV) (σ : Stamp) (x0 : V) (h : H) : cvBody G rec loop 29 σ [x0] h =
 (boxO false (0 :: 0 :: 0 :: σ) 1 (List.replicate 87 [] :: h) x0).bind fun q1 =>
 (ldO true 8 q1.2 q1.1).bind fun t2 =>
 (callO rec 36 (1 :: 0 :: 0 :: 1 :: 0 :: σ) [t2] q1.2 (some 11)).bind fun q3 =>
 (castI .i64 q3.1).bind fun n4 =>
 bif n4 != 0 then (
 fin false σ q3.2 [(.p (.slice .none 0 0)), (.p (.int .i64 n4))])
 else (
 (fA q1.1 2).bind fun t5 =>
 (ldO false 1 q3.2 t5).bind fun t6 =>
 (lenO t6).bind fun t7 =>
 (castI .i64 t7).bind fun n8 =>
 (loop ctl_Bytes_c0 ctl_Bytes_l0 (1 :: 0 :: 1 :: 1 :: 1 :: 0 :: σ) (envL [(1, q1.1), (5, (.p (.slice .none 0 0))), (16, t6), (17, (.p (.int .i64 n8))), (18, (.p (.int .i64 0)))]) q3.2).bind fun r9 => ctl_Bytes_k0 rec loop σ r9.1 r9.2.1 r9.2.2) := by kernel_rfl
theorem ctl_Bytes_r0 (rec : CallF) (loop : LoopV) (σ : Stamp) (x1 : V) (x5 : V) (x16 : V) (x17 : Int) (x18 : Int) (h : H) : cvRound G rec loop ctl_Bytes_c0 ctl_Bytes_l0 σ (envL [(1, x1), (5, x5), (16, x16), (17, (.p (.int .i64 x17))), (18, (.p (.int .i64 x18)))]) h =
 bif decide (x18 < x17) then (
 (iS 3 x16 x18).bind fun t10 =>
 (ldO true 3 h t10).bind fun t11 =>
 (some (alO [.p (.string (⟨#[]⟩ : ByteArray)), .p (.int .u32 0), .p (.int .i64 0)] (2 :: 0 :: 0 :: 1 :: 1 :: 0 :: σ) 7 h)).bind fun q12 =>
 ((stO false 3 (3 :: 0 :: 0 :: 1 :: 1 :: 0 :: σ) q12.2 q12.1 t11).map fun h => (udf, h)).bind fun q13 =>
 (fA q12.1 1).bind fun t14 =>
 (ldO false 1 q13.2 t14).bind fun t15 =>
 (castI .u32 t15).bind fun n16 =>
 (fA q12.1 2).bind fun t17 =>
 (ldO false 1 q13.2 t17).bind fun t18 =>
 (castI .i64 t18).bind fun n19 =>
 (fA q12.1 0).bind fun t20 =>
 (ldO false 1 q13.2 t20).bind fun t21 =>
 (castS t21).bind fun s22 =>
 (callO rec 67 (4 :: 1 :: 0 :: 1 :: 1 :: 0 :: σ) [(.p (.slice .none 0 0)), (.p (.int .u64 (IntKind.wrap .u64 n16))), (.p (.int .i64 4))] q13.2 (some 26)).bind fun q23 =>
 need (ldO false 1 q23.2 t20 = some (.p (.string s22))) (
 need ((some (.p (.int .u64 (IntKind.wrap .u64 n19))) : Option V) = some (.p (.int .u64 (IntKind.wrap .u64 n19)))) (
 need (ldO false 1 q23.2 t17 = some (.p (.int .i64 n19))) (
 (callO rec 67 (8 :: 1 :: 0 :: 1 :: 1 :: 0 :: σ) [q23.1, (.p (.int .u64 (IntKind.wrap .u64 n19))), (.p (.int .i64 2))] q23.2 (some 30)).bind fun q24 =>
 need (ldO false 1 q24.2 t20 = some (.p (.string s22))) (
 (apO true 1 1 (11 :: 1 :: 0 :: 1 :: 1 :: 0 :: σ) 33 q24.2 q24.1 (.p (.string s22))).bind fun q25 =>
 (callO rec 66 (12 :: 1 :: 0 :: 1 :: 1 :: 0 :: σ) [x5, (.p (.int .i64 2)), q25.1] q25.2 (some 34)).bind fun q26 =>
 loop ctl_Bytes_c0 ctl_Bytes_l0 (1 :: σ) (envL [(1, x1), (5, q26.1), (16, x16), (17, (.p (.int .i64 x17))), (18, (.p (.int .i64 (IntKind.wrap .i64 (x18 + 1)))))]) q26.2)))))
 else (
 some ((.exit 0), (envL [(1, x1), (5, x5)]), h)) := by kernel_rfl
theorem ctl_Bytes_a0_0 (rec : CallF) (loop : LoopV) (σ : Stamp) (x1 : V) (x5 : V) (h : H) : ctl_Bytes_k0 rec loop σ (.exit 0) (envL [(1, x1), (5, x5)]) h =
 (fA x1 1).bind fun t27 =>
 (ldO false 1 h t27).bind fun t28 =>
 (castI .i64 t28).bind fun n29 =>
 (buildV Try.prog 110 [(0, (.p (.int .i64 1))), (1, (.p (.int .i64 8))), (2, (.p (.int .i64 n29)))]).bind fun t30 =>
 (fA x1 3).bind fun t31 =>
 (ldO false 1 h t31).bind fun t32 =>
 (castI .i64 t32).bind fun n33 =>
 (buildV Try.prog 110 [(0, (.p (.int .i64 3))), (1, (.p (.int .i64 1))), (2, (.p (.int .i64 n33)))]).bind fun t34 =>
 (fA x1 4).bind fun t35 =>
 (ldO false 1 h t35).bind fun t36 =>
 (castI .i64 t36).bind fun n37 =>
 (buildV Try.prog 110 [(0, (.p (.int .i64 4))), (1, (.p (.int .i64 2))), (2, (.p (.int .i64 n37)))]).bind fun t38 =>
 (fA x1 5).bind fun t39 =>
 (ldO false 1 h t39).bind fun t40 =>
 (castI .i64 t40).bind fun n41 =>
 (buildV Try.prog 110 [(0, (.p (.int .i64 5))), (1, (.p (.int .i64 1))), (2, (.p (.int .i64 n41)))]).bind fun t42 =>
 (fA x1 6).bind fun t43 =>
 (ldO false 1 h t43).bind fun t44 =>
 (castI .i64 t44).bind fun n45 =>
 (buildV Try.prog 110 [(0, (.p (.int .i64 6))), (1, (.p (.int .i64 1))), (2, (.p (.int .i64 n45)))]).bind fun t46 =>
 (fA x1 7).bind fun t47 =>
 (ldO false 1 h t47).bind fun t48 =>
 (castI .i64 t48).bind fun n49 =>
 (buildV Try.prog 110 [(0, (.p (.int .i64 7))), (1, (.p (.int .i64 1))), (2, (.p (.int .i64 n49)))]).bind fun t50 =>
 (buildSliceV Try.prog 111 6 [(0, t30), (1, t34), (2, t38), (3, t42), (4, t46), (5, t50)]).bind fun t51 =>
 (lenO t51).bind fun t52 =>
 (castI .i64 t52).bind fun n53 =>
 (loop ctl_Bytes_c1 ctl_Bytes_l1 (1 :: 0 :: 1 :: 1 :: 1 :: 1 :: 0 :: σ) (envL [(1, x1), (5, x5), (54, t51), (55, (.p (.int .i64 n53))), (56, (.p (.int .i64 0)))]) h).bind fun r54 => ctl_Bytes_k1 rec loop σ r54.1 r54.2.1 r54.2.2 := by kernel_rfl
theorem ctl_Bytes_r1 (rec : CallF) (loop : LoopV) (σ : Stamp) (x1 : V) (x5 : V) (x54 : V) (x55 : Int) (x56 : Int) (h : H) : cvRound G rec loop ctl_Bytes_c1 ctl_Bytes_l1 σ (envL [(1, x1), (5, x5), (54, x54), (55, (.p (.int .i64 x55))), (56, (.p (.int .i64 x56)))]) h =
 bif decide (x56 < x55) then (
 (iS 3 x54 x56).bind fun t55 =>
 (ldO true 3 h t55).bind fun t56 =>
 (some (alO [.p (.int .i64 0), .p (.int .i64 0), .p (.int .i64 0)] (2 :: 0 :: 0 :: 1 :: 1 :: 0 :: σ) 9 h)).bind fun q57 =>
 ((stO false 3 (3 :: 0 :: 0 :: 1 :: 1 :: 0 :: σ) q57.2 q57.1 t56).map fun h => (udf, h)).bind fun q58 =>
 (fA x1 0).bind fun t59 =>
 (ldO false 1 q58.2 t59).bind fun t60 =>
 (castI .i64 t60).bind fun n61 =>
 (fA q57.1 0).bind fun t62 =>
 (ldO false 1 q58.2 t62).bind fun t63 =>
 (castI .i64 t63).bind fun n64 =>
 (callO rec 68 (4 :: 0 :: 1 :: 0 :: 1 :: 1 :: 0 :: σ) [(.p (.int .i64 n61)), (.p (.int .i64 n64))] q58.2 (some 64)).bind fun q65 =>
 (asB q65.1).bind fun b66 =>
 bif b66 then (
 (fA q57.1 0).bind fun t67 =>
 (ldO false 1 q65.2 t67).bind fun t68 =>
 (castI .i64 t68).bind fun n69 =>
 (fA q57.1 2).bind fun t70 =>
 (ldO false 1 q65.2 t70).bind fun t71 =>
 (castI .i64 t71).bind fun n72 =>
 (fA q57.1 1).bind fun t73 =>
 (ldO false 1 q65.2 t73).bind fun t74 =>
 (castI .i64 t74).bind fun n75 =>
 (callO rec 67 (8 :: 1 :: 1 :: 0 :: 1 :: 1 :: 0 :: σ) [(.p (.slice .none 0 0)), (.p (.int .u64 (IntKind.wrap .u64 n72))), (.p (.int .i64 n75))] q65.2 (some 73)).bind fun q76 =>
 need (ldO false 1 q76.2 t67 = some (.p (.int .i64 n69))) (
 (callO rec 66 (9 :: 1 :: 1 :: 0 :: 1 :: 1 :: 0 :: σ) [x5, (.p (.int .i64 n69)), q76.1] q76.2 (some 74)).bind fun q77 =>
 loop ctl_Bytes_c1 ctl_Bytes_l1 (1 :: σ) (envL [(1, x1), (5, q77.1), (54, x54), (55, (.p (.int .i64 x55))), (56, (.p (.int .i64 (IntKind.wrap .i64 (x56 + 1)))))]) q77.2))
 else (
 loop ctl_Bytes_c1 ctl_Bytes_l1 (1 :: σ) (envL [(1, x1), (5, x5), (54, x54), (55, (.p (.int .i64 x55))), (56, (.p (.int .i64 (IntKind.wrap .i64 (x56 + 1)))))]) q65.2))
 else (
 some ((.exit 2), (envL [(1, x1), (5, x5)]), h)) := by kernel_rfl
theorem ctl_Bytes_a1_2 (rec : CallF) (loop : LoopV) (σ : Stamp) (x1 : V) (x5 : V) (h : H) : ctl_Bytes_k1 rec loop σ (.exit 2) (envL [(1, x1), (5, x5)]) h =
 (fA x1 0).bind fun t78 =>
 (ldO false 1 h t78).bind fun t79 =>
 (castI .i64 t79).bind fun n80 =>
 (buildSliceV Try.prog 32 1 [(0, (.p (.int .u8 (IntKind.wrap .u8 n80))))]).bind fun t81 =>
 (lenO x5).bind fun t82 =>
 (castI .i64 t82).bind fun n83 =>
 (callO rec 67 (7 :: 0 :: 1 :: 1 :: 1 :: 1 :: 1 :: 0 :: σ) [t81, (.p (.int .u64 (IntKind.wrap .u64 n83))), (.p (.int .i64 2))] h (some 83)).bind fun q84 =>
 (buildSliceV Try.prog 72 2 [(0, q84.1), (1, x5)]).bind fun t85 =>
 (callFO rec 69 (10 :: 0 :: 1 :: 1 :: 1 :: 1 :: 1 :: 0 :: σ) [t85] q84.2 (some 86)).bind fun q86 =>
 fin false σ q86.2 [q86.1, (.p (.int .i64 0))] := by kernel_rfl
end Go.Ev
/- Equations, printed by tracer2.py. -/
namespace Go.Ev
open Go.Proofs
set_option linter.unusedVariables false
set_option maxRecDepth 100000
-- 36 limelight/ctl.Right
theorem ctl_Right_entry (rec : CallF) (loop : LoopV) (σ : Stamp) (x0 : V) (h : H) : cvBody G rec loop 36 σ [x0] h =
 (boxO false (0 :: 0 :: 0 :: σ) 1 (List.replicate 28 [] :: h) x0).bind fun q1 =>
 (fA q1.1 0).bind fun t2 =>
 (ldO false 1 q1.2 t2).bind fun t3 =>
 (castI .i64 t3).bind fun n4 =>
 (bif decide (n4 < 1) then (some true) else ((fA q1.1 0).bind fun t5 =>
 (ldO false 1 q1.2 t5).bind fun t6 =>
 (castI .i64 t6).bind fun n7 =>
 some (decide (n7 > 10)))).bind fun b8 =>
 (bif b8 then (some ((.p (.bool true)), q1.2)) else ((ldO true 8 q1.2 q1.1).bind fun t9 =>
 (callO rec 79 (10 :: 0 :: 0 :: 1 :: 0 :: σ) [t9] q1.2 (some 14)).bind fun q10 =>
 (asB q10.1).bind fun b11 =>
 some ((.p (.bool (!b11))), q10.2))).bind fun q12 =>
 (asB q12.1).bind fun b13 =>
 bif b13 then (
 fin false σ q12.2 [(.p (.int .i64 12))])
 else (
 (ldO true 8 q12.2 q1.1).bind fun t14 =>
 (callO rec 80 (1 :: 0 :: 1 :: 0 :: 1 :: 0 :: σ) [t14] q12.2 (some 19)).bind fun q15 =>
 (asB q15.1).bind fun b16 =>
 bif !b16 then (
 fin false σ q15.2 [(.p (.int .i64 1))])
 else (
 (fA q1.1 0).bind fun t17 =>
 (ldO false 1 q15.2 t17).bind fun t18 =>
 (castI .i64 t18).bind fun n19 =>
 bif n19 == 3 then (
 (fA q1.1 2).bind fun t20 =>
 (ldO false 1 q15.2 t20).bind fun t21 =>
 (callO rec 34 (2 :: 0 :: 1 :: 1 :: 1 :: 0 :: 1 :: 0 :: σ) [t21] q15.2 (some 27)).bind fun q22 =>
 (castI .i64 q22.1).bind fun n23 =>
 fin false σ q22.2 [(.p (.int .i64 n23))])
 else (
 fin false σ q15.2 [(.p (.int .i64 0))]))) := by kernel_rfl
end Go.Ev
/- Equations, printed by tracer2.py. -/
namespace Go.Ev
open Go.Proofs
set_option linter.unusedVariables false
set_option maxRecDepth 100000
-- 79 limelight/ctl.fields
noncomputable def ctl_fields_c0 : Code := (codeAt (bodyOf Try.f79) [1, 1, 0, 1, 0, 0])
def ctl_fields_l0 : Lv := ⟨0, 4, [(0, 0)]⟩
noncomputable def ctl_fields_k0 (rec : CallF) (loop : LoopV) (σ : Stamp) : Exit → Env → H → Option (List C × H) := (kBlock 0 (kSeq G rec loop (codeAt (bodyOf Try.f79) [1, 1, 1]) ⟨4, 4, []⟩ (1 :: 1 :: 0 :: σ) (finC G false Try.f79 (1 :: σ))))
theorem ctl_fields_entry (rec : CallF) (loop : LoopV) (σ : Stamp) (x0 : V) (h : H) : cvBody G rec loop 79 σ [x0] h =
 (boxO false (0 :: 0 :: 0 :: σ) 1 (List.replicate 47 [] :: h) x0).bind fun q1 =>
 (fA q1.1 1).bind fun t2 =>
 (ldO false 1 q1.2 t2).bind fun t3 =>
 (castI .i64 t3).bind fun n4 =>
 (fA q1.1 2).bind fun t5 =>
 (ldO false 1 q1.2 t5).bind fun t6 =>
 (lenO t6).bind fun t7 =>
 (castI .i64 t7).bind fun n8 =>
 (fA q1.1 3).bind fun t9 =>
 (ldO false 1 q1.2 t9).bind fun t10 =>
 (castI .i64 t10).bind fun n11 =>
 (fA q1.1 4).bind fun t12 =>
 (ldO false 1 q1.2 t12).bind fun t13 =>
 (castI .i64 t13).bind fun n14 =>
 (fA q1.1 5).bind fun t15 =>
 (ldO false 1 q1.2 t15).bind fun t16 =>
 (castI .i64 t16).bind fun n17 =>
 (fA q1.1 6).bind fun t18 =>
 (ldO false 1 q1.2 t18).bind fun t19 =>
 (castI .i64 t19).bind fun n20 =>
 (fA q1.1 7).bind fun t21 =>
 (ldO false 1 q1.2 t21).bind fun t22 =>
 (castI .i64 t22).bind fun n23 =>
 (buildSliceV Try.prog 155 7 [(0, (.p (.bool (n4 == 0)))), (1, (.p (.bool (n8 == 0)))), (2, (.p (.bool (n11 == 0)))), (3, (.p (.bool (n14 == 0)))), (4, (.p (.bool (n17 == 0)))), (5, (.p (.bool (n20 == 0)))), (6, (.p (.bool (n23 == 0))))]).bind fun t24 =>
 (lenO t24).bind fun t25 =>
 (castI .i64 t25).bind fun n26 =>
 (loop ctl_fields_c0 ctl_fields_l0 (1 :: 0 :: 1 :: 1 :: 0 :: σ) (envL [(1, q1.1), (29, t24), (30, (.p (.int .i64 n26))), (31, (.p (.int .i64 0)))]) q1.2).bind fun r27 => ctl_fields_k0 rec loop σ r27.1 r27.2.1 r27.2.2 := by kernel_rfl
theorem ctl_fields_r0 (rec : CallF) (loop : LoopV) (σ : Stamp) (x1 : V) (x29 : V) (x30 : Int) (x31 : Int) (h : H) : cvRound G rec loop ctl_fields_c0 ctl_fields_l0 σ (envL [(1, x1), (29, x29), (30, (.p (.int .i64 x30))), (31, (.p (.int .i64 x31)))]) h =
 bif decide (x31 < x30) then (
 (iS 1 x29 x31).bind fun t28 =>
 (ldO false 1 h t28).bind fun t29 =>
 (asB t29).bind fun b30 =>
 (bif !b30 then ((fA x1 0).bind fun t31 =>
 (ldO false 1 h t31).bind fun t32 =>
 (castI .i64 t32).bind fun n33 =>
 (callO rec 68 (7 :: 0 :: 1 :: 0 :: 1 :: 1 :: 0 :: σ) [(.p (.int .i64 n33)), (.p (.int .i64 (IntKind.wrap .i64 (x31 + 1))))] h (some 43)).bind fun q34 =>
 (asB q34.1).bind fun b35 =>
 some ((.p (.bool (!b35))), q34.2)) else (some ((.p (.bool false)), h))).bind fun q36 =>
 (asB q36.1).bind fun b37 =>
 bif b37 then (
 some (.ret, (envL [(2, (.p (.bool false)))]), q36.2))
 else (
 loop ctl_fields_c0 ctl_fields_l0 (1 :: σ) (envL [(1, x1), (29, x29), (30, (.p (.int .i64 x30))), (31, (.p (.int .i64 (IntKind.wrap .i64 (x31 + 1)))))]) q36.2))
 else (
 some ((.exit 0), (envL []), h)) := by kernel_rfl
theorem ctl_fields_a0_0 (rec : CallF) (loop : LoopV) (σ : Stamp)  (h : H) : ctl_fields_k0 rec loop σ (.exit 0) (envL []) h =
 fin false σ h [(.p (.bool true))] := by kernel_rfl
theorem ctl_fields_a0_ret (rec : CallF) (loop : LoopV) (σ : Stamp) (x2 : Bool) (h : H) : ctl_fields_k0 rec loop σ .ret (envL [(2, (.p (.bool x2)))]) h =
 fin false σ h [(.p (.bool x2))] := by kernel_rfl
end Go.Ev
/- Equations, printed by tracer2.py. -/
namespace Go.Ev
open Go.Proofs
set_option linter.unusedVariables false
set_option maxRecDepth 100000
-- 68 limelight/ctl.has
theorem ctl_has_entry (rec : CallF) (loop : LoopV) (σ : Stamp) (x0 : Int) (x1 : Int) (h : H) : cvBody G rec loop 68 σ [(.p (.int .i64 x0)), (.p (.int .i64 x1))] h =
 bif x1 == 1 then (
 fin false σ (List.replicate 56 [] :: h) [(.p (.bool (x0 == 1)))])
 else (
 bif x1 == 2 then (
 fin false σ (List.replicate 56 [] :: h) [(.p (.bool (x0 == 3)))])
 else (
 bif x1 == 3 then (
 (bif x0 == 4 then (some true) else (some (x0 == 5))).bind fun b1 =>
 (bif b1 then (some true) else (some (x0 == 6))).bind fun b2 =>
 (bif b2 then (some true) else (some (x0 == 7))).bind fun b3 =>
 fin false σ (List.replicate 56 [] :: h) [(.p (.bool b3))])
 else (
 bif x1 == 4 then (
 (bif x0 == 4 then (some true) else (some (x0 == 6))).bind fun b4 =>
 fin false σ (List.replicate 56 [] :: h) [(.p (.bool b4))])
 else (
 bif x1 == 5 then (
 (bif x0 == 4 then (some true) else (some (x0 == 7))).bind fun b5 =>
 fin false σ (List.replicate 56 [] :: h) [(.p (.bool b5))])
 else (
 bif x1 == 6 then (
 (bif x0 == 8 then (some true) else (some (x0 == 9))).bind fun b6 =>
 fin false σ (List.replicate 56 [] :: h) [(.p (.bool b6))])
 else (
 fin false σ (List.replicate 56 [] :: h) [(.p (.bool (x0 == 10)))])))))) := by kernel_rfl
end Go.Ev
/- Lifted by lift.py: ctl_has as a plain function. -/
namespace Go.Ev
open Go.Proofs
set_option linter.unusedVariables false
set_option linter.unusedSimpArgs false
set_option maxRecDepth 100000
def p_ctl_has (x0 : Int) (x1 : Int) : Option (Bool) :=
bif x1 == 1 then (
some ((x0 == 1)))
else (
bif x1 == 2 then (
some ((x0 == 3)))
else (
bif x1 == 3 then (
(bif x0 == 4 then (some true) else (some (x0 == 5))).bind fun b1 =>
(bif b1 then (some true) else (some (x0 == 6))).bind fun b5 =>
(bif b5 then (some true) else (some (x0 == 7))).bind fun b9 =>
some (b9))
else (
bif x1 == 4 then (
(bif x0 == 4 then (some true) else (some (x0 == 6))).bind fun b13 =>
some (b13))
else (
bif x1 == 5 then (
(bif x0 == 4 then (some true) else (some (x0 == 7))).bind fun b17 =>
some (b17))
else (
bif x1 == 6 then (
(bif x0 == 8 then (some true) else (some (x0 == 9))).bind fun b21 =>
some (b21))
else (
some ((x0 == 10))))))))
theorem ctl_has_ok {h : H} {σ : Stamp} (x0 : Int) (x1 : Int) : Sim (p_ctl_has x0 x1) (ev G X0 68 σ [(.p (.int .i64 x0)), (.p (.int .i64 x1))] h) (fun r s => s = ([.v (.p (.bool r))], h)) := by
  refine Sim.ev rfl (Sim.ext (ctl_has_entry _ _ _ _ _ _) ?_)
  rw [p_ctl_has]
  have S0 : Fm 56 h [] [] [] (List.replicate 56 [] :: h) := Fm.start0
  refine Sim.cd (fun hc => ?_) (fun hc => ?_)
  · exact Sim.fin (S0.finN (lv_cons (still_bool _).lv lv_nil)) rfl
  · refine Sim.cd (fun hc => ?_) (fun hc => ?_)
    · exact Sim.fin (S0.finN (lv_cons (still_bool _).lv lv_nil)) rfl
    · refine Sim.cd (fun hc => ?_) (fun hc => ?_)
      · refine Sim.ch (P := fun r y => r = y) ?_ (fun b1 y2 h3 h4 => ?_)
        · refine Sim.cd (fun hc => ?_) (fun hc => ?_)
          · exact Sim.ret rfl rfl
          · exact Sim.ret rfl rfl
        subst h4
        refine Sim.ch (P := fun r y => r = y) ?_ (fun b5 y6 h7 h8 => ?_)
        · refine Sim.cd (fun hc => ?_) (fun hc => ?_)
          · exact Sim.ret rfl rfl
          · exact Sim.ret rfl rfl
        subst h8
        refine Sim.ch (P := fun r y => r = y) ?_ (fun b9 y10 h11 h12 => ?_)
        · refine Sim.cd (fun hc => ?_) (fun hc => ?_)
          · exact Sim.ret rfl rfl
          · exact Sim.ret rfl rfl
        subst h12
        exact Sim.fin (S0.finN (lv_cons (still_bool _).lv lv_nil)) rfl
      · refine Sim.cd (fun hc => ?_) (fun hc => ?_)
        · refine Sim.ch (P := fun r y => r = y) ?_ (fun b13 y14 h15 h16 => ?_)
          · refine Sim.cd (fun hc => ?_) (fun hc => ?_)
            · exact Sim.ret rfl rfl
            · exact Sim.ret rfl rfl
          subst h16
          exact Sim.fin (S0.finN (lv_cons (still_bool _).lv lv_nil)) rfl
        · refine Sim.cd (fun hc => ?_) (fun hc => ?_)
          · refine Sim.ch (P := fun r y => r = y) ?_ (fun b17 y18 h19 h20 => ?_)
            · refine Sim.cd (fun hc => ?_) (fun hc => ?_)
              · exact Sim.ret rfl rfl
              · exact Sim.ret rfl rfl
            subst h20
            exact Sim.fin (S0.finN (lv_cons (still_bool _).lv lv_nil)) rfl
          · refine Sim.cd (fun hc => ?_) (fun hc => ?_)
            · refine Sim.ch (P := fun r y => r = y) ?_ (fun b21 y22 h23 h24 => ?_)
              · refine Sim.cd (fun hc => ?_) (fun hc => ?_)
                · exact Sim.ret rfl rfl
                · exact Sim.ret rfl rfl
              subst h24
              exact Sim.fin (S0.finN (lv_cons (still_bool _).lv lv_nil)) rfl
            · exact Sim.fin (S0.finN (lv_cons (still_bool _).lv lv_nil)) rfl
end Go.Ev
/- Lifted by lift.py: ctl_fields as a plain function. -/
namespace Go.Ev
open Go.Proofs
set_option linter.unusedVariables false
set_option linter.unusedSimpArgs false
set_option maxRecDepth 100000
def p_ctl_fields_l0 {β : Type} (k : Nat) (kE0 : Unit → Option β) (kE1 : Bool → Option β) (x29 : (List Bool)) (x30 : Int) (x31 : Int) (yg6 : T_api_Ctl) : Option β := match k with
| 0 => none
| k + 1 =>
bif decide (x31 < x30) then (
(ix x29 x31).bind fun a16 =>
(bif !a16 then ((p_ctl_has yg6.Kind (IntKind.wrap .i64 (x31 + 1))).bind fun r19 =>
some (!r19)) else (some false)).bind fun b24 =>
bif b24 then (
kE1 false)
else (
p_ctl_fields_l0 k kE0 kE1 x29 x30 (IntKind.wrap .i64 (x31 + 1)) ((⟨yg6.Kind, yg6.Cap, yg6.Layers, yg6.Peer, yg6.Height, yg6.Class, yg6.Layer, yg6.Code⟩ : T_api_Ctl))))
else (
kE0 ())
def p_ctl_fields (k : Nat) (x0 : T_api_Ctl) : Option (Bool) :=
p_ctl_fields_l0 k (fun (_ : Unit) =>
some (true)) (fun r35_2 =>
some (r35_2)) ([(x0.Cap == 0), (((x0.Layers.length : Int)) == 0), (x0.Peer == 0), (x0.Height == 0), (x0.Class == 0), (x0.Layer == 0), (x0.Code == 0)]) ((([(x0.Cap == 0), (((x0.Layers.length : Int)) == 0), (x0.Peer == 0), (x0.Height == 0), (x0.Class == 0), (x0.Layer == 0), (x0.Code == 0)]).length : Int)) 0 ((⟨x0.Kind, x0.Cap, x0.Layers, x0.Peer, x0.Height, x0.Class, x0.Layer, x0.Code⟩ : T_api_Ctl))
theorem ctl_fields_l0_ok {h : H}  {β α : Type} {Q : β → α → Prop} {K : Exit × Env × H → Option α} {kE0 : Unit → Option β} {kE1 : Bool → Option β} (hE0 : ∀ (_u : Unit) (H28 : Go.Ev.H) (_ : Fm 47 h [] [] [] H28), Sim (kE0 ()) (K ((.exit 0), (envL []), H28)) Q) (hE1 : ∀ (q2 : Bool) (H30 : Go.Ev.H) (_ : Fm 47 h [] [] [] H30), Sim (kE1 q2) (K (.ret, (envL [(2, (.p (.bool q2)))]), H30)) Q) (k : Nat) : ∀ (x29 : (List Bool)) (x30 : Int) (x31 : Int) (yg6 : T_api_Ctl) (v10 : V) (h11 : SlF dB x29 v10) (v12 : V) (h13 : SlF dT_api_Layer yg6.Layers v12) (s14 : Stamp) (H8 : Go.Ev.H) (_ : Fm 47 h [] [(1, s14, List.map C.v [(.p (.int .i64 yg6.Kind)), (.p (.int .i64 yg6.Cap)), v12, (.p (.int .i64 yg6.Peer)), (.p (.int .i64 yg6.Height)), (.p (.int .i64 yg6.Class)), (.p (.int .i64 yg6.Layer)), (.p (.int .i64 yg6.Code))])] [] H8) {σ : Stamp}, Sim (p_ctl_fields_l0 k kE0 kE1 x29 x30 x31 yg6) ((cvL G X0 ctl_fields_c0 ctl_fields_l0 σ (envL [(1, (.ref ⟨h.length, 1, 0, s14, []⟩ 0)), (29, v10), (30, (.p (.int .i64 x30))), (31, (.p (.int .i64 x31)))]) H8).bind K) Q := by
  induction k with
  | zero => intros; exact Sim.no
  | succ k ih =>
    intro x29 x30 x31 yg6 v10 h11 v12 h13 s14 H8 S9 σ
    rw [p_ctl_fields_l0]
    refine Sim.round (Sim.ext (ctl_fields_r0 _ _ _ _ _ _ _ _) ?_)
    refine Sim.cd (fun hc => ?_) (fun hc => ?_)
    · refine Sim.bd fun a16 h17 => ?_
      refine Sim.op ((h11.h H8).iS h17 rfl) ?_
      obtain ⟨_, rfl, hE18⟩ := (h11.h H8).el h17 rfl
      refine Sim.op (hE18.ld (j := 0) rfl) ?_
      refine Sim.op (asB_p _) ?_
      refine Sim.ch (P := fun r y => (.p (.bool r), H8) = y) ?_ (fun b24 y25 h26 h27 => ?_)
      · refine Sim.cd (fun hc => ?_) (fun hc => ?_)
        · refine Sim.op (fA_ref _ _ _) ?_
          refine Sim.op ((S9.atG (i := 0) rfl).ld (j := 0) rfl) ?_
          refine Sim.op (castI_p _ _) ?_
          refine Sim.call (ctl_has_ok yg6.Kind (IntKind.wrap .i64 (x31 + 1))) fun r19 cs20 H21 h22 q23 => ?_
          cases q23
          refine Sim.op (asB_p _) ?_
          exact Sim.ret rfl rfl
        · exact Sim.ret rfl rfl
      subst h27
      refine Sim.op (asB_p _) ?_
      refine Sim.cd (fun hc => ?_) (fun hc => ?_)
      · exact hE1 false H8 (S9.wk2 all_nil all_nil)
      · exact ih x29 x30 (IntKind.wrap .i64 (x31 + 1)) ((⟨yg6.Kind, yg6.Cap, yg6.Layers, yg6.Peer, yg6.Height, yg6.Class, yg6.Layer, yg6.Code⟩ : T_api_Ctl)) v10 h11 v12 h13 s14 H8 (S9.wk2 (all_cons (at_mem 0 rfl) all_nil) all_nil)
    · exact hE0 () H8 (S9.wk2 all_nil all_nil)
theorem ctl_fields_ok (k : Nat) {h : H} {σ : Stamp} (x0 : T_api_Ctl) {u0 : List V} (hu0 : dT_api_Ctl.R x0 u0) : Sim (p_ctl_fields k x0) (ev G X0 79 σ [(.agg u0)] h) (fun r s => s = ([.v (.p (.bool r))], h)) := by
  refine Sim.ev rfl (Sim.ext (ctl_fields_entry _ _ _ _ _) ?_)
  rw [p_ctl_fields]
  obtain ⟨v1, rfl, h2⟩ := dT_api_Ctl.inv hu0
  have S0 : Fm 47 h [] [] [] (List.replicate 47 [] :: h) := Fm.start0
  obtain ⟨H3, e4, S5⟩ := S0.box (own := false) (d := 1) (s := (0 :: 0 :: 0 :: σ)) (xs := [(.p (.int .i64 x0.Kind)), (.p (.int .i64 x0.Cap)), v1, (.p (.int .i64 x0.Peer)), (.p (.int .i64 x0.Height)), (.p (.int .i64 x0.Class)), (.p (.int .i64 x0.Layer)), (.p (.int .i64 x0.Code))]) (stills_cons (still_int _ _) (stills_cons (still_int _ _) (stills_cons h2.still (stills_cons (still_int _ _) (stills_cons (still_int _ _) (stills_cons (still_int _ _) (stills_cons (still_int _ _) (stills_cons (still_int _ _) stills_nil)))))))) (by decide) rfl
  refine Sim.op (e4) ?_
  refine Sim.op (fA_ref _ _ _) ?_
  refine Sim.op ((S5.atG (i := 0) rfl).ld (j := 1) rfl) ?_
  refine Sim.op (castI_p _ _) ?_
  refine Sim.op (fA_ref _ _ _) ?_
  refine Sim.op ((S5.atG (i := 0) rfl).ld (j := 2) rfl) ?_
  refine Sim.op ((h2.h H3).len) ?_
  refine Sim.op (castI_p _ _) ?_
  refine Sim.op (fA_ref _ _ _) ?_
  refine Sim.op ((S5.atG (i := 0) rfl).ld (j := 3) rfl) ?_
  refine Sim.op (castI_p _ _) ?_
  refine Sim.op (fA_ref _ _ _) ?_
  refine Sim.op ((S5.atG (i := 0) rfl).ld (j := 4) rfl) ?_
  refine Sim.op (castI_p _ _) ?_
  refine Sim.op (fA_ref _ _ _) ?_
  refine Sim.op ((S5.atG (i := 0) rfl).ld (j := 5) rfl) ?_
  refine Sim.op (castI_p _ _) ?_
  refine Sim.op (fA_ref _ _ _) ?_
  refine Sim.op ((S5.atG (i := 0) rfl).ld (j := 6) rfl) ?_
  refine Sim.op (castI_p _ _) ?_
  refine Sim.op (fA_ref _ _ _) ?_
  refine Sim.op ((S5.atG (i := 0) rfl).ld (j := 7) rfl) ?_
  refine Sim.op (castI_p _ _) ?_
  have h7 : SlF dB [(x0.Cap == 0), (((x0.Layers.length : Int)) == 0), (x0.Peer == 0), (x0.Height == 0), (x0.Class == 0), (x0.Layer == 0), (x0.Code == 0)] (.fz [(.p (.bool (x0.Cap == 0))), (.p (.bool (((x0.Layers.length : Int)) == 0))), (.p (.bool (x0.Peer == 0))), (.p (.bool (x0.Height == 0))), (.p (.bool (x0.Class == 0))), (.p (.bool (x0.Layer == 0))), (.p (.bool (x0.Code == 0)))] 7 1 true) := SlF.lit (cs := [(.p (.bool (x0.Cap == 0))), (.p (.bool (((x0.Layers.length : Int)) == 0))), (.p (.bool (x0.Peer == 0))), (.p (.bool (x0.Height == 0))), (.p (.bool (x0.Class == 0))), (.p (.bool (x0.Layer == 0))), (.p (.bool (x0.Code == 0)))]) (RL.cons (show dB.R (x0.Cap == 0) [(.p (.bool (x0.Cap == 0)))] from rfl) (RL.cons (show dB.R (((x0.Layers.length : Int)) == 0) [(.p (.bool (((x0.Layers.length : Int)) == 0)))] from rfl) (RL.cons (show dB.R (x0.Peer == 0) [(.p (.bool (x0.Peer == 0)))] from rfl) (RL.cons (show dB.R (x0.Height == 0) [(.p (.bool (x0.Height == 0)))] from rfl) (RL.cons (show dB.R (x0.Class == 0) [(.p (.bool (x0.Class == 0)))] from rfl) (RL.cons (show dB.R (x0.Layer == 0) [(.p (.bool (x0.Layer == 0)))] from rfl) (RL.cons (show dB.R (x0.Code == 0) [(.p (.bool (x0.Code == 0)))] from rfl) RL.nil))))))) rfl rfl true
  refine Sim.op (bldS (pt_cons rfl (pt_cons rfl (pt_cons rfl (pt_cons rfl (pt_cons rfl (pt_cons rfl (pt_cons rfl pt_nil))))))) (by kernel_rfl : _ = some (.fz [(.p (.bool (x0.Cap == 0))), (.p (.bool (((x0.Layers.length : Int)) == 0))), (.p (.bool (x0.Peer == 0))), (.p (.bool (x0.Height == 0))), (.p (.bool (x0.Class == 0))), (.p (.bool (x0.Layer == 0))), (.p (.bool (x0.Code == 0)))] 7 1 true))) ?_
  refine Sim.op ((h7.h H3).len) ?_
  refine Sim.op (castI_p _ _) ?_
  refine Sim.as (ctl_fields_l0_ok ?_ ?_ k ([(x0.Cap == 0), (((x0.Layers.length : Int)) == 0), (x0.Peer == 0), (x0.Height == 0), (x0.Class == 0), (x0.Layer == 0), (x0.Code == 0)]) ((([(x0.Cap == 0), (((x0.Layers.length : Int)) == 0), (x0.Peer == 0), (x0.Height == 0), (x0.Class == 0), (x0.Layer == 0), (x0.Code == 0)]).length : Int)) 0 ((⟨x0.Kind, x0.Cap, x0.Layers, x0.Peer, x0.Height, x0.Class, x0.Layer, x0.Code⟩ : T_api_Ctl)) (.fz [(.p (.bool (x0.Cap == 0))), (.p (.bool (((x0.Layers.length : Int)) == 0))), (.p (.bool (x0.Peer == 0))), (.p (.bool (x0.Height == 0))), (.p (.bool (x0.Class == 0))), (.p (.bool (x0.Layer == 0))), (.p (.bool (x0.Code == 0)))] 7 1 true) h7 v1 h2 (0 :: 0 :: 0 :: σ) H3 (S5.wk2 (all_cons (at_mem 0 rfl) all_nil) all_nil)) 
  · intro _u H33 S34
    refine Sim.ext (ctl_fields_a0_0 _ _ _ _) ?_
    exact Sim.fin (S34.finN (lv_cons (still_bool _).lv lv_nil)) rfl
  · intro r35_2 H36 S37
    refine Sim.ext (ctl_fields_a0_ret _ _ _ _ _) ?_
    exact Sim.fin (S37.finN (lv_cons (still_bool _).lv lv_nil)) rfl
end Go.Ev
/- Equations, printed by tracer2.py. -/
namespace Go.Ev
open Go.Proofs
set_option linter.unusedVariables false
set_option maxRecDepth 100000
-- 80 limelight/ctl.values
theorem ctl_values_entry (rec : CallF) (loop : LoopV) (σ : Stamp) (x0 : V) (h : H) : cvBody G rec loop 80 σ [x0] h =
 (boxO false (0 :: 0 :: 0 :: σ) 1 (List.replicate 67 [] :: h) x0).bind fun q1 =>
 (fA q1.1 0).bind fun t2 =>
 (ldO false 1 q1.2 t2).bind fun t3 =>
 (castI .i64 t3).bind fun n4 =>
 (callO rec 68 (2 :: 0 :: 1 :: 0 :: σ) [(.p (.int .i64 n4)), (.p (.int .i64 1))] q1.2 (some 5)).bind fun q5 =>
 (asB q5.1).bind fun b6 =>
 (bif !b6 then (some ((.p (.bool true)), q5.2)) else ((fA q1.1 1).bind fun t7 =>
 (ldO false 1 q5.2 t7).bind fun t8 =>
 (castI .i64 t8).bind fun n9 =>
 (callO rec 115 (7 :: 0 :: 1 :: 0 :: σ) [(.p (.int .i64 n9)), (.p (.int .i64 1)), (.p (.int .i64 1099511627776))] q5.2 (some 10)).bind fun q10 =>
 (asB q10.1).bind fun b11 =>
 some ((.p (.bool b11)), q10.2))).bind fun q12 =>
 (asB q12.1).bind fun b13 =>
 (bif b13 then ((fA q1.1 0).bind fun t14 =>
 (ldO false 1 q12.2 t14).bind fun t15 =>
 (castI .i64 t15).bind fun n16 =>
 (callO rec 68 (12 :: 0 :: 1 :: 0 :: σ) [(.p (.int .i64 n16)), (.p (.int .i64 3))] q12.2 (some 15)).bind fun q17 =>
 (asB q17.1).bind fun b18 =>
 (bif !b18 then (some ((.p (.bool true)), q17.2)) else ((fA q1.1 3).bind fun t19 =>
 (ldO false 1 q17.2 t19).bind fun t20 =>
 (castI .i64 t20).bind fun n21 =>
 (callO rec 115 (17 :: 0 :: 1 :: 0 :: σ) [(.p (.int .i64 n21)), (.p (.int .i64 0)), (.p (.int .i64 5))] q17.2 (some 20)).bind fun q22 =>
 (asB q22.1).bind fun b23 =>
 some ((.p (.bool b23)), q22.2))).bind fun q24 =>
 (asB q24.1).bind fun b25 =>
 some ((.p (.bool b25)), q24.2)) else (some ((.p (.bool false)), q12.2))).bind fun q26 =>
 (asB q26.1).bind fun b27 =>
 (bif b27 then ((fA q1.1 0).bind fun t28 =>
 (ldO false 1 q26.2 t28).bind fun t29 =>
 (castI .i64 t29).bind fun n30 =>
 (callO rec 68 (23 :: 0 :: 1 :: 0 :: σ) [(.p (.int .i64 n30)), (.p (.int .i64 4))] q26.2 (some 26)).bind fun q31 =>
 (asB q31.1).bind fun b32 =>
 (bif !b32 then (some ((.p (.bool true)), q31.2)) else ((fA q1.1 4).bind fun t33 =>
 (ldO false 1 q31.2 t33).bind fun t34 =>
 (castI .i64 t34).bind fun n35 =>
 (callO rec 115 (28 :: 0 :: 1 :: 0 :: σ) [(.p (.int .i64 n35)), (.p (.int .i64 1)), (.p (.int .i64 8192))] q31.2 (some 31)).bind fun q36 =>
 (asB q36.1).bind fun b37 =>
 some ((.p (.bool b37)), q36.2))).bind fun q38 =>
 (asB q38.1).bind fun b39 =>
 some ((.p (.bool b39)), q38.2)) else (some ((.p (.bool false)), q26.2))).bind fun q40 =>
 (asB q40.1).bind fun b41 =>
 (bif b41 then ((fA q1.1 0).bind fun t42 =>
 (ldO false 1 q40.2 t42).bind fun t43 =>
 (castI .i64 t43).bind fun n44 =>
 (callO rec 68 (34 :: 0 :: 1 :: 0 :: σ) [(.p (.int .i64 n44)), (.p (.int .i64 5))] q40.2 (some 37)).bind fun q45 =>
 (asB q45.1).bind fun b46 =>
 (bif !b46 then (some ((.p (.bool true)), q45.2)) else ((fA q1.1 5).bind fun t47 =>
 (ldO false 1 q45.2 t47).bind fun t48 =>
 (castI .i64 t48).bind fun n49 =>
 (callO rec 115 (39 :: 0 :: 1 :: 0 :: σ) [(.p (.int .i64 n49)), (.p (.int .i64 0)), (.p (.int .i64 3))] q45.2 (some 42)).bind fun q50 =>
 (asB q50.1).bind fun b51 =>
 some ((.p (.bool b51)), q50.2))).bind fun q52 =>
 (asB q52.1).bind fun b53 =>
 some ((.p (.bool b53)), q52.2)) else (some ((.p (.bool false)), q40.2))).bind fun q54 =>
 (asB q54.1).bind fun b55 =>
 (bif b55 then ((fA q1.1 0).bind fun t56 =>
 (ldO false 1 q54.2 t56).bind fun t57 =>
 (castI .i64 t57).bind fun n58 =>
 (callO rec 68 (45 :: 0 :: 1 :: 0 :: σ) [(.p (.int .i64 n58)), (.p (.int .i64 6))] q54.2 (some 48)).bind fun q59 =>
 (asB q59.1).bind fun b60 =>
 (bif !b60 then (some ((.p (.bool true)), q59.2)) else ((fA q1.1 6).bind fun t61 =>
 (ldO false 1 q59.2 t61).bind fun t62 =>
 (castI .i64 t62).bind fun n63 =>
 (callO rec 115 (50 :: 0 :: 1 :: 0 :: σ) [(.p (.int .i64 n63)), (.p (.int .i64 0)), (.p (.int .i64 2))] q59.2 (some 53)).bind fun q64 =>
 (asB q64.1).bind fun b65 =>
 some ((.p (.bool b65)), q64.2))).bind fun q66 =>
 (asB q66.1).bind fun b67 =>
 some ((.p (.bool b67)), q66.2)) else (some ((.p (.bool false)), q54.2))).bind fun q68 =>
 (asB q68.1).bind fun b69 =>
 (bif b69 then ((fA q1.1 0).bind fun t70 =>
 (ldO false 1 q68.2 t70).bind fun t71 =>
 (castI .i64 t71).bind fun n72 =>
 (callO rec 68 (56 :: 0 :: 1 :: 0 :: σ) [(.p (.int .i64 n72)), (.p (.int .i64 7))] q68.2 (some 59)).bind fun q73 =>
 (asB q73.1).bind fun b74 =>
 (bif !b74 then (some ((.p (.bool true)), q73.2)) else ((fA q1.1 7).bind fun t75 =>
 (ldO false 1 q73.2 t75).bind fun t76 =>
 (castI .i64 t76).bind fun n77 =>
 (callO rec 115 (61 :: 0 :: 1 :: 0 :: σ) [(.p (.int .i64 n77)), (.p (.int .i64 0)), (.p (.int .i64 255))] q73.2 (some 64)).bind fun q78 =>
 (asB q78.1).bind fun b79 =>
 some ((.p (.bool b79)), q78.2))).bind fun q80 =>
 (asB q80.1).bind fun b81 =>
 some ((.p (.bool b81)), q80.2)) else (some ((.p (.bool false)), q68.2))).bind fun q82 =>
 (asB q82.1).bind fun b83 =>
 fin false σ q82.2 [(.p (.bool b83))] := by kernel_rfl
end Go.Ev
/- Equations, printed by tracer2.py. -/
namespace Go.Ev
open Go.Proofs
set_option linter.unusedVariables false
set_option maxRecDepth 100000
-- 115 limelight/ctl.within
theorem ctl_within_entry (rec : CallF) (loop : LoopV) (σ : Stamp) (x0 : Int) (x1 : Int) (x2 : Int) (h : H) : cvBody G rec loop 115 σ [(.p (.int .i64 x0)), (.p (.int .i64 x1)), (.p (.int .i64 x2))] h =
 (bif decide (x0 ≥ x1) then (some (decide (x0 ≤ x2))) else (some false)).bind fun b1 =>
 fin false σ (List.replicate 15 [] :: h) [(.p (.bool b1))] := by kernel_rfl
end Go.Ev
/- Lifted by lift.py: ctl_within as a plain function. -/
namespace Go.Ev
open Go.Proofs
set_option linter.unusedVariables false
set_option linter.unusedSimpArgs false
set_option maxRecDepth 100000
def p_ctl_within (x0 : Int) (x1 : Int) (x2 : Int) : Option (Bool) :=
(bif decide (x0 ≥ x1) then (some (decide (x0 ≤ x2))) else (some false)).bind fun b1 =>
some (b1)
theorem ctl_within_ok {h : H} {σ : Stamp} (x0 : Int) (x1 : Int) (x2 : Int) : Sim (p_ctl_within x0 x1 x2) (ev G X0 115 σ [(.p (.int .i64 x0)), (.p (.int .i64 x1)), (.p (.int .i64 x2))] h) (fun r s => s = ([.v (.p (.bool r))], h)) := by
  refine Sim.ev rfl (Sim.ext (ctl_within_entry _ _ _ _ _ _ _) ?_)
  rw [p_ctl_within]
  have S0 : Fm 15 h [] [] [] (List.replicate 15 [] :: h) := Fm.start0
  refine Sim.ch (P := fun r y => r = y) ?_ (fun b1 y2 h3 h4 => ?_)
  · refine Sim.cd (fun hc => ?_) (fun hc => ?_)
    · exact Sim.ret rfl rfl
    · exact Sim.ret rfl rfl
  subst h4
  exact Sim.fin (S0.finN (lv_cons (still_bool _).lv lv_nil)) rfl
end Go.Ev
/- Lifted by lift.py: ctl_values as a plain function. -/
namespace Go.Ev
open Go.Proofs
set_option linter.unusedVariables false
set_option linter.unusedSimpArgs false
set_option maxRecDepth 100000
def p_ctl_values (x0 : T_api_Ctl) : Option (Bool) :=
(p_ctl_has x0.Kind 1).bind fun r7 =>
(bif !r7 then (some true) else ((p_ctl_within x0.Cap 1 1099511627776).bind fun r12 =>
some r12)).bind fun b17 =>
(bif b17 then ((p_ctl_has x0.Kind 3).bind fun r21 =>
(bif !r21 then (some true) else ((p_ctl_within x0.Peer 0 5).bind fun r26 =>
some r26)).bind fun b31 =>
some b31) else (some false)).bind fun b35 =>
(bif b35 then ((p_ctl_has x0.Kind 4).bind fun r39 =>
(bif !r39 then (some true) else ((p_ctl_within x0.Height 1 8192).bind fun r44 =>
some r44)).bind fun b49 =>
some b49) else (some false)).bind fun b53 =>
(bif b53 then ((p_ctl_has x0.Kind 5).bind fun r57 =>
(bif !r57 then (some true) else ((p_ctl_within x0.Class 0 3).bind fun r62 =>
some r62)).bind fun b67 =>
some b67) else (some false)).bind fun b71 =>
(bif b71 then ((p_ctl_has x0.Kind 6).bind fun r75 =>
(bif !r75 then (some true) else ((p_ctl_within x0.Layer 0 2).bind fun r80 =>
some r80)).bind fun b85 =>
some b85) else (some false)).bind fun b89 =>
(bif b89 then ((p_ctl_has x0.Kind 7).bind fun r93 =>
(bif !r93 then (some true) else ((p_ctl_within x0.Code 0 255).bind fun r98 =>
some r98)).bind fun b103 =>
some b103) else (some false)).bind fun b107 =>
some (b107)
theorem ctl_values_ok {h : H} {σ : Stamp} (x0 : T_api_Ctl) {u0 : List V} (hu0 : dT_api_Ctl.R x0 u0) : Sim (p_ctl_values x0) (ev G X0 80 σ [(.agg u0)] h) (fun r s => s = ([.v (.p (.bool r))], h)) := by
  refine Sim.ev rfl (Sim.ext (ctl_values_entry _ _ _ _ _) ?_)
  rw [p_ctl_values]
  obtain ⟨v1, rfl, h2⟩ := dT_api_Ctl.inv hu0
  have S0 : Fm 67 h [] [] [] (List.replicate 67 [] :: h) := Fm.start0
  obtain ⟨H3, e4, S5⟩ := S0.box (own := false) (d := 1) (s := (0 :: 0 :: 0 :: σ)) (xs := [(.p (.int .i64 x0.Kind)), (.p (.int .i64 x0.Cap)), v1, (.p (.int .i64 x0.Peer)), (.p (.int .i64 x0.Height)), (.p (.int .i64 x0.Class)), (.p (.int .i64 x0.Layer)), (.p (.int .i64 x0.Code))]) (stills_cons (still_int _ _) (stills_cons (still_int _ _) (stills_cons h2.still (stills_cons (still_int _ _) (stills_cons (still_int _ _) (stills_cons (still_int _ _) (stills_cons (still_int _ _) (stills_cons (still_int _ _) stills_nil)))))))) (by decide) rfl
  refine Sim.op (e4) ?_
  refine Sim.op (fA_ref _ _ _) ?_
  refine Sim.op ((S5.atG (i := 0) rfl).ld (j := 0) rfl) ?_
  refine Sim.op (castI_p _ _) ?_
  refine Sim.call (ctl_has_ok x0.Kind 1) fun r7 cs8 H9 h10 q11 => ?_
  cases q11
  refine Sim.op (asB_p _) ?_
  refine Sim.ch (P := fun r y => (.p (.bool r), H3) = y) ?_ (fun b17 y18 h19 h20 => ?_)
  · refine Sim.cd (fun hc => ?_) (fun hc => ?_)
    · exact Sim.ret rfl rfl
    · refine Sim.op (fA_ref _ _ _) ?_
      refine Sim.op ((S5.atG (i := 0) rfl).ld (j := 1) rfl) ?_
      refine Sim.op (castI_p _ _) ?_
      refine Sim.call (ctl_within_ok x0.Cap 1 1099511627776) fun r12 cs13 H14 h15 q16 => ?_
      cases q16
      refine Sim.op (asB_p _) ?_
      exact Sim.ret rfl rfl
  subst h20
  refine Sim.op (asB_p _) ?_
  refine Sim.ch (P := fun r y => (.p (.bool r), H3) = y) ?_ (fun b35 y36 h37 h38 => ?_)
  · refine Sim.cd (fun hc => ?_) (fun hc => ?_)
    · refine Sim.op (fA_ref _ _ _) ?_
      refine Sim.op ((S5.atG (i := 0) rfl).ld (j := 0) rfl) ?_
      refine Sim.op (castI_p _ _) ?_
      refine Sim.call (ctl_has_ok x0.Kind 3) fun r21 cs22 H23 h24 q25 => ?_
      cases q25
      refine Sim.op (asB_p _) ?_
      refine Sim.ch (P := fun r y => (.p (.bool r), H3) = y) ?_ (fun b31 y32 h33 h34 => ?_)
      · refine Sim.cd (fun hc => ?_) (fun hc => ?_)
        · exact Sim.ret rfl rfl
        · refine Sim.op (fA_ref _ _ _) ?_
          refine Sim.op ((S5.atG (i := 0) rfl).ld (j := 3) rfl) ?_
          refine Sim.op (castI_p _ _) ?_
          refine Sim.call (ctl_within_ok x0.Peer 0 5) fun r26 cs27 H28 h29 q30 => ?_
          cases q30
          refine Sim.op (asB_p _) ?_
          exact Sim.ret rfl rfl
      subst h34
      refine Sim.op (asB_p _) ?_
      exact Sim.ret rfl rfl
    · exact Sim.ret rfl rfl
  subst h38
  refine Sim.op (asB_p _) ?_
  refine Sim.ch (P := fun r y => (.p (.bool r), H3) = y) ?_ (fun b53 y54 h55 h56 => ?_)
  · refine Sim.cd (fun hc => ?_) (fun hc => ?_)
    · refine Sim.op (fA_ref _ _ _) ?_
      refine Sim.op ((S5.atG (i := 0) rfl).ld (j := 0) rfl) ?_
      refine Sim.op (castI_p _ _) ?_
      refine Sim.call (ctl_has_ok x0.Kind 4) fun r39 cs40 H41 h42 q43 => ?_
      cases q43
      refine Sim.op (asB_p _) ?_
      refine Sim.ch (P := fun r y => (.p (.bool r), H3) = y) ?_ (fun b49 y50 h51 h52 => ?_)
      · refine Sim.cd (fun hc => ?_) (fun hc => ?_)
        · exact Sim.ret rfl rfl
        · refine Sim.op (fA_ref _ _ _) ?_
          refine Sim.op ((S5.atG (i := 0) rfl).ld (j := 4) rfl) ?_
          refine Sim.op (castI_p _ _) ?_
          refine Sim.call (ctl_within_ok x0.Height 1 8192) fun r44 cs45 H46 h47 q48 => ?_
          cases q48
          refine Sim.op (asB_p _) ?_
          exact Sim.ret rfl rfl
      subst h52
      refine Sim.op (asB_p _) ?_
      exact Sim.ret rfl rfl
    · exact Sim.ret rfl rfl
  subst h56
  refine Sim.op (asB_p _) ?_
  refine Sim.ch (P := fun r y => (.p (.bool r), H3) = y) ?_ (fun b71 y72 h73 h74 => ?_)
  · refine Sim.cd (fun hc => ?_) (fun hc => ?_)
    · refine Sim.op (fA_ref _ _ _) ?_
      refine Sim.op ((S5.atG (i := 0) rfl).ld (j := 0) rfl) ?_
      refine Sim.op (castI_p _ _) ?_
      refine Sim.call (ctl_has_ok x0.Kind 5) fun r57 cs58 H59 h60 q61 => ?_
      cases q61
      refine Sim.op (asB_p _) ?_
      refine Sim.ch (P := fun r y => (.p (.bool r), H3) = y) ?_ (fun b67 y68 h69 h70 => ?_)
      · refine Sim.cd (fun hc => ?_) (fun hc => ?_)
        · exact Sim.ret rfl rfl
        · refine Sim.op (fA_ref _ _ _) ?_
          refine Sim.op ((S5.atG (i := 0) rfl).ld (j := 5) rfl) ?_
          refine Sim.op (castI_p _ _) ?_
          refine Sim.call (ctl_within_ok x0.Class 0 3) fun r62 cs63 H64 h65 q66 => ?_
          cases q66
          refine Sim.op (asB_p _) ?_
          exact Sim.ret rfl rfl
      subst h70
      refine Sim.op (asB_p _) ?_
      exact Sim.ret rfl rfl
    · exact Sim.ret rfl rfl
  subst h74
  refine Sim.op (asB_p _) ?_
  refine Sim.ch (P := fun r y => (.p (.bool r), H3) = y) ?_ (fun b89 y90 h91 h92 => ?_)
  · refine Sim.cd (fun hc => ?_) (fun hc => ?_)
    · refine Sim.op (fA_ref _ _ _) ?_
      refine Sim.op ((S5.atG (i := 0) rfl).ld (j := 0) rfl) ?_
      refine Sim.op (castI_p _ _) ?_
      refine Sim.call (ctl_has_ok x0.Kind 6) fun r75 cs76 H77 h78 q79 => ?_
      cases q79
      refine Sim.op (asB_p _) ?_
      refine Sim.ch (P := fun r y => (.p (.bool r), H3) = y) ?_ (fun b85 y86 h87 h88 => ?_)
      · refine Sim.cd (fun hc => ?_) (fun hc => ?_)
        · exact Sim.ret rfl rfl
        · refine Sim.op (fA_ref _ _ _) ?_
          refine Sim.op ((S5.atG (i := 0) rfl).ld (j := 6) rfl) ?_
          refine Sim.op (castI_p _ _) ?_
          refine Sim.call (ctl_within_ok x0.Layer 0 2) fun r80 cs81 H82 h83 q84 => ?_
          cases q84
          refine Sim.op (asB_p _) ?_
          exact Sim.ret rfl rfl
      subst h88
      refine Sim.op (asB_p _) ?_
      exact Sim.ret rfl rfl
    · exact Sim.ret rfl rfl
  subst h92
  refine Sim.op (asB_p _) ?_
  refine Sim.ch (P := fun r y => (.p (.bool r), H3) = y) ?_ (fun b107 y108 h109 h110 => ?_)
  · refine Sim.cd (fun hc => ?_) (fun hc => ?_)
    · refine Sim.op (fA_ref _ _ _) ?_
      refine Sim.op ((S5.atG (i := 0) rfl).ld (j := 0) rfl) ?_
      refine Sim.op (castI_p _ _) ?_
      refine Sim.call (ctl_has_ok x0.Kind 7) fun r93 cs94 H95 h96 q97 => ?_
      cases q97
      refine Sim.op (asB_p _) ?_
      refine Sim.ch (P := fun r y => (.p (.bool r), H3) = y) ?_ (fun b103 y104 h105 h106 => ?_)
      · refine Sim.cd (fun hc => ?_) (fun hc => ?_)
        · exact Sim.ret rfl rfl
        · refine Sim.op (fA_ref _ _ _) ?_
          refine Sim.op ((S5.atG (i := 0) rfl).ld (j := 7) rfl) ?_
          refine Sim.op (castI_p _ _) ?_
          refine Sim.call (ctl_within_ok x0.Code 0 255) fun r98 cs99 H100 h101 q102 => ?_
          cases q102
          refine Sim.op (asB_p _) ?_
          exact Sim.ret rfl rfl
      subst h106
      refine Sim.op (asB_p _) ?_
      exact Sim.ret rfl rfl
    · exact Sim.ret rfl rfl
  subst h110
  refine Sim.op (asB_p _) ?_
  exact Sim.fin (S5.finN (lv_cons (still_bool _).lv lv_nil)) rfl
end Go.Ev
/- Lifted by lift.py: ctl_Right as a plain function. -/
namespace Go.Ev
open Go.Proofs
set_option linter.unusedVariables false
set_option linter.unusedSimpArgs false
set_option maxRecDepth 100000
def p_ctl_Right (k : Nat) (x0 : T_api_Ctl) : Option (Int) :=
(bif decide (x0.Kind < 1) then (some true) else (some (decide (x0.Kind > 10)))).bind fun b7 =>
(bif b7 then (some true) else ((p_ctl_fields k ((⟨x0.Kind, x0.Cap, x0.Layers, x0.Peer, x0.Height, x0.Class, x0.Layer, x0.Code⟩ : T_api_Ctl))).bind fun r11 =>
some (!r11))).bind fun b16 =>
bif b16 then (
some (12))
else (
(p_ctl_values ((⟨x0.Kind, x0.Cap, x0.Layers, x0.Peer, x0.Height, x0.Class, x0.Layer, x0.Code⟩ : T_api_Ctl))).bind fun r20 =>
bif !r20 then (
some (1))
else (
bif x0.Kind == 3 then (
(p_ctl_Layers k x0.Layers).bind fun r25 =>
some (r25))
else (
some (0))))
theorem ctl_Right_ok (k : Nat) {h : H} {σ : Stamp} (x0 : T_api_Ctl) {u0 : List V} (hu0 : dT_api_Ctl.R x0 u0) : Sim (p_ctl_Right k x0) (ev G X0 36 σ [(.agg u0)] h) (fun r s => s = ([.v (.p (.int .i64 r))], h)) := by
  refine Sim.ev rfl (Sim.ext (ctl_Right_entry _ _ _ _ _) ?_)
  rw [p_ctl_Right]
  obtain ⟨v1, rfl, h2⟩ := dT_api_Ctl.inv hu0
  have S0 : Fm 28 h [] [] [] (List.replicate 28 [] :: h) := Fm.start0
  obtain ⟨H3, e4, S5⟩ := S0.box (own := false) (d := 1) (s := (0 :: 0 :: 0 :: σ)) (xs := [(.p (.int .i64 x0.Kind)), (.p (.int .i64 x0.Cap)), v1, (.p (.int .i64 x0.Peer)), (.p (.int .i64 x0.Height)), (.p (.int .i64 x0.Class)), (.p (.int .i64 x0.Layer)), (.p (.int .i64 x0.Code))]) (stills_cons (still_int _ _) (stills_cons (still_int _ _) (stills_cons h2.still (stills_cons (still_int _ _) (stills_cons (still_int _ _) (stills_cons (still_int _ _) (stills_cons (still_int _ _) (stills_cons (still_int _ _) stills_nil)))))))) (by decide) rfl
  refine Sim.op (e4) ?_
  refine Sim.op (fA_ref _ _ _) ?_
  refine Sim.op ((S5.atG (i := 0) rfl).ld (j := 0) rfl) ?_
  refine Sim.op (castI_p _ _) ?_
  refine Sim.ch (P := fun r y => r = y) ?_ (fun b7 y8 h9 h10 => ?_)
  · refine Sim.cd (fun hc => ?_) (fun hc => ?_)
    · exact Sim.ret rfl rfl
    · refine Sim.op (fA_ref _ _ _) ?_
      refine Sim.op ((S5.atG (i := 0) rfl).ld (j := 0) rfl) ?_
      refine Sim.op (castI_p _ _) ?_
      exact Sim.ret rfl rfl
  subst h10
  refine Sim.ch (P := fun r y => (.p (.bool r), H3) = y) ?_ (fun b16 y17 h18 h19 => ?_)
  · refine Sim.cd (fun hc => ?_) (fun hc => ?_)
    · exact Sim.ret rfl rfl
    · refine Sim.op ((S5.atG (i := 0) rfl).ldVs (j := 0) (xs := [.p (.int .i64 x0.Kind), .p (.int .i64 x0.Cap), v1, .p (.int .i64 x0.Peer), .p (.int .i64 x0.Height), .p (.int .i64 x0.Class), .p (.int .i64 x0.Layer), .p (.int .i64 x0.Code)]) rfl rfl (by decide)) ?_
      refine Sim.call (ctl_fields_ok k ((⟨x0.Kind, x0.Cap, x0.Layers, x0.Peer, x0.Height, x0.Class, x0.Layer, x0.Code⟩ : T_api_Ctl)) (show dT_api_Ctl.R ((⟨x0.Kind, x0.Cap, x0.Layers, x0.Peer, x0.Height, x0.Class, x0.Layer, x0.Code⟩ : T_api_Ctl)) [.p (.int .i64 x0.Kind), .p (.int .i64 x0.Cap), v1, .p (.int .i64 x0.Peer), .p (.int .i64 x0.Height), .p (.int .i64 x0.Class), .p (.int .i64 x0.Layer), .p (.int .i64 x0.Code)] from (dT_api_Ctl.mk h2))) fun r11 cs12 H13 h14 q15 => ?_
      cases q15
      refine Sim.op (asB_p _) ?_
      exact Sim.ret rfl rfl
  subst h19
  refine Sim.op (asB_p _) ?_
  refine Sim.cd (fun hc => ?_) (fun hc => ?_)
  · exact Sim.fin (S5.finN (lv_cons (still_int _ _).lv lv_nil)) rfl
  · refine Sim.op ((S5.atG (i := 0) rfl).ldVs (j := 0) (xs := [.p (.int .i64 x0.Kind), .p (.int .i64 x0.Cap), v1, .p (.int .i64 x0.Peer), .p (.int .i64 x0.Height), .p (.int .i64 x0.Class), .p (.int .i64 x0.Layer), .p (.int .i64 x0.Code)]) rfl rfl (by decide)) ?_
    refine Sim.call (ctl_values_ok ((⟨x0.Kind, x0.Cap, x0.Layers, x0.Peer, x0.Height, x0.Class, x0.Layer, x0.Code⟩ : T_api_Ctl)) (show dT_api_Ctl.R ((⟨x0.Kind, x0.Cap, x0.Layers, x0.Peer, x0.Height, x0.Class, x0.Layer, x0.Code⟩ : T_api_Ctl)) [.p (.int .i64 x0.Kind), .p (.int .i64 x0.Cap), v1, .p (.int .i64 x0.Peer), .p (.int .i64 x0.Height), .p (.int .i64 x0.Class), .p (.int .i64 x0.Layer), .p (.int .i64 x0.Code)] from (dT_api_Ctl.mk h2))) fun r20 cs21 H22 h23 q24 => ?_
    cases q24
    refine Sim.op (asB_p _) ?_
    refine Sim.cd (fun hc => ?_) (fun hc => ?_)
    · exact Sim.fin (S5.finN (lv_cons (still_int _ _).lv lv_nil)) rfl
    · refine Sim.op (fA_ref _ _ _) ?_
      refine Sim.op ((S5.atG (i := 0) rfl).ld (j := 0) rfl) ?_
      refine Sim.op (castI_p _ _) ?_
      refine Sim.cd (fun hc => ?_) (fun hc => ?_)
      · refine Sim.op (fA_ref _ _ _) ?_
        refine Sim.op ((S5.atG (i := 0) rfl).ld (j := 2) rfl) ?_
        refine Sim.call (ctl_Layers_ok k x0.Layers (h2.h H3)) fun r25 cs26 H27 h28 q29 => ?_
        cases q29
        refine Sim.op (castI_p _ _) ?_
        exact Sim.fin (S5.finN (lv_cons (still_int _ _).lv lv_nil)) rfl
      · exact Sim.fin (S5.finN (lv_cons (still_int _ _).lv lv_nil)) rfl
end Go.Ev
/- Equations, printed by tracer2.py. -/
namespace Go.Ev
open Go.Proofs
set_option linter.unusedVariables false
set_option maxRecDepth 100000
-- 66 limelight/ctl.field
theorem ctl_field_entry (rec : CallF) (loop : LoopV) (σ : Stamp) (x0 : V) (x1 : Int) (x2 : V) (h : H) : cvBody G rec loop 66 σ [x0, (.p (.int .i64 x1)), x2] h =
 (lenO x2).bind fun t1 =>
 (castI .i64 t1).bind fun n2 =>
 (buildSliceV Try.prog 32 2 [(0, (.p (.int .u8 (IntKind.wrap .u8 x1)))), (1, (.p (.int .u8 (IntKind.wrap .u8 n2))))]).bind fun t3 =>
 (apO true 1 1 (7 :: 0 :: 1 :: 0 :: σ) 14 (List.replicate 17 [] :: h) x0 t3).bind fun q4 =>
 (apO true 1 1 (9 :: 0 :: 1 :: 0 :: σ) 16 q4.2 q4.1 x2).bind fun q5 =>
 fin false σ q5.2 [q5.1] := by kernel_rfl
end Go.Ev
/- Lifted by lift.py: ctl_field as a plain function. -/
namespace Go.Ev
open Go.Proofs
set_option linter.unusedVariables false
set_option linter.unusedSimpArgs false
set_option maxRecDepth 100000
def p_ctl_field (x0 : (List Int)) (x1 : Int) (x2 : (List Int)) : Option ((List Int)) :=
(ap 1 x0 ([(IntKind.wrap .u8 x1), (IntKind.wrap .u8 ((x2.length : Int)))])).bind fun a4 =>
(ap 1 a4 x2).bind fun a13 =>
some (a13)
theorem ctl_field_ok {h : H} {σ : Stamp} (x0 : List Int) {u0 : V} {D0 : List Nat} (hu0 : OwnA D0 h (dI .u8) x0 u0) (x1 : Int) (x2 : List Int) {u2 : V} (hu2 : ∀ h', KillA D0 h h' → SlH h' (dI .u8) x2 u2) : Sim (p_ctl_field x0 x1 x2) (ev G X0 66 σ [u0, (.p (.int .i64 x1)), u2] h) (fun r s => ∃ (c0 : C), ∃ (a0 : List V), OwnS c0 (dI .u8).sz r.length a0 ∧ (dI .u8).L r a0 ∧ KillA D0 h s.2 ∧ s.1 = [c0]) := by
  refine Sim.ev rfl (Sim.ext (ctl_field_entry _ _ _ _ _ _ _) ?_)
  rw [p_ctl_field]
  have S0 : Fm 17 h [] [] [] (List.replicate 17 [] :: h) := Fm.start0
  refine Sim.op ((S0.low (hu2 _ (OwnA.refl hu0))).len) ?_
  refine Sim.op (castI_p _ _) ?_
  have h1 : SlF (dI .u8) [(IntKind.wrap .u8 x1), (IntKind.wrap .u8 ((x2.length : Int)))] (.fz [(.p (.int .u8 (IntKind.wrap .u8 x1))), (.p (.int .u8 (IntKind.wrap .u8 ((x2.length : Int)))))] 2 1 true) := SlF.lit (cs := [(.p (.int .u8 (IntKind.wrap .u8 x1))), (.p (.int .u8 (IntKind.wrap .u8 ((x2.length : Int)))))]) (RL.cons (show (dI .u8).R (IntKind.wrap .u8 x1) [(.p (.int .u8 (IntKind.wrap .u8 x1)))] from rfl) (RL.cons (show (dI .u8).R (IntKind.wrap .u8 ((x2.length : Int))) [(.p (.int .u8 (IntKind.wrap .u8 ((x2.length : Int)))))] from rfl) RL.nil)) rfl rfl true
  refine Sim.op (bldS (pt_cons rfl (pt_cons rfl pt_nil)) (by kernel_rfl : _ = some (.fz [(.p (.int .u8 (IntKind.wrap .u8 x1))), (.p (.int .u8 (IntKind.wrap .u8 ((x2.length : Int)))))] 2 1 true))) ?_
  refine Sim.bd fun a4 h5 => ?_
  obtain ⟨v6, h7, H9, e10, h8, S11⟩ := S0.appA (d := 14) (e := 1) (own := true) (σ := (7 :: 0 :: 1 :: 0 :: σ)) hu0 (h1.h (List.replicate 17 [] :: h)).y h5 rfl (by decide) (by simp) (by decide)
  refine Sim.op (e10) ?_
  refine Sim.bd fun a13 h14 => ?_
  obtain ⟨v15, H16, e17, S18⟩ := S11.app (i := 0) (d := 16) (e := 1) (own := true) (σ := (9 :: 0 :: 1 :: 0 :: σ)) rfl (S11.low (hu2 _ h8)).y h14 rfl (by decide) (by decide) rfl
  refine Sim.op (e17) ?_
  obtain ⟨c24, cs25, H19, e20, h22, h23, S21⟩ := S18.expOwn (i := 0) (τ := 0 :: 1 :: σ) rfl rfl rfl
  exact Sim.fin (S21.finE (Ex.st e20 Ex.nil)) ⟨c24, cs25, h22, h23, h8, rfl⟩
end Go.Ev
/- Equations, printed by tracer2.py. -/
namespace Go.Ev
open Go.Proofs
set_option linter.unusedVariables false
set_option maxRecDepth 100000
-- 67 limelight/octet.Put
noncomputable def octet_Put_c0 : Code := (codeAt (bodyOf Try.f67) [1, 1, 1, 0, 1, 0, 0])
def octet_Put_l0 : Lv := ⟨128, 64, [(0, 128)]⟩
noncomputable def octet_Put_k0 (rec : CallF) (loop : LoopV) (σ : Stamp) : Exit → Env → H → Option (List C × H) := (kBlock 0 (kSeq G rec loop (codeAt (bodyOf Try.f67) [1, 1, 1, 1]) ⟨64, 64, []⟩ (1 :: 1 :: 1 :: 0 :: σ) (finC G false Try.f67 (1 :: σ))))
theorem octet_Put_entry (rec : CallF) (loop : LoopV) (σ : Stamp) (x0 : V) (x1 : Int) (x2 : Int) (h : H) : cvBody G rec loop 67 σ [x0, (.p (.int .u64 x1)), (.p (.int .i64 x2))] h =
 (callO rec 63 (1 :: 0 :: 1 :: 0 :: σ) [x0] (List.replicate 34 [] :: h) (some 10)).bind fun q1 =>
 (bif decide (x2 < 1) then (some true) else (some (decide (x2 > 8)))).bind fun b2 =>
 bif b2 then (
 fin false σ q1.2 [q1.1])
 else (
 (loop octet_Put_c0 octet_Put_l0 (1 :: 0 :: 1 :: 1 :: 1 :: 0 :: σ) (envL [(1, (.p (.int .u64 x1))), (7, q1.1), (8, (.p (.int .i64 (IntKind.wrap .i64 (x2 - 1)))))]) q1.2).bind fun r3 => octet_Put_k0 rec loop σ r3.1 r3.2.1 r3.2.2) := by kernel_rfl
theorem octet_Put_r0 (rec : CallF) (loop : LoopV) (σ : Stamp) (x1 : Int) (x7 : V) (x8 : Int) (h : H) : cvRound G rec loop octet_Put_c0 octet_Put_l0 σ (envL [(1, (.p (.int .u64 x1))), (7, x7), (8, (.p (.int .i64 x8)))]) h =
 bif decide (x8 ≥ 0) then (
 (shiftV .shr .u64 x1 (IntKind.wrap .i64 (x8 * 8))).bind fun t4 =>
 (castI .u64 t4).bind fun n5 =>
 (buildSliceV Try.prog 32 1 [(0, (.p (.int .u8 (IntKind.wrap .u8 n5))))]).bind fun t6 =>
 (apO true 1 1 (7 :: 0 :: 1 :: 0 :: σ) 31 h x7 t6).bind fun q7 =>
 loop octet_Put_c0 octet_Put_l0 (1 :: σ) (envL [(1, (.p (.int .u64 x1))), (7, q7.1), (8, (.p (.int .i64 (IntKind.wrap .i64 (x8 - 1)))))]) q7.2)
 else (
 some ((.exit 0), (envL [(7, x7)]), h)) := by kernel_rfl
theorem octet_Put_a0_0 (rec : CallF) (loop : LoopV) (σ : Stamp) (x7 : V) (h : H) : octet_Put_k0 rec loop σ (.exit 0) (envL [(7, x7)]) h =
 (callO rec 102 (1 :: 0 :: 1 :: 1 :: 1 :: 1 :: 0 :: σ) [x7] h (some 33)).bind fun q8 =>
 fin false σ q8.2 [q8.1] := by kernel_rfl
end Go.Ev
/- Equations, printed by tracer2.py. -/
namespace Go.Ev
open Go.Proofs
set_option linter.unusedVariables false
set_option maxRecDepth 100000
-- 102 slices.Clip[[]byte,byte]
theorem slices_Clip_Lbyte_byte_entry (rec : CallF) (loop : LoopV) (σ : Stamp) (x0 : V) (h : H) : cvBody G rec loop 102 σ [x0] h =
 (lenO x0).bind fun t1 =>
 (castI .i64 t1).bind fun n2 =>
 (lenO x0).bind fun t3 =>
 (castI .i64 t3).bind fun n4 =>
 (slS 1 x0 none (some n2) (some n4)).bind fun t5 =>
 fin false σ (List.replicate 9 [] :: h) [t5] := by kernel_rfl
end Go.Ev
/- Equations, printed by tracer2.py. -/
namespace Go.Ev
open Go.Proofs
set_option linter.unusedVariables false
set_option maxRecDepth 100000
-- 63 slices.Clone[[]byte,byte]
theorem slices_Clone_Lbyte_byte_entry (rec : CallF) (loop : LoopV) (σ : Stamp) (x0 : V) (h : H) : cvBody G rec loop 63 σ [x0] h =
 (binV Try.prog (List.replicate 8 [] :: h) .eql 32 x0 (.p (.slice .none 0 0))).bind fun t1 =>
 (asB t1).bind fun b2 =>
 bif b2 then (
 fin false σ (List.replicate 8 [] :: h) [(.p (.slice .none 0 0))])
 else (
 (buildSliceV Try.prog 32 0 []).bind fun t3 =>
 (apO true 1 1 (2 :: 0 :: 1 :: 1 :: 0 :: σ) 7 (List.replicate 8 [] :: h) t3 x0).bind fun q4 =>
 fin false σ q4.2 [q4.1]) := by kernel_rfl
end Go.Ev
/- Lifted by lift.py: octet_Put as a plain function. -/
namespace Go.Ev
open Go.Proofs
set_option linter.unusedVariables false
set_option linter.unusedSimpArgs false
set_option maxRecDepth 100000
def p_octet_Put_l0 {β : Type} (k : Nat) (kE0 : (List Int) → Option β) (x1 : Int) (x7 : (List Int)) (x8 : Int) : Option β := match k with
| 0 => none
| k + 1 =>
bif decide (x8 ≥ 0) then (
(shP .shr .u64 x1 (IntKind.wrap .i64 (x8 * 8))).bind fun n30 =>
(ap 1 x7 ([(IntKind.wrap .u8 n30)])).bind fun a33 =>
p_octet_Put_l0 k kE0 x1 a33 (IntKind.wrap .i64 (x8 - 1)))
else (
kE0 x7)
def p_octet_Put (k : Nat) (x0 : (List Int)) (x1 : Int) (x2 : Int) : Option ((List Int)) :=
(p_clone 1 x0).bind fun r1 =>
(bif decide (x2 < 1) then (some true) else (some (decide (x2 > 8)))).bind fun b15 =>
bif b15 then (
some (r1))
else (
p_octet_Put_l0 k (fun r43_7 =>
some (r43_7)) x1 r1 (IntKind.wrap .i64 (x2 - 1)))
theorem octet_Put_l0_ok {h : H}  {β α : Type} {Q : β → α → Prop} {K : Exit × Env × H → Option α} {kE0 : (List Int) → Option β} (hE0 : ∀ (q7 : (List Int)) (v41 : V) (H39 : Go.Ev.H) (_ : Fm 34 h [] [] [⟨[10, 31], v41, (dI .u8), q7⟩] H39), Sim (kE0 q7) (K ((.exit 0), (envL [(7, v41)]), H39)) Q) (k : Nat) : ∀ (x1 : Int) (x7 : (List Int)) (x8 : Int) (v28 : V) (H26 : Go.Ev.H) (_ : Fm 34 h [] [] [⟨[10, 31], v28, (dI .u8), x7⟩] H26) {σ : Stamp}, Sim (p_octet_Put_l0 k kE0 x1 x7 x8) ((cvL G X0 octet_Put_c0 octet_Put_l0 σ (envL [(1, (.p (.int .u64 x1))), (7, v28), (8, (.p (.int .i64 x8)))]) H26).bind K) Q := by
  induction k with
  | zero => intros; exact Sim.no
  | succ k ih =>
    intro x1 x7 x8 v28 H26 S27 σ
    rw [p_octet_Put_l0]
    refine Sim.round (Sim.ext (octet_Put_r0 _ _ _ _ _ _ _) ?_)
    refine Sim.cd (fun hc => ?_) (fun hc => ?_)
    · refine Sim.bd fun n30 h31 => ?_
      refine Sim.op (shP_ok h31) ?_
      refine Sim.op (castI_p _ _) ?_
      have h32 : SlF (dI .u8) [(IntKind.wrap .u8 n30)] (.fz [(.p (.int .u8 (IntKind.wrap .u8 n30)))] 1 1 true) := SlF.lit (cs := [(.p (.int .u8 (IntKind.wrap .u8 n30)))]) (RL.cons (show (dI .u8).R (IntKind.wrap .u8 n30) [(.p (.int .u8 (IntKind.wrap .u8 n30)))] from rfl) RL.nil) rfl rfl true
      refine Sim.op (bldS (pt_cons rfl pt_nil) (by kernel_rfl : _ = some (.fz [(.p (.int .u8 (IntKind.wrap .u8 n30)))] 1 1 true))) ?_
      refine Sim.bd fun a33 h34 => ?_
      obtain ⟨v35, H36, e37, S38⟩ := S27.app (i := 0) (d := 31) (e := 1) (own := true) (σ := (7 :: 0 :: 1 :: 0 :: σ)) rfl (h32.h H26).y h34 rfl (by decide) (by decide) rfl
      refine Sim.op (e37) ?_
      exact ih x1 a33 (IntKind.wrap .i64 (x8 - 1)) v35 H36 (S38.wk2 all_nil (all_cons ⟨[31, 10, 31], by simp, at_mem 0 rfl⟩ all_nil))
    · exact hE0 x7 v28 H26 (S27.wk2 all_nil (all_cons ⟨[10, 31], by simp, at_mem 0 rfl⟩ all_nil))
theorem octet_Put_ok (k : Nat) {h : H} {σ : Stamp} (x0 : List Int) {u0 : V} (hu0 : SlH h (dI .u8) x0 u0) (x1 : Int) (x2 : Int) : Sim (p_octet_Put k x0 x1 x2) (ev G X0 67 σ [u0, (.p (.int .u64 x1)), (.p (.int .i64 x2))] h) (fun r s => ∃ (c0 : C), ∃ (a0 : List V), OwnS c0 (dI .u8).sz r.length a0 ∧ (dI .u8).L r a0 ∧ s = ([c0], h)) := by
  refine Sim.ev rfl (Sim.ext (octet_Put_entry _ _ _ _ _ _ _) ?_)
  rw [p_octet_Put]
  have S0 : Fm 34 h [] [] [] (List.replicate 34 [] :: h) := Fm.start0
  refine Sim.call (clone_ok (b := 1) (f := 63) (tt := 5) (e := 1) (τ := fun σ => _ :: _ :: _ :: _ :: _ :: σ) (fun x h => slices_Clone_Lbyte_byte_entry _ _ _ x h) (S0.low hu0) rfl (by decide) (by decide) (by decide) (by kernel_rfl) (by kernel_rfl) rfl) fun r1 cs2 H3 h4 q5 => ?_
  obtain ⟨c6, cs7, h8, h9, q5⟩ := q5
  cases q5
  obtain ⟨v10, H11, e12, S13⟩ := S0.land (dt := (dI .u8)) (d := 10) (e := 0) (n := 0) h8 h9 (by decide) rfl
  erw [e12]
  refine Sim.ch (P := fun r y => r = y) ?_ (fun b15 y16 h17 h18 => ?_)
  · refine Sim.cd (fun hc => ?_) (fun hc => ?_)
    · exact Sim.ret rfl rfl
    · exact Sim.ret rfl rfl
  subst h18
  refine Sim.cd (fun hc => ?_) (fun hc => ?_)
  · obtain ⟨c24, cs25, H19, e20, h22, h23, S21⟩ := S13.expOwn (i := 0) (τ := 0 :: 1 :: σ) rfl rfl rfl
    exact Sim.fin (S21.finE (Ex.st e20 Ex.nil)) ⟨c24, cs25, h22, h23, rfl⟩
  · refine Sim.as (octet_Put_l0_ok ?_ k x1 r1 (IntKind.wrap .i64 (x2 - 1)) v10 H11 (S13.wk2 all_nil (all_cons ⟨[10], by simp, at_mem 0 rfl⟩ all_nil))) 
    · intro r43_7 v46 H44 S45
      refine Sim.ext (octet_Put_a0_0 _ _ _ _ _) ?_
      obtain ⟨v48, e49, S50⟩ := clip_D (G := G) (X := X0) (i := 0) (f := 102) (fun x h => slices_Clip_Lbyte_byte_entry _ _ _ x h) S45 rfl rfl rfl
      refine Sim.op (e49) ?_
      obtain ⟨c56, cs57, H51, e52, h54, h55, S53⟩ := S50.expOwn (i := 0) (τ := 0 :: 1 :: σ) rfl rfl rfl
      exact Sim.fin (S53.finE (Ex.st e52 Ex.nil)) ⟨c56, cs57, h54, h55, rfl⟩
end Go.Ev
/- Equations, printed by tracer2.py. -/
namespace Go.Ev
open Go.Proofs
set_option linter.unusedVariables false
set_option maxRecDepth 100000
-- 69 slices.Concat[[]byte,byte]
noncomputable def slices_Concat_Lbyte_byte_c0 : Code := (codeAt (bodyOf Try.f69) [1, 1, 0, 1, 0, 0])
def slices_Concat_Lbyte_byte_l0 : Lv := ⟨9, 4, [(0, 9)]⟩
noncomputable def slices_Concat_Lbyte_byte_k0 (rec : CallF) (loop : LoopV) (σ : Stamp) : Exit → Env → H → Option (List C × H) := (kBlock 0 (kSeq G rec loop (codeAt (bodyOf Try.f69) [1, 1, 1]) ⟨4, 4, []⟩ (1 :: 1 :: 0 :: σ) (finC G false Try.f69 (1 :: σ))))
noncomputable def slices_Concat_Lbyte_byte_c1 : Code := (codeAt (bodyOf Try.f69) [1, 1, 1, 1, 0, 1, 0, 0])
def slices_Concat_Lbyte_byte_l1 : Lv := ⟨64, 4, [(2, 64)]⟩
noncomputable def slices_Concat_Lbyte_byte_k1 (rec : CallF) (loop : LoopV) (σ : Stamp) : Exit → Env → H → Option (List C × H) := (kBlock 2 (kSeq G rec loop (codeAt (bodyOf Try.f69) [1, 1, 1, 1, 1]) ⟨4, 4, []⟩ (1 :: 1 :: 1 :: 1 :: 0 :: σ) (finC G false Try.f69 (1 :: σ))))
theorem slices_Concat_Lbyte_byte_entry (rec : CallF) (loop : LoopV) (σ : Stamp) (x0 : V) (h : H) : cvBody G rec loop 69 σ [x0] h =
 (lenO x0).bind fun t1 =>
 (castI .i64 t1).bind fun n2 =>
 (loop slices_Concat_Lbyte_byte_c0 slices_Concat_Lbyte_byte_l0 (1 :: 0 :: 1 :: 1 :: 0 :: σ) (envL [(0, x0), (3, (.p (.int .i64 0))), (9, x0), (10, (.p (.int .i64 n2))), (11, (.p (.int .i64 0)))]) (List.replicate 36 [] :: h)).bind fun r3 => slices_Concat_Lbyte_byte_k0 rec loop σ r3.1 r3.2.1 r3.2.2 := by kernel_rfl
theorem slices_Concat_Lbyte_byte_r0 (rec : CallF) (loop : LoopV) (σ : Stamp) (x0 : V) (x3 : Int) (x9 : V) (x10 : Int) (x11 : Int) (h : H) : cvRound G rec loop slices_Concat_Lbyte_byte_c0 slices_Concat_Lbyte_byte_l0 σ (envL [(0, x0), (3, (.p (.int .i64 x3))), (9, x9), (10, (.p (.int .i64 x10))), (11, (.p (.int .i64 x11)))]) h =
 bif decide (x11 < x10) then (
 (iS 1 x9 x11).bind fun t4 =>
 (ldO false 1 h t4).bind fun t5 =>
 (lenO t5).bind fun t6 =>
 (castI .i64 t6).bind fun n7 =>
 bif decide ((IntKind.wrap .i64 (x3 + n7)) < 0) then (
 none)
 else (
 loop slices_Concat_Lbyte_byte_c0 slices_Concat_Lbyte_byte_l0 (1 :: σ) (envL [(0, x0), (3, (.p (.int .i64 (IntKind.wrap .i64 (x3 + n7))))), (9, x9), (10, (.p (.int .i64 x10))), (11, (.p (.int .i64 (IntKind.wrap .i64 (x11 + 1)))))]) h))
 else (
 some ((.exit 0), (envL [(0, x0), (3, (.p (.int .i64 x3)))]), h)) := by kernel_rfl
theorem slices_Concat_Lbyte_byte_a0_0 (rec : CallF) (loop : LoopV) (σ : Stamp) (x0 : V) (x3 : Int) (h : H) : slices_Concat_Lbyte_byte_k0 rec loop σ (.exit 0) (envL [(0, x0), (3, (.p (.int .i64 x3)))]) h =
 (callO rec 106 (1 :: 0 :: 1 :: 1 :: 1 :: 0 :: σ) [(.p (.slice .none 0 0)), (.p (.int .i64 x3))] h (some 24)).bind fun q8 =>
 (lenO x0).bind fun t9 =>
 (castI .i64 t9).bind fun n10 =>
 (loop slices_Concat_Lbyte_byte_c1 slices_Concat_Lbyte_byte_l1 (1 :: 0 :: 1 :: 1 :: 1 :: 1 :: 0 :: σ) (envL [(6, q8.1), (25, x0), (26, (.p (.int .i64 n10))), (27, (.p (.int .i64 0)))]) q8.2).bind fun r11 => slices_Concat_Lbyte_byte_k1 rec loop σ r11.1 r11.2.1 r11.2.2 := by kernel_rfl
theorem slices_Concat_Lbyte_byte_r1 (rec : CallF) (loop : LoopV) (σ : Stamp) (x6 : V) (x25 : V) (x26 : Int) (x27 : Int) (h : H) : cvRound G rec loop slices_Concat_Lbyte_byte_c1 slices_Concat_Lbyte_byte_l1 σ (envL [(6, x6), (25, x25), (26, (.p (.int .i64 x26))), (27, (.p (.int .i64 x27)))]) h =
 bif decide (x27 < x26) then (
 (iS 1 x25 x27).bind fun t12 =>
 (ldO false 1 h t12).bind fun t13 =>
 (apO true 1 1 (2 :: 1 :: 0 :: 1 :: 1 :: 0 :: σ) 33 h x6 t13).bind fun q14 =>
 loop slices_Concat_Lbyte_byte_c1 slices_Concat_Lbyte_byte_l1 (1 :: σ) (envL [(6, q14.1), (25, x25), (26, (.p (.int .i64 x26))), (27, (.p (.int .i64 (IntKind.wrap .i64 (x27 + 1)))))]) q14.2)
 else (
 some ((.exit 2), (envL [(6, x6)]), h)) := by kernel_rfl
theorem slices_Concat_Lbyte_byte_a1_2 (rec : CallF) (loop : LoopV) (σ : Stamp) (x6 : V) (h : H) : slices_Concat_Lbyte_byte_k1 rec loop σ (.exit 2) (envL [(6, x6)]) h =
 fin false σ h [x6] := by kernel_rfl
end Go.Ev
/- Equations, printed by tracer2.py. -/
namespace Go.Ev
open Go.Proofs
set_option linter.unusedVariables false
set_option maxRecDepth 100000
-- 106 slices.Grow[[]byte,byte]
theorem slices_Grow_Lbyte_byte_entry (rec : CallF) (loop : LoopV) (σ : Stamp) (x0 : V) (x1 : Int) (h : H) : cvBody G rec loop 106 σ [x0, (.p (.int .i64 x1))] h =
 bif decide (x1 < 0) then (
 none)
 else (
 (capO x0).bind fun t1 =>
 (castI .i64 t1).bind fun n2 =>
 (lenO x0).bind fun t3 =>
 (castI .i64 t3).bind fun n4 =>
 bif decide ((IntKind.wrap .i64 (x1 - (IntKind.wrap .i64 (n2 - n4)))) > 0) then (
 (capO x0).bind fun t5 =>
 (castI .i64 t5).bind fun n6 =>
 (slS 1 x0 none (some n6) none).bind fun t7 =>
 (apZ true 1 1 (5 :: 1 :: 1 :: 0 :: 1 :: 1 :: 0 :: σ) 22 (List.replicate 27 [] :: h) t7 (IntKind.wrap .i64 (x1 - (IntKind.wrap .i64 (n2 - n4))))).bind fun q8 =>
 (lenO x0).bind fun t9 =>
 (castI .i64 t9).bind fun n10 =>
 (slS 1 q8.1 none (some n10) none).bind fun t11 =>
 fin false σ q8.2 [t11])
 else (
 fin false σ (List.replicate 27 [] :: h) [x0])) := by kernel_rfl
end Go.Ev
namespace Go.Ev
open Go.Proofs
def p_slices_Grow_Lbyte_byte (x1 : Int) : Option (List Int) := if 0 ≤ x1 ∧ x1 < 2 ^ 40 then some [] else none
theorem slices_Grow_Lbyte_byte_ok {h : H} {σ : Stamp} (x1 : Int) : Sim (p_slices_Grow_Lbyte_byte x1) (ev G X0 106 σ [(.p (.slice none 0 0)), (.p (.int .i64 x1))] h) (fun r s => ∃ (c : C) (a : List V), OwnS c (dI .u8).sz r.length a ∧ (dI .u8).L r a ∧ s = ([c], h)) := by
  refine Sim.ev rfl (Sim.ext (slices_Grow_Lbyte_byte_entry _ _ _ _ _ _) ?_)
  intro r hr
  unfold p_slices_Grow_Lbyte_byte at hr
  split at hr
  · rename_i h0
    cases hr
    have w1 : IntKind.wrap .i64 (x1 - IntKind.wrap .i64 (0 - 0)) = x1 := by
      rw [show IntKind.wrap .i64 ((0 : Int) - 0) = 0 from rfl, Int.sub_zero]
      exact wrap64 (by omega) (by omega)
    have d0 : decide (x1 < 0) = false := decide_eq_false (by omega)
    have c0 : capO (.p (.slice none 0 0)) = some (.p (.int .i64 0)) := rfl
    have l0 : lenO (.p (.slice none 0 0)) = some (.p (.int .i64 0)) := rfl
    have k0 : castI .i64 (.p (.int .i64 0)) = some 0 := rfl
    simp only [d0, cond_false, c0, l0, k0, Option.bind_some, w1]
    by_cases hp : x1 > 0
    · have d1 : decide (x1 > 0) = true := decide_eq_true hp
      have s0 : slS 1 (.p (.slice none 0 0)) none (some 0) none = some (.p (.slice none 0 0)) := rfl
      have S : Fm 27 h [] [] [⟨[], .p (.slice none 0 0), dI .u8, ([] : List Int)⟩] (List.replicate 27 [] :: h) := Fm.nil (Fm.start0 : Fm 27 h [] [] [] _) (dI .u8) []
      have hz : zB x1 = some (List.replicate x1.toNat 0) := if_pos h0
      have ha : ap 1 ([] : List Int) (List.replicate x1.toNat 0) = some (List.replicate x1.toNat 0) := by
        unfold ap
        rw [if_pos ⟨by simp; omega, by simp; omega⟩, List.nil_append]
      obtain ⟨v, H', e, S'⟩ := S.appZ (i := 0) (d := 22) (own := true) (σ := 5 :: 1 :: 1 :: 0 :: 1 :: 1 :: 0 :: σ) rfl hz ha (by decide) rfl
      obtain ⟨L, rfl, h2, h3, h4, h5⟩ := S'
      obtain ⟨cs, q1, q2⟩ := h5 _ (List.mem_cons_self ..)
      simp only at q2
      simp only [d1, cond_true, s0, Option.bind_some, e]
      rcases q2 with ⟨e1, _, _⟩ | ⟨e1, d', hd', s, tl, rfl, hL⟩ | ⟨_, _, _, d', hd', e4⟩
      · exfalso
        simp only [List.length_replicate] at e1
        omega
      · simp only [List.mem_cons, List.not_mem_nil, or_false] at hd'
        subst hd'
        have hs : slS 1 (.sl ⟨h.length, 22, 0, s, []⟩ 0 (List.replicate x1.toNat (0 : Int)).length (List.replicate x1.toNat (0 : Int)).length 1) none (some 0) none = some (.sl ⟨h.length, 22, 0, s, []⟩ 0 0 (List.replicate x1.toNat (0 : Int)).length 1) := by simp [slS, bI]
        have hsz : (dI IntKind.u8).sz = 1 := rfl
        rw [hsz] at hL ⊢
        rw [hs]
        have hat : at_ (L :: h) ⟨h.length, 22, 0, s, []⟩ = some (.arr s (List.replicate x1.toNat (0 : Int)).length 1 (cs.map .v)) := by simp [at_, rootC, hL, find, C.node]
        refine ⟨([.arr s 0 1 []], h), ?_, .arr s 0 1 [], [], ⟨by simp, .inr ⟨s, rfl⟩⟩, rfl, rfl⟩
        simp [fin, expCs, expF, expC, top, pts, hat, rng, setAt_root hL]
      · simp only [List.mem_cons, List.not_mem_nil, or_false] at hd'
        omega
    · have d1 : decide (x1 > 0) = false := decide_eq_false hp
      simp only [d1, cond_false]
      refine ⟨_, by rw [fin_1 still_nilS]; rfl, .v (.p (.slice none 0 0)), [], ⟨by simp, .inl ⟨rfl, rfl, .inl rfl⟩⟩, rfl, rfl⟩
  · cases hr
end Go.Ev
/- Lifted by lift.py: slices_Concat_Lbyte_byte as a plain function. -/
namespace Go.Ev
open Go.Proofs
set_option linter.unusedVariables false
set_option linter.unusedSimpArgs false
set_option maxRecDepth 100000
def p_slices_Concat_Lbyte_byte_l0 {β : Type} (k : Nat) (kE0 : (List (List Int)) → Int → Option β) (x0 : (List (List Int))) (x3 : Int) (x9 : (List (List Int))) (x10 : Int) (x11 : Int) : Option β := match k with
| 0 => none
| k + 1 =>
bif decide (x11 < x10) then (
(ix x9 x11).bind fun a7 =>
bif decide ((IntKind.wrap .i64 (x3 + ((a7.length : Int)))) < 0) then (
none)
else (
p_slices_Concat_Lbyte_byte_l0 k kE0 x0 (IntKind.wrap .i64 (x3 + ((a7.length : Int)))) x9 x10 (IntKind.wrap .i64 (x11 + 1))))
else (
kE0 x0 x3)
def p_slices_Concat_Lbyte_byte_l1 {β : Type} (k : Nat) (kE0 : (List Int) → Option β) (x6 : (List Int)) (x25 : (List (List Int))) (x26 : Int) (x27 : Int) : Option β := match k with
| 0 => none
| k + 1 =>
bif decide (x27 < x26) then (
(ix x25 x27).bind fun a41 =>
(ap 1 x6 a41).bind fun a46 =>
p_slices_Concat_Lbyte_byte_l1 k kE0 a46 x25 x26 (IntKind.wrap .i64 (x27 + 1)))
else (
kE0 x6)
def p_slices_Concat_Lbyte_byte (k : Nat) (x0 : (List (List Int))) : Option ((List Int)) :=
p_slices_Concat_Lbyte_byte_l0 k (fun r16_0 r16_3 =>
(p_slices_Grow_Lbyte_byte r16_3).bind fun r21 =>
p_slices_Concat_Lbyte_byte_l1 k (fun r56_6 =>
some (r56_6)) r21 r16_0 ((r16_0.length : Int)) 0) x0 0 x0 ((x0.length : Int)) 0
theorem slices_Concat_Lbyte_byte_l0_ok {h : H}  {β α : Type} {Q : β → α → Prop} {K : Exit × Env × H → Option α} {kE0 : (List (List Int)) → Int → Option β} (hE0 : ∀ (q0 : (List (List Int))) (q3 : Int) (v14 : V) (h15 : SlH h (dSl (dI .u8)) q0 v14) (H12 : Go.Ev.H) (_ : Fm 36 h [] [] [] H12), Sim (kE0 q0 q3) (K ((.exit 0), (envL [(0, v14), (3, (.p (.int .i64 q3)))]), H12)) Q) (k : Nat) : ∀ (x0 : (List (List Int))) (x3 : Int) (x9 : (List (List Int))) (x10 : Int) (x11 : Int) (v3 : V) (h4 : SlH h (dSl (dI .u8)) x0 v3) (v5 : V) (h6 : SlH h (dSl (dI .u8)) x9 v5) (H1 : Go.Ev.H) (_ : Fm 36 h [] [] [] H1) {σ : Stamp}, Sim (p_slices_Concat_Lbyte_byte_l0 k kE0 x0 x3 x9 x10 x11) ((cvL G X0 slices_Concat_Lbyte_byte_c0 slices_Concat_Lbyte_byte_l0 σ (envL [(0, v3), (3, (.p (.int .i64 x3))), (9, v5), (10, (.p (.int .i64 x10))), (11, (.p (.int .i64 x11)))]) H1).bind K) Q := by
  induction k with
  | zero => intros; exact Sim.no
  | succ k ih =>
    intro x0 x3 x9 x10 x11 v3 h4 v5 h6 H1 S2 σ
    rw [p_slices_Concat_Lbyte_byte_l0]
    refine Sim.round (Sim.ext (slices_Concat_Lbyte_byte_r0 _ _ _ _ _ _ _ _ _) ?_)
    refine Sim.cd (fun hc => ?_) (fun hc => ?_)
    · refine Sim.bd fun a7 h8 => ?_
      refine Sim.op ((S2.low h6).iS h8 rfl) ?_
      obtain ⟨_, ⟨v10, rfl, h11⟩, hE9⟩ := (S2.low h6).el h8 rfl
      refine Sim.op (hE9.ld (j := 0) rfl) ?_
      refine Sim.op ((h11.h H1).len) ?_
      refine Sim.op (castI_p _ _) ?_
      refine Sim.cd (fun hc => ?_) (fun hc => ?_)
      · exact Sim.no
      · exact ih x0 (IntKind.wrap .i64 (x3 + ((a7.length : Int)))) x9 x10 (IntKind.wrap .i64 (x11 + 1)) v3 h4 v5 h6 H1 (S2.wk2 all_nil all_nil)
    · exact hE0 x0 x3 v3 h4 H1 (S2.wk2 all_nil all_nil)
theorem slices_Concat_Lbyte_byte_l1_ok {h : H}  {β α : Type} {Q : β → α → Prop} {K : Exit × Env × H → Option α} {kE0 : (List Int) → Option β} (hE0 : ∀ (q6 : (List Int)) (v54 : V) (H52 : Go.Ev.H) (_ : Fm 36 h [] [] [⟨[24, 33], v54, (dI .u8), q6⟩] H52), Sim (kE0 q6) (K ((.exit 2), (envL [(6, v54)]), H52)) Q) (k : Nat) : ∀ (x6 : (List Int)) (x25 : (List (List Int))) (x26 : Int) (x27 : Int) (v37 : V) (v39 : V) (h40 : SlH h (dSl (dI .u8)) x25 v39) (H35 : Go.Ev.H) (_ : Fm 36 h [] [] [⟨[24, 33], v37, (dI .u8), x6⟩] H35) {σ : Stamp}, Sim (p_slices_Concat_Lbyte_byte_l1 k kE0 x6 x25 x26 x27) ((cvL G X0 slices_Concat_Lbyte_byte_c1 slices_Concat_Lbyte_byte_l1 σ (envL [(6, v37), (25, v39), (26, (.p (.int .i64 x26))), (27, (.p (.int .i64 x27)))]) H35).bind K) Q := by
  induction k with
  | zero => intros; exact Sim.no
  | succ k ih =>
    intro x6 x25 x26 x27 v37 v39 h40 H35 S36 σ
    rw [p_slices_Concat_Lbyte_byte_l1]
    refine Sim.round (Sim.ext (slices_Concat_Lbyte_byte_r1 _ _ _ _ _ _ _ _) ?_)
    refine Sim.cd (fun hc => ?_) (fun hc => ?_)
    · refine Sim.bd fun a41 h42 => ?_
      refine Sim.op ((S36.low h40).iS h42 rfl) ?_
      obtain ⟨_, ⟨v44, rfl, h45⟩, hE43⟩ := (S36.low h40).el h42 rfl
      refine Sim.op (hE43.ld (j := 0) rfl) ?_
      refine Sim.bd fun a46 h47 => ?_
      obtain ⟨v48, H49, e50, S51⟩ := S36.app (i := 0) (d := 33) (e := 1) (own := true) (σ := (2 :: 1 :: 0 :: 1 :: 1 :: 0 :: σ)) rfl (h45.h H35).y h47 rfl (by decide) (by decide) rfl
      refine Sim.op (e50) ?_
      exact ih a46 x25 x26 (IntKind.wrap .i64 (x27 + 1)) v48 v39 h40 H49 (S51.wk2 all_nil (all_cons ⟨[33, 24, 33], by simp, at_mem 0 rfl⟩ all_nil))
    · exact hE0 x6 v37 H35 (S36.wk2 all_nil (all_cons ⟨[24, 33], by simp, at_mem 0 rfl⟩ all_nil))
theorem slices_Concat_Lbyte_byte_ok (k : Nat) {h : H} {σ : Stamp} (x0 : List (List Int)) {u0 : V} (hu0 : SlH h (dSl (dI .u8)) x0 u0) : Sim (p_slices_Concat_Lbyte_byte k x0) (ev G X0 69 σ [u0] h) (fun r s => ∃ (c0 : C), ∃ (a0 : List V), OwnS c0 (dI .u8).sz r.length a0 ∧ (dI .u8).L r a0 ∧ s = ([c0], h)) := by
  refine Sim.ev rfl (Sim.ext (slices_Concat_Lbyte_byte_entry _ _ _ _ _) ?_)
  rw [p_slices_Concat_Lbyte_byte]
  have S0 : Fm 36 h [] [] [] (List.replicate 36 [] :: h) := Fm.start0
  refine Sim.op ((S0.low hu0).len) ?_
  refine Sim.op (castI_p _ _) ?_
  refine Sim.as (slices_Concat_Lbyte_byte_l0_ok ?_ k x0 0 x0 ((x0.length : Int)) 0 u0 hu0 u0 hu0 (List.replicate 36 [] :: h) (S0.wk2 all_nil all_nil)) 
  · intro r16_0 r16_3 v19 h20 H17 S18
    refine Sim.ext (slices_Concat_Lbyte_byte_a0_0 _ _ _ _ _ _) ?_
    refine Sim.call (slices_Grow_Lbyte_byte_ok r16_3) fun r21 cs22 H23 h24 q25 => ?_
    obtain ⟨c26, cs27, h28, h29, q25⟩ := q25
    cases q25
    obtain ⟨v30, H31, e32, S33⟩ := S18.land (dt := (dI .u8)) (d := 24) (e := 0) (n := 0) h28 h29 (by decide) rfl
    erw [e32]
    refine Sim.op ((S33.low h20).len) ?_
    refine Sim.op (castI_p _ _) ?_
    refine Sim.as (slices_Concat_Lbyte_byte_l1_ok ?_ k r21 r16_0 ((r16_0.length : Int)) 0 v30 v19 h20 H31 (S33.wk2 all_nil (all_cons ⟨[24], by simp, at_mem 0 rfl⟩ all_nil))) 
    · intro r56_6 v59 H57 S58
      refine Sim.ext (slices_Concat_Lbyte_byte_a1_2 _ _ _ _ _) ?_
      obtain ⟨c66, cs67, H61, e62, h64, h65, S63⟩ := S58.expOwn (i := 0) (τ := 0 :: 1 :: σ) rfl rfl rfl
      exact Sim.fin (S63.finE (Ex.st e62 Ex.nil)) ⟨c66, cs67, h64, h65, rfl⟩
end Go.Ev
/- Lifted by lift.py: ctl_Bytes as a plain function. -/
namespace Go.Ev
open Go.Proofs
set_option linter.unusedVariables false
set_option linter.unusedSimpArgs false
set_option maxRecDepth 100000
def p_ctl_Bytes_l0 {β : Type} (k : Nat) (kE0 : (List Int) → T_api_Ctl → Option β) (x5 : (List Int)) (x16 : (List T_api_Layer)) (x17 : Int) (x18 : Int) (yg6 : T_api_Ctl) : Option β := match k with
| 0 => none
| k + 1 =>
bif decide (x18 < x17) then (
(ix x16 x18).bind fun a24 =>
(p_octet_Put k (([] : List Int)) (IntKind.wrap .u64 a24.Ssrc) 4).bind fun r36 =>
(p_octet_Put k r36 (IntKind.wrap .u64 a24.Height) 2).bind fun r50 =>
(ap 1 r50 (bytesS a24.Rid)).bind fun a64 =>
(p_ctl_field x5 2 a64).bind fun r70 =>
p_ctl_Bytes_l0 k kE0 r70 x16 x17 (IntKind.wrap .i64 (x18 + 1)) ((⟨yg6.Kind, yg6.Cap, yg6.Layers, yg6.Peer, yg6.Height, yg6.Class, yg6.Layer, yg6.Code⟩ : T_api_Ctl)))
else (
kE0 x5 ((⟨yg6.Kind, yg6.Cap, yg6.Layers, yg6.Peer, yg6.Height, yg6.Class, yg6.Layer, yg6.Code⟩ : T_api_Ctl)))
def p_ctl_Bytes_l1 {β : Type} (k : Nat) (kE0 : (List Int) → T_api_Ctl → Option β) (x5 : (List Int)) (x54 : (List T_struct_name_int_size_int_n_int64)) (x55 : Int) (x56 : Int) (yg104 : T_api_Ctl) : Option β := match k with
| 0 => none
| k + 1 =>
bif decide (x56 < x55) then (
(ix x54 x56).bind fun a116 =>
(p_ctl_has yg104.Kind a116.name).bind fun r128 =>
bif r128 then (
(p_octet_Put k (([] : List Int)) (IntKind.wrap .u64 a116.n) a116.size).bind fun r133 =>
(p_ctl_field x5 a116.name r133).bind fun r147 =>
p_ctl_Bytes_l1 k kE0 r147 x54 x55 (IntKind.wrap .i64 (x56 + 1)) ((⟨yg104.Kind, yg104.Cap, yg104.Layers, yg104.Peer, yg104.Height, yg104.Class, yg104.Layer, yg104.Code⟩ : T_api_Ctl)))
else (
p_ctl_Bytes_l1 k kE0 x5 x54 x55 (IntKind.wrap .i64 (x56 + 1)) ((⟨yg104.Kind, yg104.Cap, yg104.Layers, yg104.Peer, yg104.Height, yg104.Class, yg104.Layer, yg104.Code⟩ : T_api_Ctl))))
else (
kE0 x5 ((⟨yg104.Kind, yg104.Cap, yg104.Layers, yg104.Peer, yg104.Height, yg104.Class, yg104.Layer, yg104.Code⟩ : T_api_Ctl)))
def p_ctl_Bytes (k : Nat) (x0 : T_api_Ctl) : Option ((List Int) × Int) :=
(p_ctl_Right k ((⟨x0.Kind, x0.Cap, x0.Layers, x0.Peer, x0.Height, x0.Class, x0.Layer, x0.Code⟩ : T_api_Ctl))).bind fun r7 =>
bif r7 != 0 then (
some ((([] : List Int)), r7))
else (
p_ctl_Bytes_l0 k (fun r96_5 yg23 =>
p_ctl_Bytes_l1 k (fun r171_5 yg115 =>
(p_octet_Put k ([(IntKind.wrap .u8 yg115.Kind)]) (IntKind.wrap .u64 ((r171_5.length : Int))) 2).bind fun r181 =>
(p_slices_Concat_Lbyte_byte k ([r181, r171_5])).bind fun r206 =>
some (r206, 0)) r96_5 ([((⟨1, 8, yg23.Cap⟩ : T_struct_name_int_size_int_n_int64)), ((⟨3, 1, yg23.Peer⟩ : T_struct_name_int_size_int_n_int64)), ((⟨4, 2, yg23.Height⟩ : T_struct_name_int_size_int_n_int64)), ((⟨5, 1, yg23.Class⟩ : T_struct_name_int_size_int_n_int64)), ((⟨6, 1, yg23.Layer⟩ : T_struct_name_int_size_int_n_int64)), ((⟨7, 1, yg23.Code⟩ : T_struct_name_int_size_int_n_int64))]) ((([((⟨1, 8, yg23.Cap⟩ : T_struct_name_int_size_int_n_int64)), ((⟨3, 1, yg23.Peer⟩ : T_struct_name_int_size_int_n_int64)), ((⟨4, 2, yg23.Height⟩ : T_struct_name_int_size_int_n_int64)), ((⟨5, 1, yg23.Class⟩ : T_struct_name_int_size_int_n_int64)), ((⟨6, 1, yg23.Layer⟩ : T_struct_name_int_size_int_n_int64)), ((⟨7, 1, yg23.Code⟩ : T_struct_name_int_size_int_n_int64))]).length : Int)) 0 ((⟨yg23.Kind, yg23.Cap, yg23.Layers, yg23.Peer, yg23.Height, yg23.Class, yg23.Layer, yg23.Code⟩ : T_api_Ctl))) (([] : List Int)) x0.Layers ((x0.Layers.length : Int)) 0 ((⟨x0.Kind, x0.Cap, x0.Layers, x0.Peer, x0.Height, x0.Class, x0.Layer, x0.Code⟩ : T_api_Ctl)))
theorem ctl_Bytes_l0_ok {h : H}  {β α : Type} {Q : β → α → Prop} {K : Exit × Env × H → Option α} {kE0 : (List Int) → T_api_Ctl → Option β} (hE0 : ∀ (q5 : (List Int)) (yg23 : T_api_Ctl) (v88 : V) (v90 : V) (h91 : SlF dT_api_Layer yg23.Layers v90) (s92 : Stamp) (H86 : Go.Ev.H) (_ : Fm 87 h [] [(1, s92, List.map C.v [(.p (.int .i64 yg23.Kind)), (.p (.int .i64 yg23.Cap)), v90, (.p (.int .i64 yg23.Peer)), (.p (.int .i64 yg23.Height)), (.p (.int .i64 yg23.Class)), (.p (.int .i64 yg23.Layer)), (.p (.int .i64 yg23.Code))])] [⟨[34], v88, (dI .u8), q5⟩] H86), Sim (kE0 q5 yg23) (K ((.exit 0), (envL [(1, (.ref ⟨h.length, 1, 0, s92, []⟩ 0)), (5, v88)]), H86)) Q) (k : Nat) : ∀ (x5 : (List Int)) (x16 : (List T_api_Layer)) (x17 : Int) (x18 : Int) (yg6 : T_api_Ctl) (v16 : V) (v18 : V) (h19 : SlF dT_api_Layer x16 v18) (v20 : V) (h21 : SlF dT_api_Layer yg6.Layers v20) (s22 : Stamp) (H14 : Go.Ev.H) (_ : Fm 87 h [] [(1, s22, List.map C.v [(.p (.int .i64 yg6.Kind)), (.p (.int .i64 yg6.Cap)), v20, (.p (.int .i64 yg6.Peer)), (.p (.int .i64 yg6.Height)), (.p (.int .i64 yg6.Class)), (.p (.int .i64 yg6.Layer)), (.p (.int .i64 yg6.Code))])] [⟨[34], v16, (dI .u8), x5⟩] H14) {σ : Stamp}, Sim (p_ctl_Bytes_l0 k kE0 x5 x16 x17 x18 yg6) ((cvL G X0 ctl_Bytes_c0 ctl_Bytes_l0 σ (envL [(1, (.ref ⟨h.length, 1, 0, s22, []⟩ 0)), (5, v16), (16, v18), (17, (.p (.int .i64 x17))), (18, (.p (.int .i64 x18)))]) H14).bind K) Q := by
  induction k with
  | zero => intros; exact Sim.no
  | succ k ih =>
    intro x5 x16 x17 x18 yg6 v16 v18 h19 v20 h21 s22 H14 S15 σ
    rw [p_ctl_Bytes_l0]
    refine Sim.round (Sim.ext (ctl_Bytes_r0 _ _ _ _ _ _ _ _ _) ?_)
    refine Sim.cd (fun hc => ?_) (fun hc => ?_)
    · refine Sim.bd fun a24 h25 => ?_
      refine Sim.op ((h19.h H14).iS h25 rfl) ?_
      obtain ⟨w27, h28, hE26⟩ := (h19.h H14).el h25 rfl
      obtain rfl := dT_api_Layer.inv h28
      refine Sim.op (hE26.all (by simp)) ?_
      obtain ⟨H29, e30, S31⟩ := S15.al (d := 7) (s := (2 :: 0 :: 0 :: 1 :: 1 :: 0 :: σ)) (z := [(.p (.string ((⟨#[]⟩ : ByteArray)))), (.p (.int .u32 0)), (.p (.int .i64 0))]) (by decide) rfl
      refine Sim.op (congrArg some e30) ?_
      obtain ⟨H33, e34, S35⟩ := S31.stGv (i := 0) (j := 0) (own := false) (σ := (3 :: 0 :: 0 :: 1 :: 1 :: 0 :: σ)) (xs := [.p (.string a24.Rid), .p (.int .u32 a24.Ssrc), .p (.int .i64 a24.Height)]) rfl rfl (stills_cons (still_str _) (stills_cons (still_int _ _) (stills_cons (still_int _ _) stills_nil))) rfl rfl
      refine Sim.op (st_map e34) ?_
      refine Sim.op (fA_ref _ _ _) ?_
      refine Sim.op ((S35.atG (i := 0) rfl).ld (j := 1) rfl) ?_
      refine Sim.op (castI_p _ _) ?_
      refine Sim.op (fA_ref _ _ _) ?_
      refine Sim.op ((S35.atG (i := 0) rfl).ld (j := 2) rfl) ?_
      refine Sim.op (castI_p _ _) ?_
      refine Sim.op (fA_ref _ _ _) ?_
      refine Sim.op ((S35.atG (i := 0) rfl).ld (j := 0) rfl) ?_
      refine Sim.op (castS_p _) ?_
      refine Sim.call (octet_Put_ok k (([] : List Int)) ((SlF.nil (dI .u8)).h H33) (IntKind.wrap .u64 a24.Ssrc) 4) fun r36 cs37 H38 h39 q40 => ?_
      obtain ⟨c41, cs42, h43, h44, q40⟩ := q40
      cases q40
      obtain ⟨v45, H46, e47, S48⟩ := S35.land (dt := (dI .u8)) (d := 26) (e := 0) (n := 0) h43 h44 (by decide) rfl
      erw [e47]
      refine Sim.nd ((S48.atG (i := 0) rfl).ld (j := 0) rfl) ?_
      refine Sim.nd (rfl) ?_
      refine Sim.nd ((S48.atG (i := 0) rfl).ld (j := 2) rfl) ?_
      refine Sim.call (octet_Put_ok k r36 (S48.sl (i := 0) rfl) (IntKind.wrap .u64 a24.Height) 2) fun r50 cs51 H52 h53 q54 => ?_
      obtain ⟨c55, cs56, h57, h58, q54⟩ := q54
      cases q54
      obtain ⟨v59, H60, e61, S62⟩ := S48.land (dt := (dI .u8)) (d := 30) (e := 0) (n := 0) h57 h58 (by decide) rfl
      erw [e61]
      refine Sim.nd ((S62.atG (i := 0) rfl).ld (j := 0) rfl) ?_
      refine Sim.bd fun a64 h65 => ?_
      obtain ⟨v66, H67, e68, S69⟩ := S62.app (i := 0) (d := 33) (e := 1) (own := true) (σ := (11 :: 1 :: 0 :: 1 :: 1 :: 0 :: σ)) rfl (ysS H60 a24.Rid) h65 rfl (by decide) (by decide) rfl
      refine Sim.op (e68) ?_
      refine Sim.call (ctl_field_ok x5 (S69.ownA (i := 2) rfl) 2 a64 (fun _ hk => (S69.killA (i := 2) rfl rfl hk).sl (i := 0) rfl)) fun r70 cs71 H72 h73 q74 => ?_
      obtain ⟨c75, cs76, h77, h78, h79, q74⟩ := q74
      obtain rfl : cs71 = [c75] := q74
      have S80 := S69.killA (i := 2) rfl rfl h79
      obtain ⟨v81, H82, e83, S84⟩ := S80.land (dt := (dI .u8)) (d := 34) (e := 0) (n := 0) h77 h78 (by decide) rfl
      erw [e83]
      exact ih r70 x16 x17 (IntKind.wrap .i64 (x18 + 1)) ((⟨yg6.Kind, yg6.Cap, yg6.Layers, yg6.Peer, yg6.Height, yg6.Class, yg6.Layer, yg6.Code⟩ : T_api_Ctl)) v81 v18 h19 v20 h21 s22 H82 (S84.wk2 (all_cons (at_mem 1 rfl) all_nil) (all_cons ⟨[34], by simp, at_mem 0 rfl⟩ all_nil))
    · exact hE0 x5 ((⟨yg6.Kind, yg6.Cap, yg6.Layers, yg6.Peer, yg6.Height, yg6.Class, yg6.Layer, yg6.Code⟩ : T_api_Ctl)) v16 v20 h21 s22 H14 (S15.wk2 (all_cons (at_mem 0 rfl) all_nil) (all_cons ⟨[34], by simp, at_mem 0 rfl⟩ all_nil))
theorem ctl_Bytes_l1_ok {h : H}  {β α : Type} {Q : β → α → Prop} {K : Exit × Env × H → Option α} {kE0 : (List Int) → T_api_Ctl → Option β} (hE0 : ∀ (q5 : (List Int)) (yg115 : T_api_Ctl) (v165 : V) (v167 : V) (h168 : SlF dT_api_Layer yg115.Layers v167) (s169 : Stamp) (H163 : Go.Ev.H) (_ : Fm 87 h [] [(1, s169, List.map C.v [(.p (.int .i64 yg115.Kind)), (.p (.int .i64 yg115.Cap)), v167, (.p (.int .i64 yg115.Peer)), (.p (.int .i64 yg115.Height)), (.p (.int .i64 yg115.Class)), (.p (.int .i64 yg115.Layer)), (.p (.int .i64 yg115.Code))])] [⟨[34, 74], v165, (dI .u8), q5⟩] H163), Sim (kE0 q5 yg115) (K ((.exit 2), (envL [(1, (.ref ⟨h.length, 1, 0, s169, []⟩ 0)), (5, v165)]), H163)) Q) (k : Nat) : ∀ (x5 : (List Int)) (x54 : (List T_struct_name_int_size_int_n_int64)) (x55 : Int) (x56 : Int) (yg104 : T_api_Ctl) (v108 : V) (v110 : V) (h111 : SlF dT_struct_name_int_size_int_n_int64 x54 v110) (v112 : V) (h113 : SlF dT_api_Layer yg104.Layers v112) (s114 : Stamp) (H106 : Go.Ev.H) (_ : Fm 87 h [] [(1, s114, List.map C.v [(.p (.int .i64 yg104.Kind)), (.p (.int .i64 yg104.Cap)), v112, (.p (.int .i64 yg104.Peer)), (.p (.int .i64 yg104.Height)), (.p (.int .i64 yg104.Class)), (.p (.int .i64 yg104.Layer)), (.p (.int .i64 yg104.Code))])] [⟨[34, 74], v108, (dI .u8), x5⟩] H106) {σ : Stamp}, Sim (p_ctl_Bytes_l1 k kE0 x5 x54 x55 x56 yg104) ((cvL G X0 ctl_Bytes_c1 ctl_Bytes_l1 σ (envL [(1, (.ref ⟨h.length, 1, 0, s114, []⟩ 0)), (5, v108), (54, v110), (55, (.p (.int .i64 x55))), (56, (.p (.int .i64 x56)))]) H106).bind K) Q := by
  induction k with
  | zero => intros; exact Sim.no
  | succ k ih =>
    intro x5 x54 x55 x56 yg104 v108 v110 h111 v112 h113 s114 H106 S107 σ
    rw [p_ctl_Bytes_l1]
    refine Sim.round (Sim.ext (ctl_Bytes_r1 _ _ _ _ _ _ _ _ _) ?_)
    refine Sim.cd (fun hc => ?_) (fun hc => ?_)
    · refine Sim.bd fun a116 h117 => ?_
      refine Sim.op ((h111.h H106).iS h117 rfl) ?_
      obtain ⟨w119, h120, hE118⟩ := (h111.h H106).el h117 rfl
      obtain rfl := dT_struct_name_int_size_int_n_int64.inv h120
      refine Sim.op (hE118.all (by simp)) ?_
      obtain ⟨H121, e122, S123⟩ := S107.al (d := 9) (s := (2 :: 0 :: 0 :: 1 :: 1 :: 0 :: σ)) (z := [(.p (.int .i64 0)), (.p (.int .i64 0)), (.p (.int .i64 0))]) (by decide) rfl
      refine Sim.op (congrArg some e122) ?_
      obtain ⟨H125, e126, S127⟩ := S123.stGv (i := 0) (j := 0) (own := false) (σ := (3 :: 0 :: 0 :: 1 :: 1 :: 0 :: σ)) (xs := [.p (.int .i64 a116.name), .p (.int .i64 a116.size), .p (.int .i64 a116.n)]) rfl rfl (stills_cons (still_int _ _) (stills_cons (still_int _ _) (stills_cons (still_int _ _) stills_nil))) rfl rfl
      refine Sim.op (st_map e126) ?_
      refine Sim.op (fA_ref _ _ _) ?_
      refine Sim.op ((S127.atG (i := 1) rfl).ld (j := 0) rfl) ?_
      refine Sim.op (castI_p _ _) ?_
      refine Sim.op (fA_ref _ _ _) ?_
      refine Sim.op ((S127.atG (i := 0) rfl).ld (j := 0) rfl) ?_
      refine Sim.op (castI_p _ _) ?_
      refine Sim.call (ctl_has_ok yg104.Kind a116.name) fun r128 cs129 H130 h131 q132 => ?_
      cases q132
      refine Sim.op (asB_p _) ?_
      refine Sim.cd (fun hc => ?_) (fun hc => ?_)
      · refine Sim.op (fA_ref _ _ _) ?_
        refine Sim.op ((S127.atG (i := 0) rfl).ld (j := 0) rfl) ?_
        refine Sim.op (castI_p _ _) ?_
        refine Sim.op (fA_ref _ _ _) ?_
        refine Sim.op ((S127.atG (i := 0) rfl).ld (j := 2) rfl) ?_
        refine Sim.op (castI_p _ _) ?_
        refine Sim.op (fA_ref _ _ _) ?_
        refine Sim.op ((S127.atG (i := 0) rfl).ld (j := 1) rfl) ?_
        refine Sim.op (castI_p _ _) ?_
        refine Sim.call (octet_Put_ok k (([] : List Int)) ((SlF.nil (dI .u8)).h H125) (IntKind.wrap .u64 a116.n) a116.size) fun r133 cs134 H135 h136 q137 => ?_
        obtain ⟨c138, cs139, h140, h141, q137⟩ := q137
        cases q137
        obtain ⟨v142, H143, e144, S145⟩ := S127.land (dt := (dI .u8)) (d := 73) (e := 0) (n := 0) h140 h141 (by decide) rfl
        erw [e144]
        refine Sim.nd ((S145.atG (i := 0) rfl).ld (j := 0) rfl) ?_
        refine Sim.call (ctl_field_ok x5 (S145.ownA (i := 1) rfl) a116.name r133 (fun _ hk => (S145.killA (i := 1) rfl rfl hk).sl (i := 0) rfl)) fun r147 cs148 H149 h150 q151 => ?_
        obtain ⟨c152, cs153, h154, h155, h156, q151⟩ := q151
        obtain rfl : cs148 = [c152] := q151
        have S157 := S145.killA (i := 1) rfl rfl h156
        obtain ⟨v158, H159, e160, S161⟩ := S157.land (dt := (dI .u8)) (d := 74) (e := 0) (n := 0) h154 h155 (by decide) rfl
        erw [e160]
        exact ih r147 x54 x55 (IntKind.wrap .i64 (x56 + 1)) ((⟨yg104.Kind, yg104.Cap, yg104.Layers, yg104.Peer, yg104.Height, yg104.Class, yg104.Layer, yg104.Code⟩ : T_api_Ctl)) v158 v110 h111 v112 h113 s114 H159 (S161.wk2 (all_cons (at_mem 1 rfl) all_nil) (all_cons ⟨[74], by simp, at_mem 0 rfl⟩ all_nil))
      · exact ih x5 x54 x55 (IntKind.wrap .i64 (x56 + 1)) ((⟨yg104.Kind, yg104.Cap, yg104.Layers, yg104.Peer, yg104.Height, yg104.Class, yg104.Layer, yg104.Code⟩ : T_api_Ctl)) v108 v110 h111 v112 h113 s114 H125 (S127.wk2 (all_cons (at_mem 1 rfl) all_nil) (all_cons ⟨[34, 74], by simp, at_mem 0 rfl⟩ all_nil))
    · exact hE0 x5 ((⟨yg104.Kind, yg104.Cap, yg104.Layers, yg104.Peer, yg104.Height, yg104.Class, yg104.Layer, yg104.Code⟩ : T_api_Ctl)) v108 v112 h113 s114 H106 (S107.wk2 (all_cons (at_mem 0 rfl) all_nil) (all_cons ⟨[34, 74], by simp, at_mem 0 rfl⟩ all_nil))
theorem ctl_Bytes_ok (k : Nat) {h : H} {σ : Stamp} (x0 : T_api_Ctl) {u0 : List V} (hu0 : dT_api_Ctl.R x0 u0) : Sim (p_ctl_Bytes k x0) (ev G X0 29 σ [(.agg u0)] h) (fun r s => ∃ (c0 : C), ∃ (a0 : List V), OwnS c0 (dI .u8).sz r.1.length a0 ∧ (dI .u8).L r.1 a0 ∧ s = ([c0, .v (.p (.int .i64 r.2))], h)) := by
  refine Sim.ev rfl (Sim.ext (ctl_Bytes_entry _ _ _ _ _) ?_)
  rw [p_ctl_Bytes]
  obtain ⟨v1, rfl, h2⟩ := dT_api_Ctl.inv hu0
  have S0 : Fm 87 h [] [] [] (List.replicate 87 [] :: h) := Fm.start0
  obtain ⟨H3, e4, S5⟩ := S0.box (own := false) (d := 1) (s := (0 :: 0 :: 0 :: σ)) (xs := [(.p (.int .i64 x0.Kind)), (.p (.int .i64 x0.Cap)), v1, (.p (.int .i64 x0.Peer)), (.p (.int .i64 x0.Height)), (.p (.int .i64 x0.Class)), (.p (.int .i64 x0.Layer)), (.p (.int .i64 x0.Code))]) (stills_cons (still_int _ _) (stills_cons (still_int _ _) (stills_cons h2.still (stills_cons (still_int _ _) (stills_cons (still_int _ _) (stills_cons (still_int _ _) (stills_cons (still_int _ _) (stills_cons (still_int _ _) stills_nil)))))))) (by decide) rfl
  refine Sim.op (e4) ?_
  refine Sim.op ((S5.atG (i := 0) rfl).ldVs (j := 0) (xs := [.p (.int .i64 x0.Kind), .p (.int .i64 x0.Cap), v1, .p (.int .i64 x0.Peer), .p (.int .i64 x0.Height), .p (.int .i64 x0.Class), .p (.int .i64 x0.Layer), .p (.int .i64 x0.Code)]) rfl rfl (by decide)) ?_
  refine Sim.call (ctl_Right_ok k ((⟨x0.Kind, x0.Cap, x0.Layers, x0.Peer, x0.Height, x0.Class, x0.Layer, x0.Code⟩ : T_api_Ctl)) (show dT_api_Ctl.R ((⟨x0.Kind, x0.Cap, x0.Layers, x0.Peer, x0.Height, x0.Class, x0.Layer, x0.Code⟩ : T_api_Ctl)) [.p (.int .i64 x0.Kind), .p (.int .i64 x0.Cap), v1, .p (.int .i64 x0.Peer), .p (.int .i64 x0.Height), .p (.int .i64 x0.Class), .p (.int .i64 x0.Layer), .p (.int .i64 x0.Code)] from (dT_api_Ctl.mk h2))) fun r7 cs8 H9 h10 q11 => ?_
  cases q11
  refine Sim.op (castI_p _ _) ?_
  refine Sim.cd (fun hc => ?_) (fun hc => ?_)
  · exact Sim.fin (S5.finN (lv_cons (SlF.nil (dI .u8)).still.lv (lv_cons (still_int _ _).lv lv_nil))) ⟨(.v (.p (.slice none 0 0))), [], ⟨by simp, .inl ⟨rfl, rfl, .inl rfl⟩⟩, rfl, rfl⟩
  · refine Sim.op (fA_ref _ _ _) ?_
    refine Sim.op ((S5.atG (i := 0) rfl).ld (j := 2) rfl) ?_
    refine Sim.op ((h2.h H3).len) ?_
    refine Sim.op (castI_p _ _) ?_
    have S95 := S5.nil (dI .u8) []
    refine Sim.as (ctl_Bytes_l0_ok ?_ k (([] : List Int)) x0.Layers ((x0.Layers.length : Int)) 0 ((⟨x0.Kind, x0.Cap, x0.Layers, x0.Peer, x0.Height, x0.Class, x0.Layer, x0.Code⟩ : T_api_Ctl)) (.p (.slice none 0 0)) v1 h2 v1 h2 (0 :: 0 :: 0 :: σ) H3 (S95.wk2 (all_cons (at_mem 0 rfl) all_nil) (all_cons ⟨[], by simp, at_mem 0 rfl⟩ all_nil))) 
    · intro r96_5 yg23 v99 v101 h102 s103 H97 S98
      refine Sim.ext (ctl_Bytes_a0_0 _ _ _ _ _ _) ?_
      refine Sim.op (fA_ref _ _ _) ?_
      refine Sim.op ((S98.atG (i := 0) rfl).ld (j := 1) rfl) ?_
      refine Sim.op (castI_p _ _) ?_
      refine Sim.op (bldV (pt_cons rfl (pt_cons rfl (pt_cons rfl pt_nil))) (by kernel_rfl : _ = some (.agg [.p (.int .i64 1), .p (.int .i64 8), .p (.int .i64 yg23.Cap)]))) ?_
      refine Sim.op (fA_ref _ _ _) ?_
      refine Sim.op ((S98.atG (i := 0) rfl).ld (j := 3) rfl) ?_
      refine Sim.op (castI_p _ _) ?_
      refine Sim.op (bldV (pt_cons rfl (pt_cons rfl (pt_cons rfl pt_nil))) (by kernel_rfl : _ = some (.agg [.p (.int .i64 3), .p (.int .i64 1), .p (.int .i64 yg23.Peer)]))) ?_
      refine Sim.op (fA_ref _ _ _) ?_
      refine Sim.op ((S98.atG (i := 0) rfl).ld (j := 4) rfl) ?_
      refine Sim.op (castI_p _ _) ?_
      refine Sim.op (bldV (pt_cons rfl (pt_cons rfl (pt_cons rfl pt_nil))) (by kernel_rfl : _ = some (.agg [.p (.int .i64 4), .p (.int .i64 2), .p (.int .i64 yg23.Height)]))) ?_
      refine Sim.op (fA_ref _ _ _) ?_
      refine Sim.op ((S98.atG (i := 0) rfl).ld (j := 5) rfl) ?_
      refine Sim.op (castI_p _ _) ?_
      refine Sim.op (bldV (pt_cons rfl (pt_cons rfl (pt_cons rfl pt_nil))) (by kernel_rfl : _ = some (.agg [.p (.int .i64 5), .p (.int .i64 1), .p (.int .i64 yg23.Class)]))) ?_
      refine Sim.op (fA_ref _ _ _) ?_
      refine Sim.op ((S98.atG (i := 0) rfl).ld (j := 6) rfl) ?_
      refine Sim.op (castI_p _ _) ?_
      refine Sim.op (bldV (pt_cons rfl (pt_cons rfl (pt_cons rfl pt_nil))) (by kernel_rfl : _ = some (.agg [.p (.int .i64 6), .p (.int .i64 1), .p (.int .i64 yg23.Layer)]))) ?_
      refine Sim.op (fA_ref _ _ _) ?_
      refine Sim.op ((S98.atG (i := 0) rfl).ld (j := 7) rfl) ?_
      refine Sim.op (castI_p _ _) ?_
      refine Sim.op (bldV (pt_cons rfl (pt_cons rfl (pt_cons rfl pt_nil))) (by kernel_rfl : _ = some (.agg [.p (.int .i64 7), .p (.int .i64 1), .p (.int .i64 yg23.Code)]))) ?_
      have h105 : SlF dT_struct_name_int_size_int_n_int64 [((⟨1, 8, yg23.Cap⟩ : T_struct_name_int_size_int_n_int64)), ((⟨3, 1, yg23.Peer⟩ : T_struct_name_int_size_int_n_int64)), ((⟨4, 2, yg23.Height⟩ : T_struct_name_int_size_int_n_int64)), ((⟨5, 1, yg23.Class⟩ : T_struct_name_int_size_int_n_int64)), ((⟨6, 1, yg23.Layer⟩ : T_struct_name_int_size_int_n_int64)), ((⟨7, 1, yg23.Code⟩ : T_struct_name_int_size_int_n_int64))] (.fz [(.p (.int .i64 1)), (.p (.int .i64 8)), (.p (.int .i64 yg23.Cap)), (.p (.int .i64 3)), (.p (.int .i64 1)), (.p (.int .i64 yg23.Peer)), (.p (.int .i64 4)), (.p (.int .i64 2)), (.p (.int .i64 yg23.Height)), (.p (.int .i64 5)), (.p (.int .i64 1)), (.p (.int .i64 yg23.Class)), (.p (.int .i64 6)), (.p (.int .i64 1)), (.p (.int .i64 yg23.Layer)), (.p (.int .i64 7)), (.p (.int .i64 1)), (.p (.int .i64 yg23.Code))] 6 3 true) := SlF.lit (cs := [(.p (.int .i64 1)), (.p (.int .i64 8)), (.p (.int .i64 yg23.Cap)), (.p (.int .i64 3)), (.p (.int .i64 1)), (.p (.int .i64 yg23.Peer)), (.p (.int .i64 4)), (.p (.int .i64 2)), (.p (.int .i64 yg23.Height)), (.p (.int .i64 5)), (.p (.int .i64 1)), (.p (.int .i64 yg23.Class)), (.p (.int .i64 6)), (.p (.int .i64 1)), (.p (.int .i64 yg23.Layer)), (.p (.int .i64 7)), (.p (.int .i64 1)), (.p (.int .i64 yg23.Code))]) (RL.cons (show dT_struct_name_int_size_int_n_int64.R ((⟨1, 8, yg23.Cap⟩ : T_struct_name_int_size_int_n_int64)) [.p (.int .i64 1), .p (.int .i64 8), .p (.int .i64 yg23.Cap)] from (dT_struct_name_int_size_int_n_int64.mk)) (RL.cons (show dT_struct_name_int_size_int_n_int64.R ((⟨3, 1, yg23.Peer⟩ : T_struct_name_int_size_int_n_int64)) [.p (.int .i64 3), .p (.int .i64 1), .p (.int .i64 yg23.Peer)] from (dT_struct_name_int_size_int_n_int64.mk)) (RL.cons (show dT_struct_name_int_size_int_n_int64.R ((⟨4, 2, yg23.Height⟩ : T_struct_name_int_size_int_n_int64)) [.p (.int .i64 4), .p (.int .i64 2), .p (.int .i64 yg23.Height)] from (dT_struct_name_int_size_int_n_int64.mk)) (RL.cons (show dT_struct_name_int_size_int_n_int64.R ((⟨5, 1, yg23.Class⟩ : T_struct_name_int_size_int_n_int64)) [.p (.int .i64 5), .p (.int .i64 1), .p (.int .i64 yg23.Class)] from (dT_struct_name_int_size_int_n_int64.mk)) (RL.cons (show dT_struct_name_int_size_int_n_int64.R ((⟨6, 1, yg23.Layer⟩ : T_struct_name_int_size_int_n_int64)) [.p (.int .i64 6), .p (.int .i64 1), .p (.int .i64 yg23.Layer)] from (dT_struct_name_int_size_int_n_int64.mk)) (RL.cons (show dT_struct_name_int_size_int_n_int64.R ((⟨7, 1, yg23.Code⟩ : T_struct_name_int_size_int_n_int64)) [.p (.int .i64 7), .p (.int .i64 1), .p (.int .i64 yg23.Code)] from (dT_struct_name_int_size_int_n_int64.mk)) RL.nil)))))) rfl rfl true
      refine Sim.op (bldS (pt_cons (c := [.p (.int .i64 1), .p (.int .i64 8), .p (.int .i64 yg23.Cap)]) rfl (pt_cons (c := [.p (.int .i64 3), .p (.int .i64 1), .p (.int .i64 yg23.Peer)]) rfl (pt_cons (c := [.p (.int .i64 4), .p (.int .i64 2), .p (.int .i64 yg23.Height)]) rfl (pt_cons (c := [.p (.int .i64 5), .p (.int .i64 1), .p (.int .i64 yg23.Class)]) rfl (pt_cons (c := [.p (.int .i64 6), .p (.int .i64 1), .p (.int .i64 yg23.Layer)]) rfl (pt_cons (c := [.p (.int .i64 7), .p (.int .i64 1), .p (.int .i64 yg23.Code)]) rfl pt_nil)))))) (by kernel_rfl : _ = some (.fz [(.p (.int .i64 1)), (.p (.int .i64 8)), (.p (.int .i64 yg23.Cap)), (.p (.int .i64 3)), (.p (.int .i64 1)), (.p (.int .i64 yg23.Peer)), (.p (.int .i64 4)), (.p (.int .i64 2)), (.p (.int .i64 yg23.Height)), (.p (.int .i64 5)), (.p (.int .i64 1)), (.p (.int .i64 yg23.Class)), (.p (.int .i64 6)), (.p (.int .i64 1)), (.p (.int .i64 yg23.Layer)), (.p (.int .i64 7)), (.p (.int .i64 1)), (.p (.int .i64 yg23.Code))] 6 3 true))) ?_
      refine Sim.op ((h105.h H97).len) ?_
      refine Sim.op (castI_p _ _) ?_
      refine Sim.as (ctl_Bytes_l1_ok ?_ k r96_5 ([((⟨1, 8, yg23.Cap⟩ : T_struct_name_int_size_int_n_int64)), ((⟨3, 1, yg23.Peer⟩ : T_struct_name_int_size_int_n_int64)), ((⟨4, 2, yg23.Height⟩ : T_struct_name_int_size_int_n_int64)), ((⟨5, 1, yg23.Class⟩ : T_struct_name_int_size_int_n_int64)), ((⟨6, 1, yg23.Layer⟩ : T_struct_name_int_size_int_n_int64)), ((⟨7, 1, yg23.Code⟩ : T_struct_name_int_size_int_n_int64))]) ((([((⟨1, 8, yg23.Cap⟩ : T_struct_name_int_size_int_n_int64)), ((⟨3, 1, yg23.Peer⟩ : T_struct_name_int_size_int_n_int64)), ((⟨4, 2, yg23.Height⟩ : T_struct_name_int_size_int_n_int64)), ((⟨5, 1, yg23.Class⟩ : T_struct_name_int_size_int_n_int64)), ((⟨6, 1, yg23.Layer⟩ : T_struct_name_int_size_int_n_int64)), ((⟨7, 1, yg23.Code⟩ : T_struct_name_int_size_int_n_int64))]).length : Int)) 0 ((⟨yg23.Kind, yg23.Cap, yg23.Layers, yg23.Peer, yg23.Height, yg23.Class, yg23.Layer, yg23.Code⟩ : T_api_Ctl)) v99 (.fz [(.p (.int .i64 1)), (.p (.int .i64 8)), (.p (.int .i64 yg23.Cap)), (.p (.int .i64 3)), (.p (.int .i64 1)), (.p (.int .i64 yg23.Peer)), (.p (.int .i64 4)), (.p (.int .i64 2)), (.p (.int .i64 yg23.Height)), (.p (.int .i64 5)), (.p (.int .i64 1)), (.p (.int .i64 yg23.Class)), (.p (.int .i64 6)), (.p (.int .i64 1)), (.p (.int .i64 yg23.Layer)), (.p (.int .i64 7)), (.p (.int .i64 1)), (.p (.int .i64 yg23.Code))] 6 3 true) h105 v101 h102 s103 H97 (S98.wk2 (all_cons (at_mem 0 rfl) all_nil) (all_cons ⟨[34], by simp, at_mem 0 rfl⟩ all_nil))) 
      · intro r171_5 yg115 v174 v176 h177 s178 H172 S173
        refine Sim.ext (ctl_Bytes_a1_2 _ _ _ _ _ _) ?_
        refine Sim.op (fA_ref _ _ _) ?_
        refine Sim.op ((S173.atG (i := 0) rfl).ld (j := 0) rfl) ?_
        refine Sim.op (castI_p _ _) ?_
        have h180 : SlF (dI .u8) [(IntKind.wrap .u8 yg115.Kind)] (.fz [(.p (.int .u8 (IntKind.wrap .u8 yg115.Kind)))] 1 1 true) := SlF.lit (cs := [(.p (.int .u8 (IntKind.wrap .u8 yg115.Kind)))]) (RL.cons (show (dI .u8).R (IntKind.wrap .u8 yg115.Kind) [(.p (.int .u8 (IntKind.wrap .u8 yg115.Kind)))] from rfl) RL.nil) rfl rfl true
        refine Sim.op (bldS (pt_cons rfl pt_nil) (by kernel_rfl : _ = some (.fz [(.p (.int .u8 (IntKind.wrap .u8 yg115.Kind)))] 1 1 true))) ?_
        refine Sim.op ((S173.sl (i := 0) rfl).len) ?_
        refine Sim.op (castI_p _ _) ?_
        refine Sim.call (octet_Put_ok k ([(IntKind.wrap .u8 yg115.Kind)]) (h180.h H172) (IntKind.wrap .u64 ((r171_5.length : Int))) 2) fun r181 cs182 H183 h184 q185 => ?_
        obtain ⟨c186, cs187, h188, h189, q185⟩ := q185
        cases q185
        obtain ⟨v190, H191, e192, S193⟩ := S173.land (dt := (dI .u8)) (d := 83) (e := 0) (n := 0) h188 h189 (by decide) rfl
        erw [e192]
        refine Sim.op (bldS (pt_cons (S193.cellsD (i := 0) rfl) (pt_cons (S193.cellsD (i := 1) rfl) pt_nil)) (by kernel_rfl : _ = some (.fz [v190, v174] 2 1 true))) ?_
        obtain ⟨v195, H196, e197, h198, S199⟩ := S193.layD (i := 0) rfl rfl
        obtain ⟨v200, H201, e202, h203, S204⟩ := S199.layD (i := 0) rfl rfl
        have h205 : SlF (dSl (dI .u8)) [r181, r171_5] (.fz [v195, v200] 2 1 true) := SlF.lit (cs := [v195, v200]) (RL.cons (show (dSl (dI .u8)).R r181 [v195] from ⟨_, rfl, h198⟩) (RL.cons (show (dSl (dI .u8)).R r171_5 [v200] from ⟨_, rfl, h203⟩) RL.nil)) rfl rfl true
        erw [callFO_eq (frzAs_cons (frzA_fz (frzCs_cons e197 (frzCs_cons e202 frzCs_nil))) frzAs_nil)]
        refine Sim.call (slices_Concat_Lbyte_byte_ok k ([r181, r171_5]) (h205.h H201)) fun r206 cs207 H208 h209 q210 => ?_
        obtain ⟨c211, cs212, h213, h214, q210⟩ := q210
        cases q210
        obtain ⟨v215, H216, e217, S218⟩ := S204.land (dt := (dI .u8)) (d := 86) (e := 0) (n := 0) h213 h214 (by decide) rfl
        erw [e217]
        obtain ⟨c225, cs226, H220, e221, h223, h224, S222⟩ := S218.expOwn (i := 0) (τ := 0 :: 1 :: σ) rfl rfl rfl
        exact Sim.fin (S222.finE (Ex.st e221 (Ex.pl (still_int _ _).lv Ex.nil))) ⟨c225, cs226, h223, h224, rfl⟩
end Go.Ev
namespace Go.Ev
set_option maxRecDepth 100000
/-! ### Numbers as bytes -/
def putB (n : Int) : Nat → List Int
  | 0 => []
  | s + 1 => (n / 256 ^ s % 256) :: putB n s
def getB : Int → List Int → Int
  | a, [] => a
  | a, b :: bs => getB (a * 256 + b) bs
theorem putB_len (n : Int) : ∀ s, (putB n s).length = s
  | 0 => rfl
  | s + 1 => by rw [putB, List.length_cons, putB_len n s]
theorem putB_isB (n : Int) : ∀ s, isB (putB n s)
  | 0 => fun x hx => by cases hx
  | s + 1 => fun x hx => by
    rcases List.mem_cons.1 hx with rfl | hx
    · exact ⟨Int.emod_nonneg _ (by decide), Int.emod_lt_of_pos _ (by decide)⟩
    · exact putB_isB n s x hx
theorem getB_putB (n : Int) (hn : 0 ≤ n) : ∀ (s : Nat) (a : Int), getB a (putB n s) = a * 256 ^ s + n % 256 ^ s
  | 0, a => by simp [putB, getB]
  | s + 1, a => by
    rw [putB, getB, getB_putB n hn s]
    have hp : (0 : Int) < 256 ^ s := Int.pow_pos (by decide)
    have h1 : n % 256 ^ (s + 1) = 256 ^ s * (n / 256 ^ s % 256) + n % 256 ^ s := by
      have e1 := Int.emod_add_mul_ediv n (256 ^ s)
      have e2 := Int.emod_add_mul_ediv (n / 256 ^ s) 256
      have e3 : n = (256 ^ s * (n / 256 ^ s % 256) + n % 256 ^ s) + 256 ^ (s + 1) * (n / 256 ^ s / 256) := by
        rw [Int.pow_succ]
        generalize n / 256 ^ s / 256 = q at *
        generalize n / 256 ^ s % 256 = r at *
        generalize hm : n / 256 ^ s = m at *
        generalize n % 256 ^ s = u at *
        rw [← e1, ← e2, Int.mul_add, Int.mul_assoc]
        omega
      have r1 := Int.emod_nonneg (n / 256 ^ s) (show (256 : Int) ≠ 0 by decide)
      have r2 := Int.emod_lt_of_pos (n / 256 ^ s) (show (0 : Int) < 256 by decide)
      have r3 := Int.emod_nonneg n (Int.ne_of_gt hp)
      have r4 := Int.emod_lt_of_pos n hp
      have lo : 0 ≤ 256 ^ s * (n / 256 ^ s % 256) + n % 256 ^ s := Int.add_nonneg (Int.mul_nonneg (Int.le_of_lt hp) r1) r3
      have hi : 256 ^ s * (n / 256 ^ s % 256) + n % 256 ^ s < 256 ^ (s + 1) := by
        have : 256 ^ s * (n / 256 ^ s % 256) ≤ 256 ^ s * 255 := Int.mul_le_mul_of_nonneg_left (by omega) (Int.le_of_lt hp)
        rw [Int.pow_succ]
        omega
      calc n % 256 ^ (s + 1) = ((256 ^ s * (n / 256 ^ s % 256) + n % 256 ^ s) + 256 ^ (s + 1) * (n / 256 ^ s / 256)) % 256 ^ (s + 1) := by rw [← e3]
        _ = (256 ^ s * (n / 256 ^ s % 256) + n % 256 ^ s) % 256 ^ (s + 1) := by rw [Int.add_mul_emod_self_left]
        _ = _ := Int.emod_eq_of_lt lo hi
    rw [h1, Int.pow_succ, Int.add_mul]
    generalize n / 256 ^ s % 256 = r
    generalize n % 256 ^ s = u
    rw [Int.mul_assoc, Int.mul_comm 256 (256 ^ s), Int.mul_comm r]
    omega
theorem wrap_u8_mod (n : Int) : IntKind.wrap .u8 n = n % 256 := by
  simp only [IntKind.wrap, IntKind.signed, IntKind.bits]
  simp
theorem put_l0 {β : Type} (kE0 : List Int → Option β) {n : Int} (hn : 0 ≤ n) : ∀ (s j : Nat) (out : List Int), s ≤ 8 → out.length + s < 2 ^ 39 → p_octet_Put_l0 (j + s + 1) kE0 n out ((s : Int) - 1) = kE0 (out ++ putB n s)
  | 0, j, out, _, _ => by
    rw [p_octet_Put_l0]
    have d : decide (((0 : Nat) : Int) - 1 ≥ 0) = false := by decide
    rw [d, cond_false, putB, List.append_nil]
  | s + 1, j, out, hs, ho => by
    rw [show j + (s + 1) + 1 = (j + s + 1) + 1 from rfl, p_octet_Put_l0]
    have d : decide (((s + 1 : Nat) : Int) - 1 ≥ 0) = true := decide_eq_true (by omega)
    have w1 : IntKind.wrap .i64 ((((s + 1 : Nat) : Int) - 1) * 8) = ((8 * s : Nat) : Int) := by rw [wrap_i64 (by omega) (by omega)]; omega
    have w2 : IntKind.wrap .i64 (((s + 1 : Nat) : Int) - 1 - 1) = (s : Int) - 1 := by rw [wrap_i64 (by omega) (by omega)]; omega
    have hsh : shP .shr .u64 n ((8 * s : Nat) : Int) = some (n / 256 ^ s) := by
      unfold shP
      rw [if_neg (by omega)]
      have : min (((8 * s : Nat) : Int).toNat) IntKind.u64.bits = 8 * s := by
        rw [Int.toNat_natCast]
        show min (8 * s) 64 = 8 * s
        omega
      simp only [this]
      have e : (2 : Int) ^ (8 * s) = 256 ^ s := by rw [Int.pow_mul]; rfl
      rw [e, Int.fdiv_eq_ediv_of_nonneg _ (Int.le_of_lt (Int.pow_pos (by decide)))]
    rw [d, cond_true, w1, hsh, Option.bind_some, wrap_u8_mod, ap_eq (by decide) (by simp only [List.length_cons, List.length_nil]; omega), Option.bind_some, w2, put_l0 kE0 hn s j _ (by omega) (by rw [List.length_append]; simp only [List.length_cons, List.length_nil]; omega), putB, List.append_assoc]
    rfl
theorem putO_ok {k : Nat} (hk : 10 ≤ k) {b : List Int} (hb : b.length < 1000) {n : Int} (hn : 0 ≤ n) {s : Nat} (h1 : 1 ≤ s) (h8 : s ≤ 8) : p_octet_Put k b n (s : Int) = some (b ++ putB n s) := by
  unfold p_octet_Put
  have d1 : decide ((s : Int) < 1) = false := decide_eq_false (by omega)
  have d2 : decide ((s : Int) > 8) = false := decide_eq_false (by omega)
  rw [clone_eq (by decide) (by omega), Option.bind_some]
  simp only [d1, d2, cond_false, Option.bind_some]
  rw [wrap_i64 (by omega) (by omega)]
  have := put_l0 (fun r => some r) hn s (k - s - 1) b h8 (by omega)
  rwa [show k - s - 1 + s + 1 = k by omega] at this
/-! ### Fields -/
abbrev Fd := Int × List Int
def encF (f : Fd) : List Int := f.1 :: (f.2.length : Int) :: f.2
def okF (f : Fd) : Prop := (0 ≤ f.1 ∧ f.1 < 256) ∧ f.2.length < 256
theorem field_ok {b : List Int} (hb : b.length < 2 ^ 30) {f : Fd} (hf : okF f) : p_ctl_field b f.1 f.2 = some (b ++ encF f) := by
  obtain ⟨h1, h2⟩ := hf
  unfold p_ctl_field
  rw [wrap_u8 h1.1 h1.2, wrap_u8 (by omega) (by omega), ap_eq (by decide) (by simp only [List.length_cons, List.length_nil]; omega), Option.bind_some, ap_eq (by decide) (by rw [List.length_append]; simp only [List.length_cons, List.length_nil]; omega), Option.bind_some, encF, List.append_assoc]
  rfl
theorem encF_len (f : Fd) : (encF f).length = 2 + f.2.length := by rw [encF, List.length_cons, List.length_cons]; omega
theorem body_len : ∀ {l : List Fd}, (∀ f ∈ l, okF f) → (l.flatMap encF).length ≤ 257 * l.length
  | [], _ => by simp
  | f :: l, h => by
    have := body_len (l := l) fun x hx => h x (List.mem_cons_of_mem _ hx)
    have := (h f (List.mem_cons_self ..)).2
    rw [List.flatMap_cons, List.length_append, encF_len, List.length_cons]
    omega
/-- Fields are told by their bytes. -/
theorem body_inj : ∀ {l m : List Fd}, l.flatMap encF = m.flatMap encF → l = m
  | [], [], _ => rfl
  | [], g :: m, h => by rw [List.flatMap_cons, encF] at h; cases h
  | f :: l, [], h => by rw [List.flatMap_cons, encF] at h; cases h
  | f :: l, g :: m, h => by
    rw [List.flatMap_cons, List.flatMap_cons, encF, encF] at h
    simp only [List.cons_append, List.cons.injEq] at h
    obtain ⟨h1, h2, h3⟩ := h
    have hl : f.2.length = g.2.length := by omega
    obtain ⟨h4, h5⟩ := List.append_inj h3 hl
    have := body_inj h5
    subst this
    congr 1
    exact Prod.ext h1 h4
/-! ### Concat -/
theorem concat2 {k : Nat} (hk : 10 ≤ k) {x y : List Int} (hx : x.length < 1000) (hy : y.length < 10000) : p_slices_Concat_Lbyte_byte k [x, y] = some (x ++ y) := by
  obtain ⟨j, rfl⟩ : ∃ j, k = j + 3 := ⟨k - 3, by omega⟩
  unfold p_slices_Concat_Lbyte_byte
  have l2 : ((([x, y] : List (List Int)).length : Nat) : Int) = 2 := rfl
  have w0 : IntKind.wrap .i64 (0 + (x.length : Int)) = (x.length : Int) := by rw [wrap_i64 (by omega) (by omega)]; omega
  have w1 : IntKind.wrap .i64 ((x.length : Int) + (y.length : Int)) = ((x.length + y.length : Nat) : Int) := by rw [wrap_i64 (by omega) (by omega)]; omega
  have i0 : ix [x, y] 0 = some x := rfl
  have i1 : ix [x, y] 1 = some y := rfl
  have a0 : IntKind.wrap .i64 (0 + 1) = 1 := rfl
  have a1 : IntKind.wrap .i64 (1 + 1) = 2 := rfl
  have d0 : decide ((0 : Int) < 2) = true := rfl
  have d1 : decide ((1 : Int) < 2) = true := rfl
  have d2 : decide ((2 : Int) < 2) = false := rfl
  have n0 : decide ((x.length : Int) < 0) = false := decide_eq_false (by omega)
  have n1 : decide (((x.length + y.length : Nat) : Int) < 0) = false := decide_eq_false (by omega)
  have g : p_slices_Grow_Lbyte_byte ((x.length + y.length : Nat) : Int) = some [] := by unfold p_slices_Grow_Lbyte_byte; rw [if_pos ⟨by omega, by omega⟩]
  have e1 : ap 1 ([] : List Int) x = some x := by rw [ap_eq (by decide) (by simp only [List.length_nil]; omega), List.nil_append]
  have e2 : ap 1 x y = some (x ++ y) := ap_eq (by decide) (by omega)
  rw [l2, p_slices_Concat_Lbyte_byte_l0, d0, cond_true, i0, Option.bind_some, w0, n0, cond_false, a0]
  rw [p_slices_Concat_Lbyte_byte_l0, d1, cond_true, i1, Option.bind_some, w1, n1, cond_false, a1]
  rw [p_slices_Concat_Lbyte_byte_l0, d2, cond_false, g, Option.bind_some]
  rw [l2, p_slices_Concat_Lbyte_byte_l1, d0, cond_true, i0, Option.bind_some, e1, Option.bind_some, a0]
  rw [p_slices_Concat_Lbyte_byte_l1, d1, cond_true, i1, Option.bind_some, e2, Option.bind_some, a1]
  rw [p_slices_Concat_Lbyte_byte_l1, d2, cond_false]
end Go.Ev
namespace Go.Ev
set_option maxRecDepth 100000
theorem orO (a b : Bool) : (bif a then some true else some b) = some (a || b) := by cases a <;> rfl
theorem andO (a b : Bool) : (bif a then some b else some false) = some (a && b) := by cases a <;> rfl
theorem condS {α : Type} (a : Bool) (x y : α) : (bif a then some x else some y) = some (bif a then x else y) := by cases a <;> rfl
theorem condT (a b : Bool) : (bif a then true else b) = (a || b) := by cases a <;> rfl
def hasB (k n : Int) : Bool :=
  bif n == 1 then k == 1 else bif n == 2 then k == 3 else bif n == 3 then (((k == 4) || (k == 5)) || (k == 6)) || (k == 7) else bif n == 4 then (k == 4) || (k == 6) else bif n == 5 then (k == 4) || (k == 7) else bif n == 6 then (k == 8) || (k == 9) else k == 10
theorem has_ok (k n : Int) : p_ctl_has k n = some (hasB k n) := by
  unfold p_ctl_has hasB
  simp only [Option.bind_some, condS, condT]
theorem within_ok (n a b : Int) : p_ctl_within n a b = some (decide (n ≥ a) && decide (n ≤ b)) := by
  unfold p_ctl_within
  simp only [andO, Option.bind_some]
def valB (c : T_api_Ctl) : Bool :=
  (((((!hasB c.Kind 1 || (decide (c.Cap ≥ 1) && decide (c.Cap ≤ 1099511627776))) && (!hasB c.Kind 3 || (decide (c.Peer ≥ 0) && decide (c.Peer ≤ 5)))) && (!hasB c.Kind 4 || (decide (c.Height ≥ 1) && decide (c.Height ≤ 8192)))) && (!hasB c.Kind 5 || (decide (c.Class ≥ 0) && decide (c.Class ≤ 3)))) && (!hasB c.Kind 6 || (decide (c.Layer ≥ 0) && decide (c.Layer ≤ 2)))) && (!hasB c.Kind 7 || (decide (c.Code ≥ 0) && decide (c.Code ≤ 255)))
theorem values_ok (c : T_api_Ctl) : p_ctl_values c = some (valB c) := by
  unfold p_ctl_values valB
  simp only [has_ok, within_ok, Option.bind_some, orO, andO]
def fldB (kind : Int) : Nat → List Bool → Bool
  | _, [] => true
  | i, z :: zs => (z || hasB kind ((i : Int) + 1)) && fldB kind (i + 1) zs
theorem fields_l0 {β : Type} (kE0 : Unit → Option β) (kE1 : Bool → Option β) (c : T_api_Ctl) (zs : List Bool) (hz : zs.length < 100) : ∀ (rest pre : List Bool) (j : Nat), zs = pre ++ rest →
    p_ctl_fields_l0 (j + rest.length + 1) kE0 kE1 zs (zs.length : Int) (pre.length : Int) c = bif fldB c.Kind pre.length rest then kE0 () else kE1 false
  | [], pre, j, h => by
    rw [p_ctl_fields_l0]
    have h1 : decide ((pre.length : Int) < (zs.length : Int)) = false := by subst h; simp
    rw [h1, cond_false, fldB, cond_true]
  | z :: rest, pre, j, h => by
    have hplen : pre.length + 1 ≤ zs.length := by rw [h, List.length_append, List.length_cons]; omega
    rw [List.length_cons, show j + (rest.length + 1) + 1 = (j + rest.length + 1) + 1 from rfl, p_ctl_fields_l0]
    have h1 : decide ((pre.length : Int) < (zs.length : Int)) = true := decide_eq_true (by omega)
    have h2 : ix zs (pre.length : Int) = some z := ix_mid' h rfl
    have h4 : IntKind.wrap .i64 ((pre.length : Int) + 1) = (pre.length : Int) + 1 := wrap_i64 (by omega) (by omega)
    have ih := fields_l0 kE0 kE1 c zs hz rest (pre ++ [z]) j (by rw [h]; simp)
    have e1 : (((pre ++ [z]).length : Nat) : Int) = (pre.length : Int) + 1 := by simp
    have e2 : (pre ++ [z]).length = pre.length + 1 := by simp
    rw [e1, e2] at ih
    rw [h1, cond_true, h2, Option.bind_some, h4, has_ok, Option.bind_some, andO, Option.bind_some, ih, fldB]
    cases z <;> cases hasB c.Kind ((pre.length : Int) + 1) <;> rfl
theorem fields_ok (c : T_api_Ctl) {k : Nat} (hk : 10 ≤ k) : p_ctl_fields k c = some (fldB c.Kind 0 [(c.Cap == 0), ((c.Layers.length : Int) == 0), (c.Peer == 0), (c.Height == 0), (c.Class == 0), (c.Layer == 0), (c.Code == 0)]) := by
  unfold p_ctl_fields
  have := fields_l0 (fun (_ : Unit) => (some true : Option Bool)) (fun r => some r) c [(c.Cap == 0), ((c.Layers.length : Int) == 0), (c.Peer == 0), (c.Height == 0), (c.Class == 0), (c.Layer == 0), (c.Code == 0)] (by simp) [(c.Cap == 0), ((c.Layers.length : Int) == 0), (c.Peer == 0), (c.Height == 0), (c.Class == 0), (c.Layer == 0), (c.Code == 0)] [] (k - 8) rfl
  simp only [List.length_cons, List.length_nil, show k - 8 + (0 + 1 + 1 + 1 + 1 + 1 + 1 + 1) + 1 = k by omega] at this
  refine Eq.trans ?_ (this.trans ?_)
  · rfl
  · cases fldB c.Kind 0 [(c.Cap == 0), ((c.Layers.length : Int) == 0), (c.Peer == 0), (c.Height == 0), (c.Class == 0), (c.Layer == 0), (c.Code == 0)] <;> rfl
theorem right_ok {c : T_api_Ctl} {k : Nat} (hk : 10 ≤ k) (h1 : 1 ≤ c.Kind ∧ c.Kind ≤ 10) (hf : fldB c.Kind 0 [(c.Cap == 0), ((c.Layers.length : Int) == 0), (c.Peer == 0), (c.Height == 0), (c.Class == 0), (c.Layer == 0), (c.Code == 0)] = true) (hv : valB c = true) (hl : c.Kind = 3 → p_ctl_Layers k c.Layers = some 0) : p_ctl_Right k c = some 0 := by
  unfold p_ctl_Right
  have d1 : decide (c.Kind < 1) = false := decide_eq_false (by omega)
  have d2 : decide (c.Kind > 10) = false := decide_eq_false (by omega)
  have f := fields_ok c hk
  rw [hf] at f
  have v := values_ok c
  rw [hv] at v
  have f' : p_ctl_fields k (⟨c.Kind, c.Cap, c.Layers, c.Peer, c.Height, c.Class, c.Layer, c.Code⟩ : T_api_Ctl) = some true := f
  have v' : p_ctl_values (⟨c.Kind, c.Cap, c.Layers, c.Peer, c.Height, c.Class, c.Layer, c.Code⟩ : T_api_Ctl) = some true := v
  simp only [d1, d2, cond_false, Option.bind_some, f', v', Bool.not_true]
  cases h3 : (c.Kind == 3) with
  | true => rw [cond_true, hl (by simpa using h3)]; rfl
  | false => rfl
/-! ### A message's fields -/
def layF (a : T_api_Layer) : Fd := (2, putB a.Ssrc 4 ++ putB a.Height 2 ++ bytesS a.Rid)
def okLy (a : T_api_Layer) : Prop := (0 ≤ a.Ssrc ∧ a.Ssrc < 2 ^ 32) ∧ (0 ≤ a.Height ∧ a.Height < 2 ^ 16) ∧ a.Rid.size ≤ 200
theorem wrap_u64 {n : Int} (h1 : 0 ≤ n) (h2 : n < 18446744073709551616) : IntKind.wrap .u64 n = n := by
  simp only [IntKind.wrap, IntKind.signed, IntKind.bits]
  simp
  omega
theorem layF_len (a : T_api_Layer) : (layF a).2.length = 6 + a.Rid.size := by
  simp only [layF, List.length_append, putB_len, bytesS_len]
theorem layF_ok {a : T_api_Layer} (h : okLy a) : okF (layF a) := ⟨⟨by simp [layF], by simp [layF]⟩, by rw [layF_len]; have := h.2.2; omega⟩
theorem bytes8_l0 {β : Type} (kE0 : List Int → T_api_Ctl → Option β) (c : T_api_Ctl) (l : List T_api_Layer) (hl : l.length < 100) (hs : ∀ a ∈ l, okLy a) : ∀ (rest pre : List T_api_Layer) (j : Nat) (b : List Int), l = pre ++ rest → 10 ≤ j → b.length + 257 * rest.length < 2 ^ 29 →
    p_ctl_Bytes_l0 (j + rest.length + 1) kE0 b l (l.length : Int) (pre.length : Int) c = kE0 (b ++ (rest.map layF).flatMap encF) c
  | [], pre, j, b, h, _, _ => by
    rw [p_ctl_Bytes_l0]
    have h1 : decide ((pre.length : Int) < (l.length : Int)) = false := by subst h; simp
    rw [h1, cond_false, List.map_nil, List.flatMap_nil, List.append_nil]
  | a :: rest, pre, j, b, h, hj, hb => by
    rw [List.length_cons] at hb
    have hplen : pre.length + 1 ≤ l.length := by rw [h, List.length_append, List.length_cons]; omega
    obtain ⟨o1, o2, o3⟩ := hs a (by rw [h]; simp)
    rw [List.length_cons, show j + (rest.length + 1) + 1 = (j + rest.length + 1) + 1 from rfl, p_ctl_Bytes_l0]
    have h1 : decide ((pre.length : Int) < (l.length : Int)) = true := decide_eq_true (by omega)
    have h2 : ix l (pre.length : Int) = some a := ix_mid' h rfl
    have h4 : IntKind.wrap .i64 ((pre.length : Int) + 1) = (((pre ++ [a]).length : Nat) : Int) := by rw [wrap_i64 (by omega) (by omega)]; simp
    have p1 : p_octet_Put (j + rest.length + 1) ([] : List Int) a.Ssrc 4 = some (putB a.Ssrc 4) := putO_ok (s := 4) (by omega) (by simp) o1.1 (by omega) (by omega)
    have p2 : p_octet_Put (j + rest.length + 1) (putB a.Ssrc 4) a.Height 2 = some (putB a.Ssrc 4 ++ putB a.Height 2) := putO_ok (s := 2) (by omega) (by rw [putB_len]; omega) o2.1 (by omega) (by omega)
    have hap : ap 1 (putB a.Ssrc 4 ++ putB a.Height 2) (bytesS a.Rid) = some (layF a).2 := ap_eq (by decide) (by rw [List.length_append, putB_len, putB_len, bytesS_len]; omega)
    have hfd : p_ctl_field b 2 (layF a).2 = some (b ++ encF (layF a)) := field_ok (f := layF a) (by omega) (layF_ok (hs a (by rw [h]; simp)))
    have hle := encF_len (layF a)
    have hll := layF_len a
    rw [h1, cond_true, h2, Option.bind_some, wrap_u64 o1.1 (by omega), p1, Option.bind_some, wrap_u64 o2.1 (by omega), p2, Option.bind_some, hap, Option.bind_some, hfd, Option.bind_some, h4]
    have ih := bytes8_l0 kE0 c l hl hs rest (pre ++ [a]) j (b ++ encF (layF a)) (by rw [h]; simp) hj (by rw [List.length_append]; omega)
    refine ih.trans ?_
    rw [List.map_cons, List.flatMap_cons, List.append_assoc]
abbrev It := T_struct_name_int_size_int_n_int64
def itF (a : It) : Fd := (a.name, putB a.n a.size.toNat)
def selF (kind : Int) (l : List It) : List Fd := l.flatMap fun a => bif hasB kind a.name then [itF a] else []
def okIt (a : It) : Prop := (0 ≤ a.name ∧ a.name < 256) ∧ (1 ≤ a.size ∧ a.size ≤ 8) ∧ 0 ≤ a.n ∧ a.n < 2 ^ 63
theorem bytes8_l1 {β : Type} (kE0 : List Int → T_api_Ctl → Option β) (c : T_api_Ctl) (l : List It) (hl : l.length < 100) (hs : ∀ a ∈ l, okIt a) : ∀ (rest pre : List It) (j : Nat) (b : List Int), l = pre ++ rest → 10 ≤ j → b.length + 257 * rest.length < 2 ^ 29 →
    p_ctl_Bytes_l1 (j + rest.length + 1) kE0 b l (l.length : Int) (pre.length : Int) c = kE0 (b ++ (selF c.Kind rest).flatMap encF) c
  | [], pre, j, b, h, _, _ => by
    rw [p_ctl_Bytes_l1]
    have h1 : decide ((pre.length : Int) < (l.length : Int)) = false := by subst h; simp
    rw [h1, cond_false, selF, List.flatMap_nil, List.flatMap_nil, List.append_nil]
  | a :: rest, pre, j, b, h, hj, hb => by
    rw [List.length_cons] at hb
    have hplen : pre.length + 1 ≤ l.length := by rw [h, List.length_append, List.length_cons]; omega
    obtain ⟨o1, o2, o3, o4⟩ := hs a (by rw [h]; simp)
    rw [List.length_cons, show j + (rest.length + 1) + 1 = (j + rest.length + 1) + 1 from rfl, p_ctl_Bytes_l1]
    have h1 : decide ((pre.length : Int) < (l.length : Int)) = true := decide_eq_true (by omega)
    have h2 : ix l (pre.length : Int) = some a := ix_mid' h rfl
    have h4 : IntKind.wrap .i64 ((pre.length : Int) + 1) = (((pre ++ [a]).length : Nat) : Int) := by rw [wrap_i64 (by omega) (by omega)]; simp
    obtain ⟨s, hsz⟩ : ∃ s : Nat, a.size = s := ⟨a.size.toNat, by omega⟩
    have p1 : p_octet_Put (j + rest.length + 1) ([] : List Int) a.n a.size = some (putB a.n s) := by rw [hsz]; exact putO_ok (by omega) (by simp) o3 (by omega) (by omega)
    have hit : itF a = (a.name, putB a.n s) := by rw [itF, hsz, Int.toNat_natCast]
    have hfd : p_ctl_field b a.name (putB a.n s) = some (b ++ encF (itF a)) := by rw [hit]; exact field_ok (f := (a.name, putB a.n s)) (by omega) ⟨o1, by simp only; rw [putB_len]; omega⟩
    have hle : (encF (itF a)).length = 2 + s := by rw [encF_len, hit]; simp only; rw [putB_len]
    rw [h1, cond_true, h2, Option.bind_some, has_ok, Option.bind_some]
    have hsel : selF c.Kind (a :: rest) = (bif hasB c.Kind a.name then [itF a] else []) ++ selF c.Kind rest := by simp only [selF, List.flatMap_cons]
    rw [hsel]
    cases hasB c.Kind a.name with
    | true =>
      rw [cond_true, wrap_u64 o3 (by omega), p1, Option.bind_some, hfd, Option.bind_some, h4]
      have ih := bytes8_l1 kE0 c l hl hs rest (pre ++ [a]) j (b ++ encF (itF a)) (by rw [h]; simp) hj (by rw [List.length_append, hle]; omega)
      refine ih.trans ?_
      simp
    | false =>
      rw [cond_false, h4]
      have ih := bytes8_l1 kE0 c l hl hs rest (pre ++ [a]) j b (by rw [h]; simp) hj (by omega)
      refine ih.trans ?_
      simp
def six (c : T_api_Ctl) : List It := [⟨1, 8, c.Cap⟩, ⟨3, 1, c.Peer⟩, ⟨4, 2, c.Height⟩, ⟨5, 1, c.Class⟩, ⟨6, 1, c.Layer⟩, ⟨7, 1, c.Code⟩]
def flds (c : T_api_Ctl) : List Fd := c.Layers.map layF ++ selF c.Kind (six c)
def bodyC (c : T_api_Ctl) : List Int := (flds c).flatMap encF
def bytC (c : T_api_Ctl) : List Int := ([c.Kind] ++ putB ((bodyC c).length : Int) 2) ++ bodyC c
def okC (c : T_api_Ctl) : Prop := (0 ≤ c.Kind ∧ c.Kind < 256) ∧ c.Layers.length ≤ 3 ∧ (∀ a ∈ c.Layers, okLy a) ∧ ∀ a ∈ six c, okIt a
theorem selF_len (kind : Int) : ∀ l : List It, (selF kind l).length ≤ l.length
  | [] => by simp [selF]
  | a :: l => by
    have := selF_len kind l
    unfold selF at this ⊢
    rw [List.flatMap_cons, List.length_append, List.length_cons]
    cases hasB kind a.name <;> simp only [cond_true, cond_false, List.length_cons, List.length_nil] <;> omega
theorem selF_ok {kind : Int} {l : List It} (h : ∀ a ∈ l, okIt a) : ∀ f ∈ selF kind l, okF f := by
  intro f hf
  simp only [selF, List.mem_flatMap] at hf
  obtain ⟨a, ha, hf⟩ := hf
  obtain ⟨o1, o2, o3, o4⟩ := h a ha
  cases hh : hasB kind a.name with
  | false => rw [hh] at hf; simp at hf
  | true =>
    rw [hh, cond_true, List.mem_singleton] at hf
    subst hf
    exact ⟨o1, by simp only [itF]; rw [putB_len]; omega⟩
theorem bodyC_len {c : T_api_Ctl} (h : okC c) : (bodyC c).length ≤ 2400 := by
  have h1 : ∀ f ∈ flds c, okF f := fun f hf => by
    rcases List.mem_append.1 hf with hf | hf
    · obtain ⟨a, ha, rfl⟩ := List.mem_map.1 hf; exact layF_ok (h.2.2.1 a ha)
    · exact selF_ok h.2.2.2 f hf
  have h2 := body_len h1
  have h3 := selF_len c.Kind (six c)
  have h4 : (flds c).length = c.Layers.length + (selF c.Kind (six c)).length := by simp [flds]
  have h5 : (six c).length = 6 := rfl
  have h6 := h.2.1
  unfold bodyC
  omega
theorem bytes8 {c : T_api_Ctl} (h : okC c) {k : Nat} (hk : 40 ≤ k) (hr : p_ctl_Right k c = some 0) : p_ctl_Bytes k c = some (bytC c, 0) := by
  have hbl := bodyC_len h
  obtain ⟨hkd, hl3, hly, hit⟩ := h
  have hr' : p_ctl_Right k (⟨c.Kind, c.Cap, c.Layers, c.Peer, c.Height, c.Class, c.Layer, c.Code⟩ : T_api_Ctl) = some 0 := hr
  unfold p_ctl_Bytes
  rw [hr', Option.bind_some]
  simp only [show ((0 : Int) != 0) = false from rfl, cond_false]
  have b0 := fun (kE0 : List Int → T_api_Ctl → Option (List Int × Int)) => bytes8_l0 kE0 c c.Layers (by omega) hly c.Layers [] (k - c.Layers.length - 1) [] rfl (by omega) (by simp only [List.length_nil]; omega)
  simp only [show k - c.Layers.length - 1 + c.Layers.length + 1 = k by omega, List.length_nil, List.nil_append] at b0
  rw [show ((0 : Nat) : Int) = 0 from rfl] at b0
  refine (b0 _).trans ?_
  have lb : ((c.Layers.map layF).flatMap encF).length ≤ 257 * c.Layers.length := by
    have := body_len (l := c.Layers.map layF) (fun f hf => by obtain ⟨a, ha, rfl⟩ := List.mem_map.1 hf; exact layF_ok (hly a ha))
    rwa [List.length_map] at this
  have b1 := fun (kE0 : List Int → T_api_Ctl → Option (List Int × Int)) => bytes8_l1 kE0 c (six c) (by show 6 < 100; decide) hit (six c) [] (k - 7) ((c.Layers.map layF).flatMap encF) rfl (by omega) (by show _ + 257 * 6 < _; omega)
  have h6 : (six c).length = 6 := rfl
  rw [h6] at b1
  simp only [show k - 7 + 6 + 1 = k by omega, List.length_nil] at b1
  rw [show ((0 : Nat) : Int) = 0 from rfl] at b1
  refine (b1 _).trans ?_
  have hbody : (c.Layers.map layF).flatMap encF ++ (selF c.Kind (six c)).flatMap encF = bodyC c := by rw [bodyC, flds, List.flatMap_append]
  rw [hbody]
  have p1 : p_octet_Put k [c.Kind] ((bodyC c).length : Int) 2 = some ([c.Kind] ++ putB ((bodyC c).length : Int) 2) := putO_ok (s := 2) (by omega) (by simp) (by omega) (by omega) (by omega)
  simp only [wrap_u8 hkd.1 hkd.2, wrap_u64 (n := ((bodyC c).length : Int)) (by omega) (by omega), p1, Option.bind_some]
  rw [concat2 (by omega) (by rw [List.length_append, putB_len]; simp) (by omega), Option.bind_some]
  rfl
end Go.Ev
/- Equations, printed by tracer2.py. -/
namespace Go.Ev
open Go.Proofs
set_option linter.unusedVariables false
set_option maxRecDepth 100000
-- 28 (*limelight/limelightkeep.Tape).Ctl
theorem limelightkeep_Tape_Ctl_entry (rec : CallF) (loop : LoopV) (σ : Stamp) (x0 : V) (h : H) : cvBody G rec loop 28 σ [x0] h =
 (some (alO [.p (.int .i64 0), .p (.int .i64 0), .p (.slice none 0 0), .p (.int .i64 0), .p (.int .i64 0), .p (.int .i64 0), .p (.int .i64 0), .p (.int .i64 0)] (0 :: 0 :: 0 :: σ) 2 (List.replicate 69 [] :: h))).bind fun q1 =>
 (callO rec 51 (1 :: 0 :: 1 :: 0 :: σ) [x0, (.p (.int .i64 10))] q1.2 (some 5)).bind fun q2 =>
 (castI .i64 q2.1).bind fun n3 =>
 (buildV Try.prog 58 [(0, (.p (.int .i64 (IntKind.wrap .i64 (1 + n3)))))]).bind fun t4 =>
 (some (alO [.p (.int .i64 0), .p (.int .i64 0), .p (.slice none 0 0), .p (.int .i64 0), .p (.int .i64 0), .p (.int .i64 0), .p (.int .i64 0), .p (.int .i64 0)] (4 :: 0 :: 1 :: 0 :: σ) 3 q2.2)).bind fun q5 =>
 ((stO false 8 (5 :: 0 :: 1 :: 0 :: σ) q5.2 q5.1 t4).map fun h => (udf, h)).bind fun q6 =>
 (fA q5.1 0).bind fun t7 =>
 (ldO false 1 q6.2 t7).bind fun t8 =>
 (castI .i64 t8).bind fun n9 =>
 bif n9 == 1 then (
 (callO rec 51 (1 :: 1 :: 1 :: 0 :: 1 :: 1 :: 0 :: σ) [x0, (.p (.int .i64 1048576))] q6.2 (some 13)).bind fun q10 =>
 (castI .i64 q10.1).bind fun n11 =>
 (fA q5.1 1).bind fun t12 =>
 ((stO true 1 (4 :: 1 :: 1 :: 0 :: 1 :: 1 :: 0 :: σ) q10.2 t12 (.p (.int .i64 (IntKind.wrap .i64 (1 + n11))))).map fun h => (udf, h)).bind fun q13 =>
 (ldO true 8 q13.2 q5.1).bind fun t14 =>
 ((stO false 8 (1 :: 0 :: 1 :: 1 :: 1 :: 0 :: σ) q13.2 q1.1 t14).map fun h => (udf, h)).bind fun q15 =>
 ((ldO true 8 q15.2 q1.1).bind fun t16 => (some []).map (t16 :: ·)).bind fun t17 => fin false σ q15.2 t17)
 else (
 bif n9 == 3 then (
 (callO rec 51 (2 :: 1 :: 1 :: 1 :: 0 :: 1 :: 1 :: 0 :: σ) [x0, (.p (.int .i64 6))] q6.2 (some 20)).bind fun q18 =>
 (castI .i64 q18.1).bind fun n19 =>
 (callO rec 33 (3 :: 1 :: 1 :: 1 :: 0 :: 1 :: 1 :: 0 :: σ) [x0, (.p (.int .i64 n19))] q18.2 (some 21)).bind fun q20 =>
 (fA q5.1 2).bind fun t21 =>
 ((stO true 1 (5 :: 1 :: 1 :: 1 :: 0 :: 1 :: 1 :: 0 :: σ) q20.2 t21 q20.1).map fun h => (udf, h)).bind fun q22 =>
 (ldO true 8 q22.2 q5.1).bind fun t23 =>
 ((stO false 8 (1 :: 0 :: 1 :: 1 :: 1 :: 0 :: σ) q22.2 q1.1 t23).map fun h => (udf, h)).bind fun q24 =>
 ((ldO true 8 q24.2 q1.1).bind fun t25 => (some []).map (t25 :: ·)).bind fun t26 => fin false σ q24.2 t26)
 else (
 bif n9 == 4 then (
 (callO rec 51 (1 :: 1 :: 1 :: 1 :: 1 :: 0 :: 1 :: 1 :: 0 :: σ) [x0, (.p (.int .i64 6))] q6.2 (some 26)).bind fun q27 =>
 (castI .i64 q27.1).bind fun n28 =>
 (callO rec 51 (3 :: 1 :: 1 :: 1 :: 1 :: 0 :: 1 :: 1 :: 0 :: σ) [x0, (.p (.int .i64 1000))] q27.2 (some 28)).bind fun q29 =>
 (castI .i64 q29.1).bind fun n30 =>
 (callO rec 51 (6 :: 1 :: 1 :: 1 :: 1 :: 0 :: 1 :: 1 :: 0 :: σ) [x0, (.p (.int .i64 4))] q29.2 (some 31)).bind fun q31 =>
 (castI .i64 q31.1).bind fun n32 =>
 (fA q5.1 3).bind fun t33 =>
 ((stO true 1 (8 :: 1 :: 1 :: 1 :: 1 :: 0 :: 1 :: 1 :: 0 :: σ) q31.2 t33 (.p (.int .i64 n28))).map fun h => (udf, h)).bind fun q34 =>
 (fA q5.1 4).bind fun t35 =>
 ((stO true 1 (10 :: 1 :: 1 :: 1 :: 1 :: 0 :: 1 :: 1 :: 0 :: σ) q34.2 t35 (.p (.int .i64 (IntKind.wrap .i64 (1 + n30))))).map fun h => (udf, h)).bind fun q36 =>
 (fA q5.1 5).bind fun t37 =>
 ((stO true 1 (12 :: 1 :: 1 :: 1 :: 1 :: 0 :: 1 :: 1 :: 0 :: σ) q36.2 t37 (.p (.int .i64 n32))).map fun h => (udf, h)).bind fun q38 =>
 (ldO true 8 q38.2 q5.1).bind fun t39 =>
 ((stO false 8 (1 :: 0 :: 1 :: 1 :: 1 :: 0 :: σ) q38.2 q1.1 t39).map fun h => (udf, h)).bind fun q40 =>
 ((ldO true 8 q40.2 q1.1).bind fun t41 => (some []).map (t41 :: ·)).bind fun t42 => fin false σ q40.2 t42)
 else (
 bif n9 == 5 then (
 (callO rec 51 (1 :: 1 :: 1 :: 1 :: 1 :: 1 :: 0 :: 1 :: 1 :: 0 :: σ) [x0, (.p (.int .i64 6))] q6.2 (some 38)).bind fun q43 =>
 (castI .i64 q43.1).bind fun n44 =>
 (fA q5.1 3).bind fun t45 =>
 ((stO true 1 (3 :: 1 :: 1 :: 1 :: 1 :: 1 :: 0 :: 1 :: 1 :: 0 :: σ) q43.2 t45 (.p (.int .i64 n44))).map fun h => (udf, h)).bind fun q46 =>
 (ldO true 8 q46.2 q5.1).bind fun t47 =>
 ((stO false 8 (1 :: 0 :: 1 :: 1 :: 1 :: 0 :: σ) q46.2 q1.1 t47).map fun h => (udf, h)).bind fun q48 =>
 ((ldO true 8 q48.2 q1.1).bind fun t49 => (some []).map (t49 :: ·)).bind fun t50 => fin false σ q48.2 t50)
 else (
 bif n9 == 6 then (
 (callO rec 51 (1 :: 1 :: 1 :: 1 :: 1 :: 1 :: 1 :: 0 :: 1 :: 1 :: 0 :: σ) [x0, (.p (.int .i64 6))] q6.2 (some 43)).bind fun q51 =>
 (castI .i64 q51.1).bind fun n52 =>
 (callO rec 51 (3 :: 1 :: 1 :: 1 :: 1 :: 1 :: 1 :: 0 :: 1 :: 1 :: 0 :: σ) [x0, (.p (.int .i64 1000))] q51.2 (some 45)).bind fun q53 =>
 (castI .i64 q53.1).bind fun n54 =>
 (fA q5.1 3).bind fun t55 =>
 ((stO true 1 (6 :: 1 :: 1 :: 1 :: 1 :: 1 :: 1 :: 0 :: 1 :: 1 :: 0 :: σ) q53.2 t55 (.p (.int .i64 n52))).map fun h => (udf, h)).bind fun q56 =>
 (fA q5.1 4).bind fun t57 =>
 ((stO true 1 (8 :: 1 :: 1 :: 1 :: 1 :: 1 :: 1 :: 0 :: 1 :: 1 :: 0 :: σ) q56.2 t57 (.p (.int .i64 (IntKind.wrap .i64 (1 + n54))))).map fun h => (udf, h)).bind fun q58 =>
 (ldO true 8 q58.2 q5.1).bind fun t59 =>
 ((stO false 8 (1 :: 0 :: 1 :: 1 :: 1 :: 0 :: σ) q58.2 q1.1 t59).map fun h => (udf, h)).bind fun q60 =>
 ((ldO true 8 q60.2 q1.1).bind fun t61 => (some []).map (t61 :: ·)).bind fun t62 => fin false σ q60.2 t62)
 else (
 bif n9 == 7 then (
 (callO rec 51 (1 :: 1 :: 1 :: 1 :: 1 :: 1 :: 1 :: 1 :: 0 :: 1 :: 1 :: 0 :: σ) [x0, (.p (.int .i64 6))] q6.2 (some 52)).bind fun q63 =>
 (castI .i64 q63.1).bind fun n64 =>
 (callO rec 51 (3 :: 1 :: 1 :: 1 :: 1 :: 1 :: 1 :: 1 :: 0 :: 1 :: 1 :: 0 :: σ) [x0, (.p (.int .i64 4))] q63.2 (some 54)).bind fun q65 =>
 (castI .i64 q65.1).bind fun n66 =>
 (fA q5.1 3).bind fun t67 =>
 ((stO true 1 (5 :: 1 :: 1 :: 1 :: 1 :: 1 :: 1 :: 1 :: 0 :: 1 :: 1 :: 0 :: σ) q65.2 t67 (.p (.int .i64 n64))).map fun h => (udf, h)).bind fun q68 =>
 (fA q5.1 5).bind fun t69 =>
 ((stO true 1 (7 :: 1 :: 1 :: 1 :: 1 :: 1 :: 1 :: 1 :: 0 :: 1 :: 1 :: 0 :: σ) q68.2 t69 (.p (.int .i64 n66))).map fun h => (udf, h)).bind fun q70 =>
 (ldO true 8 q70.2 q5.1).bind fun t71 =>
 ((stO false 8 (1 :: 0 :: 1 :: 1 :: 1 :: 0 :: σ) q70.2 q1.1 t71).map fun h => (udf, h)).bind fun q72 =>
 ((ldO true 8 q72.2 q1.1).bind fun t73 => (some []).map (t73 :: ·)).bind fun t74 => fin false σ q72.2 t74)
 else (
 bif n9 == 8 then (
 bif n9 == 8 then (
 (callO rec 51 (1 :: 1 :: 1 :: 1 :: 1 :: 1 :: 1 :: 1 :: 1 :: 0 :: 1 :: 1 :: 0 :: σ) [x0, (.p (.int .i64 3))] q6.2 (some 61)).bind fun q75 =>
 (castI .i64 q75.1).bind fun n76 =>
 (fA q5.1 6).bind fun t77 =>
 ((stO true 1 (3 :: 1 :: 1 :: 1 :: 1 :: 1 :: 1 :: 1 :: 1 :: 0 :: 1 :: 1 :: 0 :: σ) q75.2 t77 (.p (.int .i64 n76))).map fun h => (udf, h)).bind fun q78 =>
 (ldO true 8 q78.2 q5.1).bind fun t79 =>
 ((stO false 8 (1 :: 0 :: 1 :: 1 :: 1 :: 0 :: σ) q78.2 q1.1 t79).map fun h => (udf, h)).bind fun q80 =>
 ((ldO true 8 q80.2 q1.1).bind fun t81 => (some []).map (t81 :: ·)).bind fun t82 => fin false σ q80.2 t82)
 else (
 bif n9 == 10 then (
 (callO rec 51 (1 :: 1 :: 1 :: 1 :: 1 :: 1 :: 1 :: 1 :: 1 :: 1 :: 0 :: 1 :: 1 :: 0 :: σ) [x0, (.p (.int .i64 256))] q6.2 (some 66)).bind fun q83 =>
 (castI .i64 q83.1).bind fun n84 =>
 (fA q5.1 7).bind fun t85 =>
 ((stO true 1 (3 :: 1 :: 1 :: 1 :: 1 :: 1 :: 1 :: 1 :: 1 :: 1 :: 0 :: 1 :: 1 :: 0 :: σ) q83.2 t85 (.p (.int .i64 n84))).map fun h => (udf, h)).bind fun q86 =>
 (ldO true 8 q86.2 q5.1).bind fun t87 =>
 ((stO false 8 (1 :: 0 :: 1 :: 1 :: 1 :: 0 :: σ) q86.2 q1.1 t87).map fun h => (udf, h)).bind fun q88 =>
 ((ldO true 8 q88.2 q1.1).bind fun t89 => (some []).map (t89 :: ·)).bind fun t90 => fin false σ q88.2 t90)
 else (
 (ldO true 8 q6.2 q5.1).bind fun t91 =>
 ((stO false 8 (1 :: 0 :: 1 :: 1 :: 1 :: 0 :: σ) q6.2 q1.1 t91).map fun h => (udf, h)).bind fun q92 =>
 ((ldO true 8 q92.2 q1.1).bind fun t93 => (some []).map (t93 :: ·)).bind fun t94 => fin false σ q92.2 t94)))
 else (
 bif n9 == 9 then (
 (callO rec 51 (1 :: 1 :: 1 :: 1 :: 1 :: 1 :: 1 :: 1 :: 1 :: 0 :: 1 :: 1 :: 0 :: σ) [x0, (.p (.int .i64 3))] q6.2 (some 61)).bind fun q95 =>
 (castI .i64 q95.1).bind fun n96 =>
 (fA q5.1 6).bind fun t97 =>
 ((stO true 1 (3 :: 1 :: 1 :: 1 :: 1 :: 1 :: 1 :: 1 :: 1 :: 0 :: 1 :: 1 :: 0 :: σ) q95.2 t97 (.p (.int .i64 n96))).map fun h => (udf, h)).bind fun q98 =>
 (ldO true 8 q98.2 q5.1).bind fun t99 =>
 ((stO false 8 (1 :: 0 :: 1 :: 1 :: 1 :: 0 :: σ) q98.2 q1.1 t99).map fun h => (udf, h)).bind fun q100 =>
 ((ldO true 8 q100.2 q1.1).bind fun t101 => (some []).map (t101 :: ·)).bind fun t102 => fin false σ q100.2 t102)
 else (
 bif n9 == 10 then (
 (callO rec 51 (1 :: 1 :: 1 :: 1 :: 1 :: 1 :: 1 :: 1 :: 1 :: 1 :: 0 :: 1 :: 1 :: 0 :: σ) [x0, (.p (.int .i64 256))] q6.2 (some 66)).bind fun q103 =>
 (castI .i64 q103.1).bind fun n104 =>
 (fA q5.1 7).bind fun t105 =>
 ((stO true 1 (3 :: 1 :: 1 :: 1 :: 1 :: 1 :: 1 :: 1 :: 1 :: 1 :: 0 :: 1 :: 1 :: 0 :: σ) q103.2 t105 (.p (.int .i64 n104))).map fun h => (udf, h)).bind fun q106 =>
 (ldO true 8 q106.2 q5.1).bind fun t107 =>
 ((stO false 8 (1 :: 0 :: 1 :: 1 :: 1 :: 0 :: σ) q106.2 q1.1 t107).map fun h => (udf, h)).bind fun q108 =>
 ((ldO true 8 q108.2 q1.1).bind fun t109 => (some []).map (t109 :: ·)).bind fun t110 => fin false σ q108.2 t110)
 else (
 (ldO true 8 q6.2 q5.1).bind fun t111 =>
 ((stO false 8 (1 :: 0 :: 1 :: 1 :: 1 :: 0 :: σ) q6.2 q1.1 t111).map fun h => (udf, h)).bind fun q112 =>
 ((ldO true 8 q112.2 q1.1).bind fun t113 => (some []).map (t113 :: ·)).bind fun t114 => fin false σ q112.2 t114))))))))) := by kernel_rfl
end Go.Ev
/- Lifted by lift.py: limelightkeep_Tape_Ctl as a plain function. -/
namespace Go.Ev
open Go.Proofs
set_option linter.unusedVariables false
set_option linter.unusedSimpArgs false
set_option maxRecDepth 100000
def p_limelightkeep_Tape_Ctl (k : Nat) (x0 : T_limelightkeep_Tape) : Option (T_api_Ctl × T_limelightkeep_Tape) :=
(p_limelightkeep_Tape_Next (⟨x0.f_L, x0.f_At⟩ : T_limelightkeep_Tape) 10).bind fun r5 =>
bif (IntKind.wrap .i64 (1 + r5.1)) == 1 then (
(p_limelightkeep_Tape_Next (⟨r5.2.f_L, r5.2.f_At⟩ : T_limelightkeep_Tape) 1048576).bind fun r20 =>
some (((⟨(IntKind.wrap .i64 (1 + r5.1)), (IntKind.wrap .i64 (1 + r20.1)), (([] : List T_api_Layer)), 0, 0, 0, 0, 0⟩ : T_api_Ctl)), (⟨r20.2.f_L, r20.2.f_At⟩ : T_limelightkeep_Tape)))
else (
bif (IntKind.wrap .i64 (1 + r5.1)) == 3 then (
(p_limelightkeep_Tape_Next (⟨r5.2.f_L, r5.2.f_At⟩ : T_limelightkeep_Tape) 6).bind fun r35 =>
(p_limelightkeep_Tape_Layers k (⟨r35.2.f_L, r35.2.f_At⟩ : T_limelightkeep_Tape) r35.1).bind fun r43 =>
some (((⟨(IntKind.wrap .i64 (1 + r5.1)), 0, r43.1, 0, 0, 0, 0, 0⟩ : T_api_Ctl)), (⟨r43.2.f_L, r43.2.f_At⟩ : T_limelightkeep_Tape)))
else (
bif (IntKind.wrap .i64 (1 + r5.1)) == 4 then (
(p_limelightkeep_Tape_Next (⟨r5.2.f_L, r5.2.f_At⟩ : T_limelightkeep_Tape) 6).bind fun r80 =>
(p_limelightkeep_Tape_Next (⟨r80.2.f_L, r80.2.f_At⟩ : T_limelightkeep_Tape) 1000).bind fun r88 =>
(p_limelightkeep_Tape_Next (⟨r88.2.f_L, r88.2.f_At⟩ : T_limelightkeep_Tape) 4).bind fun r96 =>
some (((⟨(IntKind.wrap .i64 (1 + r5.1)), 0, (([] : List T_api_Layer)), r80.1, (IntKind.wrap .i64 (1 + r88.1)), r96.1, 0, 0⟩ : T_api_Ctl)), (⟨r96.2.f_L, r96.2.f_At⟩ : T_limelightkeep_Tape)))
else (
bif (IntKind.wrap .i64 (1 + r5.1)) == 5 then (
(p_limelightkeep_Tape_Next (⟨r5.2.f_L, r5.2.f_At⟩ : T_limelightkeep_Tape) 6).bind fun r117 =>
some (((⟨(IntKind.wrap .i64 (1 + r5.1)), 0, (([] : List T_api_Layer)), r117.1, 0, 0, 0, 0⟩ : T_api_Ctl)), (⟨r117.2.f_L, r117.2.f_At⟩ : T_limelightkeep_Tape)))
else (
bif (IntKind.wrap .i64 (1 + r5.1)) == 6 then (
(p_limelightkeep_Tape_Next (⟨r5.2.f_L, r5.2.f_At⟩ : T_limelightkeep_Tape) 6).bind fun r132 =>
(p_limelightkeep_Tape_Next (⟨r132.2.f_L, r132.2.f_At⟩ : T_limelightkeep_Tape) 1000).bind fun r140 =>
some (((⟨(IntKind.wrap .i64 (1 + r5.1)), 0, (([] : List T_api_Layer)), r132.1, (IntKind.wrap .i64 (1 + r140.1)), 0, 0, 0⟩ : T_api_Ctl)), (⟨r140.2.f_L, r140.2.f_At⟩ : T_limelightkeep_Tape)))
else (
bif (IntKind.wrap .i64 (1 + r5.1)) == 7 then (
(p_limelightkeep_Tape_Next (⟨r5.2.f_L, r5.2.f_At⟩ : T_limelightkeep_Tape) 6).bind fun r158 =>
(p_limelightkeep_Tape_Next (⟨r158.2.f_L, r158.2.f_At⟩ : T_limelightkeep_Tape) 4).bind fun r166 =>
some (((⟨(IntKind.wrap .i64 (1 + r5.1)), 0, (([] : List T_api_Layer)), r158.1, 0, r166.1, 0, 0⟩ : T_api_Ctl)), (⟨r166.2.f_L, r166.2.f_At⟩ : T_limelightkeep_Tape)))
else (
bif (IntKind.wrap .i64 (1 + r5.1)) == 8 then (
bif (IntKind.wrap .i64 (1 + r5.1)) == 8 then (
(p_limelightkeep_Tape_Next (⟨r5.2.f_L, r5.2.f_At⟩ : T_limelightkeep_Tape) 3).bind fun r184 =>
some (((⟨(IntKind.wrap .i64 (1 + r5.1)), 0, (([] : List T_api_Layer)), 0, 0, 0, r184.1, 0⟩ : T_api_Ctl)), (⟨r184.2.f_L, r184.2.f_At⟩ : T_limelightkeep_Tape)))
else (
bif (IntKind.wrap .i64 (1 + r5.1)) == 10 then (
(p_limelightkeep_Tape_Next (⟨r5.2.f_L, r5.2.f_At⟩ : T_limelightkeep_Tape) 256).bind fun r199 =>
some (((⟨(IntKind.wrap .i64 (1 + r5.1)), 0, (([] : List T_api_Layer)), 0, 0, 0, 0, r199.1⟩ : T_api_Ctl)), (⟨r199.2.f_L, r199.2.f_At⟩ : T_limelightkeep_Tape)))
else (
some (((⟨(IntKind.wrap .i64 (1 + r5.1)), 0, (([] : List T_api_Layer)), 0, 0, 0, 0, 0⟩ : T_api_Ctl)), (⟨r5.2.f_L, r5.2.f_At⟩ : T_limelightkeep_Tape)))))
else (
bif (IntKind.wrap .i64 (1 + r5.1)) == 9 then (
(p_limelightkeep_Tape_Next (⟨r5.2.f_L, r5.2.f_At⟩ : T_limelightkeep_Tape) 3).bind fun r218 =>
some (((⟨(IntKind.wrap .i64 (1 + r5.1)), 0, (([] : List T_api_Layer)), 0, 0, 0, r218.1, 0⟩ : T_api_Ctl)), (⟨r218.2.f_L, r218.2.f_At⟩ : T_limelightkeep_Tape)))
else (
bif (IntKind.wrap .i64 (1 + r5.1)) == 10 then (
(p_limelightkeep_Tape_Next (⟨r5.2.f_L, r5.2.f_At⟩ : T_limelightkeep_Tape) 256).bind fun r233 =>
some (((⟨(IntKind.wrap .i64 (1 + r5.1)), 0, (([] : List T_api_Layer)), 0, 0, 0, 0, r233.1⟩ : T_api_Ctl)), (⟨r233.2.f_L, r233.2.f_At⟩ : T_limelightkeep_Tape)))
else (
some (((⟨(IntKind.wrap .i64 (1 + r5.1)), 0, (([] : List T_api_Layer)), 0, 0, 0, 0, 0⟩ : T_api_Ctl)), (⟨r5.2.f_L, r5.2.f_At⟩ : T_limelightkeep_Tape)))))))))))
theorem limelightkeep_Tape_Ctl_ok (k : Nat) {h : H} {σ : Stamp} (x0 : T_limelightkeep_Tape) {u0_0 : V} (hu0_0 : SlF (dI .i64) x0.f_L u0_0) {l0 : Loc} {o0 : Nat} (ha0 : AtC h l0 o0 (List.map C.v [u0_0, (.p (.int .i64 x0.f_At))])) : Sim (p_limelightkeep_Tape_Ctl k x0) (ev G X0 28 σ [(.ref l0 o0)] h) (fun r s => ∃ (w0 : List V), ∃ (vb0_0 : V), dT_api_Ctl.R r.1 w0 ∧ SlF (dI .i64) r.2.f_L vb0_0 ∧ s = ([.v (.agg w0)], pts h [⟨l0, o0, [.v vb0_0, .v (.p (.int .i64 r.2.f_At))]⟩])) := by
  refine Sim.ev rfl (Sim.ext (limelightkeep_Tape_Ctl_entry _ _ _ _ _) ?_)
  rw [p_limelightkeep_Tape_Ctl]
  have S0 : Fm 69 h [⟨l0, o0, List.map C.v [u0_0, (.p (.int .i64 x0.f_At))]⟩] [] [] (List.replicate 69 [] :: h) := Fm.start1 ha0
  obtain ⟨H1, e2, S3⟩ := S0.al (d := 2) (s := (0 :: 0 :: 0 :: σ)) (z := [(.p (.int .i64 0)), (.p (.int .i64 0)), (.p (.slice none 0 0)), (.p (.int .i64 0)), (.p (.int .i64 0)), (.p (.int .i64 0)), (.p (.int .i64 0)), (.p (.int .i64 0))]) (by decide) rfl
  refine Sim.op (congrArg some e2) ?_
  refine Sim.call (limelightkeep_Tape_Next_ok (⟨x0.f_L, x0.f_At⟩ : T_limelightkeep_Tape) hu0_0 (S3.atB (i := 0) rfl) 10) fun r5 cs6 H7 h8 q9 => ?_
  obtain ⟨v10, h11, q9⟩ := q9
  cases q9
  have S12 := S3.setB (i := 0) (cs := List.map C.v [v10, (.p (.int .i64 r5.2.f_At))]) rfl rfl
  refine Sim.op (castI_p _ _) ?_
  refine Sim.op (bldV (pt_cons rfl pt_nil) (by kernel_rfl : _ = some (.agg [.p (.int .i64 (IntKind.wrap .i64 (1 + r5.1))), .p (.int .i64 0), .p (.slice none 0 0), .p (.int .i64 0), .p (.int .i64 0), .p (.int .i64 0), .p (.int .i64 0), .p (.int .i64 0)]))) ?_
  obtain ⟨H13, e14, S15⟩ := S12.al (d := 3) (s := (4 :: 0 :: 1 :: 0 :: σ)) (z := [(.p (.int .i64 0)), (.p (.int .i64 0)), (.p (.slice none 0 0)), (.p (.int .i64 0)), (.p (.int .i64 0)), (.p (.int .i64 0)), (.p (.int .i64 0)), (.p (.int .i64 0))]) (by decide) rfl
  refine Sim.op (congrArg some e14) ?_
  obtain ⟨H17, e18, S19⟩ := S15.stGv (i := 0) (j := 0) (own := false) (σ := (5 :: 0 :: 1 :: 0 :: σ)) (xs := [.p (.int .i64 (IntKind.wrap .i64 (1 + r5.1))), .p (.int .i64 0), .p (.slice none 0 0), .p (.int .i64 0), .p (.int .i64 0), .p (.int .i64 0), .p (.int .i64 0), .p (.int .i64 0)]) rfl rfl (stills_cons (still_int _ _) (stills_cons (still_int _ _) (stills_cons (SlF.nil dT_api_Layer).still (stills_cons (still_int _ _) (stills_cons (still_int _ _) (stills_cons (still_int _ _) (stills_cons (still_int _ _) (stills_cons (still_int _ _) stills_nil)))))))) rfl rfl
  refine Sim.op (st_map e18) ?_
  refine Sim.op (fA_ref _ _ _) ?_
  refine Sim.op ((S19.atG (i := 0) rfl).ld (j := 0) rfl) ?_
  refine Sim.op (castI_p _ _) ?_
  refine Sim.cd (fun hc => ?_) (fun hc => ?_)
  · refine Sim.call (limelightkeep_Tape_Next_ok (⟨r5.2.f_L, r5.2.f_At⟩ : T_limelightkeep_Tape) h11 (S19.atB (i := 0) rfl) 1048576) fun r20 cs21 H22 h23 q24 => ?_
    obtain ⟨v25, h26, q24⟩ := q24
    cases q24
    have S27 := S19.setB (i := 0) (cs := List.map C.v [v25, (.p (.int .i64 r20.2.f_At))]) rfl rfl
    refine Sim.op (castI_p _ _) ?_
    refine Sim.op (fA_ref _ _ _) ?_
    obtain ⟨H28, e29, S30⟩ := S27.stG (i := 0) (j := 1) (own := true) (σ := (4 :: 1 :: 1 :: 0 :: 1 :: 1 :: 0 :: σ)) (x := (.p (.int .i64 (IntKind.wrap .i64 (1 + r20.1))))) rfl rfl (still_int _ _) rfl
    refine Sim.op (st_map e29) ?_
    refine Sim.op ((S30.atG (i := 0) rfl).ldVs (j := 0) (xs := [.p (.int .i64 (IntKind.wrap .i64 (1 + r5.1))), .p (.int .i64 (IntKind.wrap .i64 (1 + r20.1))), .p (.slice none 0 0), .p (.int .i64 0), .p (.int .i64 0), .p (.int .i64 0), .p (.int .i64 0), .p (.int .i64 0)]) rfl rfl (by decide)) ?_
    obtain ⟨H31, e32, S33⟩ := S30.stGv (i := 1) (j := 0) (own := false) (σ := (1 :: 0 :: 1 :: 1 :: 1 :: 0 :: σ)) (xs := [.p (.int .i64 (IntKind.wrap .i64 (1 + r5.1))), .p (.int .i64 (IntKind.wrap .i64 (1 + r20.1))), .p (.slice none 0 0), .p (.int .i64 0), .p (.int .i64 0), .p (.int .i64 0), .p (.int .i64 0), .p (.int .i64 0)]) rfl rfl (stills_cons (still_int _ _) (stills_cons (still_int _ _) (stills_cons (SlF.nil dT_api_Layer).still (stills_cons (still_int _ _) (stills_cons (still_int _ _) (stills_cons (still_int _ _) (stills_cons (still_int _ _) (stills_cons (still_int _ _) stills_nil)))))))) rfl rfl
    refine Sim.op (st_map e32) ?_
    have e34 : ldO true 8 H31 (.ref ⟨h.length, 2, 0, (0 :: 0 :: 0 :: σ), []⟩ 0) = some (.agg [.p (.int .i64 (IntKind.wrap .i64 (1 + r5.1))), .p (.int .i64 (IntKind.wrap .i64 (1 + r20.1))), .p (.slice none 0 0), .p (.int .i64 0), .p (.int .i64 0), .p (.int .i64 0), .p (.int .i64 0), .p (.int .i64 0)]) := (S33.atG (i := 1) rfl).ldVs (j := 0) (xs := [.p (.int .i64 (IntKind.wrap .i64 (1 + r5.1))), .p (.int .i64 (IntKind.wrap .i64 (1 + r20.1))), .p (.slice none 0 0), .p (.int .i64 0), .p (.int .i64 0), .p (.int .i64 0), .p (.int .i64 0), .p (.int .i64 0)]) rfl rfl (by decide)
    refine Sim.op (show _ = some [(.agg [.p (.int .i64 (IntKind.wrap .i64 (1 + r5.1))), .p (.int .i64 (IntKind.wrap .i64 (1 + r20.1))), .p (.slice none 0 0), .p (.int .i64 0), .p (.int .i64 0), .p (.int .i64 0), .p (.int .i64 0), .p (.int .i64 0)])] from by simp only [e34, Option.bind_some, Option.map_some]) ?_
    exact Sim.fin (S33.finN (lv_cons (Stills.lv (dT_api_Ctl.still (dT_api_Ctl.mk (SlF.nil dT_api_Layer)))) lv_nil)) ⟨[.p (.int .i64 (IntKind.wrap .i64 (1 + r5.1))), .p (.int .i64 (IntKind.wrap .i64 (1 + r20.1))), .p (.slice none 0 0), .p (.int .i64 0), .p (.int .i64 0), .p (.int .i64 0), .p (.int .i64 0), .p (.int .i64 0)], v25, (show dT_api_Ctl.R ((⟨(IntKind.wrap .i64 (1 + r5.1)), (IntKind.wrap .i64 (1 + r20.1)), (([] : List T_api_Layer)), 0, 0, 0, 0, 0⟩ : T_api_Ctl)) [.p (.int .i64 (IntKind.wrap .i64 (1 + r5.1))), .p (.int .i64 (IntKind.wrap .i64 (1 + r20.1))), .p (.slice none 0 0), .p (.int .i64 0), .p (.int .i64 0), .p (.int .i64 0), .p (.int .i64 0), .p (.int .i64 0)] from (dT_api_Ctl.mk (SlF.nil dT_api_Layer))), h26, rfl⟩
  · refine Sim.cd (fun hc => ?_) (fun hc => ?_)
    · refine Sim.call (limelightkeep_Tape_Next_ok (⟨r5.2.f_L, r5.2.f_At⟩ : T_limelightkeep_Tape) h11 (S19.atB (i := 0) rfl) 6) fun r35 cs36 H37 h38 q39 => ?_
      obtain ⟨v40, h41, q39⟩ := q39
      cases q39
      have S42 := S19.setB (i := 0) (cs := List.map C.v [v40, (.p (.int .i64 r35.2.f_At))]) rfl rfl
      refine Sim.op (castI_p _ _) ?_
      refine Sim.call (limelightkeep_Tape_Layers_ok k (⟨r35.2.f_L, r35.2.f_At⟩ : T_limelightkeep_Tape) h41 (S42.atB (i := 0) rfl) r35.1) fun r43 cs44 H45 h46 q47 => ?_
      obtain ⟨c48, cs49, v52, h50, h51, h53, q47⟩ := q47
      cases q47
      have S54 := S42.setB (i := 0) (cs := List.map C.v [v52, (.p (.int .i64 r43.2.f_At))]) rfl rfl
      obtain ⟨v55, H56, e57, S58⟩ := S54.land (dt := dT_api_Layer) (d := 21) (e := 0) (n := 0) h50 h51 (by decide) rfl
      erw [e57]
      refine Sim.op (fA_ref _ _ _) ?_
      obtain ⟨c63, H60, e61, h64, h65, S62⟩ := S58.mvG (i := 0) (j := 2) (k := 0) (σ := (5 :: 1 :: 1 :: 1 :: 0 :: 1 :: 1 :: 0 :: σ)) rfl rfl rfl rfl rfl rfl
      refine Sim.op (st_map e61) ?_
      obtain ⟨v66, h67, h68⟩ := h64.fr
      obtain ⟨w69, H70, h75, e71, e72, e73, S74⟩ := S62.frzV (i := 0) (n := 8) (ys := [(.p (.int .i64 (IntKind.wrap .i64 (1 + r5.1)))), (.p (.int .i64 0)), v66, (.p (.int .i64 0)), (.p (.int .i64 0)), (.p (.int .i64 0)), (.p (.int .i64 0)), (.p (.int .i64 0))]) rfl rfl ⟨(FrC.v (still_int _ _)), ⟨(FrC.v (still_int _ _)), ⟨h67, ⟨(FrC.v (still_int _ _)), ⟨(FrC.v (still_int _ _)), ⟨(FrC.v (still_int _ _)), ⟨(FrC.v (still_int _ _)), ⟨(FrC.v (still_int _ _)), trivial⟩⟩⟩⟩⟩⟩⟩⟩ rfl (by decide)
      refine Sim.op (e71) ?_
      obtain ⟨H76, e77, S78⟩ := Fm.stFrz (S0 := S62) (i0 := 1) (i := 1) (j := 0) (n := 8) (σ := (1 :: 0 :: 1 :: 1 :: 1 :: 0 :: σ)) S74 rfl e73 rfl rfl h75 rfl rfl
      refine Sim.op (st_map e77) ?_
      have e79 : ldO true 8 H76 (.ref ⟨h.length, 2, 0, (0 :: 0 :: 0 :: σ), []⟩ 0) = some (.agg [.p (.int .i64 (IntKind.wrap .i64 (1 + r5.1))), .p (.int .i64 0), v66, .p (.int .i64 0), .p (.int .i64 0), .p (.int .i64 0), .p (.int .i64 0), .p (.int .i64 0)]) := (S78.atG (i := 1) rfl).ldVs (j := 0) (xs := [.p (.int .i64 (IntKind.wrap .i64 (1 + r5.1))), .p (.int .i64 0), v66, .p (.int .i64 0), .p (.int .i64 0), .p (.int .i64 0), .p (.int .i64 0), .p (.int .i64 0)]) rfl rfl (by decide)
      refine Sim.op (show _ = some [(.agg [.p (.int .i64 (IntKind.wrap .i64 (1 + r5.1))), .p (.int .i64 0), v66, .p (.int .i64 0), .p (.int .i64 0), .p (.int .i64 0), .p (.int .i64 0), .p (.int .i64 0)])] from by simp only [e79, Option.bind_some, Option.map_some]) ?_
      exact Sim.fin (S78.finN (lv_cons (Stills.lv (dT_api_Ctl.still (dT_api_Ctl.mk h68))) lv_nil)) ⟨[.p (.int .i64 (IntKind.wrap .i64 (1 + r5.1))), .p (.int .i64 0), v66, .p (.int .i64 0), .p (.int .i64 0), .p (.int .i64 0), .p (.int .i64 0), .p (.int .i64 0)], v52, (show dT_api_Ctl.R ((⟨(IntKind.wrap .i64 (1 + r5.1)), 0, r43.1, 0, 0, 0, 0, 0⟩ : T_api_Ctl)) [.p (.int .i64 (IntKind.wrap .i64 (1 + r5.1))), .p (.int .i64 0), v66, .p (.int .i64 0), .p (.int .i64 0), .p (.int .i64 0), .p (.int .i64 0), .p (.int .i64 0)] from (dT_api_Ctl.mk h68)), h53, rfl⟩
    · refine Sim.cd (fun hc => ?_) (fun hc => ?_)
      · refine Sim.call (limelightkeep_Tape_Next_ok (⟨r5.2.f_L, r5.2.f_At⟩ : T_limelightkeep_Tape) h11 (S19.atB (i := 0) rfl) 6) fun r80 cs81 H82 h83 q84 => ?_
        obtain ⟨v85, h86, q84⟩ := q84
        cases q84
        have S87 := S19.setB (i := 0) (cs := List.map C.v [v85, (.p (.int .i64 r80.2.f_At))]) rfl rfl
        refine Sim.op (castI_p _ _) ?_
        refine Sim.call (limelightkeep_Tape_Next_ok (⟨r80.2.f_L, r80.2.f_At⟩ : T_limelightkeep_Tape) h86 (S87.atB (i := 0) rfl) 1000) fun r88 cs89 H90 h91 q92 => ?_
        obtain ⟨v93, h94, q92⟩ := q92
        cases q92
        have S95 := S87.setB (i := 0) (cs := List.map C.v [v93, (.p (.int .i64 r88.2.f_At))]) rfl rfl
        refine Sim.op (castI_p _ _) ?_
        refine Sim.call (limelightkeep_Tape_Next_ok (⟨r88.2.f_L, r88.2.f_At⟩ : T_limelightkeep_Tape) h94 (S95.atB (i := 0) rfl) 4) fun r96 cs97 H98 h99 q100 => ?_
        obtain ⟨v101, h102, q100⟩ := q100
        cases q100
        have S103 := S95.setB (i := 0) (cs := List.map C.v [v101, (.p (.int .i64 r96.2.f_At))]) rfl rfl
        refine Sim.op (castI_p _ _) ?_
        refine Sim.op (fA_ref _ _ _) ?_
        obtain ⟨H104, e105, S106⟩ := S103.stG (i := 0) (j := 3) (own := true) (σ := (8 :: 1 :: 1 :: 1 :: 1 :: 0 :: 1 :: 1 :: 0 :: σ)) (x := (.p (.int .i64 r80.1))) rfl rfl (still_int _ _) rfl
        refine Sim.op (st_map e105) ?_
        refine Sim.op (fA_ref _ _ _) ?_
        obtain ⟨H107, e108, S109⟩ := S106.stG (i := 0) (j := 4) (own := true) (σ := (10 :: 1 :: 1 :: 1 :: 1 :: 0 :: 1 :: 1 :: 0 :: σ)) (x := (.p (.int .i64 (IntKind.wrap .i64 (1 + r88.1))))) rfl rfl (still_int _ _) rfl
        refine Sim.op (st_map e108) ?_
        refine Sim.op (fA_ref _ _ _) ?_
        obtain ⟨H110, e111, S112⟩ := S109.stG (i := 0) (j := 5) (own := true) (σ := (12 :: 1 :: 1 :: 1 :: 1 :: 0 :: 1 :: 1 :: 0 :: σ)) (x := (.p (.int .i64 r96.1))) rfl rfl (still_int _ _) rfl
        refine Sim.op (st_map e111) ?_
        refine Sim.op ((S112.atG (i := 0) rfl).ldVs (j := 0) (xs := [.p (.int .i64 (IntKind.wrap .i64 (1 + r5.1))), .p (.int .i64 0), .p (.slice none 0 0), .p (.int .i64 r80.1), .p (.int .i64 (IntKind.wrap .i64 (1 + r88.1))), .p (.int .i64 r96.1), .p (.int .i64 0), .p (.int .i64 0)]) rfl rfl (by decide)) ?_
        obtain ⟨H113, e114, S115⟩ := S112.stGv (i := 1) (j := 0) (own := false) (σ := (1 :: 0 :: 1 :: 1 :: 1 :: 0 :: σ)) (xs := [.p (.int .i64 (IntKind.wrap .i64 (1 + r5.1))), .p (.int .i64 0), .p (.slice none 0 0), .p (.int .i64 r80.1), .p (.int .i64 (IntKind.wrap .i64 (1 + r88.1))), .p (.int .i64 r96.1), .p (.int .i64 0), .p (.int .i64 0)]) rfl rfl (stills_cons (still_int _ _) (stills_cons (still_int _ _) (stills_cons (SlF.nil dT_api_Layer).still (stills_cons (still_int _ _) (stills_cons (still_int _ _) (stills_cons (still_int _ _) (stills_cons (still_int _ _) (stills_cons (still_int _ _) stills_nil)))))))) rfl rfl
        refine Sim.op (st_map e114) ?_
        have e116 : ldO true 8 H113 (.ref ⟨h.length, 2, 0, (0 :: 0 :: 0 :: σ), []⟩ 0) = some (.agg [.p (.int .i64 (IntKind.wrap .i64 (1 + r5.1))), .p (.int .i64 0), .p (.slice none 0 0), .p (.int .i64 r80.1), .p (.int .i64 (IntKind.wrap .i64 (1 + r88.1))), .p (.int .i64 r96.1), .p (.int .i64 0), .p (.int .i64 0)]) := (S115.atG (i := 1) rfl).ldVs (j := 0) (xs := [.p (.int .i64 (IntKind.wrap .i64 (1 + r5.1))), .p (.int .i64 0), .p (.slice none 0 0), .p (.int .i64 r80.1), .p (.int .i64 (IntKind.wrap .i64 (1 + r88.1))), .p (.int .i64 r96.1), .p (.int .i64 0), .p (.int .i64 0)]) rfl rfl (by decide)
        refine Sim.op (show _ = some [(.agg [.p (.int .i64 (IntKind.wrap .i64 (1 + r5.1))), .p (.int .i64 0), .p (.slice none 0 0), .p (.int .i64 r80.1), .p (.int .i64 (IntKind.wrap .i64 (1 + r88.1))), .p (.int .i64 r96.1), .p (.int .i64 0), .p (.int .i64 0)])] from by simp only [e116, Option.bind_some, Option.map_some]) ?_
        exact Sim.fin (S115.finN (lv_cons (Stills.lv (dT_api_Ctl.still (dT_api_Ctl.mk (SlF.nil dT_api_Layer)))) lv_nil)) ⟨[.p (.int .i64 (IntKind.wrap .i64 (1 + r5.1))), .p (.int .i64 0), .p (.slice none 0 0), .p (.int .i64 r80.1), .p (.int .i64 (IntKind.wrap .i64 (1 + r88.1))), .p (.int .i64 r96.1), .p (.int .i64 0), .p (.int .i64 0)], v101, (show dT_api_Ctl.R ((⟨(IntKind.wrap .i64 (1 + r5.1)), 0, (([] : List T_api_Layer)), r80.1, (IntKind.wrap .i64 (1 + r88.1)), r96.1, 0, 0⟩ : T_api_Ctl)) [.p (.int .i64 (IntKind.wrap .i64 (1 + r5.1))), .p (.int .i64 0), .p (.slice none 0 0), .p (.int .i64 r80.1), .p (.int .i64 (IntKind.wrap .i64 (1 + r88.1))), .p (.int .i64 r96.1), .p (.int .i64 0), .p (.int .i64 0)] from (dT_api_Ctl.mk (SlF.nil dT_api_Layer))), h102, rfl⟩
      · refine Sim.cd (fun hc => ?_) (fun hc => ?_)
        · refine Sim.call (limelightkeep_Tape_Next_ok (⟨r5.2.f_L, r5.2.f_At⟩ : T_limelightkeep_Tape) h11 (S19.atB (i := 0) rfl) 6) fun r117 cs118 H119 h120 q121 => ?_
          obtain ⟨v122, h123, q121⟩ := q121
          cases q121
          have S124 := S19.setB (i := 0) (cs := List.map C.v [v122, (.p (.int .i64 r117.2.f_At))]) rfl rfl
          refine Sim.op (castI_p _ _) ?_
          refine Sim.op (fA_ref _ _ _) ?_
          obtain ⟨H125, e126, S127⟩ := S124.stG (i := 0) (j := 3) (own := true) (σ := (3 :: 1 :: 1 :: 1 :: 1 :: 1 :: 0 :: 1 :: 1 :: 0 :: σ)) (x := (.p (.int .i64 r117.1))) rfl rfl (still_int _ _) rfl
          refine Sim.op (st_map e126) ?_
          refine Sim.op ((S127.atG (i := 0) rfl).ldVs (j := 0) (xs := [.p (.int .i64 (IntKind.wrap .i64 (1 + r5.1))), .p (.int .i64 0), .p (.slice none 0 0), .p (.int .i64 r117.1), .p (.int .i64 0), .p (.int .i64 0), .p (.int .i64 0), .p (.int .i64 0)]) rfl rfl (by decide)) ?_
          obtain ⟨H128, e129, S130⟩ := S127.stGv (i := 1) (j := 0) (own := false) (σ := (1 :: 0 :: 1 :: 1 :: 1 :: 0 :: σ)) (xs := [.p (.int .i64 (IntKind.wrap .i64 (1 + r5.1))), .p (.int .i64 0), .p (.slice none 0 0), .p (.int .i64 r117.1), .p (.int .i64 0), .p (.int .i64 0), .p (.int .i64 0), .p (.int .i64 0)]) rfl rfl (stills_cons (still_int _ _) (stills_cons (still_int _ _) (stills_cons (SlF.nil dT_api_Layer).still (stills_cons (still_int _ _) (stills_cons (still_int _ _) (stills_cons (still_int _ _) (stills_cons (still_int _ _) (stills_cons (still_int _ _) stills_nil)))))))) rfl rfl
          refine Sim.op (st_map e129) ?_
          have e131 : ldO true 8 H128 (.ref ⟨h.length, 2, 0, (0 :: 0 :: 0 :: σ), []⟩ 0) = some (.agg [.p (.int .i64 (IntKind.wrap .i64 (1 + r5.1))), .p (.int .i64 0), .p (.slice none 0 0), .p (.int .i64 r117.1), .p (.int .i64 0), .p (.int .i64 0), .p (.int .i64 0), .p (.int .i64 0)]) := (S130.atG (i := 1) rfl).ldVs (j := 0) (xs := [.p (.int .i64 (IntKind.wrap .i64 (1 + r5.1))), .p (.int .i64 0), .p (.slice none 0 0), .p (.int .i64 r117.1), .p (.int .i64 0), .p (.int .i64 0), .p (.int .i64 0), .p (.int .i64 0)]) rfl rfl (by decide)
          refine Sim.op (show _ = some [(.agg [.p (.int .i64 (IntKind.wrap .i64 (1 + r5.1))), .p (.int .i64 0), .p (.slice none 0 0), .p (.int .i64 r117.1), .p (.int .i64 0), .p (.int .i64 0), .p (.int .i64 0), .p (.int .i64 0)])] from by simp only [e131, Option.bind_some, Option.map_some]) ?_
          exact Sim.fin (S130.finN (lv_cons (Stills.lv (dT_api_Ctl.still (dT_api_Ctl.mk (SlF.nil dT_api_Layer)))) lv_nil)) ⟨[.p (.int .i64 (IntKind.wrap .i64 (1 + r5.1))), .p (.int .i64 0), .p (.slice none 0 0), .p (.int .i64 r117.1), .p (.int .i64 0), .p (.int .i64 0), .p (.int .i64 0), .p (.int .i64 0)], v122, (show dT_api_Ctl.R ((⟨(IntKind.wrap .i64 (1 + r5.1)), 0, (([] : List T_api_Layer)), r117.1, 0, 0, 0, 0⟩ : T_api_Ctl)) [.p (.int .i64 (IntKind.wrap .i64 (1 + r5.1))), .p (.int .i64 0), .p (.slice none 0 0), .p (.int .i64 r117.1), .p (.int .i64 0), .p (.int .i64 0), .p (.int .i64 0), .p (.int .i64 0)] from (dT_api_Ctl.mk (SlF.nil dT_api_Layer))), h123, rfl⟩
        · refine Sim.cd (fun hc => ?_) (fun hc => ?_)
          · refine Sim.call (limelightkeep_Tape_Next_ok (⟨r5.2.f_L, r5.2.f_At⟩ : T_limelightkeep_Tape) h11 (S19.atB (i := 0) rfl) 6) fun r132 cs133 H134 h135 q136 => ?_
            obtain ⟨v137, h138, q136⟩ := q136
            cases q136
            have S139 := S19.setB (i := 0) (cs := List.map C.v [v137, (.p (.int .i64 r132.2.f_At))]) rfl rfl
            refine Sim.op (castI_p _ _) ?_
            refine Sim.call (limelightkeep_Tape_Next_ok (⟨r132.2.f_L, r132.2.f_At⟩ : T_limelightkeep_Tape) h138 (S139.atB (i := 0) rfl) 1000) fun r140 cs141 H142 h143 q144 => ?_
            obtain ⟨v145, h146, q144⟩ := q144
            cases q144
            have S147 := S139.setB (i := 0) (cs := List.map C.v [v145, (.p (.int .i64 r140.2.f_At))]) rfl rfl
            refine Sim.op (castI_p _ _) ?_
            refine Sim.op (fA_ref _ _ _) ?_
            obtain ⟨H148, e149, S150⟩ := S147.stG (i := 0) (j := 3) (own := true) (σ := (6 :: 1 :: 1 :: 1 :: 1 :: 1 :: 1 :: 0 :: 1 :: 1 :: 0 :: σ)) (x := (.p (.int .i64 r132.1))) rfl rfl (still_int _ _) rfl
            refine Sim.op (st_map e149) ?_
            refine Sim.op (fA_ref _ _ _) ?_
            obtain ⟨H151, e152, S153⟩ := S150.stG (i := 0) (j := 4) (own := true) (σ := (8 :: 1 :: 1 :: 1 :: 1 :: 1 :: 1 :: 0 :: 1 :: 1 :: 0 :: σ)) (x := (.p (.int .i64 (IntKind.wrap .i64 (1 + r140.1))))) rfl rfl (still_int _ _) rfl
            refine Sim.op (st_map e152) ?_
            refine Sim.op ((S153.atG (i := 0) rfl).ldVs (j := 0) (xs := [.p (.int .i64 (IntKind.wrap .i64 (1 + r5.1))), .p (.int .i64 0), .p (.slice none 0 0), .p (.int .i64 r132.1), .p (.int .i64 (IntKind.wrap .i64 (1 + r140.1))), .p (.int .i64 0), .p (.int .i64 0), .p (.int .i64 0)]) rfl rfl (by decide)) ?_
            obtain ⟨H154, e155, S156⟩ := S153.stGv (i := 1) (j := 0) (own := false) (σ := (1 :: 0 :: 1 :: 1 :: 1 :: 0 :: σ)) (xs := [.p (.int .i64 (IntKind.wrap .i64 (1 + r5.1))), .p (.int .i64 0), .p (.slice none 0 0), .p (.int .i64 r132.1), .p (.int .i64 (IntKind.wrap .i64 (1 + r140.1))), .p (.int .i64 0), .p (.int .i64 0), .p (.int .i64 0)]) rfl rfl (stills_cons (still_int _ _) (stills_cons (still_int _ _) (stills_cons (SlF.nil dT_api_Layer).still (stills_cons (still_int _ _) (stills_cons (still_int _ _) (stills_cons (still_int _ _) (stills_cons (still_int _ _) (stills_cons (still_int _ _) stills_nil)))))))) rfl rfl
            refine Sim.op (st_map e155) ?_
            have e157 : ldO true 8 H154 (.ref ⟨h.length, 2, 0, (0 :: 0 :: 0 :: σ), []⟩ 0) = some (.agg [.p (.int .i64 (IntKind.wrap .i64 (1 + r5.1))), .p (.int .i64 0), .p (.slice none 0 0), .p (.int .i64 r132.1), .p (.int .i64 (IntKind.wrap .i64 (1 + r140.1))), .p (.int .i64 0), .p (.int .i64 0), .p (.int .i64 0)]) := (S156.atG (i := 1) rfl).ldVs (j := 0) (xs := [.p (.int .i64 (IntKind.wrap .i64 (1 + r5.1))), .p (.int .i64 0), .p (.slice none 0 0), .p (.int .i64 r132.1), .p (.int .i64 (IntKind.wrap .i64 (1 + r140.1))), .p (.int .i64 0), .p (.int .i64 0), .p (.int .i64 0)]) rfl rfl (by decide)
            refine Sim.op (show _ = some [(.agg [.p (.int .i64 (IntKind.wrap .i64 (1 + r5.1))), .p (.int .i64 0), .p (.slice none 0 0), .p (.int .i64 r132.1), .p (.int .i64 (IntKind.wrap .i64 (1 + r140.1))), .p (.int .i64 0), .p (.int .i64 0), .p (.int .i64 0)])] from by simp only [e157, Option.bind_some, Option.map_some]) ?_
            exact Sim.fin (S156.finN (lv_cons (Stills.lv (dT_api_Ctl.still (dT_api_Ctl.mk (SlF.nil dT_api_Layer)))) lv_nil)) ⟨[.p (.int .i64 (IntKind.wrap .i64 (1 + r5.1))), .p (.int .i64 0), .p (.slice none 0 0), .p (.int .i64 r132.1), .p (.int .i64 (IntKind.wrap .i64 (1 + r140.1))), .p (.int .i64 0), .p (.int .i64 0), .p (.int .i64 0)], v145, (show dT_api_Ctl.R ((⟨(IntKind.wrap .i64 (1 + r5.1)), 0, (([] : List T_api_Layer)), r132.1, (IntKind.wrap .i64 (1 + r140.1)), 0, 0, 0⟩ : T_api_Ctl)) [.p (.int .i64 (IntKind.wrap .i64 (1 + r5.1))), .p (.int .i64 0), .p (.slice none 0 0), .p (.int .i64 r132.1), .p (.int .i64 (IntKind.wrap .i64 (1 + r140.1))), .p (.int .i64 0), .p (.int .i64 0), .p (.int .i64 0)] from (dT_api_Ctl.mk (SlF.nil dT_api_Layer))), h146, rfl⟩
          · refine Sim.cd (fun hc => ?_) (fun hc => ?_)
            · refine Sim.call (limelightkeep_Tape_Next_ok (⟨r5.2.f_L, r5.2.f_At⟩ : T_limelightkeep_Tape) h11 (S19.atB (i := 0) rfl) 6) fun r158 cs159 H160 h161 q162 => ?_
              obtain ⟨v163, h164, q162⟩ := q162
              cases q162
              have S165 := S19.setB (i := 0) (cs := List.map C.v [v163, (.p (.int .i64 r158.2.f_At))]) rfl rfl
              refine Sim.op (castI_p _ _) ?_
              refine Sim.call (limelightkeep_Tape_Next_ok (⟨r158.2.f_L, r158.2.f_At⟩ : T_limelightkeep_Tape) h164 (S165.atB (i := 0) rfl) 4) fun r166 cs167 H168 h169 q170 => ?_
              obtain ⟨v171, h172, q170⟩ := q170
              cases q170
              have S173 := S165.setB (i := 0) (cs := List.map C.v [v171, (.p (.int .i64 r166.2.f_At))]) rfl rfl
              refine Sim.op (castI_p _ _) ?_
              refine Sim.op (fA_ref _ _ _) ?_
              obtain ⟨H174, e175, S176⟩ := S173.stG (i := 0) (j := 3) (own := true) (σ := (5 :: 1 :: 1 :: 1 :: 1 :: 1 :: 1 :: 1 :: 0 :: 1 :: 1 :: 0 :: σ)) (x := (.p (.int .i64 r158.1))) rfl rfl (still_int _ _) rfl
              refine Sim.op (st_map e175) ?_
              refine Sim.op (fA_ref _ _ _) ?_
              obtain ⟨H177, e178, S179⟩ := S176.stG (i := 0) (j := 5) (own := true) (σ := (7 :: 1 :: 1 :: 1 :: 1 :: 1 :: 1 :: 1 :: 0 :: 1 :: 1 :: 0 :: σ)) (x := (.p (.int .i64 r166.1))) rfl rfl (still_int _ _) rfl
              refine Sim.op (st_map e178) ?_
              refine Sim.op ((S179.atG (i := 0) rfl).ldVs (j := 0) (xs := [.p (.int .i64 (IntKind.wrap .i64 (1 + r5.1))), .p (.int .i64 0), .p (.slice none 0 0), .p (.int .i64 r158.1), .p (.int .i64 0), .p (.int .i64 r166.1), .p (.int .i64 0), .p (.int .i64 0)]) rfl rfl (by decide)) ?_
              obtain ⟨H180, e181, S182⟩ := S179.stGv (i := 1) (j := 0) (own := false) (σ := (1 :: 0 :: 1 :: 1 :: 1 :: 0 :: σ)) (xs := [.p (.int .i64 (IntKind.wrap .i64 (1 + r5.1))), .p (.int .i64 0), .p (.slice none 0 0), .p (.int .i64 r158.1), .p (.int .i64 0), .p (.int .i64 r166.1), .p (.int .i64 0), .p (.int .i64 0)]) rfl rfl (stills_cons (still_int _ _) (stills_cons (still_int _ _) (stills_cons (SlF.nil dT_api_Layer).still (stills_cons (still_int _ _) (stills_cons (still_int _ _) (stills_cons (still_int _ _) (stills_cons (still_int _ _) (stills_cons (still_int _ _) stills_nil)))))))) rfl rfl
              refine Sim.op (st_map e181) ?_
              have e183 : ldO true 8 H180 (.ref ⟨h.length, 2, 0, (0 :: 0 :: 0 :: σ), []⟩ 0) = some (.agg [.p (.int .i64 (IntKind.wrap .i64 (1 + r5.1))), .p (.int .i64 0), .p (.slice none 0 0), .p (.int .i64 r158.1), .p (.int .i64 0), .p (.int .i64 r166.1), .p (.int .i64 0), .p (.int .i64 0)]) := (S182.atG (i := 1) rfl).ldVs (j := 0) (xs := [.p (.int .i64 (IntKind.wrap .i64 (1 + r5.1))), .p (.int .i64 0), .p (.slice none 0 0), .p (.int .i64 r158.1), .p (.int .i64 0), .p (.int .i64 r166.1), .p (.int .i64 0), .p (.int .i64 0)]) rfl rfl (by decide)
              refine Sim.op (show _ = some [(.agg [.p (.int .i64 (IntKind.wrap .i64 (1 + r5.1))), .p (.int .i64 0), .p (.slice none 0 0), .p (.int .i64 r158.1), .p (.int .i64 0), .p (.int .i64 r166.1), .p (.int .i64 0), .p (.int .i64 0)])] from by simp only [e183, Option.bind_some, Option.map_some]) ?_
              exact Sim.fin (S182.finN (lv_cons (Stills.lv (dT_api_Ctl.still (dT_api_Ctl.mk (SlF.nil dT_api_Layer)))) lv_nil)) ⟨[.p (.int .i64 (IntKind.wrap .i64 (1 + r5.1))), .p (.int .i64 0), .p (.slice none 0 0), .p (.int .i64 r158.1), .p (.int .i64 0), .p (.int .i64 r166.1), .p (.int .i64 0), .p (.int .i64 0)], v171, (show dT_api_Ctl.R ((⟨(IntKind.wrap .i64 (1 + r5.1)), 0, (([] : List T_api_Layer)), r158.1, 0, r166.1, 0, 0⟩ : T_api_Ctl)) [.p (.int .i64 (IntKind.wrap .i64 (1 + r5.1))), .p (.int .i64 0), .p (.slice none 0 0), .p (.int .i64 r158.1), .p (.int .i64 0), .p (.int .i64 r166.1), .p (.int .i64 0), .p (.int .i64 0)] from (dT_api_Ctl.mk (SlF.nil dT_api_Layer))), h172, rfl⟩
            · refine Sim.cd (fun hc => ?_) (fun hc => ?_)
              · refine Sim.cd (fun hc => ?_) (fun hc => ?_)
                · refine Sim.call (limelightkeep_Tape_Next_ok (⟨r5.2.f_L, r5.2.f_At⟩ : T_limelightkeep_Tape) h11 (S19.atB (i := 0) rfl) 3) fun r184 cs185 H186 h187 q188 => ?_
                  obtain ⟨v189, h190, q188⟩ := q188
                  cases q188
                  have S191 := S19.setB (i := 0) (cs := List.map C.v [v189, (.p (.int .i64 r184.2.f_At))]) rfl rfl
                  refine Sim.op (castI_p _ _) ?_
                  refine Sim.op (fA_ref _ _ _) ?_
                  obtain ⟨H192, e193, S194⟩ := S191.stG (i := 0) (j := 6) (own := true) (σ := (3 :: 1 :: 1 :: 1 :: 1 :: 1 :: 1 :: 1 :: 1 :: 0 :: 1 :: 1 :: 0 :: σ)) (x := (.p (.int .i64 r184.1))) rfl rfl (still_int _ _) rfl
                  refine Sim.op (st_map e193) ?_
                  refine Sim.op ((S194.atG (i := 0) rfl).ldVs (j := 0) (xs := [.p (.int .i64 (IntKind.wrap .i64 (1 + r5.1))), .p (.int .i64 0), .p (.slice none 0 0), .p (.int .i64 0), .p (.int .i64 0), .p (.int .i64 0), .p (.int .i64 r184.1), .p (.int .i64 0)]) rfl rfl (by decide)) ?_
                  obtain ⟨H195, e196, S197⟩ := S194.stGv (i := 1) (j := 0) (own := false) (σ := (1 :: 0 :: 1 :: 1 :: 1 :: 0 :: σ)) (xs := [.p (.int .i64 (IntKind.wrap .i64 (1 + r5.1))), .p (.int .i64 0), .p (.slice none 0 0), .p (.int .i64 0), .p (.int .i64 0), .p (.int .i64 0), .p (.int .i64 r184.1), .p (.int .i64 0)]) rfl rfl (stills_cons (still_int _ _) (stills_cons (still_int _ _) (stills_cons (SlF.nil dT_api_Layer).still (stills_cons (still_int _ _) (stills_cons (still_int _ _) (stills_cons (still_int _ _) (stills_cons (still_int _ _) (stills_cons (still_int _ _) stills_nil)))))))) rfl rfl
                  refine Sim.op (st_map e196) ?_
                  have e198 : ldO true 8 H195 (.ref ⟨h.length, 2, 0, (0 :: 0 :: 0 :: σ), []⟩ 0) = some (.agg [.p (.int .i64 (IntKind.wrap .i64 (1 + r5.1))), .p (.int .i64 0), .p (.slice none 0 0), .p (.int .i64 0), .p (.int .i64 0), .p (.int .i64 0), .p (.int .i64 r184.1), .p (.int .i64 0)]) := (S197.atG (i := 1) rfl).ldVs (j := 0) (xs := [.p (.int .i64 (IntKind.wrap .i64 (1 + r5.1))), .p (.int .i64 0), .p (.slice none 0 0), .p (.int .i64 0), .p (.int .i64 0), .p (.int .i64 0), .p (.int .i64 r184.1), .p (.int .i64 0)]) rfl rfl (by decide)
                  refine Sim.op (show _ = some [(.agg [.p (.int .i64 (IntKind.wrap .i64 (1 + r5.1))), .p (.int .i64 0), .p (.slice none 0 0), .p (.int .i64 0), .p (.int .i64 0), .p (.int .i64 0), .p (.int .i64 r184.1), .p (.int .i64 0)])] from by simp only [e198, Option.bind_some, Option.map_some]) ?_
                  exact Sim.fin (S197.finN (lv_cons (Stills.lv (dT_api_Ctl.still (dT_api_Ctl.mk (SlF.nil dT_api_Layer)))) lv_nil)) ⟨[.p (.int .i64 (IntKind.wrap .i64 (1 + r5.1))), .p (.int .i64 0), .p (.slice none 0 0), .p (.int .i64 0), .p (.int .i64 0), .p (.int .i64 0), .p (.int .i64 r184.1), .p (.int .i64 0)], v189, (show dT_api_Ctl.R ((⟨(IntKind.wrap .i64 (1 + r5.1)), 0, (([] : List T_api_Layer)), 0, 0, 0, r184.1, 0⟩ : T_api_Ctl)) [.p (.int .i64 (IntKind.wrap .i64 (1 + r5.1))), .p (.int .i64 0), .p (.slice none 0 0), .p (.int .i64 0), .p (.int .i64 0), .p (.int .i64 0), .p (.int .i64 r184.1), .p (.int .i64 0)] from (dT_api_Ctl.mk (SlF.nil dT_api_Layer))), h190, rfl⟩
                · refine Sim.cd (fun hc => ?_) (fun hc => ?_)
                  · refine Sim.call (limelightkeep_Tape_Next_ok (⟨r5.2.f_L, r5.2.f_At⟩ : T_limelightkeep_Tape) h11 (S19.atB (i := 0) rfl) 256) fun r199 cs200 H201 h202 q203 => ?_
                    obtain ⟨v204, h205, q203⟩ := q203
                    cases q203
                    have S206 := S19.setB (i := 0) (cs := List.map C.v [v204, (.p (.int .i64 r199.2.f_At))]) rfl rfl
                    refine Sim.op (castI_p _ _) ?_
                    refine Sim.op (fA_ref _ _ _) ?_
                    obtain ⟨H207, e208, S209⟩ := S206.stG (i := 0) (j := 7) (own := true) (σ := (3 :: 1 :: 1 :: 1 :: 1 :: 1 :: 1 :: 1 :: 1 :: 1 :: 0 :: 1 :: 1 :: 0 :: σ)) (x := (.p (.int .i64 r199.1))) rfl rfl (still_int _ _) rfl
                    refine Sim.op (st_map e208) ?_
                    refine Sim.op ((S209.atG (i := 0) rfl).ldVs (j := 0) (xs := [.p (.int .i64 (IntKind.wrap .i64 (1 + r5.1))), .p (.int .i64 0), .p (.slice none 0 0), .p (.int .i64 0), .p (.int .i64 0), .p (.int .i64 0), .p (.int .i64 0), .p (.int .i64 r199.1)]) rfl rfl (by decide)) ?_
                    obtain ⟨H210, e211, S212⟩ := S209.stGv (i := 1) (j := 0) (own := false) (σ := (1 :: 0 :: 1 :: 1 :: 1 :: 0 :: σ)) (xs := [.p (.int .i64 (IntKind.wrap .i64 (1 + r5.1))), .p (.int .i64 0), .p (.slice none 0 0), .p (.int .i64 0), .p (.int .i64 0), .p (.int .i64 0), .p (.int .i64 0), .p (.int .i64 r199.1)]) rfl rfl (stills_cons (still_int _ _) (stills_cons (still_int _ _) (stills_cons (SlF.nil dT_api_Layer).still (stills_cons (still_int _ _) (stills_cons (still_int _ _) (stills_cons (still_int _ _) (stills_cons (still_int _ _) (stills_cons (still_int _ _) stills_nil)))))))) rfl rfl
                    refine Sim.op (st_map e211) ?_
                    have e213 : ldO true 8 H210 (.ref ⟨h.length, 2, 0, (0 :: 0 :: 0 :: σ), []⟩ 0) = some (.agg [.p (.int .i64 (IntKind.wrap .i64 (1 + r5.1))), .p (.int .i64 0), .p (.slice none 0 0), .p (.int .i64 0), .p (.int .i64 0), .p (.int .i64 0), .p (.int .i64 0), .p (.int .i64 r199.1)]) := (S212.atG (i := 1) rfl).ldVs (j := 0) (xs := [.p (.int .i64 (IntKind.wrap .i64 (1 + r5.1))), .p (.int .i64 0), .p (.slice none 0 0), .p (.int .i64 0), .p (.int .i64 0), .p (.int .i64 0), .p (.int .i64 0), .p (.int .i64 r199.1)]) rfl rfl (by decide)
                    refine Sim.op (show _ = some [(.agg [.p (.int .i64 (IntKind.wrap .i64 (1 + r5.1))), .p (.int .i64 0), .p (.slice none 0 0), .p (.int .i64 0), .p (.int .i64 0), .p (.int .i64 0), .p (.int .i64 0), .p (.int .i64 r199.1)])] from by simp only [e213, Option.bind_some, Option.map_some]) ?_
                    exact Sim.fin (S212.finN (lv_cons (Stills.lv (dT_api_Ctl.still (dT_api_Ctl.mk (SlF.nil dT_api_Layer)))) lv_nil)) ⟨[.p (.int .i64 (IntKind.wrap .i64 (1 + r5.1))), .p (.int .i64 0), .p (.slice none 0 0), .p (.int .i64 0), .p (.int .i64 0), .p (.int .i64 0), .p (.int .i64 0), .p (.int .i64 r199.1)], v204, (show dT_api_Ctl.R ((⟨(IntKind.wrap .i64 (1 + r5.1)), 0, (([] : List T_api_Layer)), 0, 0, 0, 0, r199.1⟩ : T_api_Ctl)) [.p (.int .i64 (IntKind.wrap .i64 (1 + r5.1))), .p (.int .i64 0), .p (.slice none 0 0), .p (.int .i64 0), .p (.int .i64 0), .p (.int .i64 0), .p (.int .i64 0), .p (.int .i64 r199.1)] from (dT_api_Ctl.mk (SlF.nil dT_api_Layer))), h205, rfl⟩
                  · refine Sim.op ((S19.atG (i := 0) rfl).ldVs (j := 0) (xs := [.p (.int .i64 (IntKind.wrap .i64 (1 + r5.1))), .p (.int .i64 0), .p (.slice none 0 0), .p (.int .i64 0), .p (.int .i64 0), .p (.int .i64 0), .p (.int .i64 0), .p (.int .i64 0)]) rfl rfl (by decide)) ?_
                    obtain ⟨H214, e215, S216⟩ := S19.stGv (i := 1) (j := 0) (own := false) (σ := (1 :: 0 :: 1 :: 1 :: 1 :: 0 :: σ)) (xs := [.p (.int .i64 (IntKind.wrap .i64 (1 + r5.1))), .p (.int .i64 0), .p (.slice none 0 0), .p (.int .i64 0), .p (.int .i64 0), .p (.int .i64 0), .p (.int .i64 0), .p (.int .i64 0)]) rfl rfl (stills_cons (still_int _ _) (stills_cons (still_int _ _) (stills_cons (SlF.nil dT_api_Layer).still (stills_cons (still_int _ _) (stills_cons (still_int _ _) (stills_cons (still_int _ _) (stills_cons (still_int _ _) (stills_cons (still_int _ _) stills_nil)))))))) rfl rfl
                    refine Sim.op (st_map e215) ?_
                    have e217 : ldO true 8 H214 (.ref ⟨h.length, 2, 0, (0 :: 0 :: 0 :: σ), []⟩ 0) = some (.agg [.p (.int .i64 (IntKind.wrap .i64 (1 + r5.1))), .p (.int .i64 0), .p (.slice none 0 0), .p (.int .i64 0), .p (.int .i64 0), .p (.int .i64 0), .p (.int .i64 0), .p (.int .i64 0)]) := (S216.atG (i := 1) rfl).ldVs (j := 0) (xs := [.p (.int .i64 (IntKind.wrap .i64 (1 + r5.1))), .p (.int .i64 0), .p (.slice none 0 0), .p (.int .i64 0), .p (.int .i64 0), .p (.int .i64 0), .p (.int .i64 0), .p (.int .i64 0)]) rfl rfl (by decide)
                    refine Sim.op (show _ = some [(.agg [.p (.int .i64 (IntKind.wrap .i64 (1 + r5.1))), .p (.int .i64 0), .p (.slice none 0 0), .p (.int .i64 0), .p (.int .i64 0), .p (.int .i64 0), .p (.int .i64 0), .p (.int .i64 0)])] from by simp only [e217, Option.bind_some, Option.map_some]) ?_
                    exact Sim.fin (S216.finN (lv_cons (Stills.lv (dT_api_Ctl.still (dT_api_Ctl.mk (SlF.nil dT_api_Layer)))) lv_nil)) ⟨[.p (.int .i64 (IntKind.wrap .i64 (1 + r5.1))), .p (.int .i64 0), .p (.slice none 0 0), .p (.int .i64 0), .p (.int .i64 0), .p (.int .i64 0), .p (.int .i64 0), .p (.int .i64 0)], v10, (show dT_api_Ctl.R ((⟨(IntKind.wrap .i64 (1 + r5.1)), 0, (([] : List T_api_Layer)), 0, 0, 0, 0, 0⟩ : T_api_Ctl)) [.p (.int .i64 (IntKind.wrap .i64 (1 + r5.1))), .p (.int .i64 0), .p (.slice none 0 0), .p (.int .i64 0), .p (.int .i64 0), .p (.int .i64 0), .p (.int .i64 0), .p (.int .i64 0)] from (dT_api_Ctl.mk (SlF.nil dT_api_Layer))), h11, rfl⟩
              · refine Sim.cd (fun hc => ?_) (fun hc => ?_)
                · refine Sim.call (limelightkeep_Tape_Next_ok (⟨r5.2.f_L, r5.2.f_At⟩ : T_limelightkeep_Tape) h11 (S19.atB (i := 0) rfl) 3) fun r218 cs219 H220 h221 q222 => ?_
                  obtain ⟨v223, h224, q222⟩ := q222
                  cases q222
                  have S225 := S19.setB (i := 0) (cs := List.map C.v [v223, (.p (.int .i64 r218.2.f_At))]) rfl rfl
                  refine Sim.op (castI_p _ _) ?_
                  refine Sim.op (fA_ref _ _ _) ?_
                  obtain ⟨H226, e227, S228⟩ := S225.stG (i := 0) (j := 6) (own := true) (σ := (3 :: 1 :: 1 :: 1 :: 1 :: 1 :: 1 :: 1 :: 1 :: 0 :: 1 :: 1 :: 0 :: σ)) (x := (.p (.int .i64 r218.1))) rfl rfl (still_int _ _) rfl
                  refine Sim.op (st_map e227) ?_
                  refine Sim.op ((S228.atG (i := 0) rfl).ldVs (j := 0) (xs := [.p (.int .i64 (IntKind.wrap .i64 (1 + r5.1))), .p (.int .i64 0), .p (.slice none 0 0), .p (.int .i64 0), .p (.int .i64 0), .p (.int .i64 0), .p (.int .i64 r218.1), .p (.int .i64 0)]) rfl rfl (by decide)) ?_
                  obtain ⟨H229, e230, S231⟩ := S228.stGv (i := 1) (j := 0) (own := false) (σ := (1 :: 0 :: 1 :: 1 :: 1 :: 0 :: σ)) (xs := [.p (.int .i64 (IntKind.wrap .i64 (1 + r5.1))), .p (.int .i64 0), .p (.slice none 0 0), .p (.int .i64 0), .p (.int .i64 0), .p (.int .i64 0), .p (.int .i64 r218.1), .p (.int .i64 0)]) rfl rfl (stills_cons (still_int _ _) (stills_cons (still_int _ _) (stills_cons (SlF.nil dT_api_Layer).still (stills_cons (still_int _ _) (stills_cons (still_int _ _) (stills_cons (still_int _ _) (stills_cons (still_int _ _) (stills_cons (still_int _ _) stills_nil)))))))) rfl rfl
                  refine Sim.op (st_map e230) ?_
                  have e232 : ldO true 8 H229 (.ref ⟨h.length, 2, 0, (0 :: 0 :: 0 :: σ), []⟩ 0) = some (.agg [.p (.int .i64 (IntKind.wrap .i64 (1 + r5.1))), .p (.int .i64 0), .p (.slice none 0 0), .p (.int .i64 0), .p (.int .i64 0), .p (.int .i64 0), .p (.int .i64 r218.1), .p (.int .i64 0)]) := (S231.atG (i := 1) rfl).ldVs (j := 0) (xs := [.p (.int .i64 (IntKind.wrap .i64 (1 + r5.1))), .p (.int .i64 0), .p (.slice none 0 0), .p (.int .i64 0), .p (.int .i64 0), .p (.int .i64 0), .p (.int .i64 r218.1), .p (.int .i64 0)]) rfl rfl (by decide)
                  refine Sim.op (show _ = some [(.agg [.p (.int .i64 (IntKind.wrap .i64 (1 + r5.1))), .p (.int .i64 0), .p (.slice none 0 0), .p (.int .i64 0), .p (.int .i64 0), .p (.int .i64 0), .p (.int .i64 r218.1), .p (.int .i64 0)])] from by simp only [e232, Option.bind_some, Option.map_some]) ?_
                  exact Sim.fin (S231.finN (lv_cons (Stills.lv (dT_api_Ctl.still (dT_api_Ctl.mk (SlF.nil dT_api_Layer)))) lv_nil)) ⟨[.p (.int .i64 (IntKind.wrap .i64 (1 + r5.1))), .p (.int .i64 0), .p (.slice none 0 0), .p (.int .i64 0), .p (.int .i64 0), .p (.int .i64 0), .p (.int .i64 r218.1), .p (.int .i64 0)], v223, (show dT_api_Ctl.R ((⟨(IntKind.wrap .i64 (1 + r5.1)), 0, (([] : List T_api_Layer)), 0, 0, 0, r218.1, 0⟩ : T_api_Ctl)) [.p (.int .i64 (IntKind.wrap .i64 (1 + r5.1))), .p (.int .i64 0), .p (.slice none 0 0), .p (.int .i64 0), .p (.int .i64 0), .p (.int .i64 0), .p (.int .i64 r218.1), .p (.int .i64 0)] from (dT_api_Ctl.mk (SlF.nil dT_api_Layer))), h224, rfl⟩
                · refine Sim.cd (fun hc => ?_) (fun hc => ?_)
                  · refine Sim.call (limelightkeep_Tape_Next_ok (⟨r5.2.f_L, r5.2.f_At⟩ : T_limelightkeep_Tape) h11 (S19.atB (i := 0) rfl) 256) fun r233 cs234 H235 h236 q237 => ?_
                    obtain ⟨v238, h239, q237⟩ := q237
                    cases q237
                    have S240 := S19.setB (i := 0) (cs := List.map C.v [v238, (.p (.int .i64 r233.2.f_At))]) rfl rfl
                    refine Sim.op (castI_p _ _) ?_
                    refine Sim.op (fA_ref _ _ _) ?_
                    obtain ⟨H241, e242, S243⟩ := S240.stG (i := 0) (j := 7) (own := true) (σ := (3 :: 1 :: 1 :: 1 :: 1 :: 1 :: 1 :: 1 :: 1 :: 1 :: 0 :: 1 :: 1 :: 0 :: σ)) (x := (.p (.int .i64 r233.1))) rfl rfl (still_int _ _) rfl
                    refine Sim.op (st_map e242) ?_
                    refine Sim.op ((S243.atG (i := 0) rfl).ldVs (j := 0) (xs := [.p (.int .i64 (IntKind.wrap .i64 (1 + r5.1))), .p (.int .i64 0), .p (.slice none 0 0), .p (.int .i64 0), .p (.int .i64 0), .p (.int .i64 0), .p (.int .i64 0), .p (.int .i64 r233.1)]) rfl rfl (by decide)) ?_
                    obtain ⟨H244, e245, S246⟩ := S243.stGv (i := 1) (j := 0) (own := false) (σ := (1 :: 0 :: 1 :: 1 :: 1 :: 0 :: σ)) (xs := [.p (.int .i64 (IntKind.wrap .i64 (1 + r5.1))), .p (.int .i64 0), .p (.slice none 0 0), .p (.int .i64 0), .p (.int .i64 0), .p (.int .i64 0), .p (.int .i64 0), .p (.int .i64 r233.1)]) rfl rfl (stills_cons (still_int _ _) (stills_cons (still_int _ _) (stills_cons (SlF.nil dT_api_Layer).still (stills_cons (still_int _ _) (stills_cons (still_int _ _) (stills_cons (still_int _ _) (stills_cons (still_int _ _) (stills_cons (still_int _ _) stills_nil)))))))) rfl rfl
                    refine Sim.op (st_map e245) ?_
                    have e247 : ldO true 8 H244 (.ref ⟨h.length, 2, 0, (0 :: 0 :: 0 :: σ), []⟩ 0) = some (.agg [.p (.int .i64 (IntKind.wrap .i64 (1 + r5.1))), .p (.int .i64 0), .p (.slice none 0 0), .p (.int .i64 0), .p (.int .i64 0), .p (.int .i64 0), .p (.int .i64 0), .p (.int .i64 r233.1)]) := (S246.atG (i := 1) rfl).ldVs (j := 0) (xs := [.p (.int .i64 (IntKind.wrap .i64 (1 + r5.1))), .p (.int .i64 0), .p (.slice none 0 0), .p (.int .i64 0), .p (.int .i64 0), .p (.int .i64 0), .p (.int .i64 0), .p (.int .i64 r233.1)]) rfl rfl (by decide)
                    refine Sim.op (show _ = some [(.agg [.p (.int .i64 (IntKind.wrap .i64 (1 + r5.1))), .p (.int .i64 0), .p (.slice none 0 0), .p (.int .i64 0), .p (.int .i64 0), .p (.int .i64 0), .p (.int .i64 0), .p (.int .i64 r233.1)])] from by simp only [e247, Option.bind_some, Option.map_some]) ?_
                    exact Sim.fin (S246.finN (lv_cons (Stills.lv (dT_api_Ctl.still (dT_api_Ctl.mk (SlF.nil dT_api_Layer)))) lv_nil)) ⟨[.p (.int .i64 (IntKind.wrap .i64 (1 + r5.1))), .p (.int .i64 0), .p (.slice none 0 0), .p (.int .i64 0), .p (.int .i64 0), .p (.int .i64 0), .p (.int .i64 0), .p (.int .i64 r233.1)], v238, (show dT_api_Ctl.R ((⟨(IntKind.wrap .i64 (1 + r5.1)), 0, (([] : List T_api_Layer)), 0, 0, 0, 0, r233.1⟩ : T_api_Ctl)) [.p (.int .i64 (IntKind.wrap .i64 (1 + r5.1))), .p (.int .i64 0), .p (.slice none 0 0), .p (.int .i64 0), .p (.int .i64 0), .p (.int .i64 0), .p (.int .i64 0), .p (.int .i64 r233.1)] from (dT_api_Ctl.mk (SlF.nil dT_api_Layer))), h239, rfl⟩
                  · refine Sim.op ((S19.atG (i := 0) rfl).ldVs (j := 0) (xs := [.p (.int .i64 (IntKind.wrap .i64 (1 + r5.1))), .p (.int .i64 0), .p (.slice none 0 0), .p (.int .i64 0), .p (.int .i64 0), .p (.int .i64 0), .p (.int .i64 0), .p (.int .i64 0)]) rfl rfl (by decide)) ?_
                    obtain ⟨H248, e249, S250⟩ := S19.stGv (i := 1) (j := 0) (own := false) (σ := (1 :: 0 :: 1 :: 1 :: 1 :: 0 :: σ)) (xs := [.p (.int .i64 (IntKind.wrap .i64 (1 + r5.1))), .p (.int .i64 0), .p (.slice none 0 0), .p (.int .i64 0), .p (.int .i64 0), .p (.int .i64 0), .p (.int .i64 0), .p (.int .i64 0)]) rfl rfl (stills_cons (still_int _ _) (stills_cons (still_int _ _) (stills_cons (SlF.nil dT_api_Layer).still (stills_cons (still_int _ _) (stills_cons (still_int _ _) (stills_cons (still_int _ _) (stills_cons (still_int _ _) (stills_cons (still_int _ _) stills_nil)))))))) rfl rfl
                    refine Sim.op (st_map e249) ?_
                    have e251 : ldO true 8 H248 (.ref ⟨h.length, 2, 0, (0 :: 0 :: 0 :: σ), []⟩ 0) = some (.agg [.p (.int .i64 (IntKind.wrap .i64 (1 + r5.1))), .p (.int .i64 0), .p (.slice none 0 0), .p (.int .i64 0), .p (.int .i64 0), .p (.int .i64 0), .p (.int .i64 0), .p (.int .i64 0)]) := (S250.atG (i := 1) rfl).ldVs (j := 0) (xs := [.p (.int .i64 (IntKind.wrap .i64 (1 + r5.1))), .p (.int .i64 0), .p (.slice none 0 0), .p (.int .i64 0), .p (.int .i64 0), .p (.int .i64 0), .p (.int .i64 0), .p (.int .i64 0)]) rfl rfl (by decide)
                    refine Sim.op (show _ = some [(.agg [.p (.int .i64 (IntKind.wrap .i64 (1 + r5.1))), .p (.int .i64 0), .p (.slice none 0 0), .p (.int .i64 0), .p (.int .i64 0), .p (.int .i64 0), .p (.int .i64 0), .p (.int .i64 0)])] from by simp only [e251, Option.bind_some, Option.map_some]) ?_
                    exact Sim.fin (S250.finN (lv_cons (Stills.lv (dT_api_Ctl.still (dT_api_Ctl.mk (SlF.nil dT_api_Layer)))) lv_nil)) ⟨[.p (.int .i64 (IntKind.wrap .i64 (1 + r5.1))), .p (.int .i64 0), .p (.slice none 0 0), .p (.int .i64 0), .p (.int .i64 0), .p (.int .i64 0), .p (.int .i64 0), .p (.int .i64 0)], v10, (show dT_api_Ctl.R ((⟨(IntKind.wrap .i64 (1 + r5.1)), 0, (([] : List T_api_Layer)), 0, 0, 0, 0, 0⟩ : T_api_Ctl)) [.p (.int .i64 (IntKind.wrap .i64 (1 + r5.1))), .p (.int .i64 0), .p (.slice none 0 0), .p (.int .i64 0), .p (.int .i64 0), .p (.int .i64 0), .p (.int .i64 0), .p (.int .i64 0)] from (dT_api_Ctl.mk (SlF.nil dT_api_Layer))), h11, rfl⟩
end Go.Ev
/- Equations, printed by tracer2.py. -/
namespace Go.Ev
open Go.Proofs
set_option linter.unusedVariables false
set_option maxRecDepth 100000
-- 31 limelight/limelightref8.Same
noncomputable def limelightref8_Same_c0 : Code := (codeAt (bodyOf Try.f31) [1, 1, 0, 1, 0, 0])
def limelightref8_Same_l0 : Lv := ⟨0, 16, [(0, 0)]⟩
noncomputable def limelightref8_Same_k0 (rec : CallF) (loop : LoopV) (σ : Stamp) : Exit → Env → H → Option (List C × H) := (kBlock 0 (kSeq G rec loop (codeAt (bodyOf Try.f31) [1, 1, 1]) ⟨16, 16, []⟩ (1 :: 1 :: 0 :: σ) (finC G false Try.f31 (1 :: σ))))
theorem limelightref8_Same_entry (rec : CallF) (loop : LoopV) (σ : Stamp) (x0 : V) (x1 : V) (h : H) : cvBody G rec loop 31 σ [x0, x1] h =
 (boxO false (0 :: 0 :: 0 :: σ) 2 (List.replicate 80 [] :: h) x0).bind fun q1 =>
 (boxO false (1 :: 0 :: 0 :: σ) 3 q1.2 x1).bind fun q2 =>
 (fA q1.1 0).bind fun t3 =>
 (ldO false 1 q2.2 t3).bind fun t4 =>
 (castI .i64 t4).bind fun n5 =>
 (fA q2.1 0).bind fun t6 =>
 (ldO false 1 q2.2 t6).bind fun t7 =>
 (castI .i64 t7).bind fun n8 =>
 (bif n5 != n8 then (some true) else ((fA q1.1 1).bind fun t9 =>
 (ldO false 1 q2.2 t9).bind fun t10 =>
 (castI .i64 t10).bind fun n11 =>
 (fA q2.1 1).bind fun t12 =>
 (ldO false 1 q2.2 t12).bind fun t13 =>
 (castI .i64 t13).bind fun n14 =>
 some (n11 != n14))).bind fun b15 =>
 (bif b15 then (some true) else ((fA q1.1 3).bind fun t16 =>
 (ldO false 1 q2.2 t16).bind fun t17 =>
 (castI .i64 t17).bind fun n18 =>
 (fA q2.1 3).bind fun t19 =>
 (ldO false 1 q2.2 t19).bind fun t20 =>
 (castI .i64 t20).bind fun n21 =>
 some (n18 != n21))).bind fun b22 =>
 (bif b22 then (some true) else ((fA q1.1 4).bind fun t23 =>
 (ldO false 1 q2.2 t23).bind fun t24 =>
 (castI .i64 t24).bind fun n25 =>
 (fA q2.1 4).bind fun t26 =>
 (ldO false 1 q2.2 t26).bind fun t27 =>
 (castI .i64 t27).bind fun n28 =>
 some (n25 != n28))).bind fun b29 =>
 (bif b29 then (some true) else ((fA q1.1 5).bind fun t30 =>
 (ldO false 1 q2.2 t30).bind fun t31 =>
 (castI .i64 t31).bind fun n32 =>
 (fA q2.1 5).bind fun t33 =>
 (ldO false 1 q2.2 t33).bind fun t34 =>
 (castI .i64 t34).bind fun n35 =>
 some (n32 != n35))).bind fun b36 =>
 (bif b36 then (some true) else ((fA q1.1 6).bind fun t37 =>
 (ldO false 1 q2.2 t37).bind fun t38 =>
 (castI .i64 t38).bind fun n39 =>
 (fA q2.1 6).bind fun t40 =>
 (ldO false 1 q2.2 t40).bind fun t41 =>
 (castI .i64 t41).bind fun n42 =>
 some (n39 != n42))).bind fun b43 =>
 (bif b43 then (some true) else ((fA q1.1 7).bind fun t44 =>
 (ldO false 1 q2.2 t44).bind fun t45 =>
 (castI .i64 t45).bind fun n46 =>
 (fA q2.1 7).bind fun t47 =>
 (ldO false 1 q2.2 t47).bind fun t48 =>
 (castI .i64 t48).bind fun n49 =>
 some (n46 != n49))).bind fun b50 =>
 (bif b50 then (some true) else ((fA q1.1 2).bind fun t51 =>
 (ldO false 1 q2.2 t51).bind fun t52 =>
 (lenO t52).bind fun t53 =>
 (castI .i64 t53).bind fun n54 =>
 (fA q2.1 2).bind fun t55 =>
 (ldO false 1 q2.2 t55).bind fun t56 =>
 (lenO t56).bind fun t57 =>
 (castI .i64 t57).bind fun n58 =>
 some (n54 != n58))).bind fun b59 =>
 bif b59 then (
 fin false σ q2.2 [(.p (.bool false))])
 else (
 (fA q1.1 2).bind fun t60 =>
 (ldO false 1 q2.2 t60).bind fun t61 =>
 (lenO t61).bind fun t62 =>
 (castI .i64 t62).bind fun n63 =>
 (loop limelightref8_Same_c0 limelightref8_Same_l0 (1 :: 0 :: 1 :: 1 :: 0 :: σ) (envL [(2, q1.1), (3, q2.1), (64, (.p (.int .i64 n63))), (65, (.p (.int .i64 0)))]) q2.2).bind fun r64 => limelightref8_Same_k0 rec loop σ r64.1 r64.2.1 r64.2.2) := by kernel_rfl
theorem limelightref8_Same_r0 (rec : CallF) (loop : LoopV) (σ : Stamp) (x2 : V) (x3 : V) (x64 : Int) (x65 : Int) (h : H) : cvRound G rec loop limelightref8_Same_c0 limelightref8_Same_l0 σ (envL [(2, x2), (3, x3), (64, (.p (.int .i64 x64))), (65, (.p (.int .i64 x65)))]) h =
 bif decide (x65 < x64) then (
 (fA x2 2).bind fun t65 =>
 (ldO false 1 h t65).bind fun t66 =>
 (iS 3 t66 x65).bind fun t67 =>
 (ldO true 3 h t67).bind fun t68 =>
 (fA x3 2).bind fun t69 =>
 (ldO false 1 h t69).bind fun t70 =>
 (iS 3 t70 x65).bind fun t71 =>
 (ldO true 3 h t71).bind fun t72 =>
 (binV Try.prog h .neq 70 t68 t72).bind fun t73 =>
 (asB t73).bind fun b74 =>
 bif b74 then (
 some (.ret, (envL [(4, (.p (.bool false)))]), h))
 else (
 loop limelightref8_Same_c0 limelightref8_Same_l0 (1 :: σ) (envL [(2, x2), (3, x3), (64, (.p (.int .i64 x64))), (65, (.p (.int .i64 (IntKind.wrap .i64 (x65 + 1)))))]) h))
 else (
 some ((.exit 0), (envL []), h)) := by kernel_rfl
theorem limelightref8_Same_a0_0 (rec : CallF) (loop : LoopV) (σ : Stamp)  (h : H) : limelightref8_Same_k0 rec loop σ (.exit 0) (envL []) h =
 fin false σ h [(.p (.bool true))] := by kernel_rfl
theorem limelightref8_Same_a0_ret (rec : CallF) (loop : LoopV) (σ : Stamp) (x4 : Bool) (h : H) : limelightref8_Same_k0 rec loop σ .ret (envL [(4, (.p (.bool x4)))]) h =
 fin false σ h [(.p (.bool x4))] := by kernel_rfl
end Go.Ev
/- Lifted by lift.py: limelightref8_Same as a plain function. -/
namespace Go.Ev
open Go.Proofs
set_option linter.unusedVariables false
set_option linter.unusedSimpArgs false
set_option maxRecDepth 100000
def p_limelightref8_Same_l0 {β : Type} (k : Nat) (kE0 : Unit → Option β) (kE1 : Bool → Option β) (x64 : Int) (x65 : Int) (yg8 : T_api_Ctl) (yg12 : T_api_Ctl) : Option β := match k with
| 0 => none
| k + 1 =>
bif decide (x65 < x64) then (
(ix yg8.Layers x65).bind fun a51 =>
(ix yg12.Layers x65).bind fun a56 =>
bif !(andB [a51.Rid.toList == a56.Rid.toList, a51.Ssrc == a56.Ssrc, a51.Height == a56.Height]) then (
kE1 false)
else (
p_limelightref8_Same_l0 k kE0 kE1 x64 (IntKind.wrap .i64 (x65 + 1)) ((⟨yg8.Kind, yg8.Cap, yg8.Layers, yg8.Peer, yg8.Height, yg8.Class, yg8.Layer, yg8.Code⟩ : T_api_Ctl)) ((⟨yg12.Kind, yg12.Cap, yg12.Layers, yg12.Peer, yg12.Height, yg12.Class, yg12.Layer, yg12.Code⟩ : T_api_Ctl))))
else (
kE0 ())
def p_limelightref8_Same (k : Nat) (x0 : T_api_Ctl) (x1 : T_api_Ctl) : Option (Bool) :=
(bif x0.Kind != x1.Kind then (some true) else (some (x0.Cap != x1.Cap))).bind fun b13 =>
(bif b13 then (some true) else (some (x0.Peer != x1.Peer))).bind fun b17 =>
(bif b17 then (some true) else (some (x0.Height != x1.Height))).bind fun b21 =>
(bif b21 then (some true) else (some (x0.Class != x1.Class))).bind fun b25 =>
(bif b25 then (some true) else (some (x0.Layer != x1.Layer))).bind fun b29 =>
(bif b29 then (some true) else (some (x0.Code != x1.Code))).bind fun b33 =>
(bif b33 then (some true) else (some (((x0.Layers.length : Int)) != ((x1.Layers.length : Int))))).bind fun b37 =>
bif b37 then (
some (false))
else (
p_limelightref8_Same_l0 k (fun (_ : Unit) =>
some (true)) (fun r68_4 =>
some (r68_4)) ((x0.Layers.length : Int)) 0 ((⟨x0.Kind, x0.Cap, x0.Layers, x0.Peer, x0.Height, x0.Class, x0.Layer, x0.Code⟩ : T_api_Ctl)) ((⟨x1.Kind, x1.Cap, x1.Layers, x1.Peer, x1.Height, x1.Class, x1.Layer, x1.Code⟩ : T_api_Ctl)))
theorem limelightref8_Same_l0_ok {h : H}  {β α : Type} {Q : β → α → Prop} {K : Exit × Env × H → Option α} {kE0 : Unit → Option β} {kE1 : Bool → Option β} (hE0 : ∀ (_u : Unit) (H61 : Go.Ev.H) (_ : Fm 80 h [] [] [] H61), Sim (kE0 ()) (K ((.exit 0), (envL []), H61)) Q) (hE1 : ∀ (q4 : Bool) (H63 : Go.Ev.H) (_ : Fm 80 h [] [] [] H63), Sim (kE1 q4) (K (.ret, (envL [(4, (.p (.bool q4)))]), H63)) Q) (k : Nat) : ∀ (x64 : Int) (x65 : Int) (yg8 : T_api_Ctl) (yg12 : T_api_Ctl) (v43 : V) (h44 : SlF dT_api_Layer yg8.Layers v43) (s45 : Stamp) (v47 : V) (h48 : SlF dT_api_Layer yg12.Layers v47) (s49 : Stamp) (H41 : Go.Ev.H) (_ : Fm 80 h [] [(2, s45, List.map C.v [(.p (.int .i64 yg8.Kind)), (.p (.int .i64 yg8.Cap)), v43, (.p (.int .i64 yg8.Peer)), (.p (.int .i64 yg8.Height)), (.p (.int .i64 yg8.Class)), (.p (.int .i64 yg8.Layer)), (.p (.int .i64 yg8.Code))]), (3, s49, List.map C.v [(.p (.int .i64 yg12.Kind)), (.p (.int .i64 yg12.Cap)), v47, (.p (.int .i64 yg12.Peer)), (.p (.int .i64 yg12.Height)), (.p (.int .i64 yg12.Class)), (.p (.int .i64 yg12.Layer)), (.p (.int .i64 yg12.Code))])] [] H41) {σ : Stamp}, Sim (p_limelightref8_Same_l0 k kE0 kE1 x64 x65 yg8 yg12) ((cvL G X0 limelightref8_Same_c0 limelightref8_Same_l0 σ (envL [(2, (.ref ⟨h.length, 2, 0, s45, []⟩ 0)), (3, (.ref ⟨h.length, 3, 0, s49, []⟩ 0)), (64, (.p (.int .i64 x64))), (65, (.p (.int .i64 x65)))]) H41).bind K) Q := by
  induction k with
  | zero => intros; exact Sim.no
  | succ k ih =>
    intro x64 x65 yg8 yg12 v43 h44 s45 v47 h48 s49 H41 S42 σ
    rw [p_limelightref8_Same_l0]
    refine Sim.round (Sim.ext (limelightref8_Same_r0 _ _ _ _ _ _ _ _) ?_)
    refine Sim.cd (fun hc => ?_) (fun hc => ?_)
    · refine Sim.op (fA_ref _ _ _) ?_
      refine Sim.op ((S42.atG (i := 0) rfl).ld (j := 2) rfl) ?_
      refine Sim.bd fun a51 h52 => ?_
      refine Sim.op ((h44.h H41).iS h52 rfl) ?_
      obtain ⟨w54, h55, hE53⟩ := (h44.h H41).el h52 rfl
      obtain rfl := dT_api_Layer.inv h55
      refine Sim.op (hE53.all (by simp)) ?_
      refine Sim.op (fA_ref _ _ _) ?_
      refine Sim.op ((S42.atG (i := 1) rfl).ld (j := 2) rfl) ?_
      refine Sim.bd fun a56 h57 => ?_
      refine Sim.op ((h48.h H41).iS h57 rfl) ?_
      obtain ⟨w59, h60, hE58⟩ := (h48.h H41).el h57 rfl
      obtain rfl := dT_api_Layer.inv h60
      refine Sim.op (hE58.all (by simp)) ?_
      refine Sim.op (nqS_ok (by kernel_rfl : _ = andL [a51.Rid.toList == a56.Rid.toList, a51.Ssrc == a56.Ssrc, a51.Height == a56.Height])) ?_
      refine Sim.op (asB_p _) ?_
      refine Sim.cd (fun hc => ?_) (fun hc => ?_)
      · exact hE1 false H41 (S42.wk2 all_nil all_nil)
      · exact ih x64 (IntKind.wrap .i64 (x65 + 1)) ((⟨yg8.Kind, yg8.Cap, yg8.Layers, yg8.Peer, yg8.Height, yg8.Class, yg8.Layer, yg8.Code⟩ : T_api_Ctl)) ((⟨yg12.Kind, yg12.Cap, yg12.Layers, yg12.Peer, yg12.Height, yg12.Class, yg12.Layer, yg12.Code⟩ : T_api_Ctl)) v43 h44 s45 v47 h48 s49 H41 (S42.wk2 (all_cons (at_mem 0 rfl) (all_cons (at_mem 1 rfl) all_nil)) all_nil)
    · exact hE0 () H41 (S42.wk2 all_nil all_nil)
theorem limelightref8_Same_ok (k : Nat) {h : H} {σ : Stamp} (x0 : T_api_Ctl) {u0 : List V} (hu0 : dT_api_Ctl.R x0 u0) (x1 : T_api_Ctl) {u1 : List V} (hu1 : dT_api_Ctl.R x1 u1) : Sim (p_limelightref8_Same k x0 x1) (ev G X0 31 σ [(.agg u0), (.agg u1)] h) (fun r s => s = ([.v (.p (.bool r))], h)) := by
  refine Sim.ev rfl (Sim.ext (limelightref8_Same_entry _ _ _ _ _ _) ?_)
  rw [p_limelightref8_Same]
  obtain ⟨v1, rfl, h2⟩ := dT_api_Ctl.inv hu0
  obtain ⟨v3, rfl, h4⟩ := dT_api_Ctl.inv hu1
  have S0 : Fm 80 h [] [] [] (List.replicate 80 [] :: h) := Fm.start0
  obtain ⟨H5, e6, S7⟩ := S0.box (own := false) (d := 2) (s := (0 :: 0 :: 0 :: σ)) (xs := [(.p (.int .i64 x0.Kind)), (.p (.int .i64 x0.Cap)), v1, (.p (.int .i64 x0.Peer)), (.p (.int .i64 x0.Height)), (.p (.int .i64 x0.Class)), (.p (.int .i64 x0.Layer)), (.p (.int .i64 x0.Code))]) (stills_cons (still_int _ _) (stills_cons (still_int _ _) (stills_cons h2.still (stills_cons (still_int _ _) (stills_cons (still_int _ _) (stills_cons (still_int _ _) (stills_cons (still_int _ _) (stills_cons (still_int _ _) stills_nil)))))))) (by decide) rfl
  refine Sim.op (e6) ?_
  obtain ⟨H9, e10, S11⟩ := S7.box (own := false) (d := 3) (s := (1 :: 0 :: 0 :: σ)) (xs := [(.p (.int .i64 x1.Kind)), (.p (.int .i64 x1.Cap)), v3, (.p (.int .i64 x1.Peer)), (.p (.int .i64 x1.Height)), (.p (.int .i64 x1.Class)), (.p (.int .i64 x1.Layer)), (.p (.int .i64 x1.Code))]) (stills_cons (still_int _ _) (stills_cons (still_int _ _) (stills_cons h4.still (stills_cons (still_int _ _) (stills_cons (still_int _ _) (stills_cons (still_int _ _) (stills_cons (still_int _ _) (stills_cons (still_int _ _) stills_nil)))))))) (by decide) rfl
  refine Sim.op (e10) ?_
  refine Sim.op (fA_ref _ _ _) ?_
  refine Sim.op ((S11.atG (i := 1) rfl).ld (j := 0) rfl) ?_
  refine Sim.op (castI_p _ _) ?_
  refine Sim.op (fA_ref _ _ _) ?_
  refine Sim.op ((S11.atG (i := 0) rfl).ld (j := 0) rfl) ?_
  refine Sim.op (castI_p _ _) ?_
  refine Sim.ch (P := fun r y => r = y) ?_ (fun b13 y14 h15 h16 => ?_)
  · refine Sim.cd (fun hc => ?_) (fun hc => ?_)
    · exact Sim.ret rfl rfl
    · refine Sim.op (fA_ref _ _ _) ?_
      refine Sim.op ((S11.atG (i := 1) rfl).ld (j := 1) rfl) ?_
      refine Sim.op (castI_p _ _) ?_
      refine Sim.op (fA_ref _ _ _) ?_
      refine Sim.op ((S11.atG (i := 0) rfl).ld (j := 1) rfl) ?_
      refine Sim.op (castI_p _ _) ?_
      exact Sim.ret rfl rfl
  subst h16
  refine Sim.ch (P := fun r y => r = y) ?_ (fun b17 y18 h19 h20 => ?_)
  · refine Sim.cd (fun hc => ?_) (fun hc => ?_)
    · exact Sim.ret rfl rfl
    · refine Sim.op (fA_ref _ _ _) ?_
      refine Sim.op ((S11.atG (i := 1) rfl).ld (j := 3) rfl) ?_
      refine Sim.op (castI_p _ _) ?_
      refine Sim.op (fA_ref _ _ _) ?_
      refine Sim.op ((S11.atG (i := 0) rfl).ld (j := 3) rfl) ?_
      refine Sim.op (castI_p _ _) ?_
      exact Sim.ret rfl rfl
  subst h20
  refine Sim.ch (P := fun r y => r = y) ?_ (fun b21 y22 h23 h24 => ?_)
  · refine Sim.cd (fun hc => ?_) (fun hc => ?_)
    · exact Sim.ret rfl rfl
    · refine Sim.op (fA_ref _ _ _) ?_
      refine Sim.op ((S11.atG (i := 1) rfl).ld (j := 4) rfl) ?_
      refine Sim.op (castI_p _ _) ?_
      refine Sim.op (fA_ref _ _ _) ?_
      refine Sim.op ((S11.atG (i := 0) rfl).ld (j := 4) rfl) ?_
      refine Sim.op (castI_p _ _) ?_
      exact Sim.ret rfl rfl
  subst h24
  refine Sim.ch (P := fun r y => r = y) ?_ (fun b25 y26 h27 h28 => ?_)
  · refine Sim.cd (fun hc => ?_) (fun hc => ?_)
    · exact Sim.ret rfl rfl
    · refine Sim.op (fA_ref _ _ _) ?_
      refine Sim.op ((S11.atG (i := 1) rfl).ld (j := 5) rfl) ?_
      refine Sim.op (castI_p _ _) ?_
      refine Sim.op (fA_ref _ _ _) ?_
      refine Sim.op ((S11.atG (i := 0) rfl).ld (j := 5) rfl) ?_
      refine Sim.op (castI_p _ _) ?_
      exact Sim.ret rfl rfl
  subst h28
  refine Sim.ch (P := fun r y => r = y) ?_ (fun b29 y30 h31 h32 => ?_)
  · refine Sim.cd (fun hc => ?_) (fun hc => ?_)
    · exact Sim.ret rfl rfl
    · refine Sim.op (fA_ref _ _ _) ?_
      refine Sim.op ((S11.atG (i := 1) rfl).ld (j := 6) rfl) ?_
      refine Sim.op (castI_p _ _) ?_
      refine Sim.op (fA_ref _ _ _) ?_
      refine Sim.op ((S11.atG (i := 0) rfl).ld (j := 6) rfl) ?_
      refine Sim.op (castI_p _ _) ?_
      exact Sim.ret rfl rfl
  subst h32
  refine Sim.ch (P := fun r y => r = y) ?_ (fun b33 y34 h35 h36 => ?_)
  · refine Sim.cd (fun hc => ?_) (fun hc => ?_)
    · exact Sim.ret rfl rfl
    · refine Sim.op (fA_ref _ _ _) ?_
      refine Sim.op ((S11.atG (i := 1) rfl).ld (j := 7) rfl) ?_
      refine Sim.op (castI_p _ _) ?_
      refine Sim.op (fA_ref _ _ _) ?_
      refine Sim.op ((S11.atG (i := 0) rfl).ld (j := 7) rfl) ?_
      refine Sim.op (castI_p _ _) ?_
      exact Sim.ret rfl rfl
  subst h36
  refine Sim.ch (P := fun r y => r = y) ?_ (fun b37 y38 h39 h40 => ?_)
  · refine Sim.cd (fun hc => ?_) (fun hc => ?_)
    · exact Sim.ret rfl rfl
    · refine Sim.op (fA_ref _ _ _) ?_
      refine Sim.op ((S11.atG (i := 1) rfl).ld (j := 2) rfl) ?_
      refine Sim.op ((h2.h H9).len) ?_
      refine Sim.op (castI_p _ _) ?_
      refine Sim.op (fA_ref _ _ _) ?_
      refine Sim.op ((S11.atG (i := 0) rfl).ld (j := 2) rfl) ?_
      refine Sim.op ((h4.h H9).len) ?_
      refine Sim.op (castI_p _ _) ?_
      exact Sim.ret rfl rfl
  subst h40
  refine Sim.cd (fun hc => ?_) (fun hc => ?_)
  · exact Sim.fin (S11.finN (lv_cons (still_bool _).lv lv_nil)) rfl
  · refine Sim.op (fA_ref _ _ _) ?_
    refine Sim.op ((S11.atG (i := 1) rfl).ld (j := 2) rfl) ?_
    refine Sim.op ((h2.h H9).len) ?_
    refine Sim.op (castI_p _ _) ?_
    refine Sim.as (limelightref8_Same_l0_ok ?_ ?_ k ((x0.Layers.length : Int)) 0 ((⟨x0.Kind, x0.Cap, x0.Layers, x0.Peer, x0.Height, x0.Class, x0.Layer, x0.Code⟩ : T_api_Ctl)) ((⟨x1.Kind, x1.Cap, x1.Layers, x1.Peer, x1.Height, x1.Class, x1.Layer, x1.Code⟩ : T_api_Ctl)) v1 h2 (0 :: 0 :: 0 :: σ) v3 h4 (1 :: 0 :: 0 :: σ) H9 (S11.wk2 (all_cons (at_mem 1 rfl) (all_cons (at_mem 0 rfl) all_nil)) all_nil)) 
    · intro _u H66 S67
      refine Sim.ext (limelightref8_Same_a0_0 _ _ _ _) ?_
      exact Sim.fin (S67.finN (lv_cons (still_bool _).lv lv_nil)) rfl
    · intro r68_4 H69 S70
      refine Sim.ext (limelightref8_Same_a0_ret _ _ _ _ _) ?_
      exact Sim.fin (S70.finN (lv_cons (still_bool _).lv lv_nil)) rfl
end Go.Ev
namespace Go.Ev
set_option maxRecDepth 100000
set_option linter.unusedSimpArgs false
theorem putB_inj {n m : Int} {s : Nat} (hn : 0 ≤ n ∧ n < 256 ^ s) (hm : 0 ≤ m ∧ m < 256 ^ s) (h : putB n s = putB m s) : n = m := by
  have h1 := getB_putB n hn.1 s 0
  have h2 := getB_putB m hm.1 s 0
  rw [h] at h1
  rw [h1] at h2
  rw [Int.emod_eq_of_lt hn.1 hn.2, Int.emod_eq_of_lt hm.1 hm.2] at h2
  omega
def PT (K : Int) (a : It) : Prop := okIt a ∧ a.n < 256 ^ a.size.toNat ∧ (hasB K a.name = false → a.n = 0)
theorem sel_inj {K : Int} : ∀ {l m : List It}, l.map (fun a => (a.name, a.size)) = m.map (fun a => (a.name, a.size)) → (∀ a ∈ l, PT K a) → (∀ a ∈ m, PT K a) → selF K l = selF K m → l = m
  | [], [], _, _, _, _ => rfl
  | [], b :: m, h, _, _, _ => by simp at h
  | a :: l, [], h, _, _, _ => by simp at h
  | a :: l, b :: m, h, hl, hm, hs => by
    simp only [List.map_cons, List.cons.injEq, Prod.mk.injEq] at h
    obtain ⟨⟨h1, h2⟩, h3⟩ := h
    obtain ⟨oa, la, za⟩ := hl a (List.mem_cons_self ..)
    obtain ⟨ob, lb, zb⟩ := hm b (List.mem_cons_self ..)
    have tl := fun hs' => sel_inj h3 (fun x hx => hl x (List.mem_cons_of_mem _ hx)) (fun x hx => hm x (List.mem_cons_of_mem _ hx)) hs'
    simp only [selF, List.flatMap_cons] at hs
    rw [← h1] at hs
    have ab : a.n = b.n → a = b := fun hn => by
      obtain ⟨an, as_, ann⟩ := a
      obtain ⟨bn, bs, bnn⟩ := b
      simp only at h1 h2 hn
      subst h1; subst h2; subst hn
      rfl
    cases hh : hasB K a.name with
    | true =>
      rw [hh, cond_true, cond_true] at hs
      simp only [List.cons_append, List.nil_append, List.cons.injEq] at hs
      obtain ⟨e1, e2⟩ := hs
      rw [tl e2]
      congr 1
      simp only [itF, Prod.mk.injEq] at e1
      rw [← h2] at e1 lb
      exact ab (putB_inj ⟨oa.2.2.1, la⟩ ⟨ob.2.2.1, lb⟩ e1.2)
    | false =>
      rw [hh, cond_false, cond_false] at hs
      rw [tl hs]
      congr 1
      exact ab ((za hh).trans (zb (by rw [← h1]; exact hh)).symm)
theorem layF_inj {a b : T_api_Layer} (ha : okLy a) (hb : okLy b) (h : layF a = layF b) : a = b := by
  simp only [layF, Prod.mk.injEq, true_and] at h
  obtain ⟨h1, h2⟩ := List.append_inj h (by rw [List.length_append, List.length_append, putB_len, putB_len, putB_len, putB_len])
  obtain ⟨h3, h4⟩ := List.append_inj h1 (by rw [putB_len, putB_len])
  have e1 := putB_inj (s := 4) ⟨ha.1.1, by have := ha.1.2; omega⟩ ⟨hb.1.1, by have := hb.1.2; omega⟩ h3
  have e2 := putB_inj (s := 2) ⟨ha.2.1.1, by have := ha.2.1.2; omega⟩ ⟨hb.2.1.1, by have := hb.2.1.2; omega⟩ h4
  have e3 : a.Rid = b.Rid := by rw [← strB_bytesS a.Rid, h2, strB_bytesS]
  obtain ⟨a1, a2, a3⟩ := a
  obtain ⟨b1, b2, b3⟩ := b
  simp only at e1 e2 e3
  subst e1; subst e2; subst e3
  rfl
theorem map_layF_inj : ∀ {l m : List T_api_Layer}, (∀ a ∈ l, okLy a) → (∀ a ∈ m, okLy a) → l.map layF = m.map layF → l = m
  | [], [], _, _, _ => rfl
  | [], b :: m, _, _, h => by simp at h
  | a :: l, [], _, _, h => by simp at h
  | a :: l, b :: m, hl, hm, h => by
    simp only [List.map_cons, List.cons.injEq] at h
    rw [layF_inj (hl a (List.mem_cons_self ..)) (hm b (List.mem_cons_self ..)) h.1, map_layF_inj (fun x hx => hl x (List.mem_cons_of_mem _ hx)) (fun x hx => hm x (List.mem_cons_of_mem _ hx)) h.2]
/-- A message of a tape. -/
def TC (c : T_api_Ctl) : Prop := (1 ≤ c.Kind ∧ c.Kind ≤ 10) ∧ fldB c.Kind 0 [(c.Cap == 0), ((c.Layers.length : Int) == 0), (c.Peer == 0), (c.Height == 0), (c.Class == 0), (c.Layer == 0), (c.Code == 0)] = true ∧ valB c = true ∧ ((c.Kind = 3 ∧ (∃ p, (0 ≤ p ∧ p ≤ 5) ∧ Ly p c.Layers) ∧ selF c.Kind (six c) = []) ∨ (c.Kind ≠ 3 ∧ c.Layers = [])) ∧ ∀ a ∈ six c, PT c.Kind a
theorem six_all {c : T_api_Ctl} {P : It → Prop} (h1 : P ⟨1, 8, c.Cap⟩) (h2 : P ⟨3, 1, c.Peer⟩) (h3 : P ⟨4, 2, c.Height⟩) (h4 : P ⟨5, 1, c.Class⟩) (h5 : P ⟨6, 1, c.Layer⟩) (h6 : P ⟨7, 1, c.Code⟩) : ∀ a ∈ six c, P a := by
  intro a ha
  simp only [six, List.mem_cons, List.not_mem_nil, or_false] at ha
  rcases ha with rfl | rfl | rfl | rfl | rfl | rfl <;> assumption
theorem itZ {K nm : Int} {s : Nat} (h : 0 ≤ nm ∧ nm < 256) (hs : 1 ≤ s ∧ s ≤ 8) : PT K ⟨nm, (s : Int), 0⟩ :=
  ⟨⟨h, ⟨by simp only; omega, by simp only; omega⟩, by simp only; omega, by simp only; omega⟩, Int.pow_pos (by decide), fun _ => rfl⟩
theorem itN {K nm n : Int} {s : Nat} (h : 0 ≤ nm ∧ nm < 256) (hs : 1 ≤ s ∧ s ≤ 8) (h0 : 0 ≤ n) (h1 : n < 2 ^ 62) (h2 : n < 256 ^ s) (hh : hasB K nm = true) : PT K ⟨nm, (s : Int), n⟩ :=
  ⟨⟨h, ⟨by simp only; omega, by simp only; omega⟩, h0, by simp only; omega⟩, by simp only [Int.toNat_natCast]; exact h2, fun hf => by simp only at hf; rw [hh] at hf; cases hf⟩
theorem Ly.ok {p : Int} (hp : 0 ≤ p ∧ p ≤ 5) {l : List T_api_Layer} (h : Ly p l) : (1 ≤ l.length ∧ l.length ≤ 3) ∧ (∀ a ∈ l, okLy a) ∧ p_ctl_Layers 40 l = some 0 := by
  have R : ∀ i r, RidX.rightB (tpL p i r).Rid = true := fun i r => nmL_right i
  have Z : ∀ i r, (tpL p i r).Rid.size < 2 ^ 40 := fun i r => nmL_size i
  have O : ∀ (i : Nat) (r : Int), i ≤ 2 → 0 ≤ r ∧ r < 90 → okLy (tpL p i r) := fun i r hi hr => by
    refine ⟨⟨by simp only [tpL]; omega, by simp only [tpL]; omega⟩, ⟨by simp only [tpL]; omega, by simp only [tpL]; omega⟩, ?_⟩
    rcases i with _ | _ | i
    · show (nmL 0).size ≤ 200; decide
    · show (nmL 1).size ≤ 200; decide
    · show (⟨#[72, 73]⟩ : ByteArray).size ≤ 200; decide
  have ok : ∀ (i : Nat) (r : Int), i ≤ 2 → 0 ≤ r ∧ r < 90 → okL (tpL p i r) none = true ∧ ∀ b : T_api_Layer, okL (tpL p i r) (some b) = decide (b.Height < (tpL p i r).Height) := fun i r hi hr => okL_ok (R i r) (by simp only [tpL]; omega)
  have S01 : ∀ r s, sameL (tpL p 0 r) (tpL p 1 s) = false := fun r s => by
    have : ((tpL p 0 r).Ssrc == (tpL p 1 s).Ssrc) = false := beq_eq_false_iff_ne.2 (by simp only [tpL]; omega)
    unfold sameL; rw [this, Bool.false_or]; exact nm01
  have S02 : ∀ r s, sameL (tpL p 0 r) (tpL p 2 s) = false := fun r s => by
    have : ((tpL p 0 r).Ssrc == (tpL p 2 s).Ssrc) = false := beq_eq_false_iff_ne.2 (by simp only [tpL]; omega)
    unfold sameL; rw [this, Bool.false_or]; exact nm02
  have S12 : ∀ r s, sameL (tpL p 1 r) (tpL p 2 s) = false := fun r s => by
    have : ((tpL p 1 r).Ssrc == (tpL p 2 s).Ssrc) = false := beq_eq_false_iff_ne.2 (by simp only [tpL]; omega)
    unfold sameL; rw [this, Bool.false_or]; exact nm12
  rcases h with ⟨r, hr, rfl⟩ | ⟨r, s, hr, hs, rfl⟩ | ⟨r, s, u, hr, hs, hu, rfl⟩
  · refine ⟨by simp, fun a ha => by simp at ha; subst ha; exact O 0 r (by omega) hr, ?_⟩
    have c1 : chkL [] [tpL p 0 r] = true := by
      simp only [chkL, List.getLast?_nil, (ok 0 r (by omega) hr).1, List.any_nil, Bool.not_false, Bool.true_and]
    rw [layers_eq (by simp) (by simp) (fun b hb => by simp at hb; subst hb; exact Z 0 r), c1]; rfl
  · refine ⟨by simp, fun a ha => ?_, ?_⟩
    · simp only [List.mem_cons, List.not_mem_nil, or_false] at ha
      rcases ha with rfl | rfl
      · exact O 0 r (by omega) hr
      · exact O 1 s (by omega) hs
    · have c1 : chkL [] [tpL p 0 r, tpL p 1 s] = true := by
        have h1 := (ok 0 r (by omega) hr).1
        have h2 := (ok 1 s (by omega) hs).2 (tpL p 0 r)
        have h3 : decide ((tpL p 0 r).Height < (tpL p 1 s).Height) = true := decide_eq_true (by simp only [tpL]; omega)
        simp [chkL, h1, h2, h3, S01]
      rw [layers_eq (by simp) (by simp) (fun b hb => by
        simp only [List.mem_cons, List.not_mem_nil, or_false] at hb
        rcases hb with rfl | rfl
        · exact Z 0 r
        · exact Z 1 s), c1]; rfl
  · refine ⟨by simp, fun a ha => ?_, ?_⟩
    · simp only [List.mem_cons, List.not_mem_nil, or_false] at ha
      rcases ha with rfl | rfl | rfl
      · exact O 0 r (by omega) hr
      · exact O 1 s (by omega) hs
      · exact O 2 u (by omega) hu
    · have c1 : chkL [] [tpL p 0 r, tpL p 1 s, tpL p 2 u] = true := by
        have h1 := (ok 0 r (by omega) hr).1
        have h2 := (ok 1 s (by omega) hs).2 (tpL p 0 r)
        have h3 : decide ((tpL p 0 r).Height < (tpL p 1 s).Height) = true := decide_eq_true (by simp only [tpL]; omega)
        have h4 := (ok 2 u (by omega) hu).2 (tpL p 1 s)
        have h5 : decide ((tpL p 1 s).Height < (tpL p 2 u).Height) = true := decide_eq_true (by simp only [tpL]; omega)
        simp [chkL, h1, h2, h3, h4, h5, S01, S02, S12]
      rw [layers_eq (by simp) (by simp) (fun b hb => by
        simp only [List.mem_cons, List.not_mem_nil, or_false] at hb
        rcases hb with rfl | rfl | rfl
        · exact Z 0 r
        · exact Z 1 s
        · exact Z 2 u), c1]; rfl
theorem TC.okC {c : T_api_Ctl} (h : TC c) : okC c := by
  obtain ⟨h1, _, _, h4, h5⟩ := h
  refine ⟨⟨by omega, by omega⟩, ?_, ?_, fun a ha => (h5 a ha).1⟩
  · rcases h4 with ⟨_, ⟨p, hp, hl⟩, _⟩ | ⟨_, hl⟩
    · exact (hl.ok hp).1.2
    · rw [hl]; simp
  · rcases h4 with ⟨_, ⟨p, hp, hl⟩, _⟩ | ⟨_, hl⟩
    · exact (hl.ok hp).2.1
    · rw [hl]; intro a ha; cases ha
theorem TC.right {c : T_api_Ctl} (h : TC c) : p_ctl_Right 40 c = some 0 := by
  obtain ⟨h1, h2, h3, h4, _⟩ := h
  refine right_ok (by omega) h1 h2 h3 fun h => ?_
  rcases h4 with ⟨_, ⟨p, hp, hl⟩, _⟩ | ⟨hn, _⟩
  · exact (hl.ok hp).2.2
  · exact absurd h hn
theorem TC.bytes {c : T_api_Ctl} (h : TC c) : p_ctl_Bytes 40 c = some (bytC c, 0) := bytes8 h.okC (by omega) h.right
theorem bytC_inj {a b : T_api_Ctl} (ha : TC a) (hb : TC b) (h : bytC a = bytC b) : a = b := by
  unfold bytC at h
  simp only [List.cons_append, List.nil_append, List.cons.injEq] at h
  obtain ⟨hk, h⟩ := h
  obtain ⟨_, hbody⟩ := List.append_inj h (by rw [putB_len, putB_len])
  have hf : flds a = flds b := body_inj hbody
  unfold flds at hf
  have hsix : six a = six b → a.Layers = b.Layers → a = b := fun h6 hl => by
    obtain ⟨a1, a2, a3, a4, a5, a6, a7, a8⟩ := a
    obtain ⟨b1, b2, b3, b4, b5, b6, b7, b8⟩ := b
    simp only [six, List.cons.injEq, T_struct_name_int_size_int_n_int64.mk.injEq, true_and, and_true] at h6
    obtain ⟨e1, e2, e3, e4, e5, e6⟩ := h6
    simp only at hk hl e1 e2 e3 e4 e5 e6
    subst hk; subst hl; subst e1; subst e2; subst e3; subst e4; subst e5; subst e6
    rfl
  obtain ⟨_, _, _, a4, a5⟩ := ha
  obtain ⟨_, _, _, b4, b5⟩ := hb
  rw [← hk] at b4 b5 hf
  have fin : selF a.Kind (six a) = selF a.Kind (six b) → six a = six b := fun hs => sel_inj rfl a5 b5 hs
  rcases a4 with ⟨k3, ⟨p, hp, hl⟩, s1⟩ | ⟨kn, l1⟩ <;> rcases b4 with ⟨k3', ⟨p', hp', hl'⟩, s2⟩ | ⟨kn', l2⟩
  · rw [s1, s2, List.append_nil, List.append_nil] at hf
    exact hsix (fin (s1.trans s2.symm)) (map_layF_inj (hl.ok hp).2.1 (hl'.ok hp').2.1 hf)
  · exact absurd k3 kn'
  · exact absurd k3' kn
  · rw [l1, l2] at hf
    exact hsix (fin (by simpa using hf)) (l1.trans l2.symm)
theorem tape_ctl {t : T_limelightkeep_Tape} (h : TP t) : ∃ c t', p_limelightkeep_Tape_Ctl 40 t = some (c, t') ∧ TC c := by
  obtain ⟨r, t1, e1, r1, h1⟩ := next_tape h (n := 10) (by omega)
  unfold p_limelightkeep_Tape_Ctl
  rw [tape_eta, e1, Option.bind_some]
  simp only [tape_eta]
  have hr : r = 0 ∨ r = 1 ∨ r = 2 ∨ r = 3 ∨ r = 4 ∨ r = 5 ∨ r = 6 ∨ r = 7 ∨ r = 8 ∨ r = 9 := by omega
  rcases hr with rfl | rfl | rfl | rfl | rfl | rfl | rfl | rfl | rfl | rfl
  · simp only [show IntKind.wrap .i64 (1 + 0) = 1 from rfl, show ((1 : Int) == 1) = true from rfl, show ((1 : Int) == 3) = false from rfl, show ((1 : Int) == 4) = false from rfl, show ((1 : Int) == 5) = false from rfl, show ((1 : Int) == 6) = false from rfl, show ((1 : Int) == 7) = false from rfl, show ((1 : Int) == 8) = false from rfl, show ((1 : Int) == 9) = false from rfl, show ((1 : Int) == 10) = false from rfl, cond_true, cond_false]
    obtain ⟨a, t2, e2, r2, h2⟩ := next_tape h1 (n := 1048576) (by omega)
    rw [e2, Option.bind_some]
    simp only [tape_eta]
    rw [(wrap_i64 (n := 1 + a) (by omega) (by omega))]
    refine ⟨_, _, rfl, ⟨by show (1 : Int) ≤ 1; decide, by show (1 : Int) ≤ 10; decide⟩, ?_, ?_, .inr ⟨by show (1 : Int) ≠ 3; decide, rfl⟩, six_all (itN (nm := 1) (n := 1 + a) (s := 8) (by omega) (by omega) (by omega) (by omega) (by omega) rfl) (itZ (nm := 3) (s := 1) (by omega) (by omega)) (itZ (nm := 4) (s := 2) (by omega) (by omega)) (itZ (nm := 5) (s := 1) (by omega) (by omega)) (itZ (nm := 6) (s := 1) (by omega) (by omega)) (itZ (nm := 7) (s := 1) (by omega) (by omega))⟩
    · simp [fldB, hasB]
    · simp [valB, hasB]; omega
  · simp only [show IntKind.wrap .i64 (1 + 1) = 2 from rfl, show ((2 : Int) == 1) = false from rfl, show ((2 : Int) == 3) = false from rfl, show ((2 : Int) == 4) = false from rfl, show ((2 : Int) == 5) = false from rfl, show ((2 : Int) == 6) = false from rfl, show ((2 : Int) == 7) = false from rfl, show ((2 : Int) == 8) = false from rfl, show ((2 : Int) == 9) = false from rfl, show ((2 : Int) == 10) = false from rfl, cond_true, cond_false]
    refine ⟨_, _, rfl, ⟨by show (1 : Int) ≤ 2; decide, by show (2 : Int) ≤ 10; decide⟩, ?_, ?_, .inr ⟨by show (2 : Int) ≠ 3; decide, rfl⟩, six_all (itZ (nm := 1) (s := 8) (by omega) (by omega)) (itZ (nm := 3) (s := 1) (by omega) (by omega)) (itZ (nm := 4) (s := 2) (by omega) (by omega)) (itZ (nm := 5) (s := 1) (by omega) (by omega)) (itZ (nm := 6) (s := 1) (by omega) (by omega)) (itZ (nm := 7) (s := 1) (by omega) (by omega))⟩
    · simp [fldB, hasB]
    · simp [valB, hasB]
  · simp only [show IntKind.wrap .i64 (1 + 2) = 3 from rfl, show ((3 : Int) == 1) = false from rfl, show ((3 : Int) == 3) = true from rfl, show ((3 : Int) == 4) = false from rfl, show ((3 : Int) == 5) = false from rfl, show ((3 : Int) == 6) = false from rfl, show ((3 : Int) == 7) = false from rfl, show ((3 : Int) == 8) = false from rfl, show ((3 : Int) == 9) = false from rfl, show ((3 : Int) == 10) = false from rfl, cond_true, cond_false]
    obtain ⟨a, t2, e2, r2, h2⟩ := next_tape h1 (n := 6) (by omega)
    rw [e2, Option.bind_some]
    simp only [tape_eta]
    obtain ⟨l, t3, e3, hl⟩ := tape_layers h2 (p := a) (by omega) 36
    rw [e3, Option.bind_some]
    refine ⟨_, _, rfl, ⟨by show (1 : Int) ≤ 3; decide, by show (3 : Int) ≤ 10; decide⟩, ?_, ?_, .inl ⟨rfl, ⟨a, by omega, hl⟩, rfl⟩, six_all (itZ (nm := 1) (s := 8) (by omega) (by omega)) (itZ (nm := 3) (s := 1) (by omega) (by omega)) (itZ (nm := 4) (s := 2) (by omega) (by omega)) (itZ (nm := 5) (s := 1) (by omega) (by omega)) (itZ (nm := 6) (s := 1) (by omega) (by omega)) (itZ (nm := 7) (s := 1) (by omega) (by omega))⟩
    · simp [fldB, hasB]
    · rfl
  · simp only [show IntKind.wrap .i64 (1 + 3) = 4 from rfl, show ((4 : Int) == 1) = false from rfl, show ((4 : Int) == 3) = false from rfl, show ((4 : Int) == 4) = true from rfl, show ((4 : Int) == 5) = false from rfl, show ((4 : Int) == 6) = false from rfl, show ((4 : Int) == 7) = false from rfl, show ((4 : Int) == 8) = false from rfl, show ((4 : Int) == 9) = false from rfl, show ((4 : Int) == 10) = false from rfl, cond_true, cond_false]
    obtain ⟨a, t2, e2, r2, h2⟩ := next_tape h1 (n := 6) (by omega)
    obtain ⟨b, t3, e3, r3, h3⟩ := next_tape h2 (n := 1000) (by omega)
    obtain ⟨d, t4, e4, r4, h4⟩ := next_tape h3 (n := 4) (by omega)
    rw [e2, Option.bind_some]
    simp only [tape_eta]
    rw [e3, Option.bind_some]
    simp only [tape_eta]
    rw [e4, Option.bind_some]
    simp only [tape_eta]
    rw [(wrap_i64 (n := 1 + b) (by omega) (by omega))]
    refine ⟨_, _, rfl, ⟨by show (1 : Int) ≤ 4; decide, by show (4 : Int) ≤ 10; decide⟩, ?_, ?_, .inr ⟨by show (4 : Int) ≠ 3; decide, rfl⟩, six_all (itZ (nm := 1) (s := 8) (by omega) (by omega)) (itN (nm := 3) (n := a) (s := 1) (by omega) (by omega) (by omega) (by omega) (by omega) rfl) (itN (nm := 4) (n := 1 + b) (s := 2) (by omega) (by omega) (by omega) (by omega) (by omega) rfl) (itN (nm := 5) (n := d) (s := 1) (by omega) (by omega) (by omega) (by omega) (by omega) rfl) (itZ (nm := 6) (s := 1) (by omega) (by omega)) (itZ (nm := 7) (s := 1) (by omega) (by omega))⟩
    · simp [fldB, hasB]
    · simp [valB, hasB]; omega
  · simp only [show IntKind.wrap .i64 (1 + 4) = 5 from rfl, show ((5 : Int) == 1) = false from rfl, show ((5 : Int) == 3) = false from rfl, show ((5 : Int) == 4) = false from rfl, show ((5 : Int) == 5) = true from rfl, show ((5 : Int) == 6) = false from rfl, show ((5 : Int) == 7) = false from rfl, show ((5 : Int) == 8) = false from rfl, show ((5 : Int) == 9) = false from rfl, show ((5 : Int) == 10) = false from rfl, cond_true, cond_false]
    obtain ⟨a, t2, e2, r2, h2⟩ := next_tape h1 (n := 6) (by omega)
    rw [e2, Option.bind_some]
    simp only [tape_eta]
    refine ⟨_, _, rfl, ⟨by show (1 : Int) ≤ 5; decide, by show (5 : Int) ≤ 10; decide⟩, ?_, ?_, .inr ⟨by show (5 : Int) ≠ 3; decide, rfl⟩, six_all (itZ (nm := 1) (s := 8) (by omega) (by omega)) (itN (nm := 3) (n := a) (s := 1) (by omega) (by omega) (by omega) (by omega) (by omega) rfl) (itZ (nm := 4) (s := 2) (by omega) (by omega)) (itZ (nm := 5) (s := 1) (by omega) (by omega)) (itZ (nm := 6) (s := 1) (by omega) (by omega)) (itZ (nm := 7) (s := 1) (by omega) (by omega))⟩
    · simp [fldB, hasB]
    · simp [valB, hasB]; omega
  · simp only [show IntKind.wrap .i64 (1 + 5) = 6 from rfl, show ((6 : Int) == 1) = false from rfl, show ((6 : Int) == 3) = false from rfl, show ((6 : Int) == 4) = false from rfl, show ((6 : Int) == 5) = false from rfl, show ((6 : Int) == 6) = true from rfl, show ((6 : Int) == 7) = false from rfl, show ((6 : Int) == 8) = false from rfl, show ((6 : Int) == 9) = false from rfl, show ((6 : Int) == 10) = false from rfl, cond_true, cond_false]
    obtain ⟨a, t2, e2, r2, h2⟩ := next_tape h1 (n := 6) (by omega)
    obtain ⟨b, t3, e3, r3, h3⟩ := next_tape h2 (n := 1000) (by omega)
    rw [e2, Option.bind_some]
    simp only [tape_eta]
    rw [e3, Option.bind_some]
    simp only [tape_eta]
    rw [(wrap_i64 (n := 1 + b) (by omega) (by omega))]
    refine ⟨_, _, rfl, ⟨by show (1 : Int) ≤ 6; decide, by show (6 : Int) ≤ 10; decide⟩, ?_, ?_, .inr ⟨by show (6 : Int) ≠ 3; decide, rfl⟩, six_all (itZ (nm := 1) (s := 8) (by omega) (by omega)) (itN (nm := 3) (n := a) (s := 1) (by omega) (by omega) (by omega) (by omega) (by omega) rfl) (itN (nm := 4) (n := 1 + b) (s := 2) (by omega) (by omega) (by omega) (by omega) (by omega) rfl) (itZ (nm := 5) (s := 1) (by omega) (by omega)) (itZ (nm := 6) (s := 1) (by omega) (by omega)) (itZ (nm := 7) (s := 1) (by omega) (by omega))⟩
    · simp [fldB, hasB]
    · simp [valB, hasB]; omega
  · simp only [show IntKind.wrap .i64 (1 + 6) = 7 from rfl, show ((7 : Int) == 1) = false from rfl, show ((7 : Int) == 3) = false from rfl, show ((7 : Int) == 4) = false from rfl, show ((7 : Int) == 5) = false from rfl, show ((7 : Int) == 6) = false from rfl, show ((7 : Int) == 7) = true from rfl, show ((7 : Int) == 8) = false from rfl, show ((7 : Int) == 9) = false from rfl, show ((7 : Int) == 10) = false from rfl, cond_true, cond_false]
    obtain ⟨a, t2, e2, r2, h2⟩ := next_tape h1 (n := 6) (by omega)
    obtain ⟨b, t3, e3, r3, h3⟩ := next_tape h2 (n := 4) (by omega)
    rw [e2, Option.bind_some]
    simp only [tape_eta]
    rw [e3, Option.bind_some]
    simp only [tape_eta]
    refine ⟨_, _, rfl, ⟨by show (1 : Int) ≤ 7; decide, by show (7 : Int) ≤ 10; decide⟩, ?_, ?_, .inr ⟨by show (7 : Int) ≠ 3; decide, rfl⟩, six_all (itZ (nm := 1) (s := 8) (by omega) (by omega)) (itN (nm := 3) (n := a) (s := 1) (by omega) (by omega) (by omega) (by omega) (by omega) rfl) (itZ (nm := 4) (s := 2) (by omega) (by omega)) (itN (nm := 5) (n := b) (s := 1) (by omega) (by omega) (by omega) (by omega) (by omega) rfl) (itZ (nm := 6) (s := 1) (by omega) (by omega)) (itZ (nm := 7) (s := 1) (by omega) (by omega))⟩
    · simp [fldB, hasB]
    · simp [valB, hasB]; omega
  · simp only [show IntKind.wrap .i64 (1 + 7) = 8 from rfl, show ((8 : Int) == 1) = false from rfl, show ((8 : Int) == 3) = false from rfl, show ((8 : Int) == 4) = false from rfl, show ((8 : Int) == 5) = false from rfl, show ((8 : Int) == 6) = false from rfl, show ((8 : Int) == 7) = false from rfl, show ((8 : Int) == 8) = true from rfl, show ((8 : Int) == 9) = false from rfl, show ((8 : Int) == 10) = false from rfl, cond_true, cond_false]
    obtain ⟨a, t2, e2, r2, h2⟩ := next_tape h1 (n := 3) (by omega)
    rw [e2, Option.bind_some]
    simp only [tape_eta]
    refine ⟨_, _, rfl, ⟨by show (1 : Int) ≤ 8; decide, by show (8 : Int) ≤ 10; decide⟩, ?_, ?_, .inr ⟨by show (8 : Int) ≠ 3; decide, rfl⟩, six_all (itZ (nm := 1) (s := 8) (by omega) (by omega)) (itZ (nm := 3) (s := 1) (by omega) (by omega)) (itZ (nm := 4) (s := 2) (by omega) (by omega)) (itZ (nm := 5) (s := 1) (by omega) (by omega)) (itN (nm := 6) (n := a) (s := 1) (by omega) (by omega) (by omega) (by omega) (by omega) rfl) (itZ (nm := 7) (s := 1) (by omega) (by omega))⟩
    · simp [fldB, hasB]
    · simp [valB, hasB]; omega
  · simp only [show IntKind.wrap .i64 (1 + 8) = 9 from rfl, show ((9 : Int) == 1) = false from rfl, show ((9 : Int) == 3) = false from rfl, show ((9 : Int) == 4) = false from rfl, show ((9 : Int) == 5) = false from rfl, show ((9 : Int) == 6) = false from rfl, show ((9 : Int) == 7) = false from rfl, show ((9 : Int) == 8) = false from rfl, show ((9 : Int) == 9) = true from rfl, show ((9 : Int) == 10) = false from rfl, cond_true, cond_false]
    obtain ⟨a, t2, e2, r2, h2⟩ := next_tape h1 (n := 3) (by omega)
    rw [e2, Option.bind_some]
    simp only [tape_eta]
    refine ⟨_, _, rfl, ⟨by show (1 : Int) ≤ 9; decide, by show (9 : Int) ≤ 10; decide⟩, ?_, ?_, .inr ⟨by show (9 : Int) ≠ 3; decide, rfl⟩, six_all (itZ (nm := 1) (s := 8) (by omega) (by omega)) (itZ (nm := 3) (s := 1) (by omega) (by omega)) (itZ (nm := 4) (s := 2) (by omega) (by omega)) (itZ (nm := 5) (s := 1) (by omega) (by omega)) (itN (nm := 6) (n := a) (s := 1) (by omega) (by omega) (by omega) (by omega) (by omega) rfl) (itZ (nm := 7) (s := 1) (by omega) (by omega))⟩
    · simp [fldB, hasB]
    · simp [valB, hasB]; omega
  · simp only [show IntKind.wrap .i64 (1 + 9) = 10 from rfl, show ((10 : Int) == 1) = false from rfl, show ((10 : Int) == 3) = false from rfl, show ((10 : Int) == 4) = false from rfl, show ((10 : Int) == 5) = false from rfl, show ((10 : Int) == 6) = false from rfl, show ((10 : Int) == 7) = false from rfl, show ((10 : Int) == 8) = false from rfl, show ((10 : Int) == 9) = false from rfl, show ((10 : Int) == 10) = true from rfl, cond_true, cond_false]
    obtain ⟨a, t2, e2, r2, h2⟩ := next_tape h1 (n := 256) (by omega)
    rw [e2, Option.bind_some]
    simp only [tape_eta]
    refine ⟨_, _, rfl, ⟨by show (1 : Int) ≤ 10; decide, by show (10 : Int) ≤ 10; decide⟩, ?_, ?_, .inr ⟨by show (10 : Int) ≠ 3; decide, rfl⟩, six_all (itZ (nm := 1) (s := 8) (by omega) (by omega)) (itZ (nm := 3) (s := 1) (by omega) (by omega)) (itZ (nm := 4) (s := 2) (by omega) (by omega)) (itZ (nm := 5) (s := 1) (by omega) (by omega)) (itZ (nm := 6) (s := 1) (by omega) (by omega)) (itN (nm := 7) (n := a) (s := 1) (by omega) (by omega) (by omega) (by omega) (by omega) rfl)⟩
    · simp [fldB, hasB]
    · simp [valB, hasB]; omega
theorem bta_loop (s : ByteArray) (i : Nat) (r : List UInt8) : ByteArray.toList.loop s i r = r.reverse ++ s.data.toList.drop i := by
  fun_induction ByteArray.toList.loop s i r with
  | case1 i r h ih =>
    rw [ih, List.reverse_cons, List.append_assoc]
    congr 1
    have h' : i < s.data.toList.length := by rw [Array.length_toList]; exact h
    rw [List.drop_eq_getElem_cons h']
    simp [ByteArray.get!]
    have : s.data.size = s.size := rfl
    rw [getElem!_pos s.data i (by rw [this]; exact h)]
  | case2 i r h =>
    rw [List.drop_of_length_le, List.append_nil]
    have : s.data.toList.length = s.size := by rw [Array.length_toList]; rfl
    omega
theorem bta (s : ByteArray) : s.toList = s.data.toList := by
  unfold ByteArray.toList
  rw [bta_loop]; simp
theorem bt_inj {x y : ByteArray} : (x.toList == y.toList) = true ↔ x = y := by
  rw [bta, bta, beq_iff_eq]
  obtain ⟨x⟩ := x
  obtain ⟨y⟩ := y
  simp only [Array.toList_inj, ByteArray.mk.injEq]
theorem bytesS_strB : ∀ {xs : List Int}, isB xs → bytesS (strB xs) = xs := by
  intro xs h
  unfold bytesS strB
  simp only [List.map_map]
  conv => rhs; rw [← List.map_id xs]
  refine List.map_congr_left fun x hx => ?_
  have := h x hx
  simp only [Function.comp, id]
  rw [UInt8.toNat_ofNat']
  omega
theorem same8_l0 {β : Type} (kE0 : Unit → Option β) (kE1 : Bool → Option β) (a b : T_api_Ctl) (hn : a.Layers.length < 100) (hab : a.Layers.length = b.Layers.length) : ∀ (m i : Nat), i + m = a.Layers.length → ∀ j : Nat,
    ∃ v : Bool, (v = true ↔ a.Layers.drop i = b.Layers.drop i) ∧ p_limelightref8_Same_l0 (j + m + 1) kE0 kE1 (a.Layers.length : Int) (i : Int) a b = bif v then kE0 () else kE1 false
  | 0, i, hi, j => by
    rw [p_limelightref8_Same_l0]
    have d : decide ((i : Int) < (a.Layers.length : Int)) = false := decide_eq_false (by omega)
    rw [d, cond_false]
    refine ⟨true, ?_, rfl⟩
    rw [List.drop_of_length_le (by omega), List.drop_of_length_le (by omega)]
    simp
  | m + 1, i, hi, j => by
    rw [show j + (m + 1) + 1 = (j + m + 1) + 1 from rfl, p_limelightref8_Same_l0]
    have d : decide ((i : Int) < (a.Layers.length : Int)) = true := decide_eq_true (by omega)
    have ha : i < a.Layers.length := by omega
    have hb : i < b.Layers.length := by omega
    have x1 : ix a.Layers (i : Int) = some a.Layers[i] := ix_at (by simp [ha])
    have x2 : ix b.Layers (i : Int) = some b.Layers[i] := ix_at (by simp [hb])
    have w : IntKind.wrap .i64 ((i : Int) + 1) = ((i + 1 : Nat) : Int) := by rw [wrap_i64 (by omega) (by omega)]; rfl
    rw [d, cond_true, x1, Option.bind_some, x2, Option.bind_some, w]
    obtain ⟨v, hv, e⟩ := same8_l0 kE0 kE1 a b hn hab m (i + 1) (by omega) j
    have e' : p_limelightref8_Same_l0 (j + m + 1) kE0 kE1 (a.Layers.length : Int) ((i + 1 : Nat) : Int) (⟨a.Kind, a.Cap, a.Layers, a.Peer, a.Height, a.Class, a.Layer, a.Code⟩ : T_api_Ctl) (⟨b.Kind, b.Cap, b.Layers, b.Peer, b.Height, b.Class, b.Layer, b.Code⟩ : T_api_Ctl) = bif v then kE0 () else kE1 false := e
    rw [e']
    have hcons : (a.Layers.drop i = b.Layers.drop i) ↔ (a.Layers[i] = b.Layers[i] ∧ a.Layers.drop (i + 1) = b.Layers.drop (i + 1)) := by
      rw [List.drop_eq_getElem_cons ha, List.drop_eq_getElem_cons hb, List.cons.injEq]
    have hand : andB [(a.Layers[i]).Rid.toList == (b.Layers[i]).Rid.toList, (a.Layers[i]).Ssrc == (b.Layers[i]).Ssrc, (a.Layers[i]).Height == (b.Layers[i]).Height] = true ↔ a.Layers[i] = b.Layers[i] := by
      generalize a.Layers[i] = x
      generalize b.Layers[i] = y
      obtain ⟨x1, x2, x3⟩ := x
      obtain ⟨y1, y2, y3⟩ := y
      have hb : x1.toList = y1.toList ↔ x1 = y1 := ⟨fun h => bt_inj.1 (by rw [h]; simp), fun h => by rw [h]⟩
      simp only [andB, T_api_Layer.mk.injEq, Bool.and_true, Bool.and_eq_true, beq_iff_eq, hb]
    cases hq : andB [(a.Layers[i]).Rid.toList == (b.Layers[i]).Rid.toList, (a.Layers[i]).Ssrc == (b.Layers[i]).Ssrc, (a.Layers[i]).Height == (b.Layers[i]).Height] with
    | true =>
      refine ⟨v, ?_, by simp⟩
      rw [hv, hcons]
      exact ⟨fun h => ⟨hand.1 hq, h⟩, fun h => h.2⟩
    | false =>
      refine ⟨false, ?_, by simp⟩
      rw [hcons]
      constructor
      · intro h; cases h
      · intro h; have := hand.2 h.1; rw [hq] at this; cases this
theorem same8 {a b : T_api_Ctl} (hn : a.Layers.length ≤ 3) : ∃ v : Bool, (v = true ↔ a = b) ∧ p_limelightref8_Same 40 a b = some v := by
  unfold p_limelightref8_Same
  simp only [orO, Option.bind_some]
  by_cases hl : a.Layers.length = b.Layers.length
  · obtain ⟨v, hv, e⟩ := same8_l0 (fun (_ : Unit) => (some true : Option Bool)) (fun r => some r) a b (by omega) hl a.Layers.length 0 (by omega) (40 - a.Layers.length - 1)
    rw [show 40 - a.Layers.length - 1 + a.Layers.length + 1 = 40 by omega] at e
    rw [show ((0 : Nat) : Int) = 0 from rfl] at e
    rw [List.drop_zero, List.drop_zero] at hv
    have dl : ((a.Layers.length : Int) != (b.Layers.length : Int)) = false := by rw [hl]; simp
    rw [dl, Bool.or_false]
    by_cases hall : a.Kind = b.Kind ∧ a.Cap = b.Cap ∧ a.Peer = b.Peer ∧ a.Height = b.Height ∧ a.Class = b.Class ∧ a.Layer = b.Layer ∧ a.Code = b.Code
    · obtain ⟨g1, g2, g3, g4, g5, g6, g7⟩ := hall
      have : (((((((a.Kind != b.Kind) || (a.Cap != b.Cap)) || (a.Peer != b.Peer)) || (a.Height != b.Height)) || (a.Class != b.Class)) || (a.Layer != b.Layer)) || (a.Code != b.Code)) = false := by simp [g1, g2, g3, g4, g5, g6, g7]
      rw [this, cond_false]
      refine ⟨v, ?_, ?_⟩
      · rw [hv]
        constructor
        · intro h
          obtain ⟨a1, a2, a3, a4, a5, a6, a7, a8⟩ := a
          obtain ⟨b1, b2, b3, b4, b5, b6, b7, b8⟩ := b
          simp only at g1 g2 g3 g4 g5 g6 g7 h
          subst g1; subst g2; subst g3; subst g4; subst g5; subst g6; subst g7; subst h
          rfl
        · intro h; rw [h]
      · have e' : p_limelightref8_Same_l0 40 (fun (_ : Unit) => (some true : Option Bool)) (fun r => some r) (a.Layers.length : Int) 0 (⟨a.Kind, a.Cap, a.Layers, a.Peer, a.Height, a.Class, a.Layer, a.Code⟩ : T_api_Ctl) (⟨b.Kind, b.Cap, b.Layers, b.Peer, b.Height, b.Class, b.Layer, b.Code⟩ : T_api_Ctl) = bif v then some true else some false := e
        refine e'.trans ?_
        cases v <;> rfl
    · have : (((((((a.Kind != b.Kind) || (a.Cap != b.Cap)) || (a.Peer != b.Peer)) || (a.Height != b.Height)) || (a.Class != b.Class)) || (a.Layer != b.Layer)) || (a.Code != b.Code)) = true := by
        rcases hc : (((((((a.Kind != b.Kind) || (a.Cap != b.Cap)) || (a.Peer != b.Peer)) || (a.Height != b.Height)) || (a.Class != b.Class)) || (a.Layer != b.Layer)) || (a.Code != b.Code)) with _ | _
        · exfalso
          simp only [Bool.or_eq_false_iff, bne_eq_false_iff_eq] at hc
          obtain ⟨⟨⟨⟨⟨⟨g1, g2⟩, g3⟩, g4⟩, g5⟩, g6⟩, g7⟩ := hc
          exact hall ⟨g1, g2, g3, g4, g5, g6, g7⟩
        · rfl
      rw [this, cond_true]
      refine ⟨false, ?_, rfl⟩
      constructor
      · intro h; cases h
      · intro h; subst h; exact absurd ⟨rfl, rfl, rfl, rfl, rfl, rfl, rfl⟩ hall
  · have dl : ((a.Layers.length : Int) != (b.Layers.length : Int)) = true := by simp; omega
    rw [dl, Bool.or_true, cond_true]
    refine ⟨false, ?_, rfl⟩
    constructor
    · intro h; cases h
    · intro h; subst h; exact absurd rfl hl
theorem bytC_isB {c : T_api_Ctl} (h : TC c) : isB (bytC c) := by
  have ho := h.okC
  have fl : ∀ f ∈ flds c, okF f ∧ isB f.2 := fun f hf => by
    rcases List.mem_append.1 hf with hf | hf
    · obtain ⟨a, ha, rfl⟩ := List.mem_map.1 hf
      refine ⟨layF_ok (ho.2.2.1 a ha), fun x hx => ?_⟩
      simp only [layF] at hx
      rcases List.mem_append.1 hx with hx | hx
      · rcases List.mem_append.1 hx with hx | hx
        · exact putB_isB _ _ x hx
        · exact putB_isB _ _ x hx
      · simp only [bytesS, List.mem_map] at hx
        obtain ⟨b, _, rfl⟩ := hx
        have := b.toNat_lt
        omega
    · refine ⟨selF_ok ho.2.2.2 f hf, ?_⟩
      simp only [selF, List.mem_flatMap] at hf
      obtain ⟨a, ha, hf⟩ := hf
      cases hh : hasB c.Kind a.name with
      | false => rw [hh] at hf; simp at hf
      | true => rw [hh, cond_true, List.mem_singleton] at hf; subst hf; exact putB_isB _ _
  intro x hx
  unfold bytC at hx
  rcases List.mem_append.1 hx with hx | hx
  · rcases List.mem_append.1 hx with hx | hx
    · rw [List.mem_singleton] at hx; subst hx; exact ho.1
    · exact putB_isB _ _ x hx
  · unfold bodyC at hx
    obtain ⟨f, hf, hx⟩ := List.mem_flatMap.1 hx
    obtain ⟨⟨o1, o2⟩, o3⟩ := fl f hf
    unfold encF at hx
    rcases List.mem_cons.1 hx with rfl | hx
    · exact o1
    rcases List.mem_cons.1 hx with rfl | hx
    · omega
    · exact o3 x hx
end Go.Ev
/- Equations, printed by tracer2.py. -/
namespace Go.Ev
open Go.Proofs
set_option linter.unusedVariables false
set_option maxRecDepth 100000
-- 59 limelight/octet.Cut
theorem octet_Cut_entry (rec : CallF) (loop : LoopV) (σ : Stamp) (x0 : V) (x1 : Int) (x2 : Int) (h : H) : cvBody G rec loop 59 σ [x0, (.p (.int .i64 x1)), (.p (.int .i64 x2))] h =
 (bif decide (x1 < 0) then (some true) else (some (decide (x2 < 0)))).bind fun b1 =>
 (bif b1 then (some true) else ((lenO x0).bind fun t2 =>
 (castI .i64 t2).bind fun n3 =>
 some (decide (x1 > n3)))).bind fun b4 =>
 (bif b4 then (some true) else ((lenO x0).bind fun t5 =>
 (castI .i64 t5).bind fun n6 =>
 some (decide (x2 > (IntKind.wrap .i64 (n6 - x1)))))).bind fun b7 =>
 bif b7 then (
 fin true σ (List.replicate 35 [] :: h) [(.p (.slice .none 0 0)), (.p (.bool false))])
 else (
 (slS 1 x0 (some x1) (some (IntKind.wrap .i64 (x1 + x2))) none).bind fun t8 =>
 (callO rec 63 (6 :: 0 :: 1 :: 1 :: 0 :: σ) [t8] (List.replicate 35 [] :: h) (some 34)).bind fun q9 =>
 fin true σ q9.2 [q9.1, (.p (.bool true))]) := by kernel_rfl
end Go.Ev
/- Lifted by lift.py: octet_Cut as a plain function. -/
namespace Go.Ev
open Go.Proofs
set_option linter.unusedVariables false
set_option linter.unusedSimpArgs false
set_option maxRecDepth 100000
def p_octet_Cut (x0 : (List Int)) (x1 : Int) (x2 : Int) : Option ((List Int) × Bool) :=
(bif decide (x1 < 0) then (some true) else (some (decide (x2 < 0)))).bind fun b1 =>
(bif b1 then (some true) else (some (decide (x1 > ((x0.length : Int)))))).bind fun b5 =>
(bif b5 then (some true) else (some (decide (x2 > (IntKind.wrap .i64 (((x0.length : Int)) - x1)))))).bind fun b9 =>
bif b9 then (
some ((([] : List Int)), false))
else (
(sub x0 x1 (IntKind.wrap .i64 (x1 + x2))).bind fun a13 =>
(p_clone 1 a13).bind fun r15 =>
some (r15, true))
theorem octet_Cut_ok {h : H} {σ : Stamp} (x0 : List Int) {u0 : V} (hu0 : SlH h (dI .u8) x0 u0) (x1 : Int) (x2 : Int) : Sim (p_octet_Cut x0 x1 x2) (ev G X0 59 σ [u0, (.p (.int .i64 x1)), (.p (.int .i64 x2))] h) (fun r s => ∃ (v0 : V), SlF (dI .u8) r.1 v0 ∧ s = ([.v v0, .v (.p (.bool r.2))], h)) := by
  refine Sim.ev rfl (Sim.ext (octet_Cut_entry _ _ _ _ _ _ _) ?_)
  rw [p_octet_Cut]
  have S0 : Fm 35 h [] [] [] (List.replicate 35 [] :: h) := Fm.start0
  refine Sim.ch (P := fun r y => r = y) ?_ (fun b1 y2 h3 h4 => ?_)
  · refine Sim.cd (fun hc => ?_) (fun hc => ?_)
    · exact Sim.ret rfl rfl
    · exact Sim.ret rfl rfl
  subst h4
  refine Sim.ch (P := fun r y => r = y) ?_ (fun b5 y6 h7 h8 => ?_)
  · refine Sim.cd (fun hc => ?_) (fun hc => ?_)
    · exact Sim.ret rfl rfl
    · refine Sim.op ((S0.low hu0).len) ?_
      refine Sim.op (castI_p _ _) ?_
      exact Sim.ret rfl rfl
  subst h8
  refine Sim.ch (P := fun r y => r = y) ?_ (fun b9 y10 h11 h12 => ?_)
  · refine Sim.cd (fun hc => ?_) (fun hc => ?_)
    · exact Sim.ret rfl rfl
    · refine Sim.op ((S0.low hu0).len) ?_
      refine Sim.op (castI_p _ _) ?_
      exact Sim.ret rfl rfl
  subst h12
  refine Sim.cd (fun hc => ?_) (fun hc => ?_)
  · exact Sim.fin (S0.finN (lv_cons (SlF.nil (dI .u8)).still.lv (lv_cons (still_bool _).lv lv_nil))) ⟨(.p (.slice none 0 0)), (SlF.nil (dI .u8)), rfl⟩
  · refine Sim.bd fun a13 h14 => ?_
    refine Sim.op ((S0.low hu0).slS h14 rfl rfl rfl) ?_
    refine Sim.call (clone_ok (b := 1) (f := 63) (tt := 5) (e := 1) (τ := fun σ => _ :: _ :: _ :: _ :: _ :: σ) (fun x h => slices_Clone_Lbyte_byte_entry _ _ _ x h) ((S0.low hu0).sub h14 (e := 1) rfl) rfl (by decide) (by decide) (by decide) (by kernel_rfl) (by kernel_rfl) rfl) fun r15 cs16 H17 h18 q19 => ?_
    obtain ⟨c20, cs21, h22, h23, q19⟩ := q19
    cases q19
    obtain ⟨v24, H25, e26, S27⟩ := S0.land (dt := (dI .u8)) (d := 34) (e := 0) (n := 0) h22 h23 (by decide) rfl
    erw [e26]
    obtain ⟨v34, H29, e30, h32, S31⟩ := S27.expFrz (i := 0) (τ := 0 :: 1 :: σ) rfl rfl
    exact Sim.fin (S31.finE (Ex.st e30 (Ex.pl (still_bool _).lv Ex.nil))) ⟨v34, h32, rfl⟩
end Go.Ev
namespace Go.Ev
theorem cut_ok {xs : List Int} {a n : Nat} (h : a + n ≤ xs.length) (hl : xs.length < 2 ^ 39) : p_octet_Cut xs (a : Int) (n : Int) = some ((xs.drop a).take n, true) := by
  unfold p_octet_Cut
  have e1 : decide (((a : Nat) : Int) < 0) = false := by simp
  have e2 : decide (((n : Nat) : Int) < 0) = false := by simp
  have e3 : decide (((a : Nat) : Int) > (xs.length : Int)) = false := by simp; omega
  have e4 : decide (((n : Nat) : Int) > IntKind.wrap .i64 ((xs.length : Int) - (a : Int))) = false := by
    rw [wrap_i64 (by omega) (by omega)]; simp; omega
  have e5 : IntKind.wrap .i64 ((a : Int) + (n : Int)) = ((a + n : Nat) : Int) := by rw [wrap_i64 (by omega) (by omega)]; rfl
  simp only [e1, e2, e3, e4, e5, cond_false, Option.bind_some, sub_eq h]
  rw [clone_eq (by decide) (by rw [List.length_take, List.length_drop]; omega)]
  rfl
theorem cut_no {xs : List Int} {a n : Nat} (h : xs.length < a + n) (hl : xs.length < 2 ^ 39) : p_octet_Cut xs (a : Int) (n : Int) = some ([], false) := by
  unfold p_octet_Cut
  have e1 : decide (((a : Nat) : Int) < 0) = false := by simp
  have e2 : decide (((n : Nat) : Int) < 0) = false := by simp
  simp only [e1, e2, cond_false, Option.bind_some]
  by_cases h3 : xs.length < a
  · have e3 : decide (((a : Nat) : Int) > (xs.length : Int)) = true := by simp; omega
    simp only [e3, cond_true, Option.bind_some]
  · have e3 : decide (((a : Nat) : Int) > (xs.length : Int)) = false := by simp; omega
    have e4 : decide (((n : Nat) : Int) > IntKind.wrap .i64 ((xs.length : Int) - (a : Int))) = true := by
      rw [wrap_i64 (by omega) (by omega)]; simp; omega
    simp only [e3, e4, cond_true, cond_false, Option.bind_some]
end Go.Ev
/- Equations, printed by tracer2.py. -/
namespace Go.Ev
open Go.Proofs
set_option linter.unusedVariables false
set_option maxRecDepth 100000
-- 30 limelight/ctl.Read
noncomputable def ctl_Read_c0 : Code := (codeAt (bodyOf Try.f30) [1, 1, 1, 1, 0, 1, 0, 0])
def ctl_Read_l0 : Lv := ⟨69, 12, [(0, 69)]⟩
noncomputable def ctl_Read_k0 (rec : CallF) (loop : LoopV) (σ : Stamp) : Exit → Env → H → Option (List C × H) := (kBlock 0 (kSeq G rec loop (codeAt (bodyOf Try.f30) [1, 1, 1, 1, 1]) ⟨12, 12, []⟩ (1 :: 1 :: 1 :: 1 :: 0 :: σ) (finC G false Try.f30 (1 :: σ))))
theorem ctl_Read_entry (rec : CallF) (loop : LoopV) (σ : Stamp) (x0 : V) (h : H) : cvBody G rec loop 30 σ [x0] h =
 (some (alO [.p (.int .i64 0), .p (.int .i64 0), .p (.slice none 0 0), .p (.int .i64 0), .p (.int .i64 0), .p (.int .i64 0), .p (.int .i64 0), .p (.int .i64 0)] (0 :: 0 :: 0 :: σ) 2 (List.replicate 82 [] :: h))).bind fun q1 =>
 (callO rec 70 (1 :: 0 :: 1 :: 0 :: σ) [x0, (.p (.int .i64 1)), (.p (.int .i64 2))] q1.2 (some 14)).bind fun q2 =>
 (extV q2.1 0).bind fun t3 =>
 (castI .u64 t3).bind fun n4 =>
 (extV q2.1 1).bind fun t5 =>
 (asB t5).bind fun b6 =>
 (lenO x0).bind fun t7 =>
 (castI .i64 t7).bind fun n8 =>
 (bif decide (n8 < 3) then (some true) else ((lenO x0).bind fun t9 =>
 (castI .i64 t9).bind fun n10 =>
 some (decide ((IntKind.wrap .i64 (n10 - 3)) < (IntKind.wrap .i64 n4))))).bind fun b11 =>
 bif b11 then (
 (buildV Try.prog 58 []).bind fun t12 =>
 ((stO false 8 (1 :: 0 :: 1 :: 0 :: 1 :: 1 :: 0 :: σ) q2.2 q1.1 t12).map fun h => (udf, h)).bind fun q13 =>
 ((ldO true 8 q13.2 q1.1).bind fun t14 => ((some []).map ((.p (.int .i64 13)) :: ·)).map (t14 :: ·)).bind fun t15 => fin false σ q13.2 t15)
 else (
 (iS 1 x0 0).bind fun t16 =>
 (ldO false 1 q2.2 t16).bind fun t17 =>
 (castI .u8 t17).bind fun n18 =>
 (buildV Try.prog 58 [(0, (.p (.int .i64 (IntKind.wrap .i64 n18))))]).bind fun t19 =>
 (some (alO [.p (.int .i64 0), .p (.int .i64 0), .p (.slice none 0 0), .p (.int .i64 0), .p (.int .i64 0), .p (.int .i64 0), .p (.int .i64 0), .p (.int .i64 0)] (5 :: 0 :: 1 :: 1 :: 1 :: 0 :: σ) 6 q2.2)).bind fun q20 =>
 ((stO false 8 (6 :: 0 :: 1 :: 1 :: 1 :: 0 :: σ) q20.2 q20.1 t19).map fun h => (udf, h)).bind fun q21 =>
 (loop ctl_Read_c0 ctl_Read_l0 (1 :: 0 :: 1 :: 1 :: 1 :: 1 :: 0 :: σ) (envL [(0, x0), (2, q1.1), (6, q20.1), (7, (.p (.int .i64 3)))]) q21.2).bind fun r22 => ctl_Read_k0 rec loop σ r22.1 r22.2.1 r22.2.2) := by kernel_rfl
theorem ctl_Read_r0 (rec : CallF) (loop : LoopV) (σ : Stamp) (x0 : V) (x2 : V) (x6 : V) (x7 : Int) (h : H) : cvRound G rec loop ctl_Read_c0 ctl_Read_l0 σ (envL [(0, x0), (2, x2), (6, x6), (7, (.p (.int .i64 x7)))]) h =
 (lenO x0).bind fun t23 =>
 (castI .i64 t23).bind fun n24 =>
 bif decide ((IntKind.wrap .i64 (x7 + 1)) < n24) then (
 (iS 1 x0 (IntKind.wrap .i64 (x7 + 1))).bind fun t25 =>
 (ldO false 1 h t25).bind fun t26 =>
 (castI .u8 t26).bind fun n27 =>
 (callO rec 59 (9 :: 0 :: 1 :: 0 :: σ) [x0, (.p (.int .i64 (IntKind.wrap .i64 (x7 + 2)))), (.p (.int .i64 (IntKind.wrap .i64 n27)))] h (some 49)).bind fun q28 =>
 (extV q28.1 0).bind fun t29 =>
 (extV q28.1 1).bind fun t30 =>
 (asB t30).bind fun b31 =>
 bif !b31 then (
 (buildV Try.prog 58 []).bind fun t32 =>
 ((stO false 8 (1 :: 0 :: 1 :: 0 :: 1 :: 1 :: 0 :: σ) q28.2 x2 t32).map fun h => (udf, h)).bind fun q33 =>
 some (.ret, (envL [(2, x2), (3, (.p (.int .i64 12)))]), q33.2))
 else (
 (iS 1 x0 x7).bind fun t34 =>
 (ldO false 1 q28.2 t34).bind fun t35 =>
 (castI .u8 t35).bind fun n36 =>
 (callO rec 71 (6 :: 0 :: 1 :: 1 :: 1 :: 0 :: σ) [x6, (.p (.int .i64 (IntKind.wrap .i64 n36))), t29] q28.2 (some 61)).bind fun q37 =>
 (lenO t29).bind fun t38 =>
 (castI .i64 t38).bind fun n39 =>
 loop ctl_Read_c0 ctl_Read_l0 (1 :: σ) (envL [(0, x0), (2, x2), (6, x6), (7, (.p (.int .i64 (IntKind.wrap .i64 (x7 + (IntKind.wrap .i64 (2 + n39)))))))]) q37.2))
 else (
 some ((.exit 0), (envL [(0, x0), (2, x2), (6, x6)]), h)) := by kernel_rfl
theorem ctl_Read_a0_0 (rec : CallF) (loop : LoopV) (σ : Stamp) (x0 : V) (x2 : V) (x6 : V) (h : H) : ctl_Read_k0 rec loop σ (.exit 0) (envL [(0, x0), (2, x2), (6, x6)]) h =
 (ldO true 8 h x6).bind fun t40 =>
 (callFO rec 29 (1 :: 0 :: 0 :: 1 :: 1 :: 1 :: 1 :: 1 :: 0 :: σ) [t40] h (some 69)).bind fun q41 =>
 (extV q41.1 0).bind fun t42 =>
 (extV q41.1 1).bind fun t43 =>
 (castI .i64 t43).bind fun n44 =>
 (bif n44 != 0 then (some ((.p (.bool true)), q41.2)) else ((callO rec 72 (5 :: 0 :: 1 :: 0 :: 1 :: 1 :: 1 :: 1 :: 1 :: 0 :: σ) [t42, x0] q41.2 (some 77)).bind fun q45 =>
 (asB q45.1).bind fun b46 =>
 some ((.p (.bool (!b46))), q45.2))).bind fun q47 =>
 (asB q47.1).bind fun b48 =>
 bif b48 then (
 (buildV Try.prog 58 []).bind fun t49 =>
 ((stO false 8 (1 :: 0 :: 1 :: 1 :: 0 :: 1 :: 1 :: 1 :: 1 :: 1 :: 0 :: σ) q47.2 x2 t49).map fun h => (udf, h)).bind fun q50 =>
 ((ldO true 8 q50.2 x2).bind fun t51 => ((some []).map ((.p (.int .i64 12)) :: ·)).map (t51 :: ·)).bind fun t52 => fin false σ q50.2 t52)
 else (
 (ldO true 8 q47.2 x6).bind fun t53 =>
 ((stO false 8 (1 :: 0 :: 1 :: 1 :: 1 :: 1 :: 1 :: 1 :: 0 :: σ) q47.2 x2 t53).map fun h => (udf, h)).bind fun q54 =>
 ((ldO true 8 q54.2 x2).bind fun t55 => ((some []).map ((.p (.int .i64 0)) :: ·)).map (t55 :: ·)).bind fun t56 => fin false σ q54.2 t56) := by kernel_rfl
theorem ctl_Read_a0_ret (rec : CallF) (loop : LoopV) (σ : Stamp) (x2 : V) (x3 : Int) (h : H) : ctl_Read_k0 rec loop σ .ret (envL [(2, x2), (3, (.p (.int .i64 x3)))]) h =
 ((ldO true 8 h x2).bind fun t57 => ((some []).map ((.p (.int .i64 x3)) :: ·)).map (t57 :: ·)).bind fun t58 => fin false σ h t58 := by kernel_rfl
end Go.Ev
/- Equations, printed by tracer2.py. -/
namespace Go.Ev
open Go.Proofs
set_option linter.unusedVariables false
set_option maxRecDepth 100000
-- 71 limelight/ctl.take
theorem ctl_take_entry (rec : CallF) (loop : LoopV) (σ : Stamp) (x0 : V) (x1 : Int) (x2 : V) (h : H) : cvBody G rec loop 71 σ [x0, (.p (.int .i64 x1)), x2] h =
 (lenO x2).bind fun t1 =>
 (castI .i64 t1).bind fun n2 =>
 (callO rec 70 (3 :: 0 :: 0 :: σ) [x2, (.p (.int .i64 0)), (.p (.int .i64 n2))] (List.replicate 105 [] :: h) (some 18)).bind fun q3 =>
 (extV q3.1 0).bind fun t4 =>
 (castI .u64 t4).bind fun n5 =>
 (extV q3.1 1).bind fun t6 =>
 (asB t6).bind fun b7 =>
 bif x1 == 1 then (
 (nilChk x0).bind fun t8 =>
 (fA t8 1).bind fun t9 =>
 ((stO true 1 (5 :: 1 :: 1 :: 1 :: 0 :: σ) q3.2 t9 (.p (.int .i64 (IntKind.wrap .i64 n5)))).map fun h => (udf, h)).bind fun q10 =>
 fin false σ q10.2 [])
 else (
 bif x1 == 2 then (
 (callO rec 70 (1 :: 0 :: 1 :: 1 :: 1 :: 1 :: 0 :: σ) [x2, (.p (.int .i64 0)), (.p (.int .i64 4))] q3.2 (some 33)).bind fun q11 =>
 (extV q11.1 0).bind fun t12 =>
 (castI .u64 t12).bind fun n13 =>
 (extV q11.1 1).bind fun t14 =>
 (asB t14).bind fun b15 =>
 (callO rec 70 (1 :: 0 :: 1 :: 1 :: 1 :: 1 :: 1 :: 0 :: σ) [x2, (.p (.int .i64 4)), (.p (.int .i64 2))] q11.2 (some 38)).bind fun q16 =>
 (extV q16.1 0).bind fun t17 =>
 (castI .u64 t17).bind fun n18 =>
 (extV q16.1 1).bind fun t19 =>
 (asB t19).bind fun b20 =>
 (lenO x2).bind fun t21 =>
 (castI .i64 t21).bind fun n22 =>
 (lenO x2).bind fun t23 =>
 (castI .i64 t23).bind fun n24 =>
 (callO rec 59 (9 :: 0 :: 1 :: 1 :: 1 :: 1 :: 1 :: 1 :: 0 :: σ) [x2, (.p (.int .i64 ((if n22 < 6 then n22 else 6)))), (.p (.int .i64 ((if (IntKind.wrap .i64 ((IntKind.wrap .i64 (n24 - 4)) - 2)) > 0 then (IntKind.wrap .i64 ((IntKind.wrap .i64 (n24 - 4)) - 2)) else 0))))] q16.2 (some 51)).bind fun q25 =>
 (extV q25.1 0).bind fun t26 =>
 (extV q25.1 1).bind fun t27 =>
 (asB t27).bind fun b28 =>
 (nilChk x0).bind fun t29 =>
 (fA t29 2).bind fun t30 =>
 (ldO false 1 q25.2 t30).bind fun t31 =>
 (strO q25.2 t26).bind fun t32 =>
 (castS t32).bind fun s33 =>
 (buildV Try.prog 70 [(0, (.p (.string s33))), (1, (.p (.int .u32 (IntKind.wrap .u32 n13)))), (2, (.p (.int .i64 (IntKind.wrap .i64 n18))))]).bind fun t34 =>
 (buildSliceV Try.prog 56 1 [(0, t34)]).bind fun t35 =>
 (apO false 3 32 (13 :: 1 :: 1 :: 1 :: 1 :: 1 :: 1 :: 1 :: 0 :: σ) 67 q25.2 t31 t35).bind fun q36 =>
 (nilChk x0).bind fun t37 =>
 (fA t37 2).bind fun t38 =>
 ((stO true 1 (16 :: 1 :: 1 :: 1 :: 1 :: 1 :: 1 :: 1 :: 0 :: σ) q36.2 t38 q36.1).map fun h => (udf, h)).bind fun q39 =>
 fin false σ q39.2 [])
 else (
 bif x1 == 3 then (
 (nilChk x0).bind fun t40 =>
 (fA t40 3).bind fun t41 =>
 ((stO true 1 (5 :: 1 :: 1 :: 1 :: 1 :: 1 :: 0 :: σ) q3.2 t41 (.p (.int .i64 (IntKind.wrap .i64 n5)))).map fun h => (udf, h)).bind fun q42 =>
 fin false σ q42.2 [])
 else (
 bif x1 == 4 then (
 (nilChk x0).bind fun t43 =>
 (fA t43 4).bind fun t44 =>
 ((stO true 1 (5 :: 1 :: 1 :: 1 :: 1 :: 1 :: 1 :: 0 :: σ) q3.2 t44 (.p (.int .i64 (IntKind.wrap .i64 n5)))).map fun h => (udf, h)).bind fun q45 =>
 fin false σ q45.2 [])
 else (
 bif x1 == 5 then (
 (nilChk x0).bind fun t46 =>
 (fA t46 5).bind fun t47 =>
 ((stO true 1 (5 :: 1 :: 1 :: 1 :: 1 :: 1 :: 1 :: 1 :: 0 :: σ) q3.2 t47 (.p (.int .i64 (IntKind.wrap .i64 n5)))).map fun h => (udf, h)).bind fun q48 =>
 fin false σ q48.2 [])
 else (
 bif x1 == 6 then (
 (nilChk x0).bind fun t49 =>
 (fA t49 6).bind fun t50 =>
 ((stO true 1 (5 :: 1 :: 1 :: 1 :: 1 :: 1 :: 1 :: 1 :: 1 :: 0 :: σ) q3.2 t50 (.p (.int .i64 (IntKind.wrap .i64 n5)))).map fun h => (udf, h)).bind fun q51 =>
 fin false σ q51.2 [])
 else (
 bif x1 == 7 then (
 (nilChk x0).bind fun t52 =>
 (fA t52 7).bind fun t53 =>
 ((stO true 1 (5 :: 1 :: 1 :: 1 :: 1 :: 1 :: 1 :: 1 :: 1 :: 1 :: 0 :: σ) q3.2 t53 (.p (.int .i64 (IntKind.wrap .i64 n5)))).map fun h => (udf, h)).bind fun q54 =>
 fin false σ q54.2 [])
 else (
 fin false σ q3.2 []))))))) := by kernel_rfl
end Go.Ev
/- Equations, printed by tracer2.py. -/
namespace Go.Ev
open Go.Proofs
set_option linter.unusedVariables false
set_option maxRecDepth 100000
-- 70 limelight/octet.Get
noncomputable def octet_Get_c0 : Code := (codeAt (bodyOf Try.f70) [1, 1, 1, 1, 0, 1, 0, 0])
def octet_Get_l0 : Lv := ⟨1024, 192, [(0, 1024)]⟩
noncomputable def octet_Get_k0 (rec : CallF) (loop : LoopV) (σ : Stamp) : Exit → Env → H → Option (List C × H) := (kBlock 0 (kSeq G rec loop (codeAt (bodyOf Try.f70) [1, 1, 1, 1, 1]) ⟨192, 192, []⟩ (1 :: 1 :: 1 :: 1 :: 0 :: σ) (finC G false Try.f70 (1 :: σ))))
theorem octet_Get_entry (rec : CallF) (loop : LoopV) (σ : Stamp) (x0 : V) (x1 : Int) (x2 : Int) (h : H) : cvBody G rec loop 70 σ [x0, (.p (.int .i64 x1)), (.p (.int .i64 x2))] h =
 (callO rec 59 (3 :: 0 :: 1 :: 0 :: σ) [x0, (.p (.int .i64 x1)), (.p (.int .i64 x2))] (List.replicate 43 [] :: h) (some 17)).bind fun q1 =>
 (extV q1.1 0).bind fun t2 =>
 (extV q1.1 1).bind fun t3 =>
 (asB t3).bind fun b4 =>
 (bif !b4 then (some true) else (some (decide (x2 < 1)))).bind fun b5 =>
 (bif b5 then (some true) else (some (decide (x2 > 8)))).bind fun b6 =>
 bif b6 then (
 fin false σ q1.2 [(.p (.int .u64 0)), (.p (.bool false))])
 else (
 (lenO t2).bind fun t7 =>
 (castI .i64 t7).bind fun n8 =>
 (loop octet_Get_c0 octet_Get_l0 (1 :: 0 :: 1 :: 1 :: 1 :: 1 :: 0 :: σ) (envL [(10, (.p (.int .u64 0))), (30, t2), (31, (.p (.int .i64 n8))), (32, (.p (.int .i64 0)))]) q1.2).bind fun r9 => octet_Get_k0 rec loop σ r9.1 r9.2.1 r9.2.2) := by kernel_rfl
theorem octet_Get_r0 (rec : CallF) (loop : LoopV) (σ : Stamp) (x10 : Int) (x30 : V) (x31 : Int) (x32 : Int) (h : H) : cvRound G rec loop octet_Get_c0 octet_Get_l0 σ (envL [(10, (.p (.int .u64 x10))), (30, x30), (31, (.p (.int .i64 x31))), (32, (.p (.int .i64 x32)))]) h =
 bif decide (x32 < x31) then (
 (iS 1 x30 x32).bind fun t10 =>
 (ldO false 1 h t10).bind fun t11 =>
 (castI .u8 t11).bind fun n12 =>
 loop octet_Get_c0 octet_Get_l0 (1 :: σ) (envL [(10, (.p (.int .u64 (intBits .or .u64 (IntKind.wrap .u64 (x10 * 2 ^ 8)) (IntKind.wrap .u64 n12))))), (30, x30), (31, (.p (.int .i64 x31))), (32, (.p (.int .i64 (IntKind.wrap .i64 (x32 + 1)))))]) h)
 else (
 some ((.exit 0), (envL [(10, (.p (.int .u64 x10)))]), h)) := by kernel_rfl
theorem octet_Get_a0_0 (rec : CallF) (loop : LoopV) (σ : Stamp) (x10 : Int) (h : H) : octet_Get_k0 rec loop σ (.exit 0) (envL [(10, (.p (.int .u64 x10)))]) h =
 fin false σ h [(.p (.int .u64 x10)), (.p (.bool true))] := by kernel_rfl
end Go.Ev
/- Lifted by lift.py: octet_Get as a plain function. -/
namespace Go.Ev
open Go.Proofs
set_option linter.unusedVariables false
set_option linter.unusedSimpArgs false
set_option maxRecDepth 100000
def p_octet_Get_l0 {β : Type} (k : Nat) (kE0 : Int → Option β) (x10 : Int) (x30 : (List Int)) (x31 : Int) (x32 : Int) : Option β := match k with
| 0 => none
| k + 1 =>
bif decide (x32 < x31) then (
(ix x30 x32).bind fun a20 =>
p_octet_Get_l0 k kE0 (intBits .or .u64 (IntKind.wrap .u64 (x10 * 2 ^ 8)) (IntKind.wrap .u64 a20)) x30 x31 (IntKind.wrap .i64 (x32 + 1)))
else (
kE0 x10)
def p_octet_Get (k : Nat) (x0 : (List Int)) (x1 : Int) (x2 : Int) : Option (Int × Bool) :=
(p_octet_Cut x0 x1 x2).bind fun r1 =>
(bif !r1.2 then (some true) else (some (decide (x2 < 1)))).bind fun b8 =>
(bif b8 then (some true) else (some (decide (x2 > 8)))).bind fun b12 =>
bif b12 then (
some (0, false))
else (
p_octet_Get_l0 k (fun r25_10 =>
some (r25_10, true)) 0 r1.1 ((r1.1.length : Int)) 0)
theorem octet_Get_l0_ok {h : H}  {β α : Type} {Q : β → α → Prop} {K : Exit × Env × H → Option α} {kE0 : Int → Option β} (hE0 : ∀ (q10 : Int) (H23 : Go.Ev.H) (_ : Fm 43 h [] [] [] H23), Sim (kE0 q10) (K ((.exit 0), (envL [(10, (.p (.int .u64 q10)))]), H23)) Q) (k : Nat) : ∀ (x10 : Int) (x30 : (List Int)) (x31 : Int) (x32 : Int) (v18 : V) (h19 : SlF (dI .u8) x30 v18) (H16 : Go.Ev.H) (_ : Fm 43 h [] [] [] H16) {σ : Stamp}, Sim (p_octet_Get_l0 k kE0 x10 x30 x31 x32) ((cvL G X0 octet_Get_c0 octet_Get_l0 σ (envL [(10, (.p (.int .u64 x10))), (30, v18), (31, (.p (.int .i64 x31))), (32, (.p (.int .i64 x32)))]) H16).bind K) Q := by
  induction k with
  | zero => intros; exact Sim.no
  | succ k ih =>
    intro x10 x30 x31 x32 v18 h19 H16 S17 σ
    rw [p_octet_Get_l0]
    refine Sim.round (Sim.ext (octet_Get_r0 _ _ _ _ _ _ _ _) ?_)
    refine Sim.cd (fun hc => ?_) (fun hc => ?_)
    · refine Sim.bd fun a20 h21 => ?_
      refine Sim.op ((h19.h H16).iS h21 rfl) ?_
      obtain ⟨_, rfl, hE22⟩ := (h19.h H16).el h21 rfl
      refine Sim.op (hE22.ld (j := 0) rfl) ?_
      refine Sim.op (castI_p _ _) ?_
      exact ih (intBits .or .u64 (IntKind.wrap .u64 (x10 * 2 ^ 8)) (IntKind.wrap .u64 a20)) x30 x31 (IntKind.wrap .i64 (x32 + 1)) v18 h19 H16 (S17.wk2 all_nil all_nil)
    · exact hE0 x10 H16 (S17.wk2 all_nil all_nil)
theorem octet_Get_ok (k : Nat) {h : H} {σ : Stamp} (x0 : List Int) {u0 : V} (hu0 : SlH h (dI .u8) x0 u0) (x1 : Int) (x2 : Int) : Sim (p_octet_Get k x0 x1 x2) (ev G X0 70 σ [u0, (.p (.int .i64 x1)), (.p (.int .i64 x2))] h) (fun r s => s = ([.v (.p (.int .u64 r.1)), .v (.p (.bool r.2))], h)) := by
  refine Sim.ev rfl (Sim.ext (octet_Get_entry _ _ _ _ _ _ _) ?_)
  rw [p_octet_Get]
  have S0 : Fm 43 h [] [] [] (List.replicate 43 [] :: h) := Fm.start0
  refine Sim.call (octet_Cut_ok x0 (S0.low hu0) x1 x2) fun r1 cs2 H3 h4 q5 => ?_
  obtain ⟨v6, h7, q5⟩ := q5
  cases q5
  refine Sim.op (rfl) ?_
  refine Sim.op (rfl) ?_
  refine Sim.op (asB_p _) ?_
  refine Sim.ch (P := fun r y => r = y) ?_ (fun b8 y9 h10 h11 => ?_)
  · refine Sim.cd (fun hc => ?_) (fun hc => ?_)
    · exact Sim.ret rfl rfl
    · exact Sim.ret rfl rfl
  subst h11
  refine Sim.ch (P := fun r y => r = y) ?_ (fun b12 y13 h14 h15 => ?_)
  · refine Sim.cd (fun hc => ?_) (fun hc => ?_)
    · exact Sim.ret rfl rfl
    · exact Sim.ret rfl rfl
  subst h15
  refine Sim.cd (fun hc => ?_) (fun hc => ?_)
  · exact Sim.fin (S0.finN (lv_cons (still_int _ _).lv (lv_cons (still_bool _).lv lv_nil))) rfl
  · refine Sim.op ((h7.h (List.replicate 43 [] :: h)).len) ?_
    refine Sim.op (castI_p _ _) ?_
    refine Sim.as (octet_Get_l0_ok ?_ k 0 r1.1 ((r1.1.length : Int)) 0 v6 h7 (List.replicate 43 [] :: h) (S0.wk2 all_nil all_nil)) 
    · intro r25_10 H26 S27
      refine Sim.ext (octet_Get_a0_0 _ _ _ _ _) ?_
      exact Sim.fin (S27.finN (lv_cons (still_int _ _).lv (lv_cons (still_bool _).lv lv_nil))) rfl
end Go.Ev
