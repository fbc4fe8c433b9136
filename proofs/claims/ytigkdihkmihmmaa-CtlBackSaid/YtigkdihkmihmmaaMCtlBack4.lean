/- A part of the proof that follows: A control message is read as it was written; cut off, or longer, it is none: for every tape, every cut and every byte more. -/
import Derived.Test.YtigkdihkmihmmaaMCtlBack3
import Derived.KernelRfl
/- Lifted by lift.py: ctl_take as a plain function. -/
namespace Go.Ev
open Go.Proofs
set_option linter.unusedVariables false
set_option linter.unusedSimpArgs false
set_option maxRecDepth 100000
def p_ctl_take (k : Nat) (x0 : T_api_Ctl) (x1 : Int) (x2 : (List Int)) : Option (T_api_Ctl) :=
(p_octet_Get k x2 0 ((x2.length : Int))).bind fun r1 =>
bif x1 == 1 then (
some ((⟨x0.Kind, (IntKind.wrap .i64 r1.1), x0.Layers, x0.Peer, x0.Height, x0.Class, x0.Layer, x0.Code⟩ : T_api_Ctl)))
else (
bif x1 == 2 then (
(p_octet_Get k x2 0 4).bind fun r9 =>
(p_octet_Get k x2 4 2).bind fun r14 =>
(p_octet_Cut x2 ((if ((x2.length : Int)) < 6 then ((x2.length : Int)) else 6)) ((if (IntKind.wrap .i64 ((IntKind.wrap .i64 (((x2.length : Int)) - 4)) - 2)) > 0 then (IntKind.wrap .i64 ((IntKind.wrap .i64 (((x2.length : Int)) - 4)) - 2)) else 0))).bind fun r19 =>
(ap 32 x0.Layers ([((⟨(strB r19.1), (IntKind.wrap .u32 r9.1), (IntKind.wrap .i64 r14.1)⟩ : T_api_Layer))])).bind fun a27 =>
some ((⟨x0.Kind, x0.Cap, a27, x0.Peer, x0.Height, x0.Class, x0.Layer, x0.Code⟩ : T_api_Ctl)))
else (
bif x1 == 3 then (
some ((⟨x0.Kind, x0.Cap, x0.Layers, (IntKind.wrap .i64 r1.1), x0.Height, x0.Class, x0.Layer, x0.Code⟩ : T_api_Ctl)))
else (
bif x1 == 4 then (
some ((⟨x0.Kind, x0.Cap, x0.Layers, x0.Peer, (IntKind.wrap .i64 r1.1), x0.Class, x0.Layer, x0.Code⟩ : T_api_Ctl)))
else (
bif x1 == 5 then (
some ((⟨x0.Kind, x0.Cap, x0.Layers, x0.Peer, x0.Height, (IntKind.wrap .i64 r1.1), x0.Layer, x0.Code⟩ : T_api_Ctl)))
else (
bif x1 == 6 then (
some ((⟨x0.Kind, x0.Cap, x0.Layers, x0.Peer, x0.Height, x0.Class, (IntKind.wrap .i64 r1.1), x0.Code⟩ : T_api_Ctl)))
else (
bif x1 == 7 then (
some ((⟨x0.Kind, x0.Cap, x0.Layers, x0.Peer, x0.Height, x0.Class, x0.Layer, (IntKind.wrap .i64 r1.1)⟩ : T_api_Ctl)))
else (
some ((⟨x0.Kind, x0.Cap, x0.Layers, x0.Peer, x0.Height, x0.Class, x0.Layer, x0.Code⟩ : T_api_Ctl)))))))))
theorem ctl_take_ok (k : Nat) {h : H} {σ : Stamp} (x0 : T_api_Ctl) {c0_2 : C} (hc0_2 : SoC dT_api_Layer x0.Layers c0_2) (hn0_2 : ∀ v, c0_2 = .v v → v = .p (.slice none 0 0) ∨ v = .fz [] 0 3 true) {l0 : Loc} {o0 : Nat} (ha0 : AtC h l0 o0 ([.v (.p (.int .i64 x0.Kind)), .v (.p (.int .i64 x0.Cap)), c0_2, .v (.p (.int .i64 x0.Peer)), .v (.p (.int .i64 x0.Height)), .v (.p (.int .i64 x0.Class)), .v (.p (.int .i64 x0.Layer)), .v (.p (.int .i64 x0.Code))])) (x1 : Int) (x2 : List Int) {u2 : V} (hu2 : SlF (dI .u8) x2 u2) : Sim (p_ctl_take k x0 x1 x2) (ev G X0 71 σ [(.ref l0 o0), (.p (.int .i64 x1)), u2] h) (fun r s => ∃ (cb0_2 : C), SoC dT_api_Layer r.Layers cb0_2 ∧ (∀ v, cb0_2 = .v v → v = .p (.slice none 0 0) ∨ v = .fz [] 0 3 true) ∧ s = ([], pts h [⟨l0, o0, [.v (.p (.int .i64 r.Kind)), .v (.p (.int .i64 r.Cap)), cb0_2, .v (.p (.int .i64 r.Peer)), .v (.p (.int .i64 r.Height)), .v (.p (.int .i64 r.Class)), .v (.p (.int .i64 r.Layer)), .v (.p (.int .i64 r.Code))]⟩])) := by
  refine Sim.ev rfl (Sim.ext (ctl_take_entry _ _ _ _ _ _ _) ?_)
  rw [p_ctl_take]
  have S0 : Fm 105 h [⟨l0, o0, [.v (.p (.int .i64 x0.Kind)), .v (.p (.int .i64 x0.Cap)), c0_2, .v (.p (.int .i64 x0.Peer)), .v (.p (.int .i64 x0.Height)), .v (.p (.int .i64 x0.Class)), .v (.p (.int .i64 x0.Layer)), .v (.p (.int .i64 x0.Code))]⟩] [] [] (List.replicate 105 [] :: h) := Fm.start1 ha0
  refine Sim.op ((hu2.h (List.replicate 105 [] :: h)).len) ?_
  refine Sim.op (castI_p _ _) ?_
  refine Sim.call (octet_Get_ok k x2 (hu2.h (List.replicate 105 [] :: h)) 0 ((x2.length : Int))) fun r1 cs2 H3 h4 q5 => ?_
  cases q5
  refine Sim.op (rfl) ?_
  refine Sim.op (castI_p _ _) ?_
  refine Sim.op (rfl) ?_
  refine Sim.op (asB_p _) ?_
  refine Sim.cd (fun hc => ?_) (fun hc => ?_)
  · refine Sim.op (nilChk_ref _ _) ?_
    refine Sim.op (fA_ref _ _ _) ?_
    obtain ⟨H6, e7, S8⟩ := S0.stB (i := 0) (j := 1) (own := true) (σ := (5 :: 1 :: 1 :: 1 :: 0 :: σ)) (x := (.p (.int .i64 (IntKind.wrap .i64 r1.1)))) rfl (still_int _ _) rfl
    refine Sim.op (st_map e7) ?_
    exact Sim.fin (S8.finN lv_nil) ⟨c0_2, hc0_2, hn0_2, rfl⟩
  · refine Sim.cd (fun hc => ?_) (fun hc => ?_)
    · refine Sim.call (octet_Get_ok k x2 (hu2.h (List.replicate 105 [] :: h)) 0 4) fun r9 cs10 H11 h12 q13 => ?_
      cases q13
      refine Sim.op (rfl) ?_
      refine Sim.op (castI_p _ _) ?_
      refine Sim.op (rfl) ?_
      refine Sim.op (asB_p _) ?_
      refine Sim.call (octet_Get_ok k x2 (hu2.h (List.replicate 105 [] :: h)) 4 2) fun r14 cs15 H16 h17 q18 => ?_
      cases q18
      refine Sim.op (rfl) ?_
      refine Sim.op (castI_p _ _) ?_
      refine Sim.op (rfl) ?_
      refine Sim.op (asB_p _) ?_
      refine Sim.op ((hu2.h (List.replicate 105 [] :: h)).len) ?_
      refine Sim.op (castI_p _ _) ?_
      refine Sim.op ((hu2.h (List.replicate 105 [] :: h)).len) ?_
      refine Sim.op (castI_p _ _) ?_
      refine Sim.call (octet_Cut_ok x2 (hu2.h (List.replicate 105 [] :: h)) ((if ((x2.length : Int)) < 6 then ((x2.length : Int)) else 6)) ((if (IntKind.wrap .i64 ((IntKind.wrap .i64 (((x2.length : Int)) - 4)) - 2)) > 0 then (IntKind.wrap .i64 ((IntKind.wrap .i64 (((x2.length : Int)) - 4)) - 2)) else 0))) fun r19 cs20 H21 h22 q23 => ?_
      obtain ⟨v24, h25, q23⟩ := q23
      cases q23
      refine Sim.op (rfl) ?_
      refine Sim.op (rfl) ?_
      refine Sim.op (asB_p _) ?_
      refine Sim.op (nilChk_ref _ _) ?_
      refine Sim.op (fA_ref _ _ _) ?_
      refine Sim.op (hc0_2.ld (S0.atB (i := 0) rfl) (j := 2) rfl) ?_
      refine Sim.op ((h25.h (List.replicate 105 [] :: h)).str) ?_
      refine Sim.op (castS_p _) ?_
      refine Sim.op (bldV (pt_cons rfl (pt_cons rfl (pt_cons rfl pt_nil))) (by kernel_rfl : _ = some (.agg [.p (.string (strB r19.1)), .p (.int .u32 (IntKind.wrap .u32 r9.1)), .p (.int .i64 (IntKind.wrap .i64 r14.1))]))) ?_
      have h26 : SlF dT_api_Layer [((⟨(strB r19.1), (IntKind.wrap .u32 r9.1), (IntKind.wrap .i64 r14.1)⟩ : T_api_Layer))] (.fz [(.p (.string (strB r19.1))), (.p (.int .u32 (IntKind.wrap .u32 r9.1))), (.p (.int .i64 (IntKind.wrap .i64 r14.1)))] 1 3 true) := SlF.lit (cs := [(.p (.string (strB r19.1))), (.p (.int .u32 (IntKind.wrap .u32 r9.1))), (.p (.int .i64 (IntKind.wrap .i64 r14.1)))]) (RL.cons (show dT_api_Layer.R ((⟨(strB r19.1), (IntKind.wrap .u32 r9.1), (IntKind.wrap .i64 r14.1)⟩ : T_api_Layer)) [.p (.string (strB r19.1)), .p (.int .u32 (IntKind.wrap .u32 r9.1)), .p (.int .i64 (IntKind.wrap .i64 r14.1))] from (dT_api_Layer.mk)) RL.nil) rfl rfl true
      refine Sim.op (bldS (pt_cons (c := [.p (.string (strB r19.1)), .p (.int .u32 (IntKind.wrap .u32 r9.1)), .p (.int .i64 (IntKind.wrap .i64 r14.1))]) rfl pt_nil) (by kernel_rfl : _ = some (.fz [(.p (.string (strB r19.1))), (.p (.int .u32 (IntKind.wrap .u32 r9.1))), (.p (.int .i64 (IntKind.wrap .i64 r14.1)))] 1 3 true))) ?_
      refine Sim.bd fun a27 h28 => ?_
      obtain ⟨v29, c30, H31, e32, S33⟩ := S0.appB (i := 0) (j := 2) (d := 67) (e := 3) (own := false) (σ := (13 :: 1 :: 1 :: 1 :: 1 :: 1 :: 1 :: 1 :: 0 :: σ)) rfl rfl hc0_2 hn0_2 (h26.h (List.replicate 105 [] :: h)).y h28 (by simp) rfl (by decide) (by decide) rfl
      refine Sim.op (e32) ?_
      refine Sim.op (nilChk_ref _ _) ?_
      refine Sim.op (fA_ref _ _ _) ?_
      obtain ⟨c38, H35, e36, h39, h40, S37⟩ := S33.mvB (i := 0) (j := 2) (k := 0) (σ := (16 :: 1 :: 1 :: 1 :: 1 :: 1 :: 1 :: 1 :: 0 :: σ)) rfl rfl rfl rfl rfl
      refine Sim.op (st_map e36) ?_
      exact Sim.fin (S37.finN lv_nil) ⟨c38, h39, h40, rfl⟩
    · refine Sim.cd (fun hc => ?_) (fun hc => ?_)
      · refine Sim.op (nilChk_ref _ _) ?_
        refine Sim.op (fA_ref _ _ _) ?_
        obtain ⟨H41, e42, S43⟩ := S0.stB (i := 0) (j := 3) (own := true) (σ := (5 :: 1 :: 1 :: 1 :: 1 :: 1 :: 0 :: σ)) (x := (.p (.int .i64 (IntKind.wrap .i64 r1.1)))) rfl (still_int _ _) rfl
        refine Sim.op (st_map e42) ?_
        exact Sim.fin (S43.finN lv_nil) ⟨c0_2, hc0_2, hn0_2, rfl⟩
      · refine Sim.cd (fun hc => ?_) (fun hc => ?_)
        · refine Sim.op (nilChk_ref _ _) ?_
          refine Sim.op (fA_ref _ _ _) ?_
          obtain ⟨H44, e45, S46⟩ := S0.stB (i := 0) (j := 4) (own := true) (σ := (5 :: 1 :: 1 :: 1 :: 1 :: 1 :: 1 :: 0 :: σ)) (x := (.p (.int .i64 (IntKind.wrap .i64 r1.1)))) rfl (still_int _ _) rfl
          refine Sim.op (st_map e45) ?_
          exact Sim.fin (S46.finN lv_nil) ⟨c0_2, hc0_2, hn0_2, rfl⟩
        · refine Sim.cd (fun hc => ?_) (fun hc => ?_)
          · refine Sim.op (nilChk_ref _ _) ?_
            refine Sim.op (fA_ref _ _ _) ?_
            obtain ⟨H47, e48, S49⟩ := S0.stB (i := 0) (j := 5) (own := true) (σ := (5 :: 1 :: 1 :: 1 :: 1 :: 1 :: 1 :: 1 :: 0 :: σ)) (x := (.p (.int .i64 (IntKind.wrap .i64 r1.1)))) rfl (still_int _ _) rfl
            refine Sim.op (st_map e48) ?_
            exact Sim.fin (S49.finN lv_nil) ⟨c0_2, hc0_2, hn0_2, rfl⟩
          · refine Sim.cd (fun hc => ?_) (fun hc => ?_)
            · refine Sim.op (nilChk_ref _ _) ?_
              refine Sim.op (fA_ref _ _ _) ?_
              obtain ⟨H50, e51, S52⟩ := S0.stB (i := 0) (j := 6) (own := true) (σ := (5 :: 1 :: 1 :: 1 :: 1 :: 1 :: 1 :: 1 :: 1 :: 0 :: σ)) (x := (.p (.int .i64 (IntKind.wrap .i64 r1.1)))) rfl (still_int _ _) rfl
              refine Sim.op (st_map e51) ?_
              exact Sim.fin (S52.finN lv_nil) ⟨c0_2, hc0_2, hn0_2, rfl⟩
            · refine Sim.cd (fun hc => ?_) (fun hc => ?_)
              · refine Sim.op (nilChk_ref _ _) ?_
                refine Sim.op (fA_ref _ _ _) ?_
                obtain ⟨H53, e54, S55⟩ := S0.stB (i := 0) (j := 7) (own := true) (σ := (5 :: 1 :: 1 :: 1 :: 1 :: 1 :: 1 :: 1 :: 1 :: 1 :: 0 :: σ)) (x := (.p (.int .i64 (IntKind.wrap .i64 r1.1)))) rfl (still_int _ _) rfl
                refine Sim.op (st_map e54) ?_
                exact Sim.fin (S55.finN lv_nil) ⟨c0_2, hc0_2, hn0_2, rfl⟩
              · exact Sim.fin (S0.finN lv_nil) ⟨c0_2, hc0_2, hn0_2, rfl⟩
end Go.Ev
/- Equations, printed by tracer2.py. -/
namespace Go.Ev
open Go.Proofs
set_option linter.unusedVariables false
set_option maxRecDepth 100000
-- 72 slices.Equal[[]byte,byte]
noncomputable def slices_Equal_Lbyte_byte_c0 : Code := (codeAt (bodyOf Try.f72) [1, 1, 0, 1, 0, 0])
def slices_Equal_Lbyte_byte_l0 : Lv := ⟨0, 16, [(0, 0)]⟩
noncomputable def slices_Equal_Lbyte_byte_k0 (rec : CallF) (loop : LoopV) (σ : Stamp) : Exit → Env → H → Option (List C × H) := (kBlock 0 (kSeq G rec loop (codeAt (bodyOf Try.f72) [1, 1, 1]) ⟨16, 16, []⟩ (1 :: 1 :: 0 :: σ) (finC G false Try.f72 (1 :: σ))))
theorem slices_Equal_Lbyte_byte_entry (rec : CallF) (loop : LoopV) (σ : Stamp) (x0 : V) (x1 : V) (h : H) : cvBody G rec loop 72 σ [x0, x1] h =
 (lenO x0).bind fun t1 =>
 (castI .i64 t1).bind fun n2 =>
 (lenO x1).bind fun t3 =>
 (castI .i64 t3).bind fun n4 =>
 bif n2 != n4 then (
 fin false σ (List.replicate 26 [] :: h) [(.p (.bool false))])
 else (
 (lenO x0).bind fun t5 =>
 (castI .i64 t5).bind fun n6 =>
 (loop slices_Equal_Lbyte_byte_c0 slices_Equal_Lbyte_byte_l0 (1 :: 0 :: 1 :: 1 :: 0 :: σ) (envL [(0, x0), (1, x1), (12, (.p (.int .i64 n6))), (13, (.p (.int .i64 0)))]) (List.replicate 26 [] :: h)).bind fun r7 => slices_Equal_Lbyte_byte_k0 rec loop σ r7.1 r7.2.1 r7.2.2) := by kernel_rfl
theorem slices_Equal_Lbyte_byte_r0 (rec : CallF) (loop : LoopV) (σ : Stamp) (x0 : V) (x1 : V) (x12 : Int) (x13 : Int) (h : H) : cvRound G rec loop slices_Equal_Lbyte_byte_c0 slices_Equal_Lbyte_byte_l0 σ (envL [(0, x0), (1, x1), (12, (.p (.int .i64 x12))), (13, (.p (.int .i64 x13)))]) h =
 bif decide (x13 < x12) then (
 (iS 1 x0 x13).bind fun t8 =>
 (ldO false 1 h t8).bind fun t9 =>
 (castI .u8 t9).bind fun n10 =>
 (iS 1 x1 x13).bind fun t11 =>
 (ldO false 1 h t11).bind fun t12 =>
 (castI .u8 t12).bind fun n13 =>
 bif n10 != n13 then (
 some (.ret, (envL [(4, (.p (.bool false)))]), h))
 else (
 loop slices_Equal_Lbyte_byte_c0 slices_Equal_Lbyte_byte_l0 (1 :: σ) (envL [(0, x0), (1, x1), (12, (.p (.int .i64 x12))), (13, (.p (.int .i64 (IntKind.wrap .i64 (x13 + 1)))))]) h))
 else (
 some ((.exit 0), (envL []), h)) := by kernel_rfl
theorem slices_Equal_Lbyte_byte_a0_0 (rec : CallF) (loop : LoopV) (σ : Stamp)  (h : H) : slices_Equal_Lbyte_byte_k0 rec loop σ (.exit 0) (envL []) h =
 fin false σ h [(.p (.bool true))] := by kernel_rfl
theorem slices_Equal_Lbyte_byte_a0_ret (rec : CallF) (loop : LoopV) (σ : Stamp) (x4 : Bool) (h : H) : slices_Equal_Lbyte_byte_k0 rec loop σ .ret (envL [(4, (.p (.bool x4)))]) h =
 fin false σ h [(.p (.bool x4))] := by kernel_rfl
end Go.Ev
/- Lifted by lift.py: slices_Equal_Lbyte_byte as a plain function. -/
namespace Go.Ev
open Go.Proofs
set_option linter.unusedVariables false
set_option linter.unusedSimpArgs false
set_option maxRecDepth 100000
def p_slices_Equal_Lbyte_byte_l0 {β : Type} (k : Nat) (kE0 : Unit → Option β) (kE1 : Bool → Option β) (x0 : (List Int)) (x1 : (List Int)) (x12 : Int) (x13 : Int) : Option β := match k with
| 0 => none
| k + 1 =>
bif decide (x13 < x12) then (
(ix x0 x13).bind fun a7 =>
(ix x1 x13).bind fun a10 =>
bif a7 != a10 then (
kE1 false)
else (
p_slices_Equal_Lbyte_byte_l0 k kE0 kE1 x0 x1 x12 (IntKind.wrap .i64 (x13 + 1))))
else (
kE0 ())
def p_slices_Equal_Lbyte_byte (k : Nat) (x0 : (List Int)) (x1 : (List Int)) : Option (Bool) :=
bif ((x0.length : Int)) != ((x1.length : Int)) then (
some (false))
else (
p_slices_Equal_Lbyte_byte_l0 k (fun (_ : Unit) =>
some (true)) (fun r20_4 =>
some (r20_4)) x0 x1 ((x0.length : Int)) 0)
theorem slices_Equal_Lbyte_byte_l0_ok {h : H}  {β α : Type} {Q : β → α → Prop} {K : Exit × Env × H → Option α} {kE0 : Unit → Option β} {kE1 : Bool → Option β} (hE0 : ∀ (_u : Unit) (H13 : Go.Ev.H) (_ : Fm 26 h [] [] [] H13), Sim (kE0 ()) (K ((.exit 0), (envL []), H13)) Q) (hE1 : ∀ (q4 : Bool) (H15 : Go.Ev.H) (_ : Fm 26 h [] [] [] H15), Sim (kE1 q4) (K (.ret, (envL [(4, (.p (.bool q4)))]), H15)) Q) (k : Nat) : ∀ (x0 : (List Int)) (x1 : (List Int)) (x12 : Int) (x13 : Int) (v3 : V) (h4 : SlH h (dI .u8) x0 v3) (v5 : V) (h6 : SlH h (dI .u8) x1 v5) (H1 : Go.Ev.H) (_ : Fm 26 h [] [] [] H1) {σ : Stamp}, Sim (p_slices_Equal_Lbyte_byte_l0 k kE0 kE1 x0 x1 x12 x13) ((cvL G X0 slices_Equal_Lbyte_byte_c0 slices_Equal_Lbyte_byte_l0 σ (envL [(0, v3), (1, v5), (12, (.p (.int .i64 x12))), (13, (.p (.int .i64 x13)))]) H1).bind K) Q := by
  induction k with
  | zero => intros; exact Sim.no
  | succ k ih =>
    intro x0 x1 x12 x13 v3 h4 v5 h6 H1 S2 σ
    rw [p_slices_Equal_Lbyte_byte_l0]
    refine Sim.round (Sim.ext (slices_Equal_Lbyte_byte_r0 _ _ _ _ _ _ _ _) ?_)
    refine Sim.cd (fun hc => ?_) (fun hc => ?_)
    · refine Sim.bd fun a7 h8 => ?_
      refine Sim.op ((S2.low h4).iS h8 rfl) ?_
      obtain ⟨_, rfl, hE9⟩ := (S2.low h4).el h8 rfl
      refine Sim.op (hE9.ld (j := 0) rfl) ?_
      refine Sim.op (castI_p _ _) ?_
      refine Sim.bd fun a10 h11 => ?_
      refine Sim.op ((S2.low h6).iS h11 rfl) ?_
      obtain ⟨_, rfl, hE12⟩ := (S2.low h6).el h11 rfl
      refine Sim.op (hE12.ld (j := 0) rfl) ?_
      refine Sim.op (castI_p _ _) ?_
      refine Sim.cd (fun hc => ?_) (fun hc => ?_)
      · exact hE1 false H1 (S2.wk2 all_nil all_nil)
      · exact ih x0 x1 x12 (IntKind.wrap .i64 (x13 + 1)) v3 h4 v5 h6 H1 (S2.wk2 all_nil all_nil)
    · exact hE0 () H1 (S2.wk2 all_nil all_nil)
theorem slices_Equal_Lbyte_byte_ok (k : Nat) {h : H} {σ : Stamp} (x0 : List Int) {u0 : V} (hu0 : SlH h (dI .u8) x0 u0) (x1 : List Int) {u1 : V} (hu1 : SlH h (dI .u8) x1 u1) : Sim (p_slices_Equal_Lbyte_byte k x0 x1) (ev G X0 72 σ [u0, u1] h) (fun r s => s = ([.v (.p (.bool r))], h)) := by
  refine Sim.ev rfl (Sim.ext (slices_Equal_Lbyte_byte_entry _ _ _ _ _ _) ?_)
  rw [p_slices_Equal_Lbyte_byte]
  have S0 : Fm 26 h [] [] [] (List.replicate 26 [] :: h) := Fm.start0
  refine Sim.op ((S0.low hu0).len) ?_
  refine Sim.op (castI_p _ _) ?_
  refine Sim.op ((S0.low hu1).len) ?_
  refine Sim.op (castI_p _ _) ?_
  refine Sim.cd (fun hc => ?_) (fun hc => ?_)
  · exact Sim.fin (S0.finN (lv_cons (still_bool _).lv lv_nil)) rfl
  · refine Sim.op ((S0.low hu0).len) ?_
    refine Sim.op (castI_p _ _) ?_
    refine Sim.as (slices_Equal_Lbyte_byte_l0_ok ?_ ?_ k x0 x1 ((x0.length : Int)) 0 u0 hu0 u1 hu1 (List.replicate 26 [] :: h) (S0.wk2 all_nil all_nil)) 
    · intro _u H18 S19
      refine Sim.ext (slices_Equal_Lbyte_byte_a0_0 _ _ _ _) ?_
      exact Sim.fin (S19.finN (lv_cons (still_bool _).lv lv_nil)) rfl
    · intro r20_4 H21 S22
      refine Sim.ext (slices_Equal_Lbyte_byte_a0_ret _ _ _ _ _) ?_
      exact Sim.fin (S22.finN (lv_cons (still_bool _).lv lv_nil)) rfl
end Go.Ev
/- Lifted by lift.py: ctl_Read as a plain function. -/
namespace Go.Ev
open Go.Proofs
set_option linter.unusedVariables false
set_option linter.unusedSimpArgs false
set_option maxRecDepth 100000
def p_ctl_Read_l0 {β : Type} (k : Nat) (kE0 : (List Int) → T_api_Ctl → T_api_Ctl → Option β) (kE1 : Int → T_api_Ctl → Option β) (x0 : (List Int)) (x7 : Int) (yg4 : T_api_Ctl) (yg24 : T_api_Ctl) : Option β := match k with
| 0 => none
| k + 1 =>
bif decide ((IntKind.wrap .i64 (x7 + 1)) < ((x0.length : Int))) then (
(ix x0 (IntKind.wrap .i64 (x7 + 1))).bind fun a41 =>
(p_octet_Cut x0 (IntKind.wrap .i64 (x7 + 2)) (IntKind.wrap .i64 a41)).bind fun r44 =>
bif !r44.2 then (
kE1 12 ((⟨0, 0, (([] : List T_api_Layer)), 0, 0, 0, 0, 0⟩ : T_api_Ctl)))
else (
(ix x0 x7).bind fun a54 =>
(p_ctl_take k (⟨yg24.Kind, yg24.Cap, yg24.Layers, yg24.Peer, yg24.Height, yg24.Class, yg24.Layer, yg24.Code⟩ : T_api_Ctl) (IntKind.wrap .i64 a54) r44.1).bind fun r57 =>
p_ctl_Read_l0 k kE0 kE1 x0 (IntKind.wrap .i64 (x7 + (IntKind.wrap .i64 (2 + ((r44.1.length : Int)))))) ((⟨yg4.Kind, yg4.Cap, yg4.Layers, yg4.Peer, yg4.Height, yg4.Class, yg4.Layer, yg4.Code⟩ : T_api_Ctl)) ((⟨r57.Kind, r57.Cap, r57.Layers, r57.Peer, r57.Height, r57.Class, r57.Layer, r57.Code⟩ : T_api_Ctl))))
else (
kE0 x0 ((⟨yg4.Kind, yg4.Cap, yg4.Layers, yg4.Peer, yg4.Height, yg4.Class, yg4.Layer, yg4.Code⟩ : T_api_Ctl)) ((⟨yg24.Kind, yg24.Cap, yg24.Layers, yg24.Peer, yg24.Height, yg24.Class, yg24.Layer, yg24.Code⟩ : T_api_Ctl)))
def p_ctl_Read (k : Nat) (x0 : (List Int)) : Option (T_api_Ctl × Int) :=
(p_octet_Get k x0 1 2).bind fun r5 =>
(bif decide (((x0.length : Int)) < 3) then (some true) else (some (decide ((IntKind.wrap .i64 (((x0.length : Int)) - 3)) < (IntKind.wrap .i64 r5.1))))).bind fun b10 =>
bif b10 then (
some (((⟨0, 0, (([] : List T_api_Layer)), 0, 0, 0, 0, 0⟩ : T_api_Ctl)), 13))
else (
(ix x0 0).bind fun a18 =>
p_ctl_Read_l0 k (fun r85_0 yg35 yg40 =>
(p_ctl_Bytes k ((⟨yg40.Kind, yg40.Cap, yg40.Layers, yg40.Peer, yg40.Height, yg40.Class, yg40.Layer, yg40.Code⟩ : T_api_Ctl))).bind fun r109 =>
(bif r109.2 != 0 then (some true) else ((p_slices_Equal_Lbyte_byte k r109.1 r85_0).bind fun r123 =>
some (!r123))).bind fun b128 =>
bif b128 then (
some (((⟨0, 0, (([] : List T_api_Layer)), 0, 0, 0, 0, 0⟩ : T_api_Ctl)), 12))
else (
some (((⟨yg40.Kind, yg40.Cap, yg40.Layers, yg40.Peer, yg40.Height, yg40.Class, yg40.Layer, yg40.Code⟩ : T_api_Ctl)), 0))) (fun r140_3 yg35 =>
some (((⟨yg35.Kind, yg35.Cap, yg35.Layers, yg35.Peer, yg35.Height, yg35.Class, yg35.Layer, yg35.Code⟩ : T_api_Ctl)), r140_3)) x0 3 ((⟨0, 0, (([] : List T_api_Layer)), 0, 0, 0, 0, 0⟩ : T_api_Ctl)) ((⟨(IntKind.wrap .i64 a18), 0, (([] : List T_api_Layer)), 0, 0, 0, 0, 0⟩ : T_api_Ctl)))
theorem ctl_Read_l0_ok {h : H}  {β α : Type} {Q : β → α → Prop} {K : Exit × Env × H → Option α} {kE0 : (List Int) → T_api_Ctl → T_api_Ctl → Option β} {kE1 : Int → T_api_Ctl → Option β} (hE0 : ∀ (q0 : (List Int)) (yg35 : T_api_Ctl) (yg40 : T_api_Ctl) (v68 : V) (h69 : SlH h (dI .u8) q0 v68) (v70 : V) (h71 : SlF dT_api_Layer yg35.Layers v70) (s72 : Stamp) (c74 : C) (h75 : SoC dT_api_Layer yg40.Layers c74) (h76 : ∀ v, c74 = .v v → v = .p (.slice none 0 0) ∨ v = .fz [] 0 3 true) (s77 : Stamp) (H66 : Go.Ev.H) (_ : Fm 82 h [] [(2, s72, List.map C.v [(.p (.int .i64 yg35.Kind)), (.p (.int .i64 yg35.Cap)), v70, (.p (.int .i64 yg35.Peer)), (.p (.int .i64 yg35.Height)), (.p (.int .i64 yg35.Class)), (.p (.int .i64 yg35.Layer)), (.p (.int .i64 yg35.Code))]), (6, s77, [.v (.p (.int .i64 yg40.Kind)), .v (.p (.int .i64 yg40.Cap)), c74, .v (.p (.int .i64 yg40.Peer)), .v (.p (.int .i64 yg40.Height)), .v (.p (.int .i64 yg40.Class)), .v (.p (.int .i64 yg40.Layer)), .v (.p (.int .i64 yg40.Code))])] [] H66), Sim (kE0 q0 yg35 yg40) (K ((.exit 0), (envL [(0, v68), (2, (.ref ⟨h.length, 2, 0, s72, []⟩ 0)), (6, (.ref ⟨h.length, 6, 0, s77, []⟩ 0))]), H66)) Q) (hE1 : ∀ (q3 : Int) (yg35 : T_api_Ctl) (v81 : V) (h82 : SlF dT_api_Layer yg35.Layers v81) (s83 : Stamp) (H79 : Go.Ev.H) (_ : Fm 82 h [] [(2, s83, List.map C.v [(.p (.int .i64 yg35.Kind)), (.p (.int .i64 yg35.Cap)), v81, (.p (.int .i64 yg35.Peer)), (.p (.int .i64 yg35.Height)), (.p (.int .i64 yg35.Class)), (.p (.int .i64 yg35.Layer)), (.p (.int .i64 yg35.Code))])] [] H79), Sim (kE1 q3 yg35) (K (.ret, (envL [(2, (.ref ⟨h.length, 2, 0, s83, []⟩ 0)), (3, (.p (.int .i64 q3)))]), H79)) Q) (k : Nat) : ∀ (x0 : (List Int)) (x7 : Int) (yg4 : T_api_Ctl) (yg24 : T_api_Ctl) (v30 : V) (h31 : SlH h (dI .u8) x0 v30) (v32 : V) (h33 : SlF dT_api_Layer yg4.Layers v32) (s34 : Stamp) (c36 : C) (h37 : SoC dT_api_Layer yg24.Layers c36) (h38 : ∀ v, c36 = .v v → v = .p (.slice none 0 0) ∨ v = .fz [] 0 3 true) (s39 : Stamp) (H28 : Go.Ev.H) (_ : Fm 82 h [] [(2, s34, List.map C.v [(.p (.int .i64 yg4.Kind)), (.p (.int .i64 yg4.Cap)), v32, (.p (.int .i64 yg4.Peer)), (.p (.int .i64 yg4.Height)), (.p (.int .i64 yg4.Class)), (.p (.int .i64 yg4.Layer)), (.p (.int .i64 yg4.Code))]), (6, s39, [.v (.p (.int .i64 yg24.Kind)), .v (.p (.int .i64 yg24.Cap)), c36, .v (.p (.int .i64 yg24.Peer)), .v (.p (.int .i64 yg24.Height)), .v (.p (.int .i64 yg24.Class)), .v (.p (.int .i64 yg24.Layer)), .v (.p (.int .i64 yg24.Code))])] [] H28) {σ : Stamp}, Sim (p_ctl_Read_l0 k kE0 kE1 x0 x7 yg4 yg24) ((cvL G X0 ctl_Read_c0 ctl_Read_l0 σ (envL [(0, v30), (2, (.ref ⟨h.length, 2, 0, s34, []⟩ 0)), (6, (.ref ⟨h.length, 6, 0, s39, []⟩ 0)), (7, (.p (.int .i64 x7)))]) H28).bind K) Q := by
  induction k with
  | zero => intros; exact Sim.no
  | succ k ih =>
    intro x0 x7 yg4 yg24 v30 h31 v32 h33 s34 c36 h37 h38 s39 H28 S29 σ
    rw [p_ctl_Read_l0]
    refine Sim.round (Sim.ext (ctl_Read_r0 _ _ _ _ _ _ _ _) ?_)
    refine Sim.op ((S29.low h31).len) ?_
    refine Sim.op (castI_p _ _) ?_
    refine Sim.cd (fun hc => ?_) (fun hc => ?_)
    · refine Sim.bd fun a41 h42 => ?_
      refine Sim.op ((S29.low h31).iS h42 rfl) ?_
      obtain ⟨_, rfl, hE43⟩ := (S29.low h31).el h42 rfl
      refine Sim.op (hE43.ld (j := 0) rfl) ?_
      refine Sim.op (castI_p _ _) ?_
      refine Sim.call (octet_Cut_ok x0 (S29.low h31) (IntKind.wrap .i64 (x7 + 2)) (IntKind.wrap .i64 a41)) fun r44 cs45 H46 h47 q48 => ?_
      obtain ⟨v49, h50, q48⟩ := q48
      cases q48
      refine Sim.op (rfl) ?_
      refine Sim.op (rfl) ?_
      refine Sim.op (asB_p _) ?_
      refine Sim.cd (fun hc => ?_) (fun hc => ?_)
      · refine Sim.op (bldV pt_nil (by kernel_rfl : _ = some (.agg [.p (.int .i64 0), .p (.int .i64 0), .p (.slice none 0 0), .p (.int .i64 0), .p (.int .i64 0), .p (.int .i64 0), .p (.int .i64 0), .p (.int .i64 0)]))) ?_
        obtain ⟨H51, e52, S53⟩ := S29.stGv (i := 0) (j := 0) (own := false) (σ := (1 :: 0 :: 1 :: 0 :: 1 :: 1 :: 0 :: σ)) (xs := [.p (.int .i64 0), .p (.int .i64 0), .p (.slice none 0 0), .p (.int .i64 0), .p (.int .i64 0), .p (.int .i64 0), .p (.int .i64 0), .p (.int .i64 0)]) rfl rfl (stills_cons (still_int _ _) (stills_cons (still_int _ _) (stills_cons (SlF.nil dT_api_Layer).still (stills_cons (still_int _ _) (stills_cons (still_int _ _) (stills_cons (still_int _ _) (stills_cons (still_int _ _) (stills_cons (still_int _ _) stills_nil)))))))) rfl rfl
        refine Sim.op (st_map e52) ?_
        exact hE1 12 ((⟨0, 0, (([] : List T_api_Layer)), 0, 0, 0, 0, 0⟩ : T_api_Ctl)) (.p (.slice none 0 0)) (SlF.nil dT_api_Layer) s34 H51 (S53.wk2 (all_cons (at_mem 0 rfl) all_nil) all_nil)
      · refine Sim.bd fun a54 h55 => ?_
        refine Sim.op ((S29.low h31).iS h55 rfl) ?_
        obtain ⟨_, rfl, hE56⟩ := (S29.low h31).el h55 rfl
        refine Sim.op (hE56.ld (j := 0) rfl) ?_
        refine Sim.op (castI_p _ _) ?_
        refine Sim.call (ctl_take_ok k (⟨yg24.Kind, yg24.Cap, yg24.Layers, yg24.Peer, yg24.Height, yg24.Class, yg24.Layer, yg24.Code⟩ : T_api_Ctl) h37 h38 (S29.atG (i := 1) rfl) (IntKind.wrap .i64 a54) r44.1 h50) fun r57 cs58 H59 h60 q61 => ?_
        obtain ⟨c62, h63, h64, q61⟩ := q61
        cases q61
        have S65 := S29.setG (i := 1) (cs' := [.v (.p (.int .i64 r57.Kind)), .v (.p (.int .i64 r57.Cap)), c62, .v (.p (.int .i64 r57.Peer)), .v (.p (.int .i64 r57.Height)), .v (.p (.int .i64 r57.Class)), .v (.p (.int .i64 r57.Layer)), .v (.p (.int .i64 r57.Code))]) rfl rfl rfl
        refine Sim.op ((h50.h (ptC H28 ⟨h.length, 6, 0, s39, []⟩ 0 ([.v (.p (.int .i64 r57.Kind)), .v (.p (.int .i64 r57.Cap)), c62, .v (.p (.int .i64 r57.Peer)), .v (.p (.int .i64 r57.Height)), .v (.p (.int .i64 r57.Class)), .v (.p (.int .i64 r57.Layer)), .v (.p (.int .i64 r57.Code))]))).len) ?_
        refine Sim.op (castI_p _ _) ?_
        exact ih x0 (IntKind.wrap .i64 (x7 + (IntKind.wrap .i64 (2 + ((r44.1.length : Int)))))) ((⟨yg4.Kind, yg4.Cap, yg4.Layers, yg4.Peer, yg4.Height, yg4.Class, yg4.Layer, yg4.Code⟩ : T_api_Ctl)) ((⟨r57.Kind, r57.Cap, r57.Layers, r57.Peer, r57.Height, r57.Class, r57.Layer, r57.Code⟩ : T_api_Ctl)) v30 h31 v32 h33 s34 c62 h63 h64 s39 (ptC H28 ⟨h.length, 6, 0, s39, []⟩ 0 ([.v (.p (.int .i64 r57.Kind)), .v (.p (.int .i64 r57.Cap)), c62, .v (.p (.int .i64 r57.Peer)), .v (.p (.int .i64 r57.Height)), .v (.p (.int .i64 r57.Class)), .v (.p (.int .i64 r57.Layer)), .v (.p (.int .i64 r57.Code))])) (S65.wk2 (all_cons (at_mem 0 rfl) (all_cons (at_mem 1 rfl) all_nil)) all_nil)
    · exact hE0 x0 ((⟨yg4.Kind, yg4.Cap, yg4.Layers, yg4.Peer, yg4.Height, yg4.Class, yg4.Layer, yg4.Code⟩ : T_api_Ctl)) ((⟨yg24.Kind, yg24.Cap, yg24.Layers, yg24.Peer, yg24.Height, yg24.Class, yg24.Layer, yg24.Code⟩ : T_api_Ctl)) v30 h31 v32 h33 s34 c36 h37 h38 s39 H28 (S29.wk2 (all_cons (at_mem 0 rfl) (all_cons (at_mem 1 rfl) all_nil)) all_nil)
theorem ctl_Read_ok (k : Nat) {h : H} {σ : Stamp} (x0 : List Int) {u0 : V} (hu0 : SlH h (dI .u8) x0 u0) : Sim (p_ctl_Read k x0) (ev G X0 30 σ [u0] h) (fun r s => ∃ (w0 : List V), dT_api_Ctl.R r.1 w0 ∧ s = ([.v (.agg w0), .v (.p (.int .i64 r.2))], h)) := by
  refine Sim.ev rfl (Sim.ext (ctl_Read_entry _ _ _ _ _) ?_)
  rw [p_ctl_Read]
  have S0 : Fm 82 h [] [] [] (List.replicate 82 [] :: h) := Fm.start0
  obtain ⟨H1, e2, S3⟩ := S0.al (d := 2) (s := (0 :: 0 :: 0 :: σ)) (z := [(.p (.int .i64 0)), (.p (.int .i64 0)), (.p (.slice none 0 0)), (.p (.int .i64 0)), (.p (.int .i64 0)), (.p (.int .i64 0)), (.p (.int .i64 0)), (.p (.int .i64 0))]) (by decide) rfl
  refine Sim.op (congrArg some e2) ?_
  refine Sim.call (octet_Get_ok k x0 (S3.low hu0) 1 2) fun r5 cs6 H7 h8 q9 => ?_
  cases q9
  refine Sim.op (rfl) ?_
  refine Sim.op (castI_p _ _) ?_
  refine Sim.op (rfl) ?_
  refine Sim.op (asB_p _) ?_
  refine Sim.op ((S3.low hu0).len) ?_
  refine Sim.op (castI_p _ _) ?_
  refine Sim.ch (P := fun r y => r = y) ?_ (fun b10 y11 h12 h13 => ?_)
  · refine Sim.cd (fun hc => ?_) (fun hc => ?_)
    · exact Sim.ret rfl rfl
    · refine Sim.op ((S3.low hu0).len) ?_
      refine Sim.op (castI_p _ _) ?_
      exact Sim.ret rfl rfl
  subst h13
  refine Sim.cd (fun hc => ?_) (fun hc => ?_)
  · refine Sim.op (bldV pt_nil (by kernel_rfl : _ = some (.agg [.p (.int .i64 0), .p (.int .i64 0), .p (.slice none 0 0), .p (.int .i64 0), .p (.int .i64 0), .p (.int .i64 0), .p (.int .i64 0), .p (.int .i64 0)]))) ?_
    obtain ⟨H14, e15, S16⟩ := S3.stGv (i := 0) (j := 0) (own := false) (σ := (1 :: 0 :: 1 :: 0 :: 1 :: 1 :: 0 :: σ)) (xs := [.p (.int .i64 0), .p (.int .i64 0), .p (.slice none 0 0), .p (.int .i64 0), .p (.int .i64 0), .p (.int .i64 0), .p (.int .i64 0), .p (.int .i64 0)]) rfl rfl (stills_cons (still_int _ _) (stills_cons (still_int _ _) (stills_cons (SlF.nil dT_api_Layer).still (stills_cons (still_int _ _) (stills_cons (still_int _ _) (stills_cons (still_int _ _) (stills_cons (still_int _ _) (stills_cons (still_int _ _) stills_nil)))))))) rfl rfl
    refine Sim.op (st_map e15) ?_
    have e17 : ldO true 8 H14 (.ref ⟨h.length, 2, 0, (0 :: 0 :: 0 :: σ), []⟩ 0) = some (.agg [.p (.int .i64 0), .p (.int .i64 0), .p (.slice none 0 0), .p (.int .i64 0), .p (.int .i64 0), .p (.int .i64 0), .p (.int .i64 0), .p (.int .i64 0)]) := (S16.atG (i := 0) rfl).ldVs (j := 0) (xs := [.p (.int .i64 0), .p (.int .i64 0), .p (.slice none 0 0), .p (.int .i64 0), .p (.int .i64 0), .p (.int .i64 0), .p (.int .i64 0), .p (.int .i64 0)]) rfl rfl (by decide)
    refine Sim.op (show _ = some [(.agg [.p (.int .i64 0), .p (.int .i64 0), .p (.slice none 0 0), .p (.int .i64 0), .p (.int .i64 0), .p (.int .i64 0), .p (.int .i64 0), .p (.int .i64 0)]), (.p (.int .i64 13))] from by simp only [e17, Option.bind_some, Option.map_some]) ?_
    exact Sim.fin (S16.finN (lv_cons (Stills.lv (dT_api_Ctl.still (dT_api_Ctl.mk (SlF.nil dT_api_Layer)))) (lv_cons (still_int _ _).lv lv_nil))) ⟨[.p (.int .i64 0), .p (.int .i64 0), .p (.slice none 0 0), .p (.int .i64 0), .p (.int .i64 0), .p (.int .i64 0), .p (.int .i64 0), .p (.int .i64 0)], (show dT_api_Ctl.R ((⟨0, 0, (([] : List T_api_Layer)), 0, 0, 0, 0, 0⟩ : T_api_Ctl)) [.p (.int .i64 0), .p (.int .i64 0), .p (.slice none 0 0), .p (.int .i64 0), .p (.int .i64 0), .p (.int .i64 0), .p (.int .i64 0), .p (.int .i64 0)] from (dT_api_Ctl.mk (SlF.nil dT_api_Layer))), rfl⟩
  · refine Sim.bd fun a18 h19 => ?_
    refine Sim.op ((S3.low hu0).iS h19 rfl) ?_
    obtain ⟨_, rfl, hE20⟩ := (S3.low hu0).el h19 rfl
    refine Sim.op (hE20.ld (j := 0) rfl) ?_
    refine Sim.op (castI_p _ _) ?_
    refine Sim.op (bldV (pt_cons rfl pt_nil) (by kernel_rfl : _ = some (.agg [.p (.int .i64 (IntKind.wrap .i64 a18)), .p (.int .i64 0), .p (.slice none 0 0), .p (.int .i64 0), .p (.int .i64 0), .p (.int .i64 0), .p (.int .i64 0), .p (.int .i64 0)]))) ?_
    obtain ⟨H21, e22, S23⟩ := S3.al (d := 6) (s := (5 :: 0 :: 1 :: 1 :: 1 :: 0 :: σ)) (z := [(.p (.int .i64 0)), (.p (.int .i64 0)), (.p (.slice none 0 0)), (.p (.int .i64 0)), (.p (.int .i64 0)), (.p (.int .i64 0)), (.p (.int .i64 0)), (.p (.int .i64 0))]) (by decide) rfl
    refine Sim.op (congrArg some e22) ?_
    obtain ⟨H25, e26, S27⟩ := S23.stGv (i := 0) (j := 0) (own := false) (σ := (6 :: 0 :: 1 :: 1 :: 1 :: 0 :: σ)) (xs := [.p (.int .i64 (IntKind.wrap .i64 a18)), .p (.int .i64 0), .p (.slice none 0 0), .p (.int .i64 0), .p (.int .i64 0), .p (.int .i64 0), .p (.int .i64 0), .p (.int .i64 0)]) rfl rfl (stills_cons (still_int _ _) (stills_cons (still_int _ _) (stills_cons (SlF.nil dT_api_Layer).still (stills_cons (still_int _ _) (stills_cons (still_int _ _) (stills_cons (still_int _ _) (stills_cons (still_int _ _) (stills_cons (still_int _ _) stills_nil)))))))) rfl rfl
    refine Sim.op (st_map e26) ?_
    refine Sim.as (ctl_Read_l0_ok ?_ ?_ k x0 3 ((⟨0, 0, (([] : List T_api_Layer)), 0, 0, 0, 0, 0⟩ : T_api_Ctl)) ((⟨(IntKind.wrap .i64 a18), 0, (([] : List T_api_Layer)), 0, 0, 0, 0, 0⟩ : T_api_Ctl)) u0 hu0 (.p (.slice none 0 0)) (SlF.nil dT_api_Layer) (0 :: 0 :: 0 :: σ) (.v (.p (.slice none 0 0))) (SoC.frz (SlF.nil dT_api_Layer)) (fun v h => by cases h; simp) (5 :: 0 :: 1 :: 1 :: 1 :: 0 :: σ) H25 (S27.wk2 (all_cons (at_mem 1 rfl) (all_cons (at_mem 0 rfl) all_nil)) all_nil)) 
    · intro r85_0 yg35 yg40 v88 h89 v90 h91 s92 c94 h95 h96 s97 H86 S87
      refine Sim.ext (ctl_Read_a0_0 _ _ _ _ _ _ _) ?_
      obtain ⟨v99, h100, h101⟩ := h95.fr
      obtain ⟨w102, H103, h108, e104, e105, e106, S107⟩ := S87.frzV (i := 1) (n := 8) (ys := [(.p (.int .i64 yg40.Kind)), (.p (.int .i64 yg40.Cap)), v99, (.p (.int .i64 yg40.Peer)), (.p (.int .i64 yg40.Height)), (.p (.int .i64 yg40.Class)), (.p (.int .i64 yg40.Layer)), (.p (.int .i64 yg40.Code))]) rfl rfl ⟨(FrC.v (still_int _ _)), ⟨(FrC.v (still_int _ _)), ⟨h100, ⟨(FrC.v (still_int _ _)), ⟨(FrC.v (still_int _ _)), ⟨(FrC.v (still_int _ _)), ⟨(FrC.v (still_int _ _)), ⟨(FrC.v (still_int _ _)), trivial⟩⟩⟩⟩⟩⟩⟩⟩ rfl (by decide)
      refine Sim.op (e104) ?_
      erw [callFO_eq (frzAs_cons (frzA_aggL (frz_of_lay e106)) frzAs_nil)]
      refine Sim.call (ctl_Bytes_ok k ((⟨yg40.Kind, yg40.Cap, yg40.Layers, yg40.Peer, yg40.Height, yg40.Class, yg40.Layer, yg40.Code⟩ : T_api_Ctl)) (show dT_api_Ctl.R ((⟨yg40.Kind, yg40.Cap, yg40.Layers, yg40.Peer, yg40.Height, yg40.Class, yg40.Layer, yg40.Code⟩ : T_api_Ctl)) [.p (.int .i64 yg40.Kind), .p (.int .i64 yg40.Cap), v99, .p (.int .i64 yg40.Peer), .p (.int .i64 yg40.Height), .p (.int .i64 yg40.Class), .p (.int .i64 yg40.Layer), .p (.int .i64 yg40.Code)] from (dT_api_Ctl.mk h101))) fun r109 cs110 H111 h112 q113 => ?_
      obtain ⟨c114, cs115, h116, h117, q113⟩ := q113
      cases q113
      obtain ⟨v118, H119, e120, S121⟩ := S107.landN (dt := (dI .u8)) (d := 69) h116 h117 (by decide) rfl (.p (.int .i64 r109.2)) []
      erw [e120]
      refine Sim.op (rfl) ?_
      refine Sim.op (rfl) ?_
      refine Sim.op (castI_p _ _) ?_
      refine Sim.ch (P := fun r y => (.p (.bool r), H119) = y) ?_ (fun b128 y129 h130 h131 => ?_)
      · refine Sim.cd (fun hc => ?_) (fun hc => ?_)
        · exact Sim.ret rfl rfl
        · refine Sim.call (slices_Equal_Lbyte_byte_ok k r109.1 (S121.sl (i := 0) rfl) r85_0 (S121.low h89)) fun r123 cs124 H125 h126 q127 => ?_
          cases q127
          refine Sim.op (asB_p _) ?_
          exact Sim.ret rfl rfl
      subst h131
      refine Sim.op (asB_p _) ?_
      refine Sim.cd (fun hc => ?_) (fun hc => ?_)
      · refine Sim.op (bldV pt_nil (by kernel_rfl : _ = some (.agg [.p (.int .i64 0), .p (.int .i64 0), .p (.slice none 0 0), .p (.int .i64 0), .p (.int .i64 0), .p (.int .i64 0), .p (.int .i64 0), .p (.int .i64 0)]))) ?_
        obtain ⟨H132, e133, S134⟩ := S121.stGv (i := 0) (j := 0) (own := false) (σ := (1 :: 0 :: 1 :: 1 :: 0 :: 1 :: 1 :: 1 :: 1 :: 1 :: 0 :: σ)) (xs := [.p (.int .i64 0), .p (.int .i64 0), .p (.slice none 0 0), .p (.int .i64 0), .p (.int .i64 0), .p (.int .i64 0), .p (.int .i64 0), .p (.int .i64 0)]) rfl rfl (stills_cons (still_int _ _) (stills_cons (still_int _ _) (stills_cons (SlF.nil dT_api_Layer).still (stills_cons (still_int _ _) (stills_cons (still_int _ _) (stills_cons (still_int _ _) (stills_cons (still_int _ _) (stills_cons (still_int _ _) stills_nil)))))))) rfl rfl
        refine Sim.op (st_map e133) ?_
        have e135 : ldO true 8 H132 (.ref ⟨h.length, 2, 0, s92, []⟩ 0) = some (.agg [.p (.int .i64 0), .p (.int .i64 0), .p (.slice none 0 0), .p (.int .i64 0), .p (.int .i64 0), .p (.int .i64 0), .p (.int .i64 0), .p (.int .i64 0)]) := (S134.atG (i := 0) rfl).ldVs (j := 0) (xs := [.p (.int .i64 0), .p (.int .i64 0), .p (.slice none 0 0), .p (.int .i64 0), .p (.int .i64 0), .p (.int .i64 0), .p (.int .i64 0), .p (.int .i64 0)]) rfl rfl (by decide)
        refine Sim.op (show _ = some [(.agg [.p (.int .i64 0), .p (.int .i64 0), .p (.slice none 0 0), .p (.int .i64 0), .p (.int .i64 0), .p (.int .i64 0), .p (.int .i64 0), .p (.int .i64 0)]), (.p (.int .i64 12))] from by simp only [e135, Option.bind_some, Option.map_some]) ?_
        exact Sim.fin (S134.finN (lv_cons (Stills.lv (dT_api_Ctl.still (dT_api_Ctl.mk (SlF.nil dT_api_Layer)))) (lv_cons (still_int _ _).lv lv_nil))) ⟨[.p (.int .i64 0), .p (.int .i64 0), .p (.slice none 0 0), .p (.int .i64 0), .p (.int .i64 0), .p (.int .i64 0), .p (.int .i64 0), .p (.int .i64 0)], (show dT_api_Ctl.R ((⟨0, 0, (([] : List T_api_Layer)), 0, 0, 0, 0, 0⟩ : T_api_Ctl)) [.p (.int .i64 0), .p (.int .i64 0), .p (.slice none 0 0), .p (.int .i64 0), .p (.int .i64 0), .p (.int .i64 0), .p (.int .i64 0), .p (.int .i64 0)] from (dT_api_Ctl.mk (SlF.nil dT_api_Layer))), rfl⟩
      · refine Sim.op ((S121.atG (i := 1) rfl).ldVs (j := 0) (xs := [.p (.int .i64 yg40.Kind), .p (.int .i64 yg40.Cap), v99, .p (.int .i64 yg40.Peer), .p (.int .i64 yg40.Height), .p (.int .i64 yg40.Class), .p (.int .i64 yg40.Layer), .p (.int .i64 yg40.Code)]) rfl rfl (by decide)) ?_
        obtain ⟨H136, e137, S138⟩ := S121.stGv (i := 0) (j := 0) (own := false) (σ := (1 :: 0 :: 1 :: 1 :: 1 :: 1 :: 1 :: 1 :: 0 :: σ)) (xs := [.p (.int .i64 yg40.Kind), .p (.int .i64 yg40.Cap), v99, .p (.int .i64 yg40.Peer), .p (.int .i64 yg40.Height), .p (.int .i64 yg40.Class), .p (.int .i64 yg40.Layer), .p (.int .i64 yg40.Code)]) rfl rfl (stills_cons (still_int _ _) (stills_cons (still_int _ _) (stills_cons h101.still (stills_cons (still_int _ _) (stills_cons (still_int _ _) (stills_cons (still_int _ _) (stills_cons (still_int _ _) (stills_cons (still_int _ _) stills_nil)))))))) rfl rfl
        refine Sim.op (st_map e137) ?_
        have e139 : ldO true 8 H136 (.ref ⟨h.length, 2, 0, s92, []⟩ 0) = some (.agg [.p (.int .i64 yg40.Kind), .p (.int .i64 yg40.Cap), v99, .p (.int .i64 yg40.Peer), .p (.int .i64 yg40.Height), .p (.int .i64 yg40.Class), .p (.int .i64 yg40.Layer), .p (.int .i64 yg40.Code)]) := (S138.atG (i := 0) rfl).ldVs (j := 0) (xs := [.p (.int .i64 yg40.Kind), .p (.int .i64 yg40.Cap), v99, .p (.int .i64 yg40.Peer), .p (.int .i64 yg40.Height), .p (.int .i64 yg40.Class), .p (.int .i64 yg40.Layer), .p (.int .i64 yg40.Code)]) rfl rfl (by decide)
        refine Sim.op (show _ = some [(.agg [.p (.int .i64 yg40.Kind), .p (.int .i64 yg40.Cap), v99, .p (.int .i64 yg40.Peer), .p (.int .i64 yg40.Height), .p (.int .i64 yg40.Class), .p (.int .i64 yg40.Layer), .p (.int .i64 yg40.Code)]), (.p (.int .i64 0))] from by simp only [e139, Option.bind_some, Option.map_some]) ?_
        exact Sim.fin (S138.finN (lv_cons (Stills.lv (dT_api_Ctl.still (dT_api_Ctl.mk h101))) (lv_cons (still_int _ _).lv lv_nil))) ⟨[.p (.int .i64 yg40.Kind), .p (.int .i64 yg40.Cap), v99, .p (.int .i64 yg40.Peer), .p (.int .i64 yg40.Height), .p (.int .i64 yg40.Class), .p (.int .i64 yg40.Layer), .p (.int .i64 yg40.Code)], (show dT_api_Ctl.R ((⟨yg40.Kind, yg40.Cap, yg40.Layers, yg40.Peer, yg40.Height, yg40.Class, yg40.Layer, yg40.Code⟩ : T_api_Ctl)) [.p (.int .i64 yg40.Kind), .p (.int .i64 yg40.Cap), v99, .p (.int .i64 yg40.Peer), .p (.int .i64 yg40.Height), .p (.int .i64 yg40.Class), .p (.int .i64 yg40.Layer), .p (.int .i64 yg40.Code)] from (dT_api_Ctl.mk h101)), rfl⟩
    · intro r140_3 yg35 v143 h144 s145 H141 S142
      refine Sim.ext (ctl_Read_a0_ret _ _ _ _ _ _) ?_
      have e147 : ldO true 8 H141 (.ref ⟨h.length, 2, 0, s145, []⟩ 0) = some (.agg [.p (.int .i64 yg35.Kind), .p (.int .i64 yg35.Cap), v143, .p (.int .i64 yg35.Peer), .p (.int .i64 yg35.Height), .p (.int .i64 yg35.Class), .p (.int .i64 yg35.Layer), .p (.int .i64 yg35.Code)]) := (S142.atG (i := 0) rfl).ldVs (j := 0) (xs := [.p (.int .i64 yg35.Kind), .p (.int .i64 yg35.Cap), v143, .p (.int .i64 yg35.Peer), .p (.int .i64 yg35.Height), .p (.int .i64 yg35.Class), .p (.int .i64 yg35.Layer), .p (.int .i64 yg35.Code)]) rfl rfl (by decide)
      refine Sim.op (show _ = some [(.agg [.p (.int .i64 yg35.Kind), .p (.int .i64 yg35.Cap), v143, .p (.int .i64 yg35.Peer), .p (.int .i64 yg35.Height), .p (.int .i64 yg35.Class), .p (.int .i64 yg35.Layer), .p (.int .i64 yg35.Code)]), (.p (.int .i64 r140_3))] from by simp only [e147, Option.bind_some, Option.map_some]) ?_
      exact Sim.fin (S142.finN (lv_cons (Stills.lv (dT_api_Ctl.still (dT_api_Ctl.mk h144))) (lv_cons (still_int _ _).lv lv_nil))) ⟨[.p (.int .i64 yg35.Kind), .p (.int .i64 yg35.Cap), v143, .p (.int .i64 yg35.Peer), .p (.int .i64 yg35.Height), .p (.int .i64 yg35.Class), .p (.int .i64 yg35.Layer), .p (.int .i64 yg35.Code)], (show dT_api_Ctl.R ((⟨yg35.Kind, yg35.Cap, yg35.Layers, yg35.Peer, yg35.Height, yg35.Class, yg35.Layer, yg35.Code⟩ : T_api_Ctl)) [.p (.int .i64 yg35.Kind), .p (.int .i64 yg35.Cap), v143, .p (.int .i64 yg35.Peer), .p (.int .i64 yg35.Height), .p (.int .i64 yg35.Class), .p (.int .i64 yg35.Layer), .p (.int .i64 yg35.Code)] from (dT_api_Ctl.mk h144)), rfl⟩
end Go.Ev
namespace Go.Ev
set_option maxRecDepth 100000
set_option linter.unusedSimpArgs false
/-! ### Numbers, read -/
theorem or_u64 {a b : Int} (ha : 0 ≤ a) (ha2 : a < 2 ^ 56) (hb : 0 ≤ b ∧ b < 256) : intBits .or .u64 (IntKind.wrap .u64 (a * 2 ^ 8)) (IntKind.wrap .u64 b) = a * 256 + b := by
  obtain ⟨m, rfl⟩ : ∃ m : Nat, a = m := ⟨a.toNat, by omega⟩
  obtain ⟨n, rfl⟩ : ∃ n : Nat, b = n := ⟨b.toNat, by omega⟩
  have w1 : IntKind.wrap .u64 ((m : Int) * 2 ^ 8) = ((m * 256 : Nat) : Int) := by rw [wrap_u64 (by omega) (by omega)]; omega
  have w2 : IntKind.wrap .u64 (n : Int) = (n : Int) := wrap_u64 (by omega) (by omega)
  rw [w1, w2]
  have hor : m * 256 ||| n = m * 256 + n := by
    have := Nat.shiftLeft_add_eq_or_of_lt (b := n) (i := 8) (by omega) m
    rw [Nat.shiftLeft_eq] at this
    exact this.symm
  have h1 : (BitVec.ofInt 64 ((m * 256 : Nat) : Int) ||| BitVec.ofInt 64 (n : Int)).toNat = m * 256 + n := by
    rw [BitVec.toNat_or, BitVec.toNat_ofInt, BitVec.toNat_ofInt]
    have e1 : (((m * 256 : Nat) : Int) % ((2 ^ 64 : Nat) : Int)).toNat = m * 256 := by rw [Int.emod_eq_of_lt (by omega) (by omega)]; rfl
    have e2 : (((n : Nat) : Int) % ((2 ^ 64 : Nat) : Int)).toNat = n := by rw [Int.emod_eq_of_lt (by omega) (by omega)]; rfl
    rw [e1, e2, hor]
  show IntKind.wrap .u64 (((BitVec.ofInt 64 ((m * 256 : Nat) : Int) ||| BitVec.ofInt 64 (n : Int)).toNat : Nat) : Int) = _
  rw [h1, show ((m * 256 + n : Nat) : Int) = (m : Int) * 256 + n by omega]
  exact wrap_u64 (by omega) (by omega)
theorem get_l0 {β : Type} (kE0 : Int → Option β) (xs : List Int) (hx : isB xs) (hl : xs.length ≤ 8) : ∀ (rest pre : List Int) (j : Nat) (a : Int), xs = pre ++ rest → 0 ≤ a → a < 256 ^ pre.length →
    p_octet_Get_l0 (j + rest.length + 1) kE0 a xs (xs.length : Int) (pre.length : Int) = kE0 (getB a rest)
  | [], pre, j, a, h, _, _ => by
    rw [p_octet_Get_l0]
    have h1 : decide ((pre.length : Int) < (xs.length : Int)) = false := by subst h; simp
    rw [h1, cond_false, getB]
  | b :: rest, pre, j, a, h, h0, ha => by
    have hplen : pre.length + 1 ≤ xs.length := by rw [h, List.length_append, List.length_cons]; omega
    rw [List.length_cons, show j + (rest.length + 1) + 1 = (j + rest.length + 1) + 1 from rfl, p_octet_Get_l0]
    have h1 : decide ((pre.length : Int) < (xs.length : Int)) = true := decide_eq_true (by omega)
    have h2 : ix xs (pre.length : Int) = some b := ix_mid' h rfl
    have h4 : IntKind.wrap .i64 ((pre.length : Int) + 1) = (((pre ++ [b]).length : Nat) : Int) := by rw [wrap_i64 (by omega) (by omega)]; simp
    have hb := hx b (by rw [h]; simp)
    have hpow : (256 : Int) ^ pre.length ≤ 256 ^ 7 := by
      have : (256 : Nat) ^ pre.length ≤ 256 ^ 7 := Nat.pow_le_pow_right (by omega) (by omega)
      exact_mod_cast this
    have h56 : a < 2 ^ 56 := by
      have : (256 : Int) ^ 7 = 2 ^ 56 := rfl
      omega
    rw [h1, cond_true, h2, Option.bind_some, or_u64 h0 h56 hb, h4, get_l0 kE0 xs hx hl rest (pre ++ [b]) j _ (by rw [h]; simp) (by omega) (by
      rw [List.length_append, List.length_cons, List.length_nil, Int.pow_succ]
      omega), getB]
theorem get_ok {k : Nat} (hk : 10 ≤ k) {xs : List Int} (hx : isB xs) (hl : xs.length < 2 ^ 30) {a n : Nat} (h : a + n ≤ xs.length) (h1 : 1 ≤ n) (h8 : n ≤ 8) : p_octet_Get k xs (a : Int) (n : Int) = some (getB 0 ((xs.drop a).take n), true) := by
  unfold p_octet_Get
  rw [cut_ok h (by omega), Option.bind_some]
  have d1 : decide ((n : Int) < 1) = false := decide_eq_false (by omega)
  have d2 : decide ((n : Int) > 8) = false := decide_eq_false (by omega)
  simp only [Bool.not_true, cond_false, d1, d2, Option.bind_some]
  have hlen : ((xs.drop a).take n).length = n := by rw [List.length_take, List.length_drop]; omega
  have hB : isB ((xs.drop a).take n) := fun x hx' => hx x (List.mem_of_mem_drop (List.mem_of_mem_take hx'))
  have := get_l0 (fun r => some (r, true)) ((xs.drop a).take n) hB (by omega) ((xs.drop a).take n) [] (k - n - 1) 0 rfl (by omega) (by simp)
  rw [hlen] at this ⊢
  rw [show k - n - 1 + n + 1 = k by omega] at this
  exact this
theorem get_big {k : Nat} {xs : List Int} (hl : xs.length < 2 ^ 30) {a n : Nat} (h : a + n ≤ xs.length) (h8 : 8 < n) : p_octet_Get k xs (a : Int) (n : Int) = some (0, false) := by
  unfold p_octet_Get
  rw [cut_ok h (by omega), Option.bind_some]
  have d1 : decide ((n : Int) < 1) = false := decide_eq_false (by omega)
  have d2 : decide ((n : Int) > 8) = true := decide_eq_true (by omega)
  simp only [Bool.not_true, cond_false, cond_true, d1, d2, Option.bind_some]
theorem get_no {k : Nat} {xs : List Int} (hl : xs.length < 2 ^ 30) {a n : Nat} (h : xs.length < a + n) : p_octet_Get k xs (a : Int) (n : Int) = some (0, false) := by
  unfold p_octet_Get
  rw [cut_no h (by omega), Option.bind_some]
  simp only [Bool.not_false, cond_true, Option.bind_some]
/-! ### A field is taken -/
theorem take_lay {k : Nat} (hk : 20 ≤ k) {c : T_api_Ctl} (hc : c.Layers.length < 100) {a : T_api_Layer} (h : okLy a) (hr : 1 ≤ a.Rid.size) : p_ctl_take k c 2 (layF a).2 = some { c with Layers := c.Layers ++ [a] } := by
  obtain ⟨o1, o2, o3⟩ := h
  have hlen := layF_len a
  have hB : isB (layF a).2 := fun x hx => by
    simp only [layF] at hx
    rcases List.mem_append.1 hx with hx | hx
    · rcases List.mem_append.1 hx with hx | hx
      · exact putB_isB _ _ x hx
      · exact putB_isB _ _ x hx
    · simp only [bytesS, List.mem_map] at hx
      obtain ⟨b, _, rfl⟩ := hx
      have := b.toNat_lt
      omega
  have hd : (layF a).2 = putB a.Ssrc 4 ++ putB a.Height 2 ++ bytesS a.Rid := rfl
  generalize (layF a).2 = d at hd hB hlen
  have g0 : ∃ r, p_octet_Get k d 0 (d.length : Int) = some r := by
    by_cases h8 : d.length ≤ 8
    · exact ⟨_, get_ok (a := 0) (by omega) hB (by omega) (by omega) (by omega) h8⟩
    · exact ⟨_, get_big (a := 0) (by omega) (by omega) (by omega)⟩
  obtain ⟨r, g0⟩ := g0
  have t1 : (d.drop 0).take 4 = putB a.Ssrc 4 := by
    rw [List.drop_zero, hd, List.append_assoc, List.take_left' (putB_len _ _)]
  have t2 : (d.drop 4).take 2 = putB a.Height 2 := by
    rw [hd, List.append_assoc, List.drop_left' (putB_len _ _), List.take_left' (putB_len _ _)]
  have t3 : (d.drop 6).take (d.length - 6) = bytesS a.Rid := by
    rw [List.take_of_length_le (by rw [List.length_drop]; omega), hd, List.drop_left' (by rw [List.length_append, putB_len, putB_len])]
  have g1 : p_octet_Get k d 0 4 = some (a.Ssrc, true) := by
    have := get_ok (k := k) (a := 0) (n := 4) (by omega) hB (by omega) (by omega) (by omega) (by omega)
    rw [t1, getB_putB _ o1.1] at this
    rw [Int.emod_eq_of_lt o1.1 (by have := o1.2; omega)] at this
    simpa using this
  have g2 : p_octet_Get k d 4 2 = some (a.Height, true) := by
    have := get_ok (k := k) (a := 4) (n := 2) (by omega) hB (by omega) (by omega) (by omega) (by omega)
    rw [t2, getB_putB _ o2.1] at this
    rw [Int.emod_eq_of_lt o2.1 (by have := o2.2; omega)] at this
    simpa using this
  have m1 : (if ((d.length : Int)) < 6 then ((d.length : Int)) else 6) = ((6 : Nat) : Int) := if_neg (by omega)
  have w1 : IntKind.wrap .i64 ((d.length : Int) - 4) = (d.length : Int) - 4 := wrap_i64 (by omega) (by omega)
  have w2 : IntKind.wrap .i64 ((d.length : Int) - 4 - 2) = ((d.length - 6 : Nat) : Int) := by rw [wrap_i64 (by omega) (by omega)]; omega
  have m2 : (if ((d.length - 6 : Nat) : Int) > 0 then ((d.length - 6 : Nat) : Int) else 0) = ((d.length - 6 : Nat) : Int) := if_pos (by omega)
  have c1 := cut_ok (xs := d) (a := 6) (n := d.length - 6) (by omega) (by omega)
  rw [t3] at c1
  have u1 : IntKind.wrap .u32 a.Ssrc = a.Ssrc := wrap_u32 o1.1 (by have := o1.2; omega)
  have u2 : IntKind.wrap .i64 a.Height = a.Height := wrap_i64 (by omega) (by have := o2.2; omega)
  unfold p_ctl_take
  simp only [g0, Option.bind_some, show ((2 : Int) == 1) = false from rfl, show ((2 : Int) == 2) = true from rfl, cond_false, cond_true, g1, g2, w1, w2, m1, m2, c1, strB_bytesS, u1, u2]
  rw [ap_eq (by decide) (by simp only [List.length_cons, List.length_nil]; omega), Option.bind_some]
/-- What a number's field does. -/
def setN (c : T_api_Ctl) (nm n : Int) : T_api_Ctl :=
  bif nm == 1 then { c with Cap := n } else bif nm == 3 then { c with Peer := n } else bif nm == 4 then { c with Height := n } else bif nm == 5 then { c with Class := n } else bif nm == 6 then { c with Layer := n } else bif nm == 7 then { c with Code := n } else c
theorem take_num {k : Nat} (hk : 20 ≤ k) (c : T_api_Ctl) {nm n : Int} {s : Nat} (h1 : 1 ≤ s) (h8 : s ≤ 8) (h0 : 0 ≤ n) (hn : n < 256 ^ s) (h63 : n < 2 ^ 63) (h2 : (nm == 2) = false) : p_ctl_take k c nm (putB n s) = some (setN c nm n) := by
  have g := get_ok (k := k) (a := 0) (n := s) (xs := putB n s) (by omega) (putB_isB n s) (by rw [putB_len]; omega) (by rw [putB_len]; omega) h1 h8
  rw [List.drop_zero, List.take_of_length_le (by rw [putB_len]; omega), getB_putB n h0, Int.emod_eq_of_lt h0 hn] at g
  have g' : p_octet_Get k (putB n s) 0 ((putB n s).length : Int) = some (n, true) := by rw [putB_len]; simpa using g
  have w : IntKind.wrap .i64 n = n := wrap_i64 (by omega) (by omega)
  unfold p_ctl_take setN
  rw [g', Option.bind_some]
  simp only [w, h2, cond_false]
  cases (nm == 1) <;> cases (nm == 3) <;> cases (nm == 4) <;> cases (nm == 5) <;> cases (nm == 6) <;> cases (nm == 7) <;> rfl
/-! ### All of them -/
inductive Steps : T_api_Ctl → List Fd → T_api_Ctl → Prop
  | nil (c : T_api_Ctl) : Steps c [] c
  | cons {c c' c'' : T_api_Ctl} {f : Fd} {fs : List Fd} (hf : okF f) (ht : ∀ k, 20 ≤ k → p_ctl_take k c f.1 f.2 = some c') (hs : Steps c' fs c'') : Steps c (f :: fs) c''
theorem Steps.append {a b c : T_api_Ctl} {fs gs : List Fd} (h : Steps a fs b) (k : Steps b gs c) : Steps a (fs ++ gs) c := by
  induction h with
  | nil => exact k
  | cons hf ht _ ih => exact .cons hf ht (ih k)
theorem steps_lays : ∀ (l : List T_api_Layer) (c : T_api_Ctl), c.Layers.length + l.length < 100 → (∀ a ∈ l, okLy a ∧ 1 ≤ a.Rid.size) → Steps c (l.map layF) { c with Layers := c.Layers ++ l }
  | [], c, _, _ => by rw [List.append_nil]; exact .nil c
  | a :: l, c, hl, h => by
    rw [List.length_cons] at hl
    obtain ⟨h1, h2⟩ := h a (List.mem_cons_self ..)
    have ih := steps_lays l { c with Layers := c.Layers ++ [a] } (by simp only [List.length_append, List.length_cons, List.length_nil]; omega) fun x hx => h x (List.mem_cons_of_mem _ hx)
    simp only [List.append_assoc, List.cons_append, List.nil_append] at ih
    exact .cons (layF_ok h1) (fun k hk => take_lay hk (by omega) h1 h2) ih
theorem steps_one {K : Int} {a : It} (h : PT K a) (h2 : (a.name == 2) = false) {c c' : T_api_Ctl} (hz : a.n = 0 → c = c') (hc : setN c a.name a.n = c') : Steps c (bif hasB K a.name then [itF a] else []) c' := by
  obtain ⟨⟨o1, o2, o3, o4⟩, hlt, hz0⟩ := h
  cases hh : hasB K a.name with
  | false => rw [cond_false, ← hz (hz0 hh)]; exact .nil c
  | true =>
    rw [cond_true]
    obtain ⟨s, hs⟩ : ∃ s : Nat, a.size = s := ⟨a.size.toNat, by omega⟩
    have hit : itF a = (a.name, putB a.n s) := by rw [itF, hs, Int.toNat_natCast]
    rw [hs, Int.toNat_natCast] at hlt
    rw [hit]
    refine .cons ⟨o1, by simp only; rw [putB_len]; omega⟩ (fun k hk => ?_) (.nil _)
    rw [← hc]
    exact take_num hk c (by omega) (by omega) o3 hlt o4 h2
theorem Ly.rid {p : Int} {l : List T_api_Layer} (h : Ly p l) : ∀ a ∈ l, 1 ≤ a.Rid.size := by
  have O : ∀ (i : Nat) (r : Int), 1 ≤ (tpL p i r).Rid.size := fun i r => by
    rcases i with _ | _ | i
    · show 1 ≤ (nmL 0).size; decide
    · show 1 ≤ (nmL 1).size; decide
    · show 1 ≤ (⟨#[72, 73]⟩ : ByteArray).size; decide
  rcases h with ⟨r, _, rfl⟩ | ⟨r, s, _, _, rfl⟩ | ⟨r, s, u, _, _, _, rfl⟩ <;> intro a ha <;> simp only [List.mem_cons, List.not_mem_nil, or_false] at ha
  · subst ha; exact O 0 r
  · rcases ha with rfl | rfl
    · exact O 0 r
    · exact O 1 s
  · rcases ha with rfl | rfl | rfl
    · exact O 0 r
    · exact O 1 s
    · exact O 2 u
theorem TC.steps {c : T_api_Ctl} (h : TC c) : Steps ⟨c.Kind, 0, [], 0, 0, 0, 0, 0⟩ (flds c) c := by
  have hr : ∀ a ∈ c.Layers, 1 ≤ a.Rid.size := by
    rcases h.2.2.2.1 with ⟨_, ⟨p, hp, hl⟩, _⟩ | ⟨_, hl⟩
    · exact hl.rid
    · rw [hl]; intro a ha; cases ha
  have ho := h.okC
  have hpt := h.2.2.2.2
  have h1 := steps_lays c.Layers ⟨c.Kind, 0, [], 0, 0, 0, 0, 0⟩ (by have := ho.2.1; simp only [List.length_nil]; omega) fun a ha => ⟨ho.2.2.1 a ha, hr a ha⟩
  refine h1.append ?_
  obtain ⟨K, cap, lay, peer, height, cls, layer, code⟩ := c
  simp only [List.nil_append]
  have P : ∀ a ∈ six ⟨K, cap, lay, peer, height, cls, layer, code⟩, PT K a := hpt
  simp only [selF, six, List.flatMap_cons, List.flatMap_nil, List.append_nil]
  have m : ∀ a, a ∈ six ⟨K, cap, lay, peer, height, cls, layer, code⟩ → PT K a := P
  refine (steps_one (m ⟨1, 8, cap⟩ (by simp [six])) rfl (c' := ⟨K, cap, lay, 0, 0, 0, 0, 0⟩) (fun hz => by simp only at hz; rw [hz]) rfl).append ?_
  refine (steps_one (m ⟨3, 1, peer⟩ (by simp [six])) rfl (c' := ⟨K, cap, lay, peer, 0, 0, 0, 0⟩) (fun hz => by simp only at hz; rw [hz]) rfl).append ?_
  refine (steps_one (m ⟨4, 2, height⟩ (by simp [six])) rfl (c' := ⟨K, cap, lay, peer, height, 0, 0, 0⟩) (fun hz => by simp only at hz; rw [hz]) rfl).append ?_
  refine (steps_one (m ⟨5, 1, cls⟩ (by simp [six])) rfl (c' := ⟨K, cap, lay, peer, height, cls, 0, 0⟩) (fun hz => by simp only at hz; rw [hz]) rfl).append ?_
  refine (steps_one (m ⟨6, 1, layer⟩ (by simp [six])) rfl (c' := ⟨K, cap, lay, peer, height, cls, layer, 0⟩) (fun hz => by simp only at hz; rw [hz]) rfl).append ?_
  exact steps_one (m ⟨7, 1, code⟩ (by simp [six])) rfl (fun hz => by simp only at hz; rw [hz]) rfl
theorem read8_l0 {β : Type} (kE0 : List Int → T_api_Ctl → T_api_Ctl → Option β) (kE1 : Int → T_api_Ctl → Option β) (xs suf : List Int) (hl : xs.length < 2 ^ 29) (hs : suf.length ≤ 1) (y : T_api_Ctl) {c c' : T_api_Ctl} {fs : List Fd} (h : Steps c fs c') : ∀ (pre : List Int) (j : Nat), 20 ≤ j → xs = pre ++ fs.flatMap encF ++ suf →
    p_ctl_Read_l0 (j + fs.length + 1) kE0 kE1 xs (pre.length : Int) y c = kE0 xs y c' := by
  induction h with
  | nil c =>
    intro pre j hj hx
    rw [p_ctl_Read_l0]
    have hlen : xs.length = pre.length + suf.length := by rw [hx]; simp
    have w : IntKind.wrap .i64 ((pre.length : Int) + 1) = (pre.length : Int) + 1 := wrap_i64 (by omega) (by omega)
    have d : decide ((pre.length : Int) + 1 < (xs.length : Int)) = false := decide_eq_false (by omega)
    rw [w, d, cond_false]
  | cons hf ht _ ih =>
    rename_i c c1 c2 f fs hst
    intro pre j hj hx
    obtain ⟨o1, o2⟩ := hf
    rw [List.length_cons, show j + (fs.length + 1) + 1 = (j + fs.length + 1) + 1 from rfl, p_ctl_Read_l0]
    have hx2 : xs = pre ++ (f.1 :: (f.2.length : Int) :: f.2) ++ (fs.flatMap encF ++ suf) := by rw [hx, List.flatMap_cons, encF]; simp
    have g0 : xs[pre.length]? = some f.1 := by rw [hx2]; simp
    have g1 : xs[pre.length + 1]? = some (f.2.length : Int) := by rw [hx2]; simp
    have hlen : pre.length + 2 + f.2.length ≤ xs.length := by rw [hx2]; simp; omega
    have g2 : (xs.drop (pre.length + 2)).take f.2.length = f.2 := by
      rw [hx2, List.append_assoc, ← List.drop_drop, List.drop_left]
      simp
    have w1 : IntKind.wrap .i64 ((pre.length : Int) + 1) = ((pre.length + 1 : Nat) : Int) := by rw [wrap_i64 (by omega) (by omega)]; rfl
    have w2 : IntKind.wrap .i64 ((pre.length : Int) + 2) = ((pre.length + 2 : Nat) : Int) := by rw [wrap_i64 (by omega) (by omega)]; rfl
    have w3 : IntKind.wrap .i64 (f.2.length : Int) = (f.2.length : Int) := wrap_i64 (by omega) (by omega)
    have w4 : IntKind.wrap .i64 f.1 = f.1 := wrap_i64 (by omega) (by omega)
    have w5 : IntKind.wrap .i64 (2 + (f.2.length : Int)) = 2 + (f.2.length : Int) := wrap_i64 (by omega) (by omega)
    have w6 : IntKind.wrap .i64 ((pre.length : Int) + (2 + (f.2.length : Int))) = (((pre ++ encF f).length : Nat) : Int) := by rw [wrap_i64 (by omega) (by omega), List.length_append, encF_len]; omega
    have d : decide (((pre.length + 1 : Nat) : Int) < (xs.length : Int)) = true := decide_eq_true (by omega)
    have ht' : p_ctl_take (j + fs.length + 1) (⟨c.Kind, c.Cap, c.Layers, c.Peer, c.Height, c.Class, c.Layer, c.Code⟩ : T_api_Ctl) f.1 f.2 = some c1 := ht _ (by omega)
    have hcut := cut_ok (xs := xs) (a := pre.length + 2) (n := f.2.length) (by omega) (by omega)
    rw [g2] at hcut
    simp only [w1, d, cond_true, ix_at g1, Option.bind_some, w2, w3, hcut, Bool.not_true, cond_false, ix_at g0, w4, ht', w5, w6]
    exact ih (pre ++ encF f) j hj (by rw [hx, List.flatMap_cons]; simp)
theorem equal_l0 {β : Type} (kE0 : Unit → Option β) (kE1 : Bool → Option β) (l : List Int) (hl : l.length < 2 ^ 30) : ∀ (rest pre : List Int) (j : Nat), l = pre ++ rest →
    p_slices_Equal_Lbyte_byte_l0 (j + rest.length + 1) kE0 kE1 l l (l.length : Int) (pre.length : Int) = kE0 ()
  | [], pre, j, h => by
    rw [p_slices_Equal_Lbyte_byte_l0]
    have h1 : decide ((pre.length : Int) < (l.length : Int)) = false := by subst h; simp
    rw [h1, cond_false]
  | x :: rest, pre, j, h => by
    have hplen : pre.length + 1 ≤ l.length := by rw [h, List.length_append, List.length_cons]; omega
    rw [List.length_cons, show j + (rest.length + 1) + 1 = (j + rest.length + 1) + 1 from rfl, p_slices_Equal_Lbyte_byte_l0]
    have h1 : decide ((pre.length : Int) < (l.length : Int)) = true := decide_eq_true (by omega)
    have h2 : ix l (pre.length : Int) = some x := ix_mid' h rfl
    have h4 : IntKind.wrap .i64 ((pre.length : Int) + 1) = (((pre ++ [x]).length : Nat) : Int) := by rw [wrap_i64 (by omega) (by omega)]; simp
    have h5 : (x != x) = false := by simp
    rw [h1, cond_true, h2, Option.bind_some, Option.bind_some, h5, cond_false, h4]
    exact equal_l0 kE0 kE1 l hl rest (pre ++ [x]) j (by rw [h]; simp)
theorem equal_self {l : List Int} {k : Nat} (hl : l.length < 2 ^ 30) (hk : l.length < k) : p_slices_Equal_Lbyte_byte k l l = some true := by
  unfold p_slices_Equal_Lbyte_byte
  have h0 : ((l.length : Int) != (l.length : Int)) = false := by simp
  rw [h0, cond_false]
  have := fun kE0 (kE1 : Bool → Option Bool) => equal_l0 kE0 kE1 l hl l [] (k - l.length - 1) rfl
  simp only [show k - l.length - 1 + l.length + 1 = k by omega, List.length_nil] at this
  exact this _ _
end Go.Ev
namespace Go.Ev
set_option maxRecDepth 100000
set_option linter.unusedSimpArgs false
theorem sel_blen (K : Int) : ∀ l : List It, ((selF K l).flatMap encF).length ≤ (l.map fun a => 2 + a.size.toNat).sum
  | [] => by simp [selF]
  | a :: l => by
    have := sel_blen K l
    have hs : selF K (a :: l) = (bif hasB K a.name then [itF a] else []) ++ selF K l := by simp only [selF, List.flatMap_cons]
    rw [hs, List.flatMap_append, List.length_append, List.map_cons, List.sum_cons]
    have : (((bif hasB K a.name then [itF a] else []) : List Fd).flatMap encF).length ≤ 2 + a.size.toNat := by
      cases hasB K a.name with
      | false => simp
      | true =>
        rw [cond_true, List.flatMap_cons, List.flatMap_nil, List.append_nil, encF_len, itF]
        simp only
        rw [putB_len]
        omega
    omega
theorem lays_blen : ∀ {l : List T_api_Layer}, (∀ a ∈ l, a.Rid.size ≤ 3) → ((l.map layF).flatMap encF).length ≤ 11 * l.length
  | [], _ => by simp
  | a :: l, h => by
    have := lays_blen (l := l) fun x hx => h x (List.mem_cons_of_mem _ hx)
    have h1 := h a (List.mem_cons_self ..)
    have h2 := layF_len a
    rw [List.map_cons, List.flatMap_cons, List.length_append, encF_len, List.length_cons]
    omega
theorem Ly.rid3 {p : Int} {l : List T_api_Layer} (h : Ly p l) : ∀ a ∈ l, a.Rid.size ≤ 3 := by
  have O : ∀ (i : Nat) (r : Int), (tpL p i r).Rid.size ≤ 3 := fun i r => by
    rcases i with _ | _ | i
    · show (nmL 0).size ≤ 3; decide
    · show (nmL 1).size ≤ 3; decide
    · show (⟨#[72, 73]⟩ : ByteArray).size ≤ 3; decide
  rcases h with ⟨r, _, rfl⟩ | ⟨r, s, _, _, rfl⟩ | ⟨r, s, u, _, _, _, rfl⟩ <;> intro a ha <;> simp only [List.mem_cons, List.not_mem_nil, or_false] at ha
  · subst ha; exact O 0 r
  · rcases ha with rfl | rfl
    · exact O 0 r
    · exact O 1 s
  · rcases ha with rfl | rfl | rfl
    · exact O 0 r
    · exact O 1 s
    · exact O 2 u
theorem TC.blen {c : T_api_Ctl} (h : TC c) : (bodyC c).length ≤ 33 := by
  have hs : ((selF c.Kind (six c)).flatMap encF).length ≤ 26 := sel_blen c.Kind (six c)
  have ho := h.okC.2.1
  have hb : (bodyC c).length = ((c.Layers.map layF).flatMap encF).length + ((selF c.Kind (six c)).flatMap encF).length := by
    unfold bodyC flds; rw [List.flatMap_append, List.length_append]
  rcases h.2.2.2.1 with ⟨_, ⟨p, hp, hl⟩, s1⟩ | ⟨_, hl⟩
  · have := lays_blen hl.rid3
    rw [s1] at hb
    simp only [List.flatMap_nil, List.length_nil] at hb
    omega
  · rw [hl] at hb
    simp only [List.map_nil, List.flatMap_nil, List.length_nil] at hb
    omega
theorem bytC_cons (c : T_api_Ctl) : bytC c = c.Kind :: (((bodyC c).length : Int) / 256 ^ 1 % 256) :: (((bodyC c).length : Int) / 256 ^ 0 % 256) :: bodyC c := rfl
theorem bytC_len (c : T_api_Ctl) : (bytC c).length = 3 + (bodyC c).length := by rw [bytC_cons]; simp only [List.length_cons]; omega
/-- The number of a head. -/
theorem head_num {c : T_api_Ctl} (h : TC c) {xs : List Int} (hx : isB xs) (hl : xs.length < 2 ^ 29) (h3 : 3 ≤ xs.length) (ht : xs.take 3 = (bytC c).take 3) : p_octet_Get 40 xs 1 2 = some (((bodyC c).length : Int), true) := by
  have hb := h.blen
  have g := get_ok (k := 40) (xs := xs) (a := 1) (n := 2) (by omega) hx (by omega) (by omega) (by omega) (by omega)
  have e : (xs.drop 1).take 2 = putB ((bodyC c).length : Int) 2 := by
    have e1 : (xs.drop 1).take 2 = (xs.take 3).drop 1 := by rw [List.drop_take]
    rw [e1, ht, bytC_cons]
    rfl
  rw [e, getB_putB _ (by omega), Int.emod_eq_of_lt (by omega) (by omega)] at g
  simpa using g
theorem read8 {c : T_api_Ctl} (h : TC c) {suf : List Int} (hs : suf.length ≤ 1) (hsb : isB suf) : p_ctl_Read 40 (bytC c ++ suf) = some (bif suf.isEmpty then (c, 0) else (⟨0, 0, [], 0, 0, 0, 0, 0⟩, 12)) := by
  have hb := h.blen
  have hl := bytC_len c
  have hB : isB (bytC c ++ suf) := fun x hx => by
    rcases List.mem_append.1 hx with hx | hx
    · exact bytC_isB h x hx
    · exact hsb x hx
  have hn := head_num h hB (by rw [List.length_append]; omega) (by rw [List.length_append]; omega) (by rw [List.take_append_of_le_length (by omega)])
  have h0 : (bytC c ++ suf)[0]? = some c.Kind := by rw [bytC_cons]; rfl
  have hk := h.1
  have hfl : (flds c).length ≤ 12 := by
    have h3 := selF_len c.Kind (six c)
    have h4 : (flds c).length = c.Layers.length + (selF c.Kind (six c)).length := by simp [flds]
    have h5 : (six c).length = 6 := rfl
    have h6 := h.okC.2.1
    omega
  have hxl : (bytC c ++ suf).length = 3 + (bodyC c).length + suf.length := by rw [List.length_append, hl]
  unfold p_ctl_Read
  rw [hn, Option.bind_some]
  have d1 : decide (((bytC c ++ suf).length : Int) < 3) = false := decide_eq_false (by omega)
  have w1 : IntKind.wrap .i64 (((bytC c ++ suf).length : Int) - 3) = ((bytC c ++ suf).length : Int) - 3 := wrap_i64 (by omega) (by omega)
  have w2 : IntKind.wrap .i64 ((bodyC c).length : Int) = ((bodyC c).length : Int) := wrap_i64 (by omega) (by omega)
  have w3 : IntKind.wrap .i64 c.Kind = c.Kind := wrap_i64 (by omega) (by omega)
  have d2 : decide (((bytC c ++ suf).length : Int) - 3 < ((bodyC c).length : Int)) = false := decide_eq_false (by omega)
  simp only [d1, w1, w2, d2, cond_false, Option.bind_some]
  rw [show (0 : Int) = ((0 : Nat) : Int) from rfl, ix_at h0, Option.bind_some, w3]
  have hr := fun (kE0 : List Int → T_api_Ctl → T_api_Ctl → Option (T_api_Ctl × Int)) kE1 y => read8_l0 kE0 kE1 (bytC c ++ suf) suf (by omega) hs y h.steps [c.Kind, ((bodyC c).length : Int) / 256 ^ 1 % 256, ((bodyC c).length : Int) / 256 ^ 0 % 256] (40 - (flds c).length - 1) (by omega) (by rw [bytC_cons]; rfl)
  simp only [show 40 - (flds c).length - 1 + (flds c).length + 1 = 40 by omega] at hr
  refine (hr _ _ _).trans ?_
  have hbyt : p_ctl_Bytes 40 (⟨c.Kind, c.Cap, c.Layers, c.Peer, c.Height, c.Class, c.Layer, c.Code⟩ : T_api_Ctl) = some (bytC c, 0) := h.bytes
  simp only [hbyt, Option.bind_some, show ((0 : Int) != 0) = false from rfl, cond_false]
  cases suf with
  | nil =>
    rw [List.append_nil, equal_self (by omega) (by omega)]
    rfl
  | cons x suf =>
    have : p_slices_Equal_Lbyte_byte 40 (bytC c) (bytC c ++ x :: suf) = some false := by
      unfold p_slices_Equal_Lbyte_byte
      have : ((((bytC c).length : Nat) : Int) != (((bytC c ++ x :: suf).length : Nat) : Int)) = true := by
        rw [List.length_append, List.length_cons]; simp; omega
      rw [this, cond_true]
    rw [this]
    rfl
theorem read8_cut {c : T_api_Ctl} (h : TC c) {m : Nat} (hm : m < (bytC c).length) : p_ctl_Read 40 ((bytC c).take m) = some (⟨0, 0, [], 0, 0, 0, 0, 0⟩, 13) := by
  have hb := h.blen
  have hl := bytC_len c
  have hlen : ((bytC c).take m).length = m := by rw [List.length_take]; omega
  have hB : isB ((bytC c).take m) := fun x hx => bytC_isB h x (List.mem_of_mem_take hx)
  unfold p_ctl_Read
  by_cases h3 : m < 3
  · have g := get_no (k := 40) (xs := (bytC c).take m) (a := 1) (n := 2) (by omega) (by omega)
    have g' : p_octet_Get 40 ((bytC c).take m) 1 2 = some (0, false) := by simpa using g
    have d1 : decide (((((bytC c).take m).length : Nat) : Int) < 3) = true := decide_eq_true (by omega)
    rw [g', Option.bind_some]
    simp only [d1, cond_true, Option.bind_some]
  · have hn := head_num h hB (by omega) (by omega) (by rw [List.take_take, Nat.min_eq_left (by omega)])
    have d1 : decide (((((bytC c).take m).length : Nat) : Int) < 3) = false := decide_eq_false (by omega)
    have w1 : IntKind.wrap .i64 (((((bytC c).take m).length : Nat) : Int) - 3) = (m : Int) - 3 := by rw [wrap_i64 (by omega) (by omega)]; omega
    have w2 : IntKind.wrap .i64 ((bodyC c).length : Int) = ((bodyC c).length : Int) := wrap_i64 (by omega) (by omega)
    have d2 : decide ((m : Int) - 3 < ((bodyC c).length : Int)) = true := decide_eq_true (by omega)
    rw [hn, Option.bind_some]
    simp only [d1, w1, w2, d2, cond_false, cond_true, Option.bind_some]
end Go.Ev
/- Equations, printed by tracer2.py. -/
namespace Go.Ev
open Go.Proofs
set_option linter.unusedVariables false
set_option maxRecDepth 100000
-- 8 limelight/limelightlaw8.CtlBack
theorem limelightlaw8_CtlBack_entry (rec : CallF) (loop : LoopV) (σ : Stamp) (x0 : V) (x1 : Int) (x2 : Int) (h : H) : cvBody G rec loop 8 σ [x0, (.p (.int .i64 x1)), (.p (.int .u8 x2))] h =
 (buildV Try.prog 26 [(0, x0)]).bind fun t1 =>
 (boxO false (2 :: 0 :: 1 :: 0 :: σ) 18 (List.replicate 75 [] :: h) t1).bind fun q2 =>
 (callO rec 28 (3 :: 0 :: 1 :: 0 :: σ) [q2.1] q2.2 (some 19)).bind fun q3 =>
 (some (alO [.p (.int .i64 0), .p (.int .i64 0), .p (.slice none 0 0), .p (.int .i64 0), .p (.int .i64 0), .p (.int .i64 0), .p (.int .i64 0), .p (.int .i64 0)] (4 :: 0 :: 1 :: 0 :: σ) 7 q3.2)).bind fun q4 =>
 ((stO false 8 (5 :: 0 :: 1 :: 0 :: σ) q4.2 q4.1 q3.1).map fun h => (udf, h)).bind fun q5 =>
 (ldO true 8 q5.2 q4.1).bind fun t6 =>
 (callFO rec 29 (1 :: 0 :: 1 :: 1 :: 0 :: σ) [t6] q5.2 (some 22)).bind fun q7 =>
 (extV q7.1 0).bind fun t8 =>
 (extV q7.1 1).bind fun t9 =>
 (castI .i64 t9).bind fun n10 =>
 (callO rec 30 (1 :: 0 :: 1 :: 1 :: 1 :: 0 :: σ) [t8] q7.2 (some 27)).bind fun q11 =>
 (extV q11.1 0).bind fun t12 =>
 (extV q11.1 1).bind fun t13 =>
 (castI .i64 t13).bind fun n14 =>
 (some (alO [.p (.int .i64 0), .p (.int .i64 0), .p (.slice none 0 0), .p (.int .i64 0), .p (.int .i64 0), .p (.int .i64 0), .p (.int .i64 0), .p (.int .i64 0)] (5 :: 0 :: 1 :: 1 :: 1 :: 0 :: σ) 10 q11.2)).bind fun q15 =>
 ((stO false 8 (6 :: 0 :: 1 :: 1 :: 1 :: 0 :: σ) q15.2 q15.1 t12).map fun h => (udf, h)).bind fun q16 =>
 (bif n10 != 0 then (some true) else (some (n14 != 0))).bind fun b17 =>
 (bif b17 then (some ((.p (.bool true)), q16.2)) else ((ldO true 8 q16.2 q4.1).bind fun t18 =>
 (ldO true 8 q16.2 q15.1).bind fun t19 =>
 (callO rec 31 (9 :: 0 :: 0 :: 1 :: 1 :: 1 :: 1 :: 0 :: σ) [t18, t19] q16.2 (some 39)).bind fun q20 =>
 (asB q20.1).bind fun b21 =>
 some ((.p (.bool (!b21))), q20.2))).bind fun q22 =>
 (asB q22.1).bind fun b23 =>
 (bif b23 then (some true) else ((lenO t8).bind fun t24 =>
 (castI .i64 t24).bind fun n25 =>
 some (decide (n25 < 3)))).bind fun b26 =>
 bif b26 then (
 fin false σ q22.2 [(.p (.bool false))])
 else (
 (lenO t8).bind fun t27 =>
 (castI .i64 t27).bind fun n28 =>
 (callO rec 21 (5 :: 0 :: 1 :: 1 :: 1 :: 1 :: 1 :: 0 :: σ) [(.p (.int .i64 x1)), (.p (.int .i64 0)), (.p (.int .i64 (IntKind.wrap .i64 (n28 - 1))))] q22.2 (some 53)).bind fun q29 =>
 (castI .i64 q29.1).bind fun n30 =>
 (slS 1 t8 none (some n30) none).bind fun t31 =>
 (callO rec 30 (7 :: 0 :: 1 :: 1 :: 1 :: 1 :: 1 :: 0 :: σ) [t31] q29.2 (some 55)).bind fun q32 =>
 (extV q32.1 0).bind fun t33 =>
 (extV q32.1 1).bind fun t34 =>
 (castI .i64 t34).bind fun n35 =>
 (some (alO [.p (.int .i64 0), .p (.int .i64 0), .p (.slice none 0 0), .p (.int .i64 0), .p (.int .i64 0), .p (.int .i64 0), .p (.int .i64 0), .p (.int .i64 0)] (11 :: 0 :: 1 :: 1 :: 1 :: 1 :: 1 :: 0 :: σ) 12 q32.2)).bind fun q36 =>
 ((stO false 8 (12 :: 0 :: 1 :: 1 :: 1 :: 1 :: 1 :: 0 :: σ) q36.2 q36.1 t33).map fun h => (udf, h)).bind fun q37 =>
 (buildSliceV Try.prog 32 1 [(0, (.p (.int .u8 x2)))]).bind fun t38 =>
 (apO true 1 1 (3 :: 0 :: 1 :: 1 :: 1 :: 1 :: 1 :: 1 :: 0 :: σ) 62 q37.2 t8 t38).bind fun q39 =>
 (callO rec 30 (4 :: 0 :: 1 :: 1 :: 1 :: 1 :: 1 :: 1 :: 0 :: σ) [q39.1] q39.2 (some 63)).bind fun q40 =>
 (extV q40.1 0).bind fun t41 =>
 (extV q40.1 1).bind fun t42 =>
 (castI .i64 t42).bind fun n43 =>
 (some (alO [.p (.int .i64 0), .p (.int .i64 0), .p (.slice none 0 0), .p (.int .i64 0), .p (.int .i64 0), .p (.int .i64 0), .p (.int .i64 0), .p (.int .i64 0)] (8 :: 0 :: 1 :: 1 :: 1 :: 1 :: 1 :: 1 :: 0 :: σ) 14 q40.2)).bind fun q44 =>
 ((stO false 8 (9 :: 0 :: 1 :: 1 :: 1 :: 1 :: 1 :: 1 :: 0 :: σ) q44.2 q44.1 t41).map fun h => (udf, h)).bind fun q45 =>
 (bif n35 == 13 then (some (n43 == 12)) else (some false)).bind fun b46 =>
 (bif b46 then ((callO rec 32 (7 :: 0 :: 1 :: 1 :: 1 :: 1 :: 1 :: 1 :: 1 :: 0 :: σ) [] q45.2 (some 73)).bind fun q47 =>
 (asB q47.1).bind fun b48 =>
 some ((.p (.bool b48)), q47.2)) else (some ((.p (.bool false)), q45.2))).bind fun q49 =>
 (asB q49.1).bind fun b50 =>
 fin false σ q49.2 [(.p (.bool b50))]) := by kernel_rfl
end Go.Ev
/- Equations, printed by tracer2.py. -/
namespace Go.Ev
open Go.Proofs
set_option linter.unusedVariables false
set_option maxRecDepth 100000
-- 32 limelight/limelightlaw8.known
theorem limelightlaw8_known_entry (rec : CallF) (loop : LoopV) (σ : Stamp)  (h : H) : cvBody G rec loop 32 σ [] h =
 (buildV Try.prog 58 [(0, (.p (.int .i64 2)))]).bind fun t1 =>
 (callFO rec 29 (1 :: 0 :: 1 :: 0 :: σ) [t1] (List.replicate 81 [] :: h) (some 11)).bind fun q2 =>
 (extV q2.1 0).bind fun t3 =>
 (extV q2.1 1).bind fun t4 =>
 (castI .i64 t4).bind fun n5 =>
 (buildV Try.prog 58 [(0, (.p (.int .i64 4))), (3, (.p (.int .i64 2))), (4, (.p (.int .i64 300))), (5, (.p (.int .i64 1)))]).bind fun t6 =>
 (callFO rec 29 (1 :: 0 :: 1 :: 1 :: 0 :: σ) [t6] q2.2 (some 16)).bind fun q7 =>
 (extV q7.1 0).bind fun t8 =>
 (extV q7.1 1).bind fun t9 =>
 (castI .i64 t9).bind fun n10 =>
 (callO rec 30 (1 :: 0 :: 1 :: 1 :: 1 :: 0 :: σ) [t8] q7.2 (some 21)).bind fun q11 =>
 (extV q11.1 0).bind fun t12 =>
 (extV q11.1 1).bind fun t13 =>
 (castI .i64 t13).bind fun n14 =>
 (some (alO [.p (.int .i64 0), .p (.int .i64 0), .p (.slice none 0 0), .p (.int .i64 0), .p (.int .i64 0), .p (.int .i64 0), .p (.int .i64 0), .p (.int .i64 0)] (5 :: 0 :: 1 :: 1 :: 1 :: 0 :: σ) 5 q11.2)).bind fun q15 =>
 ((stO false 8 (6 :: 0 :: 1 :: 1 :: 1 :: 0 :: σ) q15.2 q15.1 t12).map fun h => (udf, h)).bind fun q16 =>
 (callO rec 30 (0 :: 0 :: 1 :: 1 :: 1 :: 1 :: 0 :: σ) [(.p (.slice .none 0 0))] q16.2 (some 25)).bind fun q17 =>
 (extV q17.1 0).bind fun t18 =>
 (extV q17.1 1).bind fun t19 =>
 (castI .i64 t19).bind fun n20 =>
 (some (alO [.p (.int .i64 0), .p (.int .i64 0), .p (.slice none 0 0), .p (.int .i64 0), .p (.int .i64 0), .p (.int .i64 0), .p (.int .i64 0), .p (.int .i64 0)] (4 :: 0 :: 1 :: 1 :: 1 :: 1 :: 0 :: σ) 7 q17.2)).bind fun q21 =>
 ((stO false 8 (5 :: 0 :: 1 :: 1 :: 1 :: 1 :: 0 :: σ) q21.2 q21.1 t18).map fun h => (udf, h)).bind fun q22 =>
 (bif n5 == 0 then ((strO q22.2 t3).bind fun t23 =>
 (castS t23).bind fun s24 =>
 some (s24.toList == ((⟨#[2, 0, 0]⟩ : ByteArray)).toList)) else (some false)).bind fun b25 =>
 (bif b25 then (some (n10 == 0)) else (some false)).bind fun b26 =>
 (bif b26 then ((strO q22.2 t8).bind fun t27 =>
 (castS t27).bind fun s28 =>
 some (s28.toList == ((⟨#[4, 0, 10, 3, 1, 2, 4, 2, 1, 44, 5, 1, 1]⟩ : ByteArray)).toList)) else (some false)).bind fun b29 =>
 (bif b29 then (some (n14 == 0)) else (some false)).bind fun b30 =>
 (bif b30 then ((fA q15.1 3).bind fun t31 =>
 (ldO false 1 q22.2 t31).bind fun t32 =>
 (castI .i64 t32).bind fun n33 =>
 some (n33 == 2)) else (some false)).bind fun b34 =>
 (bif b34 then ((fA q15.1 4).bind fun t35 =>
 (ldO false 1 q22.2 t35).bind fun t36 =>
 (castI .i64 t36).bind fun n37 =>
 some (n37 == 300)) else (some false)).bind fun b38 =>
 (bif b38 then (some (n20 == 13)) else (some false)).bind fun b39 =>
 (bif b39 then ((callO rec 34 (35 :: 0 :: 1 :: 1 :: 1 :: 1 :: 1 :: 0 :: σ) [(.p (.slice .none 0 0))] q22.2 (some 63)).bind fun q40 =>
 (castI .i64 q40.1).bind fun n41 =>
 some ((.p (.bool (n41 == 26))), q40.2)) else (some ((.p (.bool false)), q22.2))).bind fun q42 =>
 (asB q42.1).bind fun b43 =>
 (bif b43 then ((buildV Try.prog 58 []).bind fun t44 =>
 (callO rec 36 (40 :: 0 :: 1 :: 1 :: 1 :: 1 :: 1 :: 0 :: σ) [t44] q42.2 (some 68)).bind fun q45 =>
 (castI .i64 q45.1).bind fun n46 =>
 some ((.p (.bool (n46 == 12))), q45.2)) else (some ((.p (.bool false)), q42.2))).bind fun q47 =>
 (asB q47.1).bind fun b48 =>
 (bif b48 then ((ldO true 8 q47.2 q15.1).bind fun t49 =>
 (ldO true 8 q47.2 q15.1).bind fun t50 =>
 (callO rec 73 (46 :: 0 :: 1 :: 1 :: 1 :: 1 :: 1 :: 0 :: σ) [t49, t50] q47.2 (some 74)).bind fun q51 =>
 (asB q51.1).bind fun b52 =>
 some ((.p (.bool b52)), q51.2)) else (some ((.p (.bool false)), q47.2))).bind fun q53 =>
 (asB q53.1).bind fun b54 =>
 (bif b54 then ((buildV Try.prog 58 [(0, (.p (.int .i64 2))), (1, (.p (.int .i64 1)))]).bind fun t55 =>
 (callO rec 36 (50 :: 0 :: 1 :: 1 :: 1 :: 1 :: 1 :: 0 :: σ) [t55] q53.2 (some 78)).bind fun q56 =>
 (castI .i64 q56.1).bind fun n57 =>
 some ((.p (.bool (n57 == 12))), q56.2)) else (some ((.p (.bool false)), q53.2))).bind fun q58 =>
 (asB q58.1).bind fun b59 =>
 fin false σ q58.2 [(.p (.bool b59))] := by kernel_rfl
end Go.Ev
/- Equations, printed by tracer2.py. -/
namespace Go.Ev
open Go.Proofs
set_option linter.unusedVariables false
set_option maxRecDepth 100000
-- 73 limelight/ctl.Same
theorem ctl_Same_entry (rec : CallF) (loop : LoopV) (σ : Stamp) (x0 : V) (x1 : V) (h : H) : cvBody G rec loop 73 σ [x0, x1] h =
 (boxO false (0 :: 0 :: 0 :: σ) 2 (List.replicate 59 [] :: h) x0).bind fun q1 =>
 (boxO false (1 :: 0 :: 0 :: σ) 3 q1.2 x1).bind fun q2 =>
 (fA q1.1 0).bind fun t3 =>
 (ldO false 1 q2.2 t3).bind fun t4 =>
 (castI .i64 t4).bind fun n5 =>
 (fA q2.1 0).bind fun t6 =>
 (ldO false 1 q2.2 t6).bind fun t7 =>
 (castI .i64 t7).bind fun n8 =>
 (bif n5 == n8 then ((fA q1.1 1).bind fun t9 =>
 (ldO false 1 q2.2 t9).bind fun t10 =>
 (castI .i64 t10).bind fun n11 =>
 (fA q2.1 1).bind fun t12 =>
 (ldO false 1 q2.2 t12).bind fun t13 =>
 (castI .i64 t13).bind fun n14 =>
 some (n11 == n14)) else (some false)).bind fun b15 =>
 (bif b15 then ((fA q1.1 2).bind fun t16 =>
 (ldO false 1 q2.2 t16).bind fun t17 =>
 (fA q2.1 2).bind fun t18 =>
 (ldO false 1 q2.2 t18).bind fun t19 =>
 (callO rec 107 (17 :: 0 :: 1 :: 0 :: σ) [t17, t19] q2.2 (some 22)).bind fun q20 =>
 (asB q20.1).bind fun b21 =>
 some ((.p (.bool b21)), q20.2)) else (some ((.p (.bool false)), q2.2))).bind fun q22 =>
 (asB q22.1).bind fun b23 =>
 (bif b23 then ((fA q1.1 3).bind fun t24 =>
 (ldO false 1 q22.2 t24).bind fun t25 =>
 (castI .i64 t25).bind fun n26 =>
 (fA q2.1 3).bind fun t27 =>
 (ldO false 1 q22.2 t27).bind fun t28 =>
 (castI .i64 t28).bind fun n29 =>
 some (n26 == n29)) else (some false)).bind fun b30 =>
 (bif b30 then ((fA q1.1 4).bind fun t31 =>
 (ldO false 1 q22.2 t31).bind fun t32 =>
 (castI .i64 t32).bind fun n33 =>
 (fA q2.1 4).bind fun t34 =>
 (ldO false 1 q22.2 t34).bind fun t35 =>
 (castI .i64 t35).bind fun n36 =>
 some (n33 == n36)) else (some false)).bind fun b37 =>
 (bif b37 then ((fA q1.1 5).bind fun t38 =>
 (ldO false 1 q22.2 t38).bind fun t39 =>
 (castI .i64 t39).bind fun n40 =>
 (fA q2.1 5).bind fun t41 =>
 (ldO false 1 q22.2 t41).bind fun t42 =>
 (castI .i64 t42).bind fun n43 =>
 some (n40 == n43)) else (some false)).bind fun b44 =>
 (bif b44 then ((fA q1.1 6).bind fun t45 =>
 (ldO false 1 q22.2 t45).bind fun t46 =>
 (castI .i64 t46).bind fun n47 =>
 (fA q2.1 6).bind fun t48 =>
 (ldO false 1 q22.2 t48).bind fun t49 =>
 (castI .i64 t49).bind fun n50 =>
 some (n47 == n50)) else (some false)).bind fun b51 =>
 (bif b51 then ((fA q1.1 7).bind fun t52 =>
 (ldO false 1 q22.2 t52).bind fun t53 =>
 (castI .i64 t53).bind fun n54 =>
 (fA q2.1 7).bind fun t55 =>
 (ldO false 1 q22.2 t55).bind fun t56 =>
 (castI .i64 t56).bind fun n57 =>
 some (n54 == n57)) else (some false)).bind fun b58 =>
 fin false σ q22.2 [(.p (.bool b58))] := by kernel_rfl
end Go.Ev
/- Equations, printed by tracer2.py. -/
namespace Go.Ev
open Go.Proofs
set_option linter.unusedVariables false
set_option maxRecDepth 100000
-- 107 slices.Equal[[]limelight/api.Layer,limelight/api.Layer]
noncomputable def slices_Equal_Lapi_Layer_api_Layer_c0 : Code := (codeAt (bodyOf Try.f107) [1, 1, 0, 1, 0, 0])
def slices_Equal_Lapi_Layer_api_Layer_l0 : Lv := ⟨0, 16, [(0, 0)]⟩
noncomputable def slices_Equal_Lapi_Layer_api_Layer_k0 (rec : CallF) (loop : LoopV) (σ : Stamp) : Exit → Env → H → Option (List C × H) := (kBlock 0 (kSeq G rec loop (codeAt (bodyOf Try.f107) [1, 1, 1]) ⟨16, 16, []⟩ (1 :: 1 :: 0 :: σ) (finC G false Try.f107 (1 :: σ))))
theorem slices_Equal_Lapi_Layer_api_Layer_entry (rec : CallF) (loop : LoopV) (σ : Stamp) (x0 : V) (x1 : V) (h : H) : cvBody G rec loop 107 σ [x0, x1] h =
 (lenO x0).bind fun t1 =>
 (castI .i64 t1).bind fun n2 =>
 (lenO x1).bind fun t3 =>
 (castI .i64 t3).bind fun n4 =>
 bif n2 != n4 then (
 fin false σ (List.replicate 26 [] :: h) [(.p (.bool false))])
 else (
 (lenO x0).bind fun t5 =>
 (castI .i64 t5).bind fun n6 =>
 (loop slices_Equal_Lapi_Layer_api_Layer_c0 slices_Equal_Lapi_Layer_api_Layer_l0 (1 :: 0 :: 1 :: 1 :: 0 :: σ) (envL [(0, x0), (1, x1), (12, (.p (.int .i64 n6))), (13, (.p (.int .i64 0)))]) (List.replicate 26 [] :: h)).bind fun r7 => slices_Equal_Lapi_Layer_api_Layer_k0 rec loop σ r7.1 r7.2.1 r7.2.2) := by kernel_rfl
theorem slices_Equal_Lapi_Layer_api_Layer_r0 (rec : CallF) (loop : LoopV) (σ : Stamp) (x0 : V) (x1 : V) (x12 : Int) (x13 : Int) (h : H) : cvRound G rec loop slices_Equal_Lapi_Layer_api_Layer_c0 slices_Equal_Lapi_Layer_api_Layer_l0 σ (envL [(0, x0), (1, x1), (12, (.p (.int .i64 x12))), (13, (.p (.int .i64 x13)))]) h =
 bif decide (x13 < x12) then (
 (iS 3 x0 x13).bind fun t8 =>
 (ldO true 3 h t8).bind fun t9 =>
 (iS 3 x1 x13).bind fun t10 =>
 (ldO true 3 h t10).bind fun t11 =>
 (binV Try.prog h .neq 70 t9 t11).bind fun t12 =>
 (asB t12).bind fun b13 =>
 bif b13 then (
 some (.ret, (envL [(4, (.p (.bool false)))]), h))
 else (
 loop slices_Equal_Lapi_Layer_api_Layer_c0 slices_Equal_Lapi_Layer_api_Layer_l0 (1 :: σ) (envL [(0, x0), (1, x1), (12, (.p (.int .i64 x12))), (13, (.p (.int .i64 (IntKind.wrap .i64 (x13 + 1)))))]) h))
 else (
 some ((.exit 0), (envL []), h)) := by kernel_rfl
theorem slices_Equal_Lapi_Layer_api_Layer_a0_0 (rec : CallF) (loop : LoopV) (σ : Stamp)  (h : H) : slices_Equal_Lapi_Layer_api_Layer_k0 rec loop σ (.exit 0) (envL []) h =
 fin false σ h [(.p (.bool true))] := by kernel_rfl
theorem slices_Equal_Lapi_Layer_api_Layer_a0_ret (rec : CallF) (loop : LoopV) (σ : Stamp) (x4 : Bool) (h : H) : slices_Equal_Lapi_Layer_api_Layer_k0 rec loop σ .ret (envL [(4, (.p (.bool x4)))]) h =
 fin false σ h [(.p (.bool x4))] := by kernel_rfl
end Go.Ev
/- Lifted by lift.py: slices_Equal_Lapi_Layer_api_Layer as a plain function. -/
namespace Go.Ev
open Go.Proofs
set_option linter.unusedVariables false
set_option linter.unusedSimpArgs false
set_option maxRecDepth 100000
def p_slices_Equal_Lapi_Layer_api_Layer_l0 {β : Type} (k : Nat) (kE0 : Unit → Option β) (kE1 : Bool → Option β) (x0 : (List T_api_Layer)) (x1 : (List T_api_Layer)) (x12 : Int) (x13 : Int) : Option β := match k with
| 0 => none
| k + 1 =>
bif decide (x13 < x12) then (
(ix x0 x13).bind fun a7 =>
(ix x1 x13).bind fun a12 =>
bif !(andB [a7.Rid.toList == a12.Rid.toList, a7.Ssrc == a12.Ssrc, a7.Height == a12.Height]) then (
kE1 false)
else (
p_slices_Equal_Lapi_Layer_api_Layer_l0 k kE0 kE1 x0 x1 x12 (IntKind.wrap .i64 (x13 + 1))))
else (
kE0 ())
def p_slices_Equal_Lapi_Layer_api_Layer (k : Nat) (x0 : (List T_api_Layer)) (x1 : (List T_api_Layer)) : Option (Bool) :=
bif ((x0.length : Int)) != ((x1.length : Int)) then (
some (false))
else (
p_slices_Equal_Lapi_Layer_api_Layer_l0 k (fun (_ : Unit) =>
some (true)) (fun r24_4 =>
some (r24_4)) x0 x1 ((x0.length : Int)) 0)
theorem slices_Equal_Lapi_Layer_api_Layer_l0_ok {h : H}  {β α : Type} {Q : β → α → Prop} {K : Exit × Env × H → Option α} {kE0 : Unit → Option β} {kE1 : Bool → Option β} (hE0 : ∀ (_u : Unit) (H17 : Go.Ev.H) (_ : Fm 26 h [] [] [] H17), Sim (kE0 ()) (K ((.exit 0), (envL []), H17)) Q) (hE1 : ∀ (q4 : Bool) (H19 : Go.Ev.H) (_ : Fm 26 h [] [] [] H19), Sim (kE1 q4) (K (.ret, (envL [(4, (.p (.bool q4)))]), H19)) Q) (k : Nat) : ∀ (x0 : (List T_api_Layer)) (x1 : (List T_api_Layer)) (x12 : Int) (x13 : Int) (v3 : V) (h4 : SlH h dT_api_Layer x0 v3) (v5 : V) (h6 : SlH h dT_api_Layer x1 v5) (H1 : Go.Ev.H) (_ : Fm 26 h [] [] [] H1) {σ : Stamp}, Sim (p_slices_Equal_Lapi_Layer_api_Layer_l0 k kE0 kE1 x0 x1 x12 x13) ((cvL G X0 slices_Equal_Lapi_Layer_api_Layer_c0 slices_Equal_Lapi_Layer_api_Layer_l0 σ (envL [(0, v3), (1, v5), (12, (.p (.int .i64 x12))), (13, (.p (.int .i64 x13)))]) H1).bind K) Q := by
  induction k with
  | zero => intros; exact Sim.no
  | succ k ih =>
    intro x0 x1 x12 x13 v3 h4 v5 h6 H1 S2 σ
    rw [p_slices_Equal_Lapi_Layer_api_Layer_l0]
    refine Sim.round (Sim.ext (slices_Equal_Lapi_Layer_api_Layer_r0 _ _ _ _ _ _ _ _) ?_)
    refine Sim.cd (fun hc => ?_) (fun hc => ?_)
    · refine Sim.bd fun a7 h8 => ?_
      refine Sim.op ((S2.low h4).iS h8 rfl) ?_
      obtain ⟨w10, h11, hE9⟩ := (S2.low h4).el h8 rfl
      obtain rfl := dT_api_Layer.inv h11
      refine Sim.op (hE9.all (by simp)) ?_
      refine Sim.bd fun a12 h13 => ?_
      refine Sim.op ((S2.low h6).iS h13 rfl) ?_
      obtain ⟨w15, h16, hE14⟩ := (S2.low h6).el h13 rfl
      obtain rfl := dT_api_Layer.inv h16
      refine Sim.op (hE14.all (by simp)) ?_
      refine Sim.op (nqS_ok (by kernel_rfl : _ = andL [a7.Rid.toList == a12.Rid.toList, a7.Ssrc == a12.Ssrc, a7.Height == a12.Height])) ?_
      refine Sim.op (asB_p _) ?_
      refine Sim.cd (fun hc => ?_) (fun hc => ?_)
      · exact hE1 false H1 (S2.wk2 all_nil all_nil)
      · exact ih x0 x1 x12 (IntKind.wrap .i64 (x13 + 1)) v3 h4 v5 h6 H1 (S2.wk2 all_nil all_nil)
    · exact hE0 () H1 (S2.wk2 all_nil all_nil)
theorem slices_Equal_Lapi_Layer_api_Layer_ok (k : Nat) {h : H} {σ : Stamp} (x0 : List T_api_Layer) {u0 : V} (hu0 : SlH h dT_api_Layer x0 u0) (x1 : List T_api_Layer) {u1 : V} (hu1 : SlH h dT_api_Layer x1 u1) : Sim (p_slices_Equal_Lapi_Layer_api_Layer k x0 x1) (ev G X0 107 σ [u0, u1] h) (fun r s => s = ([.v (.p (.bool r))], h)) := by
  refine Sim.ev rfl (Sim.ext (slices_Equal_Lapi_Layer_api_Layer_entry _ _ _ _ _ _) ?_)
  rw [p_slices_Equal_Lapi_Layer_api_Layer]
  have S0 : Fm 26 h [] [] [] (List.replicate 26 [] :: h) := Fm.start0
  refine Sim.op ((S0.low hu0).len) ?_
  refine Sim.op (castI_p _ _) ?_
  refine Sim.op ((S0.low hu1).len) ?_
  refine Sim.op (castI_p _ _) ?_
  refine Sim.cd (fun hc => ?_) (fun hc => ?_)
  · exact Sim.fin (S0.finN (lv_cons (still_bool _).lv lv_nil)) rfl
  · refine Sim.op ((S0.low hu0).len) ?_
    refine Sim.op (castI_p _ _) ?_
    refine Sim.as (slices_Equal_Lapi_Layer_api_Layer_l0_ok ?_ ?_ k x0 x1 ((x0.length : Int)) 0 u0 hu0 u1 hu1 (List.replicate 26 [] :: h) (S0.wk2 all_nil all_nil)) 
    · intro _u H22 S23
      refine Sim.ext (slices_Equal_Lapi_Layer_api_Layer_a0_0 _ _ _ _) ?_
      exact Sim.fin (S23.finN (lv_cons (still_bool _).lv lv_nil)) rfl
    · intro r24_4 H25 S26
      refine Sim.ext (slices_Equal_Lapi_Layer_api_Layer_a0_ret _ _ _ _ _) ?_
      exact Sim.fin (S26.finN (lv_cons (still_bool _).lv lv_nil)) rfl
end Go.Ev
/- Lifted by lift.py: ctl_Same as a plain function. -/
namespace Go.Ev
open Go.Proofs
set_option linter.unusedVariables false
set_option linter.unusedSimpArgs false
set_option maxRecDepth 100000
def p_ctl_Same (k : Nat) (x0 : T_api_Ctl) (x1 : T_api_Ctl) : Option (Bool) :=
(bif x0.Kind == x1.Kind then (some (x0.Cap == x1.Cap)) else (some false)).bind fun b13 =>
(bif b13 then ((p_slices_Equal_Lapi_Layer_api_Layer k x0.Layers x1.Layers).bind fun r17 =>
some r17) else (some false)).bind fun b22 =>
(bif b22 then (some (x0.Peer == x1.Peer)) else (some false)).bind fun b26 =>
(bif b26 then (some (x0.Height == x1.Height)) else (some false)).bind fun b30 =>
(bif b30 then (some (x0.Class == x1.Class)) else (some false)).bind fun b34 =>
(bif b34 then (some (x0.Layer == x1.Layer)) else (some false)).bind fun b38 =>
(bif b38 then (some (x0.Code == x1.Code)) else (some false)).bind fun b42 =>
some (b42)
theorem ctl_Same_ok (k : Nat) {h : H} {σ : Stamp} (x0 : T_api_Ctl) {u0 : List V} (hu0 : dT_api_Ctl.R x0 u0) (x1 : T_api_Ctl) {u1 : List V} (hu1 : dT_api_Ctl.R x1 u1) : Sim (p_ctl_Same k x0 x1) (ev G X0 73 σ [(.agg u0), (.agg u1)] h) (fun r s => s = ([.v (.p (.bool r))], h)) := by
  refine Sim.ev rfl (Sim.ext (ctl_Same_entry _ _ _ _ _ _) ?_)
  rw [p_ctl_Same]
  obtain ⟨v1, rfl, h2⟩ := dT_api_Ctl.inv hu0
  obtain ⟨v3, rfl, h4⟩ := dT_api_Ctl.inv hu1
  have S0 : Fm 59 h [] [] [] (List.replicate 59 [] :: h) := Fm.start0
  obtain ⟨H5, e6, S7⟩ := S0.box (own := false) (d := 2) (s := (0 :: 0 :: 0 :: σ)) (xs := [(.p (.int .i64 x0.Kind)), (.p (.int .i64 x0.Cap)), v1, (.p (.int .i64 x0.Peer)), (.p (.int .i64 x0.Height)), (.p (.int .i64 x0.Class)), (.p (.int .i64 x0.Layer)), (.p (.int .i64 x0.Code))]) (stills_cons (still_int _ _) (stills_cons (still_int _ _) (stills_cons h2.still (stills_cons (still_int _ _) (stills_cons (still_int _ _) (stills_cons (still_int _ _) (stills_cons (still_int _ _) (stills_cons (still_int _ _) stills_nil)))))))) (by decide) rfl
  refine Sim.op (e6) ?_
  obtain ⟨H9, e10, S11⟩ := S7.box (own := false) (d := 3) (s := (1 :: 0 :: 0 :: σ)) (xs := [(.p (.int .i64 x1.Kind)), (.p (.int .i64 x1.Cap)), v3, (.p (.int .i64 x1.Peer)), (.p (.int .i64 x1.Height)), (.p (.int .i64 x1.Class)), (.p (.int .i64 x1.Layer)), (.p (.int .i64 x1.Code))]) (stills_cons (still_int _ _) (stills_cons (still_int _ _) (stills_cons h4.still (stills_cons (still_int _ _) (stills_cons (still_int _ _) (stills_cons (still_int _ _) (stills_cons (still_int _ _) (stills_cons (still_int _ _) stills_nil)))))))) (by decide) rfl
  refine Sim.op (e10) ?_
  refine Sim.op (fA_ref _ _ _) ?_
  refine Sim.op ((S11.atG (i := 1) rfl).ld (j := 0) rfl) ?_
  refine Sim.op (castI_p _ _) ?_
  refine Sim.op (fA_ref _ _ _) ?_
  refine Sim.op ((S11.atG (i := 0) rfl).ld (j := 0) rfl) ?_
  refine Sim.op (castI_p _ _) ?_
  refine Sim.ch (P := fun r y => r = y) ?_ (fun b13 y14 h15 h16 => ?_)
  · refine Sim.cd (fun hc => ?_) (fun hc => ?_)
    · refine Sim.op (fA_ref _ _ _) ?_
      refine Sim.op ((S11.atG (i := 1) rfl).ld (j := 1) rfl) ?_
      refine Sim.op (castI_p _ _) ?_
      refine Sim.op (fA_ref _ _ _) ?_
      refine Sim.op ((S11.atG (i := 0) rfl).ld (j := 1) rfl) ?_
      refine Sim.op (castI_p _ _) ?_
      exact Sim.ret rfl rfl
    · exact Sim.ret rfl rfl
  subst h16
  refine Sim.ch (P := fun r y => (.p (.bool r), H9) = y) ?_ (fun b22 y23 h24 h25 => ?_)
  · refine Sim.cd (fun hc => ?_) (fun hc => ?_)
    · refine Sim.op (fA_ref _ _ _) ?_
      refine Sim.op ((S11.atG (i := 1) rfl).ld (j := 2) rfl) ?_
      refine Sim.op (fA_ref _ _ _) ?_
      refine Sim.op ((S11.atG (i := 0) rfl).ld (j := 2) rfl) ?_
      refine Sim.call (slices_Equal_Lapi_Layer_api_Layer_ok k x0.Layers (h2.h H9) x1.Layers (h4.h H9)) fun r17 cs18 H19 h20 q21 => ?_
      cases q21
      refine Sim.op (asB_p _) ?_
      exact Sim.ret rfl rfl
    · exact Sim.ret rfl rfl
  subst h25
  refine Sim.op (asB_p _) ?_
  refine Sim.ch (P := fun r y => r = y) ?_ (fun b26 y27 h28 h29 => ?_)
  · refine Sim.cd (fun hc => ?_) (fun hc => ?_)
    · refine Sim.op (fA_ref _ _ _) ?_
      refine Sim.op ((S11.atG (i := 1) rfl).ld (j := 3) rfl) ?_
      refine Sim.op (castI_p _ _) ?_
      refine Sim.op (fA_ref _ _ _) ?_
      refine Sim.op ((S11.atG (i := 0) rfl).ld (j := 3) rfl) ?_
      refine Sim.op (castI_p _ _) ?_
      exact Sim.ret rfl rfl
    · exact Sim.ret rfl rfl
  subst h29
  refine Sim.ch (P := fun r y => r = y) ?_ (fun b30 y31 h32 h33 => ?_)
  · refine Sim.cd (fun hc => ?_) (fun hc => ?_)
    · refine Sim.op (fA_ref _ _ _) ?_
      refine Sim.op ((S11.atG (i := 1) rfl).ld (j := 4) rfl) ?_
      refine Sim.op (castI_p _ _) ?_
      refine Sim.op (fA_ref _ _ _) ?_
      refine Sim.op ((S11.atG (i := 0) rfl).ld (j := 4) rfl) ?_
      refine Sim.op (castI_p _ _) ?_
      exact Sim.ret rfl rfl
    · exact Sim.ret rfl rfl
  subst h33
  refine Sim.ch (P := fun r y => r = y) ?_ (fun b34 y35 h36 h37 => ?_)
  · refine Sim.cd (fun hc => ?_) (fun hc => ?_)
    · refine Sim.op (fA_ref _ _ _) ?_
      refine Sim.op ((S11.atG (i := 1) rfl).ld (j := 5) rfl) ?_
      refine Sim.op (castI_p _ _) ?_
      refine Sim.op (fA_ref _ _ _) ?_
      refine Sim.op ((S11.atG (i := 0) rfl).ld (j := 5) rfl) ?_
      refine Sim.op (castI_p _ _) ?_
      exact Sim.ret rfl rfl
    · exact Sim.ret rfl rfl
  subst h37
  refine Sim.ch (P := fun r y => r = y) ?_ (fun b38 y39 h40 h41 => ?_)
  · refine Sim.cd (fun hc => ?_) (fun hc => ?_)
    · refine Sim.op (fA_ref _ _ _) ?_
      refine Sim.op ((S11.atG (i := 1) rfl).ld (j := 6) rfl) ?_
      refine Sim.op (castI_p _ _) ?_
      refine Sim.op (fA_ref _ _ _) ?_
      refine Sim.op ((S11.atG (i := 0) rfl).ld (j := 6) rfl) ?_
      refine Sim.op (castI_p _ _) ?_
      exact Sim.ret rfl rfl
    · exact Sim.ret rfl rfl
  subst h41
  refine Sim.ch (P := fun r y => r = y) ?_ (fun b42 y43 h44 h45 => ?_)
  · refine Sim.cd (fun hc => ?_) (fun hc => ?_)
    · refine Sim.op (fA_ref _ _ _) ?_
      refine Sim.op ((S11.atG (i := 1) rfl).ld (j := 7) rfl) ?_
      refine Sim.op (castI_p _ _) ?_
      refine Sim.op (fA_ref _ _ _) ?_
      refine Sim.op ((S11.atG (i := 0) rfl).ld (j := 7) rfl) ?_
      refine Sim.op (castI_p _ _) ?_
      exact Sim.ret rfl rfl
    · exact Sim.ret rfl rfl
  subst h45
  exact Sim.fin (S11.finN (lv_cons (still_bool _).lv lv_nil)) rfl
end Go.Ev
/- Lifted by lift.py: limelightlaw8_known as a plain function. -/
namespace Go.Ev
open Go.Proofs
set_option linter.unusedVariables false
set_option linter.unusedSimpArgs false
set_option maxRecDepth 100000
def p_limelightlaw8_known (k : Nat)  : Option (Bool) :=
(p_ctl_Bytes k ((⟨2, 0, (([] : List T_api_Layer)), 0, 0, 0, 0, 0⟩ : T_api_Ctl))).bind fun r1 =>
(p_ctl_Bytes k ((⟨4, 0, (([] : List T_api_Layer)), 2, 300, 1, 0, 0⟩ : T_api_Ctl))).bind fun r15 =>
(p_ctl_Read k r15.1).bind fun r29 =>
(p_ctl_Read k (([] : List Int))).bind fun r45 =>
(bif r1.2 == 0 then (some ((strB r1.1).toList == ((⟨#[2, 0, 0]⟩ : ByteArray)).toList)) else (some false)).bind fun b61 =>
(bif b61 then (some (r15.2 == 0)) else (some false)).bind fun b65 =>
(bif b65 then (some ((strB r15.1).toList == ((⟨#[4, 0, 10, 3, 1, 2, 4, 2, 1, 44, 5, 1, 1]⟩ : ByteArray)).toList)) else (some false)).bind fun b69 =>
(bif b69 then (some (r29.2 == 0)) else (some false)).bind fun b73 =>
(bif b73 then (some (r29.1.Peer == 2)) else (some false)).bind fun b77 =>
(bif b77 then (some (r29.1.Height == 300)) else (some false)).bind fun b81 =>
(bif b81 then (some (r45.2 == 13)) else (some false)).bind fun b85 =>
(bif b85 then ((p_ctl_Layers k (([] : List T_api_Layer))).bind fun r89 =>
some (r89 == 26)) else (some false)).bind fun b94 =>
(bif b94 then ((p_ctl_Right k ((⟨0, 0, (([] : List T_api_Layer)), 0, 0, 0, 0, 0⟩ : T_api_Ctl))).bind fun r98 =>
some (r98 == 12)) else (some false)).bind fun b103 =>
(bif b103 then ((p_ctl_Same k ((⟨r29.1.Kind, r29.1.Cap, r29.1.Layers, r29.1.Peer, r29.1.Height, r29.1.Class, r29.1.Layer, r29.1.Code⟩ : T_api_Ctl)) ((⟨r29.1.Kind, r29.1.Cap, r29.1.Layers, r29.1.Peer, r29.1.Height, r29.1.Class, r29.1.Layer, r29.1.Code⟩ : T_api_Ctl))).bind fun r107 =>
some r107) else (some false)).bind fun b112 =>
(bif b112 then ((p_ctl_Right k ((⟨2, 1, (([] : List T_api_Layer)), 0, 0, 0, 0, 0⟩ : T_api_Ctl))).bind fun r116 =>
some (r116 == 12)) else (some false)).bind fun b121 =>
some (b121)
theorem limelightlaw8_known_ok (k : Nat) {h : H} {σ : Stamp}  : Sim (p_limelightlaw8_known k ) (ev G X0 32 σ [] h) (fun r s => s = ([.v (.p (.bool r))], h)) := by
  refine Sim.ev rfl (Sim.ext (limelightlaw8_known_entry _ _ _ _) ?_)
  rw [p_limelightlaw8_known]
  have S0 : Fm 81 h [] [] [] (List.replicate 81 [] :: h) := Fm.start0
  refine Sim.op (bldV (pt_cons rfl pt_nil) (by kernel_rfl : _ = some (.agg [.p (.int .i64 2), .p (.int .i64 0), .p (.slice none 0 0), .p (.int .i64 0), .p (.int .i64 0), .p (.int .i64 0), .p (.int .i64 0), .p (.int .i64 0)]))) ?_
  erw [callFO_eq (frzAs_cons (frzA_agg (dT_api_Ctl.still (dT_api_Ctl.mk (SlF.nil dT_api_Layer)))) frzAs_nil)]
  refine Sim.call (ctl_Bytes_ok k ((⟨2, 0, (([] : List T_api_Layer)), 0, 0, 0, 0, 0⟩ : T_api_Ctl)) (show dT_api_Ctl.R ((⟨2, 0, (([] : List T_api_Layer)), 0, 0, 0, 0, 0⟩ : T_api_Ctl)) [.p (.int .i64 2), .p (.int .i64 0), .p (.slice none 0 0), .p (.int .i64 0), .p (.int .i64 0), .p (.int .i64 0), .p (.int .i64 0), .p (.int .i64 0)] from (dT_api_Ctl.mk (SlF.nil dT_api_Layer)))) fun r1 cs2 H3 h4 q5 => ?_
  obtain ⟨c6, cs7, h8, h9, q5⟩ := q5
  cases q5
  obtain ⟨v10, H11, e12, S13⟩ := S0.landN (dt := (dI .u8)) (d := 11) h8 h9 (by decide) rfl (.p (.int .i64 r1.2)) []
  erw [e12]
  refine Sim.op (rfl) ?_
  refine Sim.op (rfl) ?_
  refine Sim.op (castI_p _ _) ?_
  refine Sim.op (bldV (pt_cons rfl (pt_cons rfl (pt_cons rfl (pt_cons rfl pt_nil)))) (by kernel_rfl : _ = some (.agg [.p (.int .i64 4), .p (.int .i64 0), .p (.slice none 0 0), .p (.int .i64 2), .p (.int .i64 300), .p (.int .i64 1), .p (.int .i64 0), .p (.int .i64 0)]))) ?_
  erw [callFO_eq (frzAs_cons (frzA_agg (dT_api_Ctl.still (dT_api_Ctl.mk (SlF.nil dT_api_Layer)))) frzAs_nil)]
  refine Sim.call (ctl_Bytes_ok k ((⟨4, 0, (([] : List T_api_Layer)), 2, 300, 1, 0, 0⟩ : T_api_Ctl)) (show dT_api_Ctl.R ((⟨4, 0, (([] : List T_api_Layer)), 2, 300, 1, 0, 0⟩ : T_api_Ctl)) [.p (.int .i64 4), .p (.int .i64 0), .p (.slice none 0 0), .p (.int .i64 2), .p (.int .i64 300), .p (.int .i64 1), .p (.int .i64 0), .p (.int .i64 0)] from (dT_api_Ctl.mk (SlF.nil dT_api_Layer)))) fun r15 cs16 H17 h18 q19 => ?_
  obtain ⟨c20, cs21, h22, h23, q19⟩ := q19
  cases q19
  obtain ⟨v24, H25, e26, S27⟩ := S13.landN (dt := (dI .u8)) (d := 16) h22 h23 (by decide) rfl (.p (.int .i64 r15.2)) []
  erw [e26]
  refine Sim.op (rfl) ?_
  refine Sim.op (rfl) ?_
  refine Sim.op (castI_p _ _) ?_
  refine Sim.call (ctl_Read_ok k r15.1 (S27.sl (i := 0) rfl)) fun r29 cs30 H31 h32 q33 => ?_
  obtain ⟨w34, h35, q33⟩ := q33
  cases q33
  obtain ⟨v36, rfl, h37⟩ := dT_api_Ctl.inv h35
  refine Sim.op (rfl) ?_
  refine Sim.op (rfl) ?_
  refine Sim.op (castI_p _ _) ?_
  obtain ⟨H38, e39, S40⟩ := S27.al (d := 5) (s := (5 :: 0 :: 1 :: 1 :: 1 :: 0 :: σ)) (z := [(.p (.int .i64 0)), (.p (.int .i64 0)), (.p (.slice none 0 0)), (.p (.int .i64 0)), (.p (.int .i64 0)), (.p (.int .i64 0)), (.p (.int .i64 0)), (.p (.int .i64 0))]) (by decide) rfl
  refine Sim.op (congrArg some e39) ?_
  obtain ⟨H42, e43, S44⟩ := S40.stGv (i := 0) (j := 0) (own := false) (σ := (6 :: 0 :: 1 :: 1 :: 1 :: 0 :: σ)) (xs := [(.p (.int .i64 r29.1.Kind)), (.p (.int .i64 r29.1.Cap)), v36, (.p (.int .i64 r29.1.Peer)), (.p (.int .i64 r29.1.Height)), (.p (.int .i64 r29.1.Class)), (.p (.int .i64 r29.1.Layer)), (.p (.int .i64 r29.1.Code))]) rfl rfl (stills_cons (still_int _ _) (stills_cons (still_int _ _) (stills_cons h37.still (stills_cons (still_int _ _) (stills_cons (still_int _ _) (stills_cons (still_int _ _) (stills_cons (still_int _ _) (stills_cons (still_int _ _) stills_nil)))))))) rfl rfl
  refine Sim.op (st_map e43) ?_
  refine Sim.call (ctl_Read_ok k (([] : List Int)) ((SlF.nil (dI .u8)).h H42)) fun r45 cs46 H47 h48 q49 => ?_
  obtain ⟨w50, h51, q49⟩ := q49
  cases q49
  obtain ⟨v52, rfl, h53⟩ := dT_api_Ctl.inv h51
  refine Sim.op (rfl) ?_
  refine Sim.op (rfl) ?_
  refine Sim.op (castI_p _ _) ?_
  obtain ⟨H54, e55, S56⟩ := S44.al (d := 7) (s := (4 :: 0 :: 1 :: 1 :: 1 :: 1 :: 0 :: σ)) (z := [(.p (.int .i64 0)), (.p (.int .i64 0)), (.p (.slice none 0 0)), (.p (.int .i64 0)), (.p (.int .i64 0)), (.p (.int .i64 0)), (.p (.int .i64 0)), (.p (.int .i64 0))]) (by decide) rfl
  refine Sim.op (congrArg some e55) ?_
  obtain ⟨H58, e59, S60⟩ := S56.stGv (i := 0) (j := 0) (own := false) (σ := (5 :: 0 :: 1 :: 1 :: 1 :: 1 :: 0 :: σ)) (xs := [(.p (.int .i64 r45.1.Kind)), (.p (.int .i64 r45.1.Cap)), v52, (.p (.int .i64 r45.1.Peer)), (.p (.int .i64 r45.1.Height)), (.p (.int .i64 r45.1.Class)), (.p (.int .i64 r45.1.Layer)), (.p (.int .i64 r45.1.Code))]) rfl rfl (stills_cons (still_int _ _) (stills_cons (still_int _ _) (stills_cons h53.still (stills_cons (still_int _ _) (stills_cons (still_int _ _) (stills_cons (still_int _ _) (stills_cons (still_int _ _) (stills_cons (still_int _ _) stills_nil)))))))) rfl rfl
  refine Sim.op (st_map e59) ?_
  refine Sim.ch (P := fun r y => r = y) ?_ (fun b61 y62 h63 h64 => ?_)
  · refine Sim.cd (fun hc => ?_) (fun hc => ?_)
    · refine Sim.op ((S60.sl (i := 1) rfl).str) ?_
      refine Sim.op (castS_p _) ?_
      exact Sim.ret rfl rfl
    · exact Sim.ret rfl rfl
  subst h64
  refine Sim.ch (P := fun r y => r = y) ?_ (fun b65 y66 h67 h68 => ?_)
  · refine Sim.cd (fun hc => ?_) (fun hc => ?_)
    · exact Sim.ret rfl rfl
    · exact Sim.ret rfl rfl
  subst h68
  refine Sim.ch (P := fun r y => r = y) ?_ (fun b69 y70 h71 h72 => ?_)
  · refine Sim.cd (fun hc => ?_) (fun hc => ?_)
    · refine Sim.op ((S60.sl (i := 0) rfl).str) ?_
      refine Sim.op (castS_p _) ?_
      exact Sim.ret rfl rfl
    · exact Sim.ret rfl rfl
  subst h72
  refine Sim.ch (P := fun r y => r = y) ?_ (fun b73 y74 h75 h76 => ?_)
  · refine Sim.cd (fun hc => ?_) (fun hc => ?_)
    · exact Sim.ret rfl rfl
    · exact Sim.ret rfl rfl
  subst h76
  refine Sim.ch (P := fun r y => r = y) ?_ (fun b77 y78 h79 h80 => ?_)
  · refine Sim.cd (fun hc => ?_) (fun hc => ?_)
    · refine Sim.op (fA_ref _ _ _) ?_
      refine Sim.op ((S60.atG (i := 1) rfl).ld (j := 3) rfl) ?_
      refine Sim.op (castI_p _ _) ?_
      exact Sim.ret rfl rfl
    · exact Sim.ret rfl rfl
  subst h80
  refine Sim.ch (P := fun r y => r = y) ?_ (fun b81 y82 h83 h84 => ?_)
  · refine Sim.cd (fun hc => ?_) (fun hc => ?_)
    · refine Sim.op (fA_ref _ _ _) ?_
      refine Sim.op ((S60.atG (i := 1) rfl).ld (j := 4) rfl) ?_
      refine Sim.op (castI_p _ _) ?_
      exact Sim.ret rfl rfl
    · exact Sim.ret rfl rfl
  subst h84
  refine Sim.ch (P := fun r y => r = y) ?_ (fun b85 y86 h87 h88 => ?_)
  · refine Sim.cd (fun hc => ?_) (fun hc => ?_)
    · exact Sim.ret rfl rfl
    · exact Sim.ret rfl rfl
  subst h88
  refine Sim.ch (P := fun r y => (.p (.bool r), H58) = y) ?_ (fun b94 y95 h96 h97 => ?_)
  · refine Sim.cd (fun hc => ?_) (fun hc => ?_)
    · refine Sim.call (ctl_Layers_ok k (([] : List T_api_Layer)) ((SlF.nil dT_api_Layer).h H58)) fun r89 cs90 H91 h92 q93 => ?_
      cases q93
      refine Sim.op (castI_p _ _) ?_
      exact Sim.ret rfl rfl
    · exact Sim.ret rfl rfl
  subst h97
  refine Sim.op (asB_p _) ?_
  refine Sim.ch (P := fun r y => (.p (.bool r), H58) = y) ?_ (fun b103 y104 h105 h106 => ?_)
  · refine Sim.cd (fun hc => ?_) (fun hc => ?_)
    · refine Sim.op (bldV pt_nil (by kernel_rfl : _ = some (.agg [.p (.int .i64 0), .p (.int .i64 0), .p (.slice none 0 0), .p (.int .i64 0), .p (.int .i64 0), .p (.int .i64 0), .p (.int .i64 0), .p (.int .i64 0)]))) ?_
      refine Sim.call (ctl_Right_ok k ((⟨0, 0, (([] : List T_api_Layer)), 0, 0, 0, 0, 0⟩ : T_api_Ctl)) (show dT_api_Ctl.R ((⟨0, 0, (([] : List T_api_Layer)), 0, 0, 0, 0, 0⟩ : T_api_Ctl)) [.p (.int .i64 0), .p (.int .i64 0), .p (.slice none 0 0), .p (.int .i64 0), .p (.int .i64 0), .p (.int .i64 0), .p (.int .i64 0), .p (.int .i64 0)] from (dT_api_Ctl.mk (SlF.nil dT_api_Layer)))) fun r98 cs99 H100 h101 q102 => ?_
      cases q102
      refine Sim.op (castI_p _ _) ?_
      exact Sim.ret rfl rfl
    · exact Sim.ret rfl rfl
  subst h106
  refine Sim.op (asB_p _) ?_
  refine Sim.ch (P := fun r y => (.p (.bool r), H58) = y) ?_ (fun b112 y113 h114 h115 => ?_)
  · refine Sim.cd (fun hc => ?_) (fun hc => ?_)
    · refine Sim.op ((S60.atG (i := 1) rfl).ldVs (j := 0) (xs := [.p (.int .i64 r29.1.Kind), .p (.int .i64 r29.1.Cap), v36, .p (.int .i64 r29.1.Peer), .p (.int .i64 r29.1.Height), .p (.int .i64 r29.1.Class), .p (.int .i64 r29.1.Layer), .p (.int .i64 r29.1.Code)]) rfl rfl (by decide)) ?_
      refine Sim.op ((S60.atG (i := 1) rfl).ldVs (j := 0) (xs := [.p (.int .i64 r29.1.Kind), .p (.int .i64 r29.1.Cap), v36, .p (.int .i64 r29.1.Peer), .p (.int .i64 r29.1.Height), .p (.int .i64 r29.1.Class), .p (.int .i64 r29.1.Layer), .p (.int .i64 r29.1.Code)]) rfl rfl (by decide)) ?_
      refine Sim.call (ctl_Same_ok k ((⟨r29.1.Kind, r29.1.Cap, r29.1.Layers, r29.1.Peer, r29.1.Height, r29.1.Class, r29.1.Layer, r29.1.Code⟩ : T_api_Ctl)) (show dT_api_Ctl.R ((⟨r29.1.Kind, r29.1.Cap, r29.1.Layers, r29.1.Peer, r29.1.Height, r29.1.Class, r29.1.Layer, r29.1.Code⟩ : T_api_Ctl)) [.p (.int .i64 r29.1.Kind), .p (.int .i64 r29.1.Cap), v36, .p (.int .i64 r29.1.Peer), .p (.int .i64 r29.1.Height), .p (.int .i64 r29.1.Class), .p (.int .i64 r29.1.Layer), .p (.int .i64 r29.1.Code)] from (dT_api_Ctl.mk h37)) ((⟨r29.1.Kind, r29.1.Cap, r29.1.Layers, r29.1.Peer, r29.1.Height, r29.1.Class, r29.1.Layer, r29.1.Code⟩ : T_api_Ctl)) (show dT_api_Ctl.R ((⟨r29.1.Kind, r29.1.Cap, r29.1.Layers, r29.1.Peer, r29.1.Height, r29.1.Class, r29.1.Layer, r29.1.Code⟩ : T_api_Ctl)) [.p (.int .i64 r29.1.Kind), .p (.int .i64 r29.1.Cap), v36, .p (.int .i64 r29.1.Peer), .p (.int .i64 r29.1.Height), .p (.int .i64 r29.1.Class), .p (.int .i64 r29.1.Layer), .p (.int .i64 r29.1.Code)] from (dT_api_Ctl.mk h37))) fun r107 cs108 H109 h110 q111 => ?_
      cases q111
      refine Sim.op (asB_p _) ?_
      exact Sim.ret rfl rfl
    · exact Sim.ret rfl rfl
  subst h115
  refine Sim.op (asB_p _) ?_
  refine Sim.ch (P := fun r y => (.p (.bool r), H58) = y) ?_ (fun b121 y122 h123 h124 => ?_)
  · refine Sim.cd (fun hc => ?_) (fun hc => ?_)
    · refine Sim.op (bldV (pt_cons rfl (pt_cons rfl pt_nil)) (by kernel_rfl : _ = some (.agg [.p (.int .i64 2), .p (.int .i64 1), .p (.slice none 0 0), .p (.int .i64 0), .p (.int .i64 0), .p (.int .i64 0), .p (.int .i64 0), .p (.int .i64 0)]))) ?_
      refine Sim.call (ctl_Right_ok k ((⟨2, 1, (([] : List T_api_Layer)), 0, 0, 0, 0, 0⟩ : T_api_Ctl)) (show dT_api_Ctl.R ((⟨2, 1, (([] : List T_api_Layer)), 0, 0, 0, 0, 0⟩ : T_api_Ctl)) [.p (.int .i64 2), .p (.int .i64 1), .p (.slice none 0 0), .p (.int .i64 0), .p (.int .i64 0), .p (.int .i64 0), .p (.int .i64 0), .p (.int .i64 0)] from (dT_api_Ctl.mk (SlF.nil dT_api_Layer)))) fun r116 cs117 H118 h119 q120 => ?_
      cases q120
      refine Sim.op (castI_p _ _) ?_
      exact Sim.ret rfl rfl
    · exact Sim.ret rfl rfl
  subst h124
  refine Sim.op (asB_p _) ?_
  exact Sim.fin (S60.finN (lv_cons (still_bool _).lv lv_nil)) rfl
end Go.Ev
/- Lifted by lift.py: limelightlaw8_CtlBack as a plain function. -/
namespace Go.Ev
open Go.Proofs
set_option linter.unusedVariables false
set_option linter.unusedSimpArgs false
set_option maxRecDepth 100000
def p_limelightlaw8_CtlBack (k : Nat) (x0 : (List Int)) (x1 : Int) (x2 : Int) : Option (Bool) :=
(p_limelightkeep_Tape_Ctl k (⟨x0, 0⟩ : T_limelightkeep_Tape)).bind fun r5 =>
(p_ctl_Bytes k ((⟨r5.1.Kind, r5.1.Cap, r5.1.Layers, r5.1.Peer, r5.1.Height, r5.1.Class, r5.1.Layer, r5.1.Code⟩ : T_api_Ctl))).bind fun r24 =>
(p_ctl_Read k r24.1).bind fun r38 =>
(bif r24.2 != 0 then (some true) else (some (r38.2 != 0))).bind fun b54 =>
(bif b54 then (some true) else ((p_limelightref8_Same k ((⟨r5.1.Kind, r5.1.Cap, r5.1.Layers, r5.1.Peer, r5.1.Height, r5.1.Class, r5.1.Layer, r5.1.Code⟩ : T_api_Ctl)) ((⟨r38.1.Kind, r38.1.Cap, r38.1.Layers, r38.1.Peer, r38.1.Height, r38.1.Class, r38.1.Layer, r38.1.Code⟩ : T_api_Ctl))).bind fun r58 =>
some (!r58))).bind fun b63 =>
(bif b63 then (some true) else (some (decide (((r24.1.length : Int)) < 3)))).bind fun b67 =>
bif b67 then (
some (false))
else (
(p_limelightbook_Within x1 0 (IntKind.wrap .i64 (((r24.1.length : Int)) - 1))).bind fun r71 =>
(sub r24.1 0 r71).bind fun a76 =>
(p_ctl_Read k a76).bind fun r78 =>
(ap 1 r24.1 ([x2])).bind fun a95 =>
(p_ctl_Read k a95).bind fun r101 =>
(bif r78.2 == 13 then (some (r101.2 == 12)) else (some false)).bind fun b117 =>
(bif b117 then ((p_limelightlaw8_known k).bind fun r121 =>
some r121) else (some false)).bind fun b126 =>
some (b126))
theorem limelightlaw8_CtlBack_ok (k : Nat) {h : H} {σ : Stamp} (x0 : List Int) {u0 : V} (hu0 : SlF (dI .i64) x0 u0) (x1 : Int) (x2 : Int) : Sim (p_limelightlaw8_CtlBack k x0 x1 x2) (ev G X0 8 σ [u0, (.p (.int .i64 x1)), (.p (.int .u8 x2))] h) (fun r s => s = ([.v (.p (.bool r))], h)) := by
  refine Sim.ev rfl (Sim.ext (limelightlaw8_CtlBack_entry _ _ _ _ _ _ _) ?_)
  rw [p_limelightlaw8_CtlBack]
  have S0 : Fm 75 h [] [] [] (List.replicate 75 [] :: h) := Fm.start0
  refine Sim.op (bldV (pt_cons hu0.still.cells pt_nil) (by kernel_rfl : _ = some (.agg [u0, .p (.int .i64 0)]))) ?_
  obtain ⟨H1, e2, S3⟩ := S0.box (own := false) (d := 18) (s := (2 :: 0 :: 1 :: 0 :: σ)) (xs := [u0, .p (.int .i64 0)]) (stills_cons hu0.still (stills_cons (still_int _ _) stills_nil)) (by decide) rfl
  refine Sim.op (e2) ?_
  refine Sim.call (limelightkeep_Tape_Ctl_ok k (⟨x0, 0⟩ : T_limelightkeep_Tape) hu0 (S3.atG (i := 0) rfl)) fun r5 cs6 H7 h8 q9 => ?_
  obtain ⟨w10, v12, h11, h13, q9⟩ := q9
  cases q9
  obtain ⟨v15, rfl, h16⟩ := dT_api_Ctl.inv h11
  have S14 := S3.setG (i := 0) (cs' := List.map C.v [v12, (.p (.int .i64 r5.2.f_At))]) rfl rfl rfl
  obtain ⟨H17, e18, S19⟩ := S14.al (d := 7) (s := (4 :: 0 :: 1 :: 0 :: σ)) (z := [(.p (.int .i64 0)), (.p (.int .i64 0)), (.p (.slice none 0 0)), (.p (.int .i64 0)), (.p (.int .i64 0)), (.p (.int .i64 0)), (.p (.int .i64 0)), (.p (.int .i64 0))]) (by decide) rfl
  refine Sim.op (congrArg some e18) ?_
  obtain ⟨H21, e22, S23⟩ := S19.stGv (i := 0) (j := 0) (own := false) (σ := (5 :: 0 :: 1 :: 0 :: σ)) (xs := [(.p (.int .i64 r5.1.Kind)), (.p (.int .i64 r5.1.Cap)), v15, (.p (.int .i64 r5.1.Peer)), (.p (.int .i64 r5.1.Height)), (.p (.int .i64 r5.1.Class)), (.p (.int .i64 r5.1.Layer)), (.p (.int .i64 r5.1.Code))]) rfl rfl (stills_cons (still_int _ _) (stills_cons (still_int _ _) (stills_cons h16.still (stills_cons (still_int _ _) (stills_cons (still_int _ _) (stills_cons (still_int _ _) (stills_cons (still_int _ _) (stills_cons (still_int _ _) stills_nil)))))))) rfl rfl
  refine Sim.op (st_map e22) ?_
  refine Sim.op ((S23.atG (i := 0) rfl).ldVs (j := 0) (xs := [.p (.int .i64 r5.1.Kind), .p (.int .i64 r5.1.Cap), v15, .p (.int .i64 r5.1.Peer), .p (.int .i64 r5.1.Height), .p (.int .i64 r5.1.Class), .p (.int .i64 r5.1.Layer), .p (.int .i64 r5.1.Code)]) rfl rfl (by decide)) ?_
  erw [callFO_eq (frzAs_cons (frzA_agg (dT_api_Ctl.still (dT_api_Ctl.mk h16))) frzAs_nil)]
  refine Sim.call (ctl_Bytes_ok k ((⟨r5.1.Kind, r5.1.Cap, r5.1.Layers, r5.1.Peer, r5.1.Height, r5.1.Class, r5.1.Layer, r5.1.Code⟩ : T_api_Ctl)) (show dT_api_Ctl.R ((⟨r5.1.Kind, r5.1.Cap, r5.1.Layers, r5.1.Peer, r5.1.Height, r5.1.Class, r5.1.Layer, r5.1.Code⟩ : T_api_Ctl)) [.p (.int .i64 r5.1.Kind), .p (.int .i64 r5.1.Cap), v15, .p (.int .i64 r5.1.Peer), .p (.int .i64 r5.1.Height), .p (.int .i64 r5.1.Class), .p (.int .i64 r5.1.Layer), .p (.int .i64 r5.1.Code)] from (dT_api_Ctl.mk h16))) fun r24 cs25 H26 h27 q28 => ?_
  obtain ⟨c29, cs30, h31, h32, q28⟩ := q28
  cases q28
  obtain ⟨v33, H34, e35, S36⟩ := S23.landN (dt := (dI .u8)) (d := 22) h31 h32 (by decide) rfl (.p (.int .i64 r24.2)) []
  erw [e35]
  refine Sim.op (rfl) ?_
  refine Sim.op (rfl) ?_
  refine Sim.op (castI_p _ _) ?_
  refine Sim.call (ctl_Read_ok k r24.1 (S36.sl (i := 0) rfl)) fun r38 cs39 H40 h41 q42 => ?_
  obtain ⟨w43, h44, q42⟩ := q42
  cases q42
  obtain ⟨v45, rfl, h46⟩ := dT_api_Ctl.inv h44
  refine Sim.op (rfl) ?_
  refine Sim.op (rfl) ?_
  refine Sim.op (castI_p _ _) ?_
  obtain ⟨H47, e48, S49⟩ := S36.al (d := 10) (s := (5 :: 0 :: 1 :: 1 :: 1 :: 0 :: σ)) (z := [(.p (.int .i64 0)), (.p (.int .i64 0)), (.p (.slice none 0 0)), (.p (.int .i64 0)), (.p (.int .i64 0)), (.p (.int .i64 0)), (.p (.int .i64 0)), (.p (.int .i64 0))]) (by decide) rfl
  refine Sim.op (congrArg some e48) ?_
  obtain ⟨H51, e52, S53⟩ := S49.stGv (i := 0) (j := 0) (own := false) (σ := (6 :: 0 :: 1 :: 1 :: 1 :: 0 :: σ)) (xs := [(.p (.int .i64 r38.1.Kind)), (.p (.int .i64 r38.1.Cap)), v45, (.p (.int .i64 r38.1.Peer)), (.p (.int .i64 r38.1.Height)), (.p (.int .i64 r38.1.Class)), (.p (.int .i64 r38.1.Layer)), (.p (.int .i64 r38.1.Code))]) rfl rfl (stills_cons (still_int _ _) (stills_cons (still_int _ _) (stills_cons h46.still (stills_cons (still_int _ _) (stills_cons (still_int _ _) (stills_cons (still_int _ _) (stills_cons (still_int _ _) (stills_cons (still_int _ _) stills_nil)))))))) rfl rfl
  refine Sim.op (st_map e52) ?_
  refine Sim.ch (P := fun r y => r = y) ?_ (fun b54 y55 h56 h57 => ?_)
  · refine Sim.cd (fun hc => ?_) (fun hc => ?_)
    · exact Sim.ret rfl rfl
    · exact Sim.ret rfl rfl
  subst h57
  refine Sim.ch (P := fun r y => (.p (.bool r), H51) = y) ?_ (fun b63 y64 h65 h66 => ?_)
  · refine Sim.cd (fun hc => ?_) (fun hc => ?_)
    · exact Sim.ret rfl rfl
    · refine Sim.op ((S53.atG (i := 1) rfl).ldVs (j := 0) (xs := [.p (.int .i64 r5.1.Kind), .p (.int .i64 r5.1.Cap), v15, .p (.int .i64 r5.1.Peer), .p (.int .i64 r5.1.Height), .p (.int .i64 r5.1.Class), .p (.int .i64 r5.1.Layer), .p (.int .i64 r5.1.Code)]) rfl rfl (by decide)) ?_
      refine Sim.op ((S53.atG (i := 0) rfl).ldVs (j := 0) (xs := [.p (.int .i64 r38.1.Kind), .p (.int .i64 r38.1.Cap), v45, .p (.int .i64 r38.1.Peer), .p (.int .i64 r38.1.Height), .p (.int .i64 r38.1.Class), .p (.int .i64 r38.1.Layer), .p (.int .i64 r38.1.Code)]) rfl rfl (by decide)) ?_
      refine Sim.call (limelightref8_Same_ok k ((⟨r5.1.Kind, r5.1.Cap, r5.1.Layers, r5.1.Peer, r5.1.Height, r5.1.Class, r5.1.Layer, r5.1.Code⟩ : T_api_Ctl)) (show dT_api_Ctl.R ((⟨r5.1.Kind, r5.1.Cap, r5.1.Layers, r5.1.Peer, r5.1.Height, r5.1.Class, r5.1.Layer, r5.1.Code⟩ : T_api_Ctl)) [.p (.int .i64 r5.1.Kind), .p (.int .i64 r5.1.Cap), v15, .p (.int .i64 r5.1.Peer), .p (.int .i64 r5.1.Height), .p (.int .i64 r5.1.Class), .p (.int .i64 r5.1.Layer), .p (.int .i64 r5.1.Code)] from (dT_api_Ctl.mk h16)) ((⟨r38.1.Kind, r38.1.Cap, r38.1.Layers, r38.1.Peer, r38.1.Height, r38.1.Class, r38.1.Layer, r38.1.Code⟩ : T_api_Ctl)) (show dT_api_Ctl.R ((⟨r38.1.Kind, r38.1.Cap, r38.1.Layers, r38.1.Peer, r38.1.Height, r38.1.Class, r38.1.Layer, r38.1.Code⟩ : T_api_Ctl)) [.p (.int .i64 r38.1.Kind), .p (.int .i64 r38.1.Cap), v45, .p (.int .i64 r38.1.Peer), .p (.int .i64 r38.1.Height), .p (.int .i64 r38.1.Class), .p (.int .i64 r38.1.Layer), .p (.int .i64 r38.1.Code)] from (dT_api_Ctl.mk h46))) fun r58 cs59 H60 h61 q62 => ?_
      cases q62
      refine Sim.op (asB_p _) ?_
      exact Sim.ret rfl rfl
  subst h66
  refine Sim.op (asB_p _) ?_
  refine Sim.ch (P := fun r y => r = y) ?_ (fun b67 y68 h69 h70 => ?_)
  · refine Sim.cd (fun hc => ?_) (fun hc => ?_)
    · exact Sim.ret rfl rfl
    · refine Sim.op ((S53.sl (i := 0) rfl).len) ?_
      refine Sim.op (castI_p _ _) ?_
      exact Sim.ret rfl rfl
  subst h70
  refine Sim.cd (fun hc => ?_) (fun hc => ?_)
  · exact Sim.fin (S53.finN (lv_cons (still_bool _).lv lv_nil)) rfl
  · refine Sim.op ((S53.sl (i := 0) rfl).len) ?_
    refine Sim.op (castI_p _ _) ?_
    refine Sim.call (limelightbook_Within_ok x1 0 (IntKind.wrap .i64 (((r24.1.length : Int)) - 1))) fun r71 cs72 H73 h74 q75 => ?_
    cases q75
    refine Sim.op (castI_p _ _) ?_
    refine Sim.bd fun a76 h77 => ?_
    refine Sim.op ((S53.sl (i := 0) rfl).slS h77 rfl rfl rfl) ?_
    refine Sim.call (ctl_Read_ok k a76 ((S53.sl (i := 0) rfl).sub h77 (e := 1) rfl)) fun r78 cs79 H80 h81 q82 => ?_
    obtain ⟨w83, h84, q82⟩ := q82
    cases q82
    obtain ⟨v85, rfl, h86⟩ := dT_api_Ctl.inv h84
    refine Sim.op (rfl) ?_
    refine Sim.op (rfl) ?_
    refine Sim.op (castI_p _ _) ?_
    obtain ⟨H87, e88, S89⟩ := S53.al (d := 12) (s := (11 :: 0 :: 1 :: 1 :: 1 :: 1 :: 1 :: 0 :: σ)) (z := [(.p (.int .i64 0)), (.p (.int .i64 0)), (.p (.slice none 0 0)), (.p (.int .i64 0)), (.p (.int .i64 0)), (.p (.int .i64 0)), (.p (.int .i64 0)), (.p (.int .i64 0))]) (by decide) rfl
    refine Sim.op (congrArg some e88) ?_
    obtain ⟨H91, e92, S93⟩ := S89.stGv (i := 0) (j := 0) (own := false) (σ := (12 :: 0 :: 1 :: 1 :: 1 :: 1 :: 1 :: 0 :: σ)) (xs := [(.p (.int .i64 r78.1.Kind)), (.p (.int .i64 r78.1.Cap)), v85, (.p (.int .i64 r78.1.Peer)), (.p (.int .i64 r78.1.Height)), (.p (.int .i64 r78.1.Class)), (.p (.int .i64 r78.1.Layer)), (.p (.int .i64 r78.1.Code))]) rfl rfl (stills_cons (still_int _ _) (stills_cons (still_int _ _) (stills_cons h86.still (stills_cons (still_int _ _) (stills_cons (still_int _ _) (stills_cons (still_int _ _) (stills_cons (still_int _ _) (stills_cons (still_int _ _) stills_nil)))))))) rfl rfl
    refine Sim.op (st_map e92) ?_
    have h94 : SlF (dI .u8) [x2] (.fz [(.p (.int .u8 x2))] 1 1 true) := SlF.lit (cs := [(.p (.int .u8 x2))]) (RL.cons (show (dI .u8).R x2 [(.p (.int .u8 x2))] from rfl) RL.nil) rfl rfl true
    refine Sim.op (bldS (pt_cons rfl pt_nil) (by kernel_rfl : _ = some (.fz [(.p (.int .u8 x2))] 1 1 true))) ?_
    refine Sim.bd fun a95 h96 => ?_
    obtain ⟨v97, H98, e99, S100⟩ := S93.app (i := 0) (d := 62) (e := 1) (own := true) (σ := (3 :: 0 :: 1 :: 1 :: 1 :: 1 :: 1 :: 1 :: 0 :: σ)) rfl (h94.h H91).y h96 rfl (by decide) (by decide) rfl
    refine Sim.op (e99) ?_
    refine Sim.call (ctl_Read_ok k a95 (S100.sl (i := 0) rfl)) fun r101 cs102 H103 h104 q105 => ?_
    obtain ⟨w106, h107, q105⟩ := q105
    cases q105
    obtain ⟨v108, rfl, h109⟩ := dT_api_Ctl.inv h107
    refine Sim.op (rfl) ?_
    refine Sim.op (rfl) ?_
    refine Sim.op (castI_p _ _) ?_
    obtain ⟨H110, e111, S112⟩ := S100.al (d := 14) (s := (8 :: 0 :: 1 :: 1 :: 1 :: 1 :: 1 :: 1 :: 0 :: σ)) (z := [(.p (.int .i64 0)), (.p (.int .i64 0)), (.p (.slice none 0 0)), (.p (.int .i64 0)), (.p (.int .i64 0)), (.p (.int .i64 0)), (.p (.int .i64 0)), (.p (.int .i64 0))]) (by decide) rfl
    refine Sim.op (congrArg some e111) ?_
    obtain ⟨H114, e115, S116⟩ := S112.stGv (i := 0) (j := 0) (own := false) (σ := (9 :: 0 :: 1 :: 1 :: 1 :: 1 :: 1 :: 1 :: 0 :: σ)) (xs := [(.p (.int .i64 r101.1.Kind)), (.p (.int .i64 r101.1.Cap)), v108, (.p (.int .i64 r101.1.Peer)), (.p (.int .i64 r101.1.Height)), (.p (.int .i64 r101.1.Class)), (.p (.int .i64 r101.1.Layer)), (.p (.int .i64 r101.1.Code))]) rfl rfl (stills_cons (still_int _ _) (stills_cons (still_int _ _) (stills_cons h109.still (stills_cons (still_int _ _) (stills_cons (still_int _ _) (stills_cons (still_int _ _) (stills_cons (still_int _ _) (stills_cons (still_int _ _) stills_nil)))))))) rfl rfl
    refine Sim.op (st_map e115) ?_
    refine Sim.ch (P := fun r y => r = y) ?_ (fun b117 y118 h119 h120 => ?_)
    · refine Sim.cd (fun hc => ?_) (fun hc => ?_)
      · exact Sim.ret rfl rfl
      · exact Sim.ret rfl rfl
    subst h120
    refine Sim.ch (P := fun r y => (.p (.bool r), H114) = y) ?_ (fun b126 y127 h128 h129 => ?_)
    · refine Sim.cd (fun hc => ?_) (fun hc => ?_)
      · refine Sim.call (limelightlaw8_known_ok k ) fun r121 cs122 H123 h124 q125 => ?_
        cases q125
        refine Sim.op (asB_p _) ?_
        exact Sim.ret rfl rfl
      · exact Sim.ret rfl rfl
    subst h129
    refine Sim.op (asB_p _) ?_
    exact Sim.fin (S116.finN (lv_cons (still_bool _).lv lv_nil)) rfl
end Go.Ev
namespace Go.Ev
set_option maxRecDepth 100000
theorem known8 : p_limelightlaw8_known 40 = some true := by kernel_rfl
theorem ctlBack_true (x0 : List Int) (h0 : x0.length < 2 ^ 50) (x1 x2 : Int) (h2 : 0 ≤ x2 ∧ x2 < 256) : p_limelightlaw8_CtlBack 40 x0 x1 x2 = some true := by
  unfold p_limelightlaw8_CtlBack
  obtain ⟨c, t, ea, h⟩ := tape_ctl (t := ⟨x0, 0⟩) ⟨by simp, by simp, h0⟩
  obtain ⟨v, hv, es⟩ := same8 (a := c) (b := c) h.okC.2.1
  have hvt : v = true := hv.2 rfl
  subst hvt
  have hb := h.blen
  have hl := bytC_len c
  have ba : p_ctl_Bytes 40 (⟨c.Kind, c.Cap, c.Layers, c.Peer, c.Height, c.Class, c.Layer, c.Code⟩ : T_api_Ctl) = some (bytC c, 0) := h.bytes
  have es' : p_limelightref8_Same 40 (⟨c.Kind, c.Cap, c.Layers, c.Peer, c.Height, c.Class, c.Layer, c.Code⟩ : T_api_Ctl) (⟨c.Kind, c.Cap, c.Layers, c.Peer, c.Height, c.Class, c.Layer, c.Code⟩ : T_api_Ctl) = some true := es
  have r1 := read8 h (suf := []) (by simp) (fun x hx => by cases hx)
  rw [List.append_nil] at r1
  have r2 := read8 h (suf := [x2]) (by simp) (fun x hx => by rw [List.mem_singleton] at hx; subst hx; exact h2)
  have d3 : decide (((bytC c).length : Int) < 3) = false := decide_eq_false (by omega)
  have w1 : IntKind.wrap .i64 (((bytC c).length : Int) - 1) = (((bytC c).length - 1 : Nat) : Int) := by rw [wrap_i64 (by omega) (by omega)]; omega
  obtain ⟨q, hq, q0, q1⟩ := within_lo (x := x1) (hi := (((bytC c).length - 1 : Nat) : Int)) (by omega) (by omega)
  obtain ⟨m, rfl⟩ : ∃ m : Nat, q = m := ⟨q.toNat, by omega⟩
  have hsub : sub (bytC c) 0 (m : Int) = some ((bytC c).take m) := by
    have := sub_eq (xs := bytC c) (a := 0) (n := m) (by omega)
    rw [Nat.zero_add, List.drop_zero] at this
    exact this
  have r3 := read8_cut h (m := m) (by omega)
  have hap : ap 1 (bytC c) [x2] = some (bytC c ++ [x2]) := ap_eq (by decide) (by simp only [List.length_cons, List.length_nil]; omega)
  rw [ea, Option.bind_some]
  simp only [ba, Option.bind_some, r1, List.isEmpty_nil, cond_true, show ((0 : Int) != 0) = false from rfl, cond_false, es', Bool.not_true, d3, w1, hq, hsub, r3, hap, r2, List.isEmpty_cons, show ((13 : Int) == 13) = true from rfl, show ((12 : Int) == 12) = true from rfl, known8]
theorem ctlBack_ev (a0 : (DT.slice 8 (.int .i64)).D) (a1 : (DT.int .i64).D) (a2 : (DT.int .u8).D) (w0 : (DT.slice 8 (.int .i64)).ok a0) (_ : (DT.int .i64).ok a1) (w2 : (DT.int .u8).ok a2) :
    ev G X0 8 [] [(DT.slice 8 (.int .i64)).val a0, (DT.int .i64).val a1, (DT.int .u8).val a2] [] = some ([.v (bV true)], []) := by
  have hl : (Option.getD a0 []).length < 2 ^ 50 := by
    cases a0 with
    | none => exact Nat.two_pow_pos 50
    | some l =>
      have := w0.1
      have hr : reachBytes ≤ 140737488355328 := by decide
      have e : (Option.getD (some l) []).length = l.length := rfl
      omega
  have hb : 0 ≤ (show Int from a2) ∧ (show Int from a2) < 256 := wf_u8 w2
  obtain ⟨_, h1, rfl⟩ := limelightlaw8_CtlBack_ok 40 (h := []) (σ := []) (Option.getD a0 []) (slF_ints a0) a1 a2 _ (ctlBack_true _ hl a1 a2 hb)
  exact h1
end Go.Ev
