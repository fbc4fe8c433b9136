/- A part of the proof that follows: Chapter 4's runs: elements of sixty tapes, IDs and lengths at bounds, bytes cut off and turned: a closed sentence. -/
import Derived.Test.YtigkdihkmihmmaaMExtNumbers2
import Derived.KernelRfl
/- Equations, printed by tracer2.py. -/
namespace Go.Ev
open Go.Proofs
set_option linter.unusedVariables false
set_option maxRecDepth 100000
-- 20 limelight/limelightlaw4.known
theorem limelightlaw4_known_entry (rec : CallF) (loop : LoopV) (σ : Stamp)  (h : H) : cvBody G rec loop 20 σ [] h =
 (buildSliceV Try.prog 32 2 [(0, (.p (.int .u8 104))), (1, (.p (.int .u8 105)))]).bind fun t1 =>
 (litS true t1).bind fun t2 =>
 (buildV Try.prog 38 [(0, (.p (.int .i64 1))), (1, t2)]).bind fun t3 =>
 (buildSliceV Try.prog 27 1 [(0, t3)]).bind fun t4 =>
 (callO rec 22 (4 :: 0 :: 1 :: 0 :: σ) [(.p (.int .u16 48862)), t4] (List.replicate 95 [] :: h) (some 20)).bind fun q5 =>
 (extV q5.1 0).bind fun t6 =>
 (extV q5.1 1).bind fun t7 =>
 (castI .i64 t7).bind fun n8 =>
 (callO rec 23 (1 :: 0 :: 1 :: 1 :: 0 :: σ) [(.p (.int .u16 48862)), t6] q5.2 (some 25)).bind fun q9 =>
 (extV q9.1 0).bind fun t10 =>
 (extV q9.1 1).bind fun t11 =>
 (castI .i64 t11).bind fun n12 =>
 (callO rec 22 (0 :: 0 :: 1 :: 1 :: 1 :: 0 :: σ) [(.p (.int .u16 0)), (.p (.slice .none 0 0))] q9.2 (some 29)).bind fun q13 =>
 (extV q13.1 0).bind fun t14 =>
 (extV q13.1 1).bind fun t15 =>
 (castI .i64 t15).bind fun n16 =>
 (callO rec 25 (1 :: 0 :: 1 :: 1 :: 1 :: 1 :: 0 :: σ) [t10, (.p (.int .i64 1))] q13.2 (some 34)).bind fun q17 =>
 (extV q17.1 0).bind fun t18 =>
 (extV q17.1 1).bind fun t19 =>
 (asB t19).bind fun b20 =>
 (callO rec 25 (0 :: 0 :: 1 :: 1 :: 1 :: 1 :: 1 :: 0 :: σ) [(.p (.slice .none 0 0)), (.p (.int .i64 1))] q17.2 (some 38)).bind fun q21 =>
 (extV q21.1 0).bind fun t22 =>
 (extV q21.1 1).bind fun t23 =>
 (asB t23).bind fun b24 =>
 (buildV Try.prog 52 [(6, (.p (.int .u16 48862))), (7, t6)]).bind fun t25 =>
 (callO rec 26 (2 :: 0 :: 1 :: 1 :: 1 :: 1 :: 1 :: 1 :: 0 :: σ) [t25] q21.2 (some 44)).bind fun q26 =>
 (extV q26.1 0).bind fun t27 =>
 (castS t27).bind fun s28 =>
 (extV q26.1 1).bind fun t29 =>
 (asB t29).bind fun b30 =>
 (buildSliceV Try.prog 32 4 [(0, (.p (.int .u8 5))), (1, (.p (.int .u8 9))), (2, (.p (.int .u8 1))), (3, (.p (.int .u8 1)))]).bind fun t31 =>
 (callO rec 23 (1 :: 0 :: 1 :: 1 :: 1 :: 1 :: 1 :: 1 :: 1 :: 0 :: σ) [(.p (.int .u16 4096)), t31] q26.2 (some 49)).bind fun q32 =>
 (extV q32.1 0).bind fun t33 =>
 (extV q32.1 1).bind fun t34 =>
 (castI .i64 t34).bind fun n35 =>
 (bif n8 == 0 then ((strO q32.2 t6).bind fun t36 =>
 (castS t36).bind fun s37 =>
 some (s37.toList == ((⟨#[17, 104, 105, 0]⟩ : ByteArray)).toList)) else (some false)).bind fun b38 =>
 (bif b38 then (some (n12 == 0)) else (some false)).bind fun b39 =>
 (bif b39 then ((lenO t10).bind fun t40 =>
 (castI .i64 t40).bind fun n41 =>
 some (n41 == 1)) else (some false)).bind fun b42 =>
 (bif b42 then (some (n16 == 1)) else (some false)).bind fun b43 =>
 (bif b43 then (some b20) else (some false)).bind fun b44 =>
 (bif b44 then ((strO q32.2 t18).bind fun t45 =>
 (castS t45).bind fun s46 =>
 some (s46.toList == ((⟨#[104, 105]⟩ : ByteArray)).toList)) else (some false)).bind fun b47 =>
 (bif b47 then (some (!b24)) else (some false)).bind fun b48 =>
 (bif b48 then (some b30) else (some false)).bind fun b49 =>
 (bif b49 then (some (s28.toList == ((⟨#[104, 105]⟩ : ByteArray)).toList)) else (some false)).bind fun b50 =>
 (bif b50 then (some (n35 == 13)) else (some false)).bind fun b51 =>
 fin false σ q32.2 [(.p (.bool b51))] := by kernel_rfl
end Go.Ev
/- Equations, printed by tracer2.py. -/
namespace Go.Ev
open Go.Proofs
set_option linter.unusedVariables false
set_option maxRecDepth 100000
-- 22 limelight/ext.Bytes
noncomputable def ext_Bytes_c0 : Code := (codeAt (bodyOf Try.f22) [1, 1, 1, 0, 1, 0, 0])
def ext_Bytes_l0 : Lv := ⟨64, 48, [(1, 64)]⟩
noncomputable def ext_Bytes_k0 (rec : CallF) (loop : LoopV) (σ : Stamp) : Exit → Env → H → Option (List C × H) := (kBlock 1 (kSeq G rec loop (codeAt (bodyOf Try.f22) [1, 1, 1, 1]) ⟨48, 48, []⟩ (1 :: 1 :: 1 :: 0 :: σ) (finC G true Try.f22 (1 :: σ))))
theorem ext_Bytes_entry (rec : CallF) (loop : LoopV) (σ : Stamp) (x0 : Int) (x1 : V) (h : H) : cvBody G rec loop 22 σ [(.p (.int .u16 x0)), x1] h =
 (bif x0 != 48862 then (some (x0 != 4096)) else (some false)).bind fun b1 =>
 bif b1 then (
 fin true σ (List.replicate 61 [] :: h) [(.p (.slice .none 0 0)), (.p (.int .i64 1))])
 else (
 (lenO x1).bind fun t2 =>
 (castI .i64 t2).bind fun n3 =>
 bif decide (n3 > 8) then (
 fin true σ (List.replicate 61 [] :: h) [(.p (.slice .none 0 0)), (.p (.int .i64 3))])
 else (
 (lenO x1).bind fun t4 =>
 (castI .i64 t4).bind fun n5 =>
 (loop ext_Bytes_c0 ext_Bytes_l0 (1 :: 0 :: 1 :: 1 :: 1 :: 0 :: σ) (envL [(0, (.p (.int .u16 x0))), (6, (.p (.slice .none 0 0))), (20, x1), (21, (.p (.int .i64 n5))), (22, (.p (.int .i64 0)))]) (List.replicate 61 [] :: h)).bind fun r6 => ext_Bytes_k0 rec loop σ r6.1 r6.2.1 r6.2.2)) := by kernel_rfl
theorem ext_Bytes_r0 (rec : CallF) (loop : LoopV) (σ : Stamp) (x0 : Int) (x6 : V) (x20 : V) (x21 : Int) (x22 : Int) (h : H) : cvRound G rec loop ext_Bytes_c0 ext_Bytes_l0 σ (envL [(0, (.p (.int .u16 x0))), (6, x6), (20, x20), (21, (.p (.int .i64 x21))), (22, (.p (.int .i64 x22)))]) h =
 bif decide (x22 < x21) then (
 (iS 2 x20 x22).bind fun t7 =>
 (ldO true 2 h t7).bind fun t8 =>
 (some (alO [.p (.int .i64 0), .p (.slice none 0 0)] (2 :: 0 :: 0 :: 1 :: 1 :: 0 :: σ) 8 h)).bind fun q9 =>
 ((stO false 2 (3 :: 0 :: 0 :: 1 :: 1 :: 0 :: σ) q9.2 q9.1 t8).map fun h => (udf, h)).bind fun q10 =>
 (ldO true 2 q10.2 q9.1).bind fun t11 =>
 (callO rec 56 (2 :: 0 :: 0 :: 1 :: 0 :: 1 :: 1 :: 0 :: σ) [(.p (.int .u16 x0)), t11] q10.2 (some 28)).bind fun q12 =>
 (asB q12.1).bind fun b13 =>
 bif !b13 then (
 some (.ret, (envL [(4, (.p (.slice .none 0 0))), (5, (.p (.int .i64 1)))]), q12.2))
 else (
 bif x0 == 48862 then (
 (fA q9.1 0).bind fun t14 =>
 (ldO false 1 q12.2 t14).bind fun t15 =>
 (castI .i64 t15).bind fun n16 =>
 (fA q9.1 1).bind fun t17 =>
 (ldO false 1 q12.2 t17).bind fun t18 =>
 (lenO t18).bind fun t19 =>
 (castI .i64 t19).bind fun n20 =>
 (buildSliceV Try.prog 32 1 [(0, (.p (.int .u8 (IntKind.wrap .u8 (intBits .or .i64 (IntKind.wrap .i64 (n16 * 2 ^ 4)) (IntKind.wrap .i64 (n20 - 1)))))))]).bind fun t21 =>
 (apO true 1 1 (11 :: 1 :: 0 :: 1 :: 1 :: 0 :: 1 :: 1 :: 0 :: σ) 43 q12.2 x6 t21).bind fun q22 =>
 (fA q9.1 1).bind fun t23 =>
 (ldO false 1 q22.2 t23).bind fun t24 =>
 (apO true 1 1 (3 :: 1 :: 1 :: 1 :: 0 :: 1 :: 1 :: 0 :: σ) 57 q22.2 q22.1 t24).bind fun q25 =>
 loop ext_Bytes_c0 ext_Bytes_l0 (1 :: σ) (envL [(0, (.p (.int .u16 x0))), (6, q25.1), (20, x20), (21, (.p (.int .i64 x21))), (22, (.p (.int .i64 (IntKind.wrap .i64 (x22 + 1)))))]) q25.2)
 else (
 (fA q9.1 0).bind fun t26 =>
 (ldO false 1 q12.2 t26).bind fun t27 =>
 (castI .i64 t27).bind fun n28 =>
 (fA q9.1 1).bind fun t29 =>
 (ldO false 1 q12.2 t29).bind fun t30 =>
 (lenO t30).bind fun t31 =>
 (castI .i64 t31).bind fun n32 =>
 (buildSliceV Try.prog 32 2 [(0, (.p (.int .u8 (IntKind.wrap .u8 n28)))), (1, (.p (.int .u8 (IntKind.wrap .u8 n32))))]).bind fun t33 =>
 (apO true 1 1 (9 :: 1 :: 0 :: 1 :: 1 :: 0 :: 1 :: 1 :: 0 :: σ) 53 q12.2 x6 t33).bind fun q34 =>
 (fA q9.1 1).bind fun t35 =>
 (ldO false 1 q34.2 t35).bind fun t36 =>
 (apO true 1 1 (3 :: 1 :: 1 :: 1 :: 0 :: 1 :: 1 :: 0 :: σ) 57 q34.2 q34.1 t36).bind fun q37 =>
 loop ext_Bytes_c0 ext_Bytes_l0 (1 :: σ) (envL [(0, (.p (.int .u16 x0))), (6, q37.1), (20, x20), (21, (.p (.int .i64 x21))), (22, (.p (.int .i64 (IntKind.wrap .i64 (x22 + 1)))))]) q37.2)))
 else (
 some ((.exit 1), (envL [(6, x6)]), h)) := by kernel_rfl
theorem ext_Bytes_a0_1 (rec : CallF) (loop : LoopV) (σ : Stamp) (x6 : V) (h : H) : ext_Bytes_k0 rec loop σ (.exit 1) (envL [(6, x6)]) h =
 (callO rec 57 (1 :: 0 :: 1 :: 1 :: 1 :: 1 :: 0 :: σ) [x6, (.p (.int .i64 4))] h (some 60)).bind fun q38 =>
 fin true σ q38.2 [q38.1, (.p (.int .i64 0))] := by kernel_rfl
theorem ext_Bytes_a0_ret (rec : CallF) (loop : LoopV) (σ : Stamp) (x4 : V) (x5 : Int) (h : H) : ext_Bytes_k0 rec loop σ .ret (envL [(4, x4), (5, (.p (.int .i64 x5)))]) h =
 fin true σ h [x4, (.p (.int .i64 x5))] := by kernel_rfl
end Go.Ev
/- Equations, printed by tracer2.py. -/
namespace Go.Ev
open Go.Proofs
set_option linter.unusedVariables false
set_option maxRecDepth 100000
-- 56 limelight/ext.right
theorem ext_right_entry (rec : CallF) (loop : LoopV) (σ : Stamp) (x0 : Int) (x1 : V) (h : H) : cvBody G rec loop 56 σ [(.p (.int .u16 x0)), x1] h =
 (boxO false (0 :: 0 :: 0 :: σ) 3 (List.replicate 41 [] :: h) x1).bind fun q1 =>
 bif x0 == 48862 then (
 (fA q1.1 0).bind fun t2 =>
 (ldO false 1 q1.2 t2).bind fun t3 =>
 (castI .i64 t3).bind fun n4 =>
 (bif decide (n4 ≥ 1) then ((fA q1.1 0).bind fun t5 =>
 (ldO false 1 q1.2 t5).bind fun t6 =>
 (castI .i64 t6).bind fun n7 =>
 some (decide (n7 ≤ 14))) else (some false)).bind fun b8 =>
 (bif b8 then ((fA q1.1 1).bind fun t9 =>
 (ldO false 1 q1.2 t9).bind fun t10 =>
 (lenO t10).bind fun t11 =>
 (castI .i64 t11).bind fun n12 =>
 some (decide (n12 ≥ 1))) else (some false)).bind fun b13 =>
 (bif b13 then ((fA q1.1 1).bind fun t14 =>
 (ldO false 1 q1.2 t14).bind fun t15 =>
 (lenO t15).bind fun t16 =>
 (castI .i64 t16).bind fun n17 =>
 some (decide (n17 ≤ 16))) else (some false)).bind fun b18 =>
 fin false σ q1.2 [(.p (.bool b18))])
 else (
 (fA q1.1 0).bind fun t19 =>
 (ldO false 1 q1.2 t19).bind fun t20 =>
 (castI .i64 t20).bind fun n21 =>
 (bif decide (n21 ≥ 1) then ((fA q1.1 0).bind fun t22 =>
 (ldO false 1 q1.2 t22).bind fun t23 =>
 (castI .i64 t23).bind fun n24 =>
 some (decide (n24 ≤ 255))) else (some false)).bind fun b25 =>
 (bif b25 then ((fA q1.1 1).bind fun t26 =>
 (ldO false 1 q1.2 t26).bind fun t27 =>
 (lenO t27).bind fun t28 =>
 (castI .i64 t28).bind fun n29 =>
 some (decide (n29 ≤ 255))) else (some false)).bind fun b30 =>
 fin false σ q1.2 [(.p (.bool b30))]) := by kernel_rfl
end Go.Ev
/- Lifted by lift.py: ext_right as a plain function. -/
namespace Go.Ev
open Go.Proofs
set_option linter.unusedVariables false
set_option linter.unusedSimpArgs false
set_option maxRecDepth 100000
def p_ext_right (x0 : Int) (x1 : T_api_Elem) : Option (Bool) :=
bif x0 == 48862 then (
(bif decide (x1.ID ≥ 1) then (some (decide (x1.ID ≤ 14))) else (some false)).bind fun b7 =>
(bif b7 then (some (decide (((x1.Data.length : Int)) ≥ 1))) else (some false)).bind fun b11 =>
(bif b11 then (some (decide (((x1.Data.length : Int)) ≤ 16))) else (some false)).bind fun b15 =>
some (b15))
else (
(bif decide (x1.ID ≥ 1) then (some (decide (x1.ID ≤ 255))) else (some false)).bind fun b19 =>
(bif b19 then (some (decide (((x1.Data.length : Int)) ≤ 255))) else (some false)).bind fun b23 =>
some (b23))
theorem ext_right_ok {h : H} {σ : Stamp} (x0 : Int) (x1 : T_api_Elem) {u1 : List V} (hu1 : dT_api_Elem.R x1 u1) : Sim (p_ext_right x0 x1) (ev G X0 56 σ [(.p (.int .u16 x0)), (.agg u1)] h) (fun r s => s = ([.v (.p (.bool r))], h)) := by
  refine Sim.ev rfl (Sim.ext (ext_right_entry _ _ _ _ _ _) ?_)
  rw [p_ext_right]
  obtain ⟨v1, rfl, h2⟩ := dT_api_Elem.inv hu1
  have S0 : Fm 41 h [] [] [] (List.replicate 41 [] :: h) := Fm.start0
  obtain ⟨H3, e4, S5⟩ := S0.box (own := false) (d := 3) (s := (0 :: 0 :: 0 :: σ)) (xs := [(.p (.int .i64 x1.ID)), v1]) (stills_cons (still_int _ _) (stills_cons h2.still stills_nil)) (by decide) rfl
  refine Sim.op (e4) ?_
  refine Sim.cd (fun hc => ?_) (fun hc => ?_)
  · refine Sim.op (fA_ref _ _ _) ?_
    refine Sim.op ((S5.atG (i := 0) rfl).ld (j := 0) rfl) ?_
    refine Sim.op (castI_p _ _) ?_
    refine Sim.ch (P := fun r y => r = y) ?_ (fun b7 y8 h9 h10 => ?_)
    · refine Sim.cd (fun hc => ?_) (fun hc => ?_)
      · refine Sim.op (fA_ref _ _ _) ?_
        refine Sim.op ((S5.atG (i := 0) rfl).ld (j := 0) rfl) ?_
        refine Sim.op (castI_p _ _) ?_
        exact Sim.ret rfl rfl
      · exact Sim.ret rfl rfl
    subst h10
    refine Sim.ch (P := fun r y => r = y) ?_ (fun b11 y12 h13 h14 => ?_)
    · refine Sim.cd (fun hc => ?_) (fun hc => ?_)
      · refine Sim.op (fA_ref _ _ _) ?_
        refine Sim.op ((S5.atG (i := 0) rfl).ld (j := 1) rfl) ?_
        refine Sim.op ((h2.h H3).len) ?_
        refine Sim.op (castI_p _ _) ?_
        exact Sim.ret rfl rfl
      · exact Sim.ret rfl rfl
    subst h14
    refine Sim.ch (P := fun r y => r = y) ?_ (fun b15 y16 h17 h18 => ?_)
    · refine Sim.cd (fun hc => ?_) (fun hc => ?_)
      · refine Sim.op (fA_ref _ _ _) ?_
        refine Sim.op ((S5.atG (i := 0) rfl).ld (j := 1) rfl) ?_
        refine Sim.op ((h2.h H3).len) ?_
        refine Sim.op (castI_p _ _) ?_
        exact Sim.ret rfl rfl
      · exact Sim.ret rfl rfl
    subst h18
    exact Sim.fin (S5.finN (lv_cons (still_bool _).lv lv_nil)) rfl
  · refine Sim.op (fA_ref _ _ _) ?_
    refine Sim.op ((S5.atG (i := 0) rfl).ld (j := 0) rfl) ?_
    refine Sim.op (castI_p _ _) ?_
    refine Sim.ch (P := fun r y => r = y) ?_ (fun b19 y20 h21 h22 => ?_)
    · refine Sim.cd (fun hc => ?_) (fun hc => ?_)
      · refine Sim.op (fA_ref _ _ _) ?_
        refine Sim.op ((S5.atG (i := 0) rfl).ld (j := 0) rfl) ?_
        refine Sim.op (castI_p _ _) ?_
        exact Sim.ret rfl rfl
      · exact Sim.ret rfl rfl
    subst h22
    refine Sim.ch (P := fun r y => r = y) ?_ (fun b23 y24 h25 h26 => ?_)
    · refine Sim.cd (fun hc => ?_) (fun hc => ?_)
      · refine Sim.op (fA_ref _ _ _) ?_
        refine Sim.op ((S5.atG (i := 0) rfl).ld (j := 1) rfl) ?_
        refine Sim.op ((h2.h H3).len) ?_
        refine Sim.op (castI_p _ _) ?_
        exact Sim.ret rfl rfl
      · exact Sim.ret rfl rfl
    subst h26
    exact Sim.fin (S5.finN (lv_cons (still_bool _).lv lv_nil)) rfl
end Go.Ev
/- Equations, printed by tracer2.py. -/
namespace Go.Ev
open Go.Proofs
set_option linter.unusedVariables false
set_option maxRecDepth 100000
-- 57 limelight/octet.Pad
noncomputable def octet_Pad_c0 : Code := (codeAt (bodyOf Try.f57) [1, 1, 1, 0, 0, 0])
def octet_Pad_l0 : Lv := ⟨32, 16, [(0, 32)]⟩
noncomputable def octet_Pad_k0 (rec : CallF) (loop : LoopV) (σ : Stamp) : Exit → Env → H → Option (List C × H) := (kBlock 0 (kSeq G rec loop (codeAt (bodyOf Try.f57) [1, 1, 1, 1]) ⟨16, 16, []⟩ (1 :: 1 :: 1 :: 0 :: σ) (finC G false Try.f57 (1 :: σ))))
theorem octet_Pad_entry (rec : CallF) (loop : LoopV) (σ : Stamp) (x0 : V) (x1 : Int) (h : H) : cvBody G rec loop 57 σ [x0, (.p (.int .i64 x1))] h =
 (callO rec 63 (1 :: 0 :: 1 :: 0 :: σ) [x0] (List.replicate 25 [] :: h) (some 7)).bind fun q1 =>
 (bif decide (x1 < 1) then (some true) else (some (decide (x1 > 64)))).bind fun b2 =>
 bif b2 then (
 fin false σ q1.2 [q1.1])
 else (
 (loop octet_Pad_c0 octet_Pad_l0 (0 :: 1 :: 1 :: 1 :: 0 :: σ) (envL [(1, (.p (.int .i64 x1))), (5, q1.1)]) q1.2).bind fun r3 => octet_Pad_k0 rec loop σ r3.1 r3.2.1 r3.2.2) := by kernel_rfl
theorem octet_Pad_r0 (rec : CallF) (loop : LoopV) (σ : Stamp) (x1 : Int) (x5 : V) (h : H) : cvRound G rec loop octet_Pad_c0 octet_Pad_l0 σ (envL [(1, (.p (.int .i64 x1))), (5, x5)]) h =
 (lenO x5).bind fun t4 =>
 (castI .i64 t4).bind fun n5 =>
 (remI .i64 n5 x1).bind fun t6 =>
 (castI .i64 t6).bind fun n7 =>
 bif n7 != 0 then (
 (buildSliceV Try.prog 32 1 [(0, (.p (.int .u8 0)))]).bind fun t8 =>
 (apO true 1 1 (2 :: 1 :: 0 :: σ) 22 h x5 t8).bind fun q9 =>
 loop octet_Pad_c0 octet_Pad_l0 (1 :: σ) (envL [(1, (.p (.int .i64 x1))), (5, q9.1)]) q9.2)
 else (
 some ((.exit 0), (envL [(5, x5)]), h)) := by kernel_rfl
theorem octet_Pad_a0_0 (rec : CallF) (loop : LoopV) (σ : Stamp) (x5 : V) (h : H) : octet_Pad_k0 rec loop σ (.exit 0) (envL [(5, x5)]) h =
 (callO rec 102 (1 :: 0 :: 1 :: 1 :: 1 :: 1 :: 0 :: σ) [x5] h (some 24)).bind fun q10 =>
 fin false σ q10.2 [q10.1] := by kernel_rfl
end Go.Ev
/- Equations, printed by tracer2.py. -/
namespace Go.Ev
open Go.Proofs
set_option linter.unusedVariables false
set_option maxRecDepth 100000
-- 102 slices.Clip[[]byte,byte]
theorem slices_Clip_Lbyte_byte_entry (rec : CallF) (loop : LoopV) (σ : Stamp) (x0 : V) (h : H) : cvBody G rec loop 102 σ [x0] h =
 (lenO x0).bind fun t1 =>
 (castI .i64 t1).bind fun n2 =>
 (lenO x0).bind fun t3 =>
 (castI .i64 t3).bind fun n4 =>
 (slS 1 x0 none (some n2) (some n4)).bind fun t5 =>
 fin false σ (List.replicate 9 [] :: h) [t5] := by kernel_rfl
end Go.Ev
/- Equations, printed by tracer2.py. -/
namespace Go.Ev
open Go.Proofs
set_option linter.unusedVariables false
set_option maxRecDepth 100000
-- 63 slices.Clone[[]byte,byte]
theorem slices_Clone_Lbyte_byte_entry (rec : CallF) (loop : LoopV) (σ : Stamp) (x0 : V) (h : H) : cvBody G rec loop 63 σ [x0] h =
 (binV Try.prog (List.replicate 8 [] :: h) .eql 32 x0 (.p (.slice .none 0 0))).bind fun t1 =>
 (asB t1).bind fun b2 =>
 bif b2 then (
 fin false σ (List.replicate 8 [] :: h) [(.p (.slice .none 0 0))])
 else (
 (buildSliceV Try.prog 32 0 []).bind fun t3 =>
 (apO true 1 1 (2 :: 0 :: 1 :: 1 :: 0 :: σ) 7 (List.replicate 8 [] :: h) t3 x0).bind fun q4 =>
 fin false σ q4.2 [q4.1]) := by kernel_rfl
end Go.Ev
/- Lifted by lift.py: octet_Pad as a plain function. -/
namespace Go.Ev
open Go.Proofs
set_option linter.unusedVariables false
set_option linter.unusedSimpArgs false
set_option maxRecDepth 100000
def p_octet_Pad_l0 {β : Type} (k : Nat) (kE0 : (List Int) → Option β) (x1 : Int) (x5 : (List Int)) : Option β := match k with
| 0 => none
| k + 1 =>
(remP ((x5.length : Int)) x1).bind fun n30 =>
bif n30 != 0 then (
(ap 1 x5 ([0])).bind fun a33 =>
p_octet_Pad_l0 k kE0 x1 a33)
else (
kE0 x5)
def p_octet_Pad (k : Nat) (x0 : (List Int)) (x1 : Int) : Option ((List Int)) :=
(p_clone 1 x0).bind fun r1 =>
(bif decide (x1 < 1) then (some true) else (some (decide (x1 > 64)))).bind fun b15 =>
bif b15 then (
some (r1))
else (
p_octet_Pad_l0 k (fun r43_5 =>
some (r43_5)) x1 r1)
theorem octet_Pad_l0_ok {h : H}  {β α : Type} {Q : β → α → Prop} {K : Exit × Env × H → Option α} {kE0 : (List Int) → Option β} (hE0 : ∀ (q5 : (List Int)) (v41 : V) (H39 : Go.Ev.H) (_ : Fm 25 h [] [] [⟨[7, 22], v41, (dI .u8), q5⟩] H39), Sim (kE0 q5) (K ((.exit 0), (envL [(5, v41)]), H39)) Q) (k : Nat) : ∀ (x1 : Int) (x5 : (List Int)) (v28 : V) (H26 : Go.Ev.H) (_ : Fm 25 h [] [] [⟨[7, 22], v28, (dI .u8), x5⟩] H26) {σ : Stamp}, Sim (p_octet_Pad_l0 k kE0 x1 x5) ((cvL G X0 octet_Pad_c0 octet_Pad_l0 σ (envL [(1, (.p (.int .i64 x1))), (5, v28)]) H26).bind K) Q := by
  induction k with
  | zero => intros; exact Sim.no
  | succ k ih =>
    intro x1 x5 v28 H26 S27 σ
    rw [p_octet_Pad_l0]
    refine Sim.round (Sim.ext (octet_Pad_r0 _ _ _ _ _ _) ?_)
    refine Sim.op ((S27.sl (i := 0) rfl).len) ?_
    refine Sim.op (castI_p _ _) ?_
    refine Sim.bd fun n30 h31 => ?_
    refine Sim.op (remP_ok h31) ?_
    refine Sim.op (castI_p _ _) ?_
    refine Sim.cd (fun hc => ?_) (fun hc => ?_)
    · have h32 : SlF (dI .u8) [0] (.fz [(.p (.int .u8 0))] 1 1 true) := SlF.lit (cs := [(.p (.int .u8 0))]) (RL.cons (show (dI .u8).R 0 [(.p (.int .u8 0))] from rfl) RL.nil) rfl rfl true
      refine Sim.op (bldS (pt_cons rfl pt_nil) (by kernel_rfl : _ = some (.fz [(.p (.int .u8 0))] 1 1 true))) ?_
      refine Sim.bd fun a33 h34 => ?_
      obtain ⟨v35, H36, e37, S38⟩ := S27.app (i := 0) (d := 22) (e := 1) (own := true) (σ := (2 :: 1 :: 0 :: σ)) rfl (h32.h H26).y h34 rfl (by decide) (by decide) rfl
      refine Sim.op (e37) ?_
      exact ih x1 a33 v35 H36 (S38.wk2 all_nil (all_cons ⟨[22, 7, 22], by simp, at_mem 0 rfl⟩ all_nil))
    · exact hE0 x5 v28 H26 (S27.wk2 all_nil (all_cons ⟨[7, 22], by simp, at_mem 0 rfl⟩ all_nil))
theorem octet_Pad_ok (k : Nat) {h : H} {σ : Stamp} (x0 : List Int) {u0 : V} (hu0 : SlH h (dI .u8) x0 u0) (x1 : Int) : Sim (p_octet_Pad k x0 x1) (ev G X0 57 σ [u0, (.p (.int .i64 x1))] h) (fun r s => ∃ (c0 : C), ∃ (a0 : List V), OwnS c0 (dI .u8).sz r.length a0 ∧ (dI .u8).L r a0 ∧ s = ([c0], h)) := by
  refine Sim.ev rfl (Sim.ext (octet_Pad_entry _ _ _ _ _ _) ?_)
  rw [p_octet_Pad]
  have S0 : Fm 25 h [] [] [] (List.replicate 25 [] :: h) := Fm.start0
  refine Sim.call (clone_ok (b := 1) (f := 63) (tt := 5) (e := 1) (τ := fun σ => _ :: _ :: _ :: _ :: _ :: σ) (fun x h => slices_Clone_Lbyte_byte_entry _ _ _ x h) (S0.low hu0) rfl (by decide) (by decide) (by decide) (by kernel_rfl) (by kernel_rfl) rfl) fun r1 cs2 H3 h4 q5 => ?_
  obtain ⟨c6, cs7, h8, h9, q5⟩ := q5
  cases q5
  obtain ⟨v10, H11, e12, S13⟩ := S0.land (dt := (dI .u8)) (d := 7) (e := 0) (n := 0) h8 h9 (by decide) rfl
  erw [e12]
  refine Sim.ch (P := fun r y => r = y) ?_ (fun b15 y16 h17 h18 => ?_)
  · refine Sim.cd (fun hc => ?_) (fun hc => ?_)
    · exact Sim.ret rfl rfl
    · exact Sim.ret rfl rfl
  subst h18
  refine Sim.cd (fun hc => ?_) (fun hc => ?_)
  · obtain ⟨c24, cs25, H19, e20, h22, h23, S21⟩ := S13.expOwn (i := 0) (τ := 0 :: 1 :: σ) rfl rfl rfl
    exact Sim.fin (S21.finE (Ex.st e20 Ex.nil)) ⟨c24, cs25, h22, h23, rfl⟩
  · refine Sim.as (octet_Pad_l0_ok ?_ k x1 r1 v10 H11 (S13.wk2 all_nil (all_cons ⟨[7], by simp, at_mem 0 rfl⟩ all_nil))) 
    · intro r43_5 v46 H44 S45
      refine Sim.ext (octet_Pad_a0_0 _ _ _ _ _) ?_
      obtain ⟨v48, e49, S50⟩ := clip_D (G := G) (X := X0) (i := 0) (f := 102) (fun x h => slices_Clip_Lbyte_byte_entry _ _ _ x h) S45 rfl rfl rfl
      refine Sim.op (e49) ?_
      obtain ⟨c56, cs57, H51, e52, h54, h55, S53⟩ := S50.expOwn (i := 0) (τ := 0 :: 1 :: σ) rfl rfl rfl
      exact Sim.fin (S53.finE (Ex.st e52 Ex.nil)) ⟨c56, cs57, h54, h55, rfl⟩
end Go.Ev
/- Lifted by lift.py: ext_Bytes as a plain function. -/
namespace Go.Ev
open Go.Proofs
set_option linter.unusedVariables false
set_option linter.unusedSimpArgs false
set_option maxRecDepth 100000
def p_ext_Bytes_l0 {β : Type} (k : Nat) (kE0 : (List Int) → Option β) (kE1 : Int → Option β) (x0 : Int) (x6 : (List Int)) (x20 : (List T_api_Elem)) (x21 : Int) (x22 : Int) : Option β := match k with
| 0 => none
| k + 1 =>
bif decide (x22 < x21) then (
(ix x20 x22).bind fun a13 =>
(p_ext_right x0 ((⟨a13.ID, a13.Data⟩ : T_api_Elem))).bind fun r27 =>
bif !r27 then (
kE1 1)
else (
bif x0 == 48862 then (
(ap 1 x6 ([(IntKind.wrap .u8 (intBits .or .i64 (IntKind.wrap .i64 (a13.ID * 2 ^ 4)) (IntKind.wrap .i64 (((a13.Data.length : Int)) - 1))))])).bind fun a33 =>
(ap 1 a33 a13.Data).bind fun a39 =>
p_ext_Bytes_l0 k kE0 kE1 x0 a39 x20 x21 (IntKind.wrap .i64 (x22 + 1)))
else (
(ap 1 x6 ([(IntKind.wrap .u8 a13.ID), (IntKind.wrap .u8 ((a13.Data.length : Int)))])).bind fun a46 =>
(ap 1 a46 a13.Data).bind fun a52 =>
p_ext_Bytes_l0 k kE0 kE1 x0 a52 x20 x21 (IntKind.wrap .i64 (x22 + 1)))))
else (
kE0 x6)
def p_ext_Bytes (k : Nat) (x0 : Int) (x1 : (List T_api_Elem)) : Option ((List Int) × Int) :=
(bif x0 != 48862 then (some (x0 != 4096)) else (some false)).bind fun b1 =>
bif b1 then (
some ((([] : List Int)), 1))
else (
bif decide (((x1.length : Int)) > 8) then (
some ((([] : List Int)), 3))
else (
p_ext_Bytes_l0 k (fun r66_6 =>
(p_octet_Pad k r66_6 4).bind fun r71 =>
some (r71, 0)) (fun r91_5 =>
some ((([] : List Int)), r91_5)) x0 (([] : List Int)) x1 ((x1.length : Int)) 0))
theorem ext_Bytes_l0_ok {h : H}  {β α : Type} {Q : β → α → Prop} {K : Exit × Env × H → Option α} {kE0 : (List Int) → Option β} {kE1 : Int → Option β} (hE0 : ∀ (q6 : (List Int)) (v60 : V) (H58 : Go.Ev.H) (_ : Fm 61 h [] [] [⟨[43, 53, 57], v60, (dI .u8), q6⟩] H58), Sim (kE0 q6) (K ((.exit 1), (envL [(6, v60)]), H58)) Q) (hE1 : ∀ (q5 : Int) (H62 : Go.Ev.H) (_ : Fm 61 h [] [] [] H62), Sim (kE1 q5) (K (.ret, (envL [(4, (.p (.slice none 0 0))), (5, (.p (.int .i64 q5)))]), H62)) Q) (k : Nat) : ∀ (x0 : Int) (x6 : (List Int)) (x20 : (List T_api_Elem)) (x21 : Int) (x22 : Int) (v9 : V) (v11 : V) (h12 : SlH h dT_api_Elem x20 v11) (H7 : Go.Ev.H) (_ : Fm 61 h [] [] [⟨[43, 53, 57], v9, (dI .u8), x6⟩] H7) {σ : Stamp}, Sim (p_ext_Bytes_l0 k kE0 kE1 x0 x6 x20 x21 x22) ((cvL G X0 ext_Bytes_c0 ext_Bytes_l0 σ (envL [(0, (.p (.int .u16 x0))), (6, v9), (20, v11), (21, (.p (.int .i64 x21))), (22, (.p (.int .i64 x22)))]) H7).bind K) Q := by
  induction k with
  | zero => intros; exact Sim.no
  | succ k ih =>
    intro x0 x6 x20 x21 x22 v9 v11 h12 H7 S8 σ
    rw [p_ext_Bytes_l0]
    refine Sim.round (Sim.ext (ext_Bytes_r0 _ _ _ _ _ _ _ _ _) ?_)
    refine Sim.cd (fun hc => ?_) (fun hc => ?_)
    · refine Sim.bd fun a13 h14 => ?_
      refine Sim.op ((S8.low h12).iS h14 rfl) ?_
      obtain ⟨w16, h17, hE15⟩ := (S8.low h12).el h14 rfl
      obtain ⟨v18, rfl, h19⟩ := dT_api_Elem.inv h17
      refine Sim.op (hE15.all (by simp)) ?_
      obtain ⟨H20, e21, S22⟩ := S8.al (d := 8) (s := (2 :: 0 :: 0 :: 1 :: 1 :: 0 :: σ)) (z := [(.p (.int .i64 0)), (.p (.slice none 0 0))]) (by decide) rfl
      refine Sim.op (congrArg some e21) ?_
      obtain ⟨H24, e25, S26⟩ := S22.stGv (i := 0) (j := 0) (own := false) (σ := (3 :: 0 :: 0 :: 1 :: 1 :: 0 :: σ)) (xs := [.p (.int .i64 a13.ID), v18]) rfl rfl (stills_cons (still_int _ _) (stills_cons h19.still stills_nil)) rfl rfl
      refine Sim.op (st_map e25) ?_
      refine Sim.op ((S26.atG (i := 0) rfl).ldVs (j := 0) (xs := [.p (.int .i64 a13.ID), v18]) rfl rfl (by decide)) ?_
      refine Sim.call (ext_right_ok x0 ((⟨a13.ID, a13.Data⟩ : T_api_Elem)) (show dT_api_Elem.R ((⟨a13.ID, a13.Data⟩ : T_api_Elem)) [.p (.int .i64 a13.ID), v18] from (dT_api_Elem.mk h19))) fun r27 cs28 H29 h30 q31 => ?_
      cases q31
      refine Sim.op (asB_p _) ?_
      refine Sim.cd (fun hc => ?_) (fun hc => ?_)
      · exact hE1 1 H24 (S26.wk2 all_nil all_nil)
      · refine Sim.cd (fun hc => ?_) (fun hc => ?_)
        · refine Sim.op (fA_ref _ _ _) ?_
          refine Sim.op ((S26.atG (i := 0) rfl).ld (j := 0) rfl) ?_
          refine Sim.op (castI_p _ _) ?_
          refine Sim.op (fA_ref _ _ _) ?_
          refine Sim.op ((S26.atG (i := 0) rfl).ld (j := 1) rfl) ?_
          refine Sim.op ((h19.h H24).len) ?_
          refine Sim.op (castI_p _ _) ?_
          have h32 : SlF (dI .u8) [(IntKind.wrap .u8 (intBits .or .i64 (IntKind.wrap .i64 (a13.ID * 2 ^ 4)) (IntKind.wrap .i64 (((a13.Data.length : Int)) - 1))))] (.fz [(.p (.int .u8 (IntKind.wrap .u8 (intBits .or .i64 (IntKind.wrap .i64 (a13.ID * 2 ^ 4)) (IntKind.wrap .i64 (((a13.Data.length : Int)) - 1))))))] 1 1 true) := SlF.lit (cs := [(.p (.int .u8 (IntKind.wrap .u8 (intBits .or .i64 (IntKind.wrap .i64 (a13.ID * 2 ^ 4)) (IntKind.wrap .i64 (((a13.Data.length : Int)) - 1))))))]) (RL.cons (show (dI .u8).R (IntKind.wrap .u8 (intBits .or .i64 (IntKind.wrap .i64 (a13.ID * 2 ^ 4)) (IntKind.wrap .i64 (((a13.Data.length : Int)) - 1)))) [(.p (.int .u8 (IntKind.wrap .u8 (intBits .or .i64 (IntKind.wrap .i64 (a13.ID * 2 ^ 4)) (IntKind.wrap .i64 (((a13.Data.length : Int)) - 1))))))] from rfl) RL.nil) rfl rfl true
          refine Sim.op (bldS (pt_cons rfl pt_nil) (by kernel_rfl : _ = some (.fz [(.p (.int .u8 (IntKind.wrap .u8 (intBits .or .i64 (IntKind.wrap .i64 (a13.ID * 2 ^ 4)) (IntKind.wrap .i64 (((a13.Data.length : Int)) - 1))))))] 1 1 true))) ?_
          refine Sim.bd fun a33 h34 => ?_
          obtain ⟨v35, H36, e37, S38⟩ := S26.app (i := 0) (d := 43) (e := 1) (own := true) (σ := (11 :: 1 :: 0 :: 1 :: 1 :: 0 :: 1 :: 1 :: 0 :: σ)) rfl (h32.h H24).y h34 rfl (by decide) (by decide) rfl
          refine Sim.op (e37) ?_
          refine Sim.op (fA_ref _ _ _) ?_
          refine Sim.op ((S38.atG (i := 0) rfl).ld (j := 1) rfl) ?_
          refine Sim.bd fun a39 h40 => ?_
          obtain ⟨v41, H42, e43, S44⟩ := S38.app (i := 0) (d := 57) (e := 1) (own := true) (σ := (3 :: 1 :: 1 :: 1 :: 0 :: 1 :: 1 :: 0 :: σ)) rfl (h19.h H36).y h40 rfl (by decide) (by decide) rfl
          refine Sim.op (e43) ?_
          exact ih x0 a39 x20 x21 (IntKind.wrap .i64 (x22 + 1)) v41 v11 h12 H42 (S44.wk2 all_nil (all_cons ⟨[57, 43, 43, 53, 57], by simp, at_mem 0 rfl⟩ all_nil))
        · refine Sim.op (fA_ref _ _ _) ?_
          refine Sim.op ((S26.atG (i := 0) rfl).ld (j := 0) rfl) ?_
          refine Sim.op (castI_p _ _) ?_
          refine Sim.op (fA_ref _ _ _) ?_
          refine Sim.op ((S26.atG (i := 0) rfl).ld (j := 1) rfl) ?_
          refine Sim.op ((h19.h H24).len) ?_
          refine Sim.op (castI_p _ _) ?_
          have h45 : SlF (dI .u8) [(IntKind.wrap .u8 a13.ID), (IntKind.wrap .u8 ((a13.Data.length : Int)))] (.fz [(.p (.int .u8 (IntKind.wrap .u8 a13.ID))), (.p (.int .u8 (IntKind.wrap .u8 ((a13.Data.length : Int)))))] 2 1 true) := SlF.lit (cs := [(.p (.int .u8 (IntKind.wrap .u8 a13.ID))), (.p (.int .u8 (IntKind.wrap .u8 ((a13.Data.length : Int)))))]) (RL.cons (show (dI .u8).R (IntKind.wrap .u8 a13.ID) [(.p (.int .u8 (IntKind.wrap .u8 a13.ID)))] from rfl) (RL.cons (show (dI .u8).R (IntKind.wrap .u8 ((a13.Data.length : Int))) [(.p (.int .u8 (IntKind.wrap .u8 ((a13.Data.length : Int)))))] from rfl) RL.nil)) rfl rfl true
          refine Sim.op (bldS (pt_cons rfl (pt_cons rfl pt_nil)) (by kernel_rfl : _ = some (.fz [(.p (.int .u8 (IntKind.wrap .u8 a13.ID))), (.p (.int .u8 (IntKind.wrap .u8 ((a13.Data.length : Int)))))] 2 1 true))) ?_
          refine Sim.bd fun a46 h47 => ?_
          obtain ⟨v48, H49, e50, S51⟩ := S26.app (i := 0) (d := 53) (e := 1) (own := true) (σ := (9 :: 1 :: 0 :: 1 :: 1 :: 0 :: 1 :: 1 :: 0 :: σ)) rfl (h45.h H24).y h47 rfl (by decide) (by decide) rfl
          refine Sim.op (e50) ?_
          refine Sim.op (fA_ref _ _ _) ?_
          refine Sim.op ((S51.atG (i := 0) rfl).ld (j := 1) rfl) ?_
          refine Sim.bd fun a52 h53 => ?_
          obtain ⟨v54, H55, e56, S57⟩ := S51.app (i := 0) (d := 57) (e := 1) (own := true) (σ := (3 :: 1 :: 1 :: 1 :: 0 :: 1 :: 1 :: 0 :: σ)) rfl (h19.h H49).y h53 rfl (by decide) (by decide) rfl
          refine Sim.op (e56) ?_
          exact ih x0 a52 x20 x21 (IntKind.wrap .i64 (x22 + 1)) v54 v11 h12 H55 (S57.wk2 all_nil (all_cons ⟨[57, 53, 43, 53, 57], by simp, at_mem 0 rfl⟩ all_nil))
    · exact hE0 x6 v9 H7 (S8.wk2 all_nil (all_cons ⟨[43, 53, 57], by simp, at_mem 0 rfl⟩ all_nil))
theorem ext_Bytes_ok (k : Nat) {h : H} {σ : Stamp} (x0 : Int) (x1 : List T_api_Elem) {u1 : V} (hu1 : SlH h dT_api_Elem x1 u1) : Sim (p_ext_Bytes k x0 x1) (ev G X0 22 σ [(.p (.int .u16 x0)), u1] h) (fun r s => ∃ (v0 : V), SlF (dI .u8) r.1 v0 ∧ s = ([.v v0, .v (.p (.int .i64 r.2))], h)) := by
  refine Sim.ev rfl (Sim.ext (ext_Bytes_entry _ _ _ _ _ _) ?_)
  rw [p_ext_Bytes]
  have S0 : Fm 61 h [] [] [] (List.replicate 61 [] :: h) := Fm.start0
  refine Sim.ch (P := fun r y => r = y) ?_ (fun b1 y2 h3 h4 => ?_)
  · refine Sim.cd (fun hc => ?_) (fun hc => ?_)
    · exact Sim.ret rfl rfl
    · exact Sim.ret rfl rfl
  subst h4
  refine Sim.cd (fun hc => ?_) (fun hc => ?_)
  · exact Sim.fin (S0.finN (lv_cons (SlF.nil (dI .u8)).still.lv (lv_cons (still_int _ _).lv lv_nil))) ⟨(.p (.slice none 0 0)), (SlF.nil (dI .u8)), rfl⟩
  · refine Sim.op ((S0.low hu1).len) ?_
    refine Sim.op (castI_p _ _) ?_
    refine Sim.cd (fun hc => ?_) (fun hc => ?_)
    · exact Sim.fin (S0.finN (lv_cons (SlF.nil (dI .u8)).still.lv (lv_cons (still_int _ _).lv lv_nil))) ⟨(.p (.slice none 0 0)), (SlF.nil (dI .u8)), rfl⟩
    · refine Sim.op ((S0.low hu1).len) ?_
      refine Sim.op (castI_p _ _) ?_
      have S65 := S0.nil (dI .u8) []
      refine Sim.as (ext_Bytes_l0_ok ?_ ?_ k x0 (([] : List Int)) x1 ((x1.length : Int)) 0 (.p (.slice none 0 0)) u1 hu1 (List.replicate 61 [] :: h) (S65.wk2 all_nil (all_cons ⟨[], by simp, at_mem 0 rfl⟩ all_nil))) 
      · intro r66_6 v69 H67 S68
        refine Sim.ext (ext_Bytes_a0_1 _ _ _ _ _) ?_
        refine Sim.call (octet_Pad_ok k r66_6 (S68.sl (i := 0) rfl) 4) fun r71 cs72 H73 h74 q75 => ?_
        obtain ⟨c76, cs77, h78, h79, q75⟩ := q75
        cases q75
        obtain ⟨v80, H81, e82, S83⟩ := S68.land (dt := (dI .u8)) (d := 60) (e := 0) (n := 0) h78 h79 (by decide) rfl
        erw [e82]
        obtain ⟨v90, H85, e86, h88, S87⟩ := S83.expFrz (i := 0) (τ := 0 :: 1 :: σ) rfl rfl
        exact Sim.fin (S87.finE (Ex.st e86 (Ex.pl (still_int _ _).lv Ex.nil))) ⟨v90, h88, rfl⟩
      · intro r91_5 H92 S93
        refine Sim.ext (ext_Bytes_a0_ret _ _ _ _ _ _) ?_
        exact Sim.fin (S93.finN (lv_cons (SlF.nil (dI .u8)).still.lv (lv_cons (still_int _ _).lv lv_nil))) ⟨(.p (.slice none 0 0)), (SlF.nil (dI .u8)), rfl⟩
end Go.Ev
/- Equations, printed by tracer2.py. -/
namespace Go.Ev
open Go.Proofs
set_option linter.unusedVariables false
set_option maxRecDepth 100000
-- 25 limelight/ext.Find
theorem ext_Find_entry (rec : CallF) (loop : LoopV) (σ : Stamp) (x0 : V) (x1 : Int) (h : H) : cvBody G rec loop 25 σ [x0, (.p (.int .i64 x1))] h =
 (boxO true (0 :: 0 :: 0 :: σ) 3 (List.replicate 18 [] :: h) (.p (.int .i64 x1))).bind fun q1 =>
 (callO rec 61 (2 :: 0 :: 1 :: 0 :: σ) [x0, (.clo 62 [q1.1])] q1.2 (some 9)).bind fun q2 =>
 (castI .i64 q2.1).bind fun n3 =>
 bif decide (n3 < 0) then (
 fin true σ q2.2 [(.p (.slice .none 0 0)), (.p (.bool false))])
 else (
 (iS 2 x0 n3).bind fun t4 =>
 (fA t4 1).bind fun t5 =>
 (ldO false 1 q2.2 t5).bind fun t6 =>
 (callO rec 63 (5 :: 0 :: 1 :: 1 :: 1 :: 0 :: σ) [t6] q2.2 (some 17)).bind fun q7 =>
 fin true σ q7.2 [q7.1, (.p (.bool true))]) := by kernel_rfl
end Go.Ev
/- Equations, printed by tracer2.py. -/
namespace Go.Ev
open Go.Proofs
set_option linter.unusedVariables false
set_option maxRecDepth 100000
-- 61 slices.IndexFunc[[]limelight/api.Elem,limelight/api.Elem]
noncomputable def slices_IndexFunc_Lapi_Elem_api_Elem_c0 : Code := (codeAt (bodyOf Try.f61) [1, 0, 1, 0, 0])
def slices_IndexFunc_Lapi_Elem_api_Elem_l0 : Lv := ⟨0, 16, [(0, 0)]⟩
noncomputable def slices_IndexFunc_Lapi_Elem_api_Elem_k0 (rec : CallF) (loop : LoopV) (σ : Stamp) : Exit → Env → H → Option (List C × H) := (kBlock 0 (kSeq G rec loop (codeAt (bodyOf Try.f61) [1, 1]) ⟨16, 16, []⟩ (1 :: 0 :: σ) (finC G false Try.f61 (1 :: σ))))
theorem slices_IndexFunc_Lapi_Elem_api_Elem_entry (rec : CallF) (loop : LoopV) (σ : Stamp) (x0 : V) (x1 : V) (h : H) : cvBody G rec loop 61 σ [x0, x1] h =
 (lenO x0).bind fun t1 =>
 (castI .i64 t1).bind fun n2 =>
 (loop slices_IndexFunc_Lapi_Elem_api_Elem_c0 slices_IndexFunc_Lapi_Elem_api_Elem_l0 (1 :: 0 :: 1 :: 0 :: σ) (envL [(0, x0), (1, x1), (7, (.p (.int .i64 n2))), (8, (.p (.int .i64 0)))]) (List.replicate 19 [] :: h)).bind fun r3 => slices_IndexFunc_Lapi_Elem_api_Elem_k0 rec loop σ r3.1 r3.2.1 r3.2.2 := by kernel_rfl
theorem slices_IndexFunc_Lapi_Elem_api_Elem_r0 (rec : CallF) (loop : LoopV) (σ : Stamp) (x0 : V) (x1 : V) (x7 : Int) (x8 : Int) (h : H) : cvRound G rec loop slices_IndexFunc_Lapi_Elem_api_Elem_c0 slices_IndexFunc_Lapi_Elem_api_Elem_l0 σ (envL [(0, x0), (1, x1), (7, (.p (.int .i64 x7))), (8, (.p (.int .i64 x8)))]) h =
 bif decide (x8 < x7) then (
 (iS 2 x0 x8).bind fun t4 =>
 (ldO true 2 h t4).bind fun t5 =>
 (cloO rec x1 (5 :: 0 :: 1 :: 0 :: 1 :: 1 :: 0 :: σ) [t5] h (some 16)).bind fun q6 =>
 (asB q6.1).bind fun b7 =>
 bif b7 then (
 some (.ret, (envL [(4, (.p (.int .i64 x8)))]), q6.2))
 else (
 loop slices_IndexFunc_Lapi_Elem_api_Elem_c0 slices_IndexFunc_Lapi_Elem_api_Elem_l0 (1 :: σ) (envL [(0, x0), (1, x1), (7, (.p (.int .i64 x7))), (8, (.p (.int .i64 (IntKind.wrap .i64 (x8 + 1)))))]) q6.2))
 else (
 some ((.exit 0), (envL []), h)) := by kernel_rfl
theorem slices_IndexFunc_Lapi_Elem_api_Elem_a0_0 (rec : CallF) (loop : LoopV) (σ : Stamp)  (h : H) : slices_IndexFunc_Lapi_Elem_api_Elem_k0 rec loop σ (.exit 0) (envL []) h =
 fin false σ h [(.p (.int .i64 (-1)))] := by kernel_rfl
theorem slices_IndexFunc_Lapi_Elem_api_Elem_a0_ret (rec : CallF) (loop : LoopV) (σ : Stamp) (x4 : Int) (h : H) : slices_IndexFunc_Lapi_Elem_api_Elem_k0 rec loop σ .ret (envL [(4, (.p (.int .i64 x4)))]) h =
 fin false σ h [(.p (.int .i64 x4))] := by kernel_rfl
end Go.Ev
/- Equations, printed by tracer2.py. -/
namespace Go.Ev
open Go.Proofs
set_option linter.unusedVariables false
set_option maxRecDepth 100000
-- 62 limelight/ext.Find$1
theorem ext_Find_1_entry (rec : CallF) (loop : LoopV) (σ : Stamp) (x0 : V) (x1 : V) (h : H) : cvBody G rec loop 62 σ [x0, x1] h =
 (boxO false (0 :: 0 :: 0 :: σ) 2 (List.replicate 8 [] :: h) x0).bind fun q1 =>
 (fA q1.1 0).bind fun t2 =>
 (ldO false 1 q1.2 t2).bind fun t3 =>
 (castI .i64 t3).bind fun n4 =>
 (ldO false 1 q1.2 x1).bind fun t5 =>
 (castI .i64 t5).bind fun n6 =>
 fin false σ q1.2 [(.p (.bool (n4 == n6)))] := by kernel_rfl
end Go.Ev
/- Lifted by lift.py: ext_Find_1 as a plain function. -/
namespace Go.Ev
open Go.Proofs
set_option linter.unusedVariables false
set_option linter.unusedSimpArgs false
set_option maxRecDepth 100000
def p_ext_Find_1 (x0 : T_api_Elem) (x1 : Int) : Option (Bool) :=
some ((x0.ID == x1))
theorem ext_Find_1_ok {h : H} {σ : Stamp} (x0 : T_api_Elem) {u0 : List V} (hu0 : dT_api_Elem.R x0 u0) (x1 : Int)  {l1 : Loc} {o1 : Nat} (ha1 : AtC h l1 o1 (List.map C.v [(.p (.int .i64 x1))])) : Sim (p_ext_Find_1 x0 x1) (ev G X0 62 σ [(.agg u0), (.ref l1 o1)] h) (fun r s => s = ([.v (.p (.bool r))], h)) := by
  refine Sim.ev rfl (Sim.ext (ext_Find_1_entry _ _ _ _ _ _) ?_)
  rw [p_ext_Find_1]
  obtain ⟨v1, rfl, h2⟩ := dT_api_Elem.inv hu0
  have S0 : Fm 8 h [] [] [] (List.replicate 8 [] :: h) := Fm.start0
  obtain ⟨H3, e4, S5⟩ := S0.box (own := false) (d := 2) (s := (0 :: 0 :: 0 :: σ)) (xs := [(.p (.int .i64 x0.ID)), v1]) (stills_cons (still_int _ _) (stills_cons h2.still stills_nil)) (by decide) rfl
  refine Sim.op (e4) ?_
  refine Sim.op (fA_ref _ _ _) ?_
  refine Sim.op ((S5.atG (i := 0) rfl).ld (j := 0) rfl) ?_
  refine Sim.op (castI_p _ _) ?_
  refine Sim.op ((S5.lowA ha1).ld (j := 0) rfl) ?_
  refine Sim.op (castI_p _ _) ?_
  exact Sim.fin (S5.finN (lv_cons (still_bool _).lv lv_nil)) rfl
end Go.Ev
/- Lifted by lift.py: slices_IndexFunc_Lapi_Elem_api_Elem as a plain function. -/
namespace Go.Ev
open Go.Proofs
set_option linter.unusedVariables false
set_option linter.unusedSimpArgs false
set_option maxRecDepth 100000
def p_slices_IndexFunc_Lapi_Elem_api_Elem_ext_Find_1_l0 {β : Type} (k : Nat) (kE0 : Unit → Option β) (kE1 : Int → Option β) (x0 : (List T_api_Elem)) (x1c0 : Int) (x7 : Int) (x8 : Int) : Option β := match k with
| 0 => none
| k + 1 =>
bif decide (x8 < x7) then (
(ix x0 x8).bind fun a9 =>
(p_ext_Find_1 a9 x1c0).bind fun r16 =>
bif r16 then (
kE1 x8)
else (
p_slices_IndexFunc_Lapi_Elem_api_Elem_ext_Find_1_l0 k kE0 kE1 x0 x1c0 x7 (IntKind.wrap .i64 (x8 + 1))))
else (
kE0 ())
def p_slices_IndexFunc_Lapi_Elem_api_Elem_ext_Find_1 (k : Nat) (x0 : (List T_api_Elem)) (x1c0 : Int) : Option (Int) :=
p_slices_IndexFunc_Lapi_Elem_api_Elem_ext_Find_1_l0 k (fun (_ : Unit) =>
some ((-1))) (fun r28_4 =>
some (r28_4)) x0 x1c0 ((x0.length : Int)) 0
theorem slices_IndexFunc_Lapi_Elem_api_Elem_ext_Find_1_l0_ok {h : H}  {β α : Type} {Q : β → α → Prop} {K : Exit × Env × H → Option α} {kE0 : Unit → Option β} {kE1 : Int → Option β} (hE0 : ∀ (_u : Unit) (H21 : Go.Ev.H) (_ : Fm 19 h [] [] [] H21), Sim (kE0 ()) (K ((.exit 0), (envL []), H21)) Q) (hE1 : ∀ (q4 : Int) (H23 : Go.Ev.H) (_ : Fm 19 h [] [] [] H23), Sim (kE1 q4) (K (.ret, (envL [(4, (.p (.int .i64 q4)))]), H23)) Q) (k : Nat) : ∀ (x0 : (List T_api_Elem)) (x1c0 : Int) (x7 : Int) (x8 : Int) (v3 : V) (h4 : SlH h dT_api_Elem x0 v3) (lr5 : Loc) (or6 : Nat) (har7 : AtC h lr5 or6 (List.map C.v [(.p (.int .i64 x1c0))])) (H1 : Go.Ev.H) (_ : Fm 19 h [] [] [] H1) {σ : Stamp}, Sim (p_slices_IndexFunc_Lapi_Elem_api_Elem_ext_Find_1_l0 k kE0 kE1 x0 x1c0 x7 x8) ((cvL G X0 slices_IndexFunc_Lapi_Elem_api_Elem_c0 slices_IndexFunc_Lapi_Elem_api_Elem_l0 σ (envL [(0, v3), (1, (.clo 62 [(.ref lr5 or6)])), (7, (.p (.int .i64 x7))), (8, (.p (.int .i64 x8)))]) H1).bind K) Q := by
  induction k with
  | zero => intros; exact Sim.no
  | succ k ih =>
    intro x0 x1c0 x7 x8 v3 h4 lr5 or6 har7 H1 S2 σ
    rw [p_slices_IndexFunc_Lapi_Elem_api_Elem_ext_Find_1_l0]
    refine Sim.round (Sim.ext (slices_IndexFunc_Lapi_Elem_api_Elem_r0 _ _ _ _ _ _ _ _) ?_)
    refine Sim.cd (fun hc => ?_) (fun hc => ?_)
    · refine Sim.bd fun a9 h10 => ?_
      refine Sim.op ((S2.low h4).iS h10 rfl) ?_
      obtain ⟨w12, h13, hE11⟩ := (S2.low h4).el h10 rfl
      obtain ⟨v14, rfl, h15⟩ := dT_api_Elem.inv h13
      refine Sim.op (hE11.all (by simp)) ?_
      refine Sim.clo ?_
      refine Sim.call (ext_Find_1_ok a9 (show dT_api_Elem.R a9 [.p (.int .i64 a9.ID), v14] from (dT_api_Elem.mk h15)) x1c0 (S2.lowA har7)) fun r16 cs17 H18 h19 q20 => ?_
      cases q20
      refine Sim.op (asB_p _) ?_
      refine Sim.cd (fun hc => ?_) (fun hc => ?_)
      · exact hE1 x8 H1 (S2.wk2 all_nil all_nil)
      · exact ih x0 x1c0 x7 (IntKind.wrap .i64 (x8 + 1)) v3 h4 lr5 or6 har7 H1 (S2.wk2 all_nil all_nil)
    · exact hE0 () H1 (S2.wk2 all_nil all_nil)
theorem slices_IndexFunc_Lapi_Elem_api_Elem_ext_Find_1_ok (k : Nat) {h : H} {σ : Stamp} (x0 : List T_api_Elem) {u0 : V} (hu0 : SlH h dT_api_Elem x0 u0) (x1c0 : Int)  {l1c0 : Loc} {o1c0 : Nat} (ha1c0 : AtC h l1c0 o1c0 (List.map C.v [(.p (.int .i64 x1c0))])) : Sim (p_slices_IndexFunc_Lapi_Elem_api_Elem_ext_Find_1 k x0 x1c0) (ev G X0 61 σ [u0, (.clo 62 [(.ref l1c0 o1c0)])] h) (fun r s => s = ([.v (.p (.int .i64 r))], h)) := by
  refine Sim.ev rfl (Sim.ext (slices_IndexFunc_Lapi_Elem_api_Elem_entry _ _ _ _ _ _) ?_)
  rw [p_slices_IndexFunc_Lapi_Elem_api_Elem_ext_Find_1]
  have S0 : Fm 19 h [] [] [] (List.replicate 19 [] :: h) := Fm.start0
  refine Sim.op ((S0.low hu0).len) ?_
  refine Sim.op (castI_p _ _) ?_
  refine Sim.as (slices_IndexFunc_Lapi_Elem_api_Elem_ext_Find_1_l0_ok ?_ ?_ k x0 x1c0 ((x0.length : Int)) 0 u0 hu0 l1c0 o1c0 ha1c0 (List.replicate 19 [] :: h) (S0.wk2 all_nil all_nil)) 
  · intro _u H26 S27
    refine Sim.ext (slices_IndexFunc_Lapi_Elem_api_Elem_a0_0 _ _ _ _) ?_
    exact Sim.fin (S27.finN (lv_cons (still_int _ _).lv lv_nil)) rfl
  · intro r28_4 H29 S30
    refine Sim.ext (slices_IndexFunc_Lapi_Elem_api_Elem_a0_ret _ _ _ _ _) ?_
    exact Sim.fin (S30.finN (lv_cons (still_int _ _).lv lv_nil)) rfl
end Go.Ev
/- Lifted by lift.py: ext_Find as a plain function. -/
namespace Go.Ev
open Go.Proofs
set_option linter.unusedVariables false
set_option linter.unusedSimpArgs false
set_option maxRecDepth 100000
def p_ext_Find (k : Nat) (x0 : (List T_api_Elem)) (x1 : Int) : Option ((List Int) × Bool) :=
(p_slices_IndexFunc_Lapi_Elem_api_Elem_ext_Find_1 k x0 x1).bind fun r5 =>
bif decide (r5 < 0) then (
some ((([] : List Int)), false))
else (
(ix x0 r5).bind fun a10 =>
(p_clone 1 a10.Data).bind fun r22 =>
some (r22, true))
theorem ext_Find_ok (k : Nat) {h : H} {σ : Stamp} (x0 : List T_api_Elem) {u0 : V} (hu0 : SlH h dT_api_Elem x0 u0) (x1 : Int) : Sim (p_ext_Find k x0 x1) (ev G X0 25 σ [u0, (.p (.int .i64 x1))] h) (fun r s => ∃ (v0 : V), SlF (dI .u8) r.1 v0 ∧ s = ([.v v0, .v (.p (.bool r.2))], h)) := by
  refine Sim.ev rfl (Sim.ext (ext_Find_entry _ _ _ _ _ _) ?_)
  rw [p_ext_Find]
  have S0 : Fm 18 h [] [] [] (List.replicate 18 [] :: h) := Fm.start0
  obtain ⟨H1, e2, S3⟩ := S0.box1 (own := true) (d := 3) (s := (0 :: 0 :: 0 :: σ)) (x := (.p (.int .i64 x1))) (still_int _ _) (by decide) rfl
  refine Sim.op (e2) ?_
  refine Sim.call (slices_IndexFunc_Lapi_Elem_api_Elem_ext_Find_1_ok k x0 (S3.low hu0) x1 (S3.atG (i := 0) rfl)) fun r5 cs6 H7 h8 q9 => ?_
  cases q9
  refine Sim.op (castI_p _ _) ?_
  refine Sim.cd (fun hc => ?_) (fun hc => ?_)
  · exact Sim.fin (S3.finN (lv_cons (SlF.nil (dI .u8)).still.lv (lv_cons (still_bool _).lv lv_nil))) ⟨(.p (.slice none 0 0)), (SlF.nil (dI .u8)), rfl⟩
  · refine Sim.bd fun a10 h11 => ?_
    refine Sim.op ((S3.low hu0).iS h11 rfl) ?_
    obtain ⟨w13, h14, hE12⟩ := (S3.low hu0).el h11 rfl
    obtain ⟨v15, rfl, h16⟩ := dT_api_Elem.inv h14
    refine Sim.op (hE12.fa (j := 1) (by simp)) ?_
    obtain ⟨w18, h19, hE17⟩ := (S3.low hu0).el h11 rfl
    obtain ⟨v20, rfl, h21⟩ := dT_api_Elem.inv h19
    refine Sim.op (hE17.ld (j := 1) rfl) ?_
    refine Sim.call (clone_ok (b := 1) (f := 63) (tt := 5) (e := 1) (τ := fun σ => _ :: _ :: _ :: _ :: _ :: σ) (fun x h => slices_Clone_Lbyte_byte_entry _ _ _ x h) (h21.h H1) rfl (by decide) (by decide) (by decide) (by kernel_rfl) (by kernel_rfl) rfl) fun r22 cs23 H24 h25 q26 => ?_
    obtain ⟨c27, cs28, h29, h30, q26⟩ := q26
    cases q26
    obtain ⟨v31, H32, e33, S34⟩ := S3.land (dt := (dI .u8)) (d := 17) (e := 0) (n := 0) h29 h30 (by decide) rfl
    erw [e33]
    obtain ⟨v41, H36, e37, h39, S38⟩ := S34.expFrz (i := 0) (τ := 0 :: 1 :: σ) rfl rfl
    exact Sim.fin (S38.finE (Ex.st e37 (Ex.pl (still_bool _).lv Ex.nil))) ⟨v41, h39, rfl⟩
end Go.Ev
/- Equations, printed by tracer2.py. -/
namespace Go.Ev
open Go.Proofs
set_option linter.unusedVariables false
set_option maxRecDepth 100000
-- 23 limelight/ext.Read
noncomputable def ext_Read_c0 : Code := (codeAt (bodyOf Try.f23) [1, 1, 1, 0, 1, 0, 0])
def ext_Read_l0 : Lv := ⟨64, 48, [(0, 64)]⟩
noncomputable def ext_Read_k0 (rec : CallF) (loop : LoopV) (σ : Stamp) : Exit → Env → H → Option (List C × H) := (kBlock 0 (kSeq G rec loop (codeAt (bodyOf Try.f23) [1, 1, 1, 1]) ⟨48, 48, []⟩ (1 :: 1 :: 1 :: 0 :: σ) (finC G true Try.f23 (1 :: σ))))
theorem ext_Read_entry (rec : CallF) (loop : LoopV) (σ : Stamp) (x0 : Int) (x1 : V) (h : H) : cvBody G rec loop 23 σ [(.p (.int .u16 x0)), x1] h =
 (bif x0 != 48862 then (some (x0 != 4096)) else (some false)).bind fun b1 =>
 bif b1 then (
 fin true σ (List.replicate 65 [] :: h) [(.p (.slice .none 0 0)), (.p (.int .i64 1))])
 else (
 (loop ext_Read_c0 ext_Read_l0 (1 :: 0 :: 1 :: 1 :: 1 :: 0 :: σ) (envL [(0, (.p (.int .u16 x0))), (1, x1), (6, (.p (.slice .none 0 0))), (7, (.p (.int .i64 0)))]) (List.replicate 65 [] :: h)).bind fun r2 => ext_Read_k0 rec loop σ r2.1 r2.2.1 r2.2.2) := by kernel_rfl
theorem ext_Read_r0 (rec : CallF) (loop : LoopV) (σ : Stamp) (x0 : Int) (x1 : V) (x6 : V) (x7 : Int) (h : H) : cvRound G rec loop ext_Read_c0 ext_Read_l0 σ (envL [(0, (.p (.int .u16 x0))), (1, x1), (6, x6), (7, (.p (.int .i64 x7)))]) h =
 (lenO x1).bind fun t3 =>
 (castI .i64 t3).bind fun n4 =>
 bif decide (x7 < n4) then (
 (iS 1 x1 x7).bind fun t5 =>
 (ldO false 1 h t5).bind fun t6 =>
 (castI .u8 t6).bind fun n7 =>
 bif n7 == 0 then (
 loop ext_Read_c0 ext_Read_l0 (1 :: σ) (envL [(0, (.p (.int .u16 x0))), (1, x1), (6, x6), (7, (.p (.int .i64 (IntKind.wrap .i64 (x7 + 1)))))]) h)
 else (
 (callO rec 58 (3 :: 0 :: 1 :: 1 :: 0 :: σ) [(.p (.int .u16 x0)), x1, (.p (.int .i64 x7))] h (some 35)).bind fun q8 =>
 (extV q8.1 0).bind fun t9 =>
 (castI .i64 t9).bind fun n10 =>
 (extV q8.1 1).bind fun t11 =>
 (castI .i64 t11).bind fun n12 =>
 (extV q8.1 2).bind fun t13 =>
 (castI .i64 t13).bind fun n14 =>
 (extV q8.1 3).bind fun t15 =>
 (asB t15).bind fun b16 =>
 bif !b16 then (
 some ((.exit 0), (envL [(6, x6)]), q8.2))
 else (
 (callO rec 59 (3 :: 0 :: 1 :: 1 :: 1 :: 1 :: 0 :: σ) [x1, (.p (.int .i64 n14)), (.p (.int .i64 n12))] q8.2 (some 46)).bind fun q17 =>
 (extV q17.1 0).bind fun t18 =>
 (extV q17.1 1).bind fun t19 =>
 (asB t19).bind fun b20 =>
 bif !b20 then (
 some (.ret, (envL [(4, (.p (.slice .none 0 0))), (5, (.p (.int .i64 13)))]), q17.2))
 else (
 (buildV Try.prog 38 [(0, (.p (.int .i64 n10))), (1, t18)]).bind fun t21 =>
 (buildSliceV Try.prog 27 1 [(0, t21)]).bind fun t22 =>
 (apO false 2 32 (5 :: 0 :: 1 :: 1 :: 1 :: 1 :: 1 :: 1 :: 0 :: σ) 56 q17.2 x6 t22).bind fun q23 =>
 loop ext_Read_c0 ext_Read_l0 (1 :: σ) (envL [(0, (.p (.int .u16 x0))), (1, x1), (6, q23.1), (7, (.p (.int .i64 (IntKind.wrap .i64 (n14 + n12)))))]) q23.2))))
 else (
 some ((.exit 0), (envL [(6, x6)]), h)) := by kernel_rfl
theorem ext_Read_a0_0 (rec : CallF) (loop : LoopV) (σ : Stamp) (x6 : V) (h : H) : ext_Read_k0 rec loop σ (.exit 0) (envL [(6, x6)]) h =
 (lenO x6).bind fun t24 =>
 (castI .i64 t24).bind fun n25 =>
 bif decide (n25 > 8) then (
 fin true σ h [(.p (.slice .none 0 0)), (.p (.int .i64 3))])
 else (
 (callO rec 60 (1 :: 0 :: 1 :: 1 :: 1 :: 1 :: 1 :: 0 :: σ) [x6] h (some 64)).bind fun q26 =>
 fin true σ q26.2 [q26.1, (.p (.int .i64 0))]) := by kernel_rfl
theorem ext_Read_a0_ret (rec : CallF) (loop : LoopV) (σ : Stamp) (x4 : V) (x5 : Int) (h : H) : ext_Read_k0 rec loop σ .ret (envL [(4, x4), (5, (.p (.int .i64 x5)))]) h =
 fin true σ h [x4, (.p (.int .i64 x5))] := by kernel_rfl
end Go.Ev
/- Equations, printed by tracer2.py. -/
namespace Go.Ev
open Go.Proofs
set_option linter.unusedVariables false
set_option maxRecDepth 100000
-- 60 slices.Clip[[]limelight/api.Elem,limelight/api.Elem]
theorem slices_Clip_Lapi_Elem_api_Elem_entry (rec : CallF) (loop : LoopV) (σ : Stamp) (x0 : V) (h : H) : cvBody G rec loop 60 σ [x0] h =
 (lenO x0).bind fun t1 =>
 (castI .i64 t1).bind fun n2 =>
 (lenO x0).bind fun t3 =>
 (castI .i64 t3).bind fun n4 =>
 (slS 2 x0 none (some n2) (some n4)).bind fun t5 =>
 fin false σ (List.replicate 9 [] :: h) [t5] := by kernel_rfl
end Go.Ev
/- Equations, printed by tracer2.py. -/
namespace Go.Ev
open Go.Proofs
set_option linter.unusedVariables false
set_option maxRecDepth 100000
-- 58 limelight/ext.next
theorem ext_next_entry (rec : CallF) (loop : LoopV) (σ : Stamp) (x0 : Int) (x1 : V) (x2 : Int) (h : H) : cvBody G rec loop 58 σ [(.p (.int .u16 x0)), x1, (.p (.int .i64 x2))] h =
 bif x0 == 48862 then (
 (iS 1 x1 x2).bind fun t1 =>
 (ldO false 1 (List.replicate 63 [] :: h) t1).bind fun t2 =>
 (castI .u8 t2).bind fun n3 =>
 (iS 1 x1 x2).bind fun t4 =>
 (ldO false 1 (List.replicate 63 [] :: h) t4).bind fun t5 =>
 (castI .u8 t5).bind fun n6 =>
 (bif (Int.fdiv (IntKind.wrap .i64 n3) (2 ^ 4)) != 0 then (some ((Int.fdiv (IntKind.wrap .i64 n3) (2 ^ 4)) != 15)) else (some false)).bind fun b7 =>
 fin false σ (List.replicate 63 [] :: h) [(.p (.int .i64 (Int.fdiv (IntKind.wrap .i64 n3) (2 ^ 4)))), (.p (.int .i64 (IntKind.wrap .i64 ((IntKind.wrap .i64 (intBits .and .u8 n6 15)) + 1)))), (.p (.int .i64 (IntKind.wrap .i64 (x2 + 1)))), (.p (.bool b7))])
 else (
 (lenO x1).bind fun t8 =>
 (castI .i64 t8).bind fun n9 =>
 bif decide ((IntKind.wrap .i64 (x2 + 1)) ≥ n9) then (
 (iS 1 x1 x2).bind fun t10 =>
 (ldO false 1 (List.replicate 63 [] :: h) t10).bind fun t11 =>
 (castI .u8 t11).bind fun n12 =>
 (lenO x1).bind fun t13 =>
 (castI .i64 t13).bind fun n14 =>
 fin false σ (List.replicate 63 [] :: h) [(.p (.int .i64 (IntKind.wrap .i64 n12))), (.p (.int .i64 n14)), (.p (.int .i64 (IntKind.wrap .i64 (x2 + 1)))), (.p (.bool true))])
 else (
 (iS 1 x1 x2).bind fun t15 =>
 (ldO false 1 (List.replicate 63 [] :: h) t15).bind fun t16 =>
 (castI .u8 t16).bind fun n17 =>
 (iS 1 x1 (IntKind.wrap .i64 (x2 + 1))).bind fun t18 =>
 (ldO false 1 (List.replicate 63 [] :: h) t18).bind fun t19 =>
 (castI .u8 t19).bind fun n20 =>
 fin false σ (List.replicate 63 [] :: h) [(.p (.int .i64 (IntKind.wrap .i64 n17))), (.p (.int .i64 (IntKind.wrap .i64 n20))), (.p (.int .i64 (IntKind.wrap .i64 (x2 + 2)))), (.p (.bool true))])) := by kernel_rfl
end Go.Ev
/- Lifted by lift.py: ext_next as a plain function. -/
namespace Go.Ev
open Go.Proofs
set_option linter.unusedVariables false
set_option linter.unusedSimpArgs false
set_option maxRecDepth 100000
def p_ext_next (x0 : Int) (x1 : (List Int)) (x2 : Int) : Option (Int × Int × Int × Bool) :=
bif x0 == 48862 then (
(ix x1 x2).bind fun a1 =>
(ix x1 x2).bind fun a4 =>
(bif (Int.fdiv (IntKind.wrap .i64 a1) (2 ^ 4)) != 0 then (some ((Int.fdiv (IntKind.wrap .i64 a1) (2 ^ 4)) != 15)) else (some false)).bind fun b7 =>
some ((Int.fdiv (IntKind.wrap .i64 a1) (2 ^ 4)), (IntKind.wrap .i64 ((IntKind.wrap .i64 (intBits .and .u8 a4 15)) + 1)), (IntKind.wrap .i64 (x2 + 1)), b7))
else (
bif decide ((IntKind.wrap .i64 (x2 + 1)) ≥ ((x1.length : Int))) then (
(ix x1 x2).bind fun a11 =>
some ((IntKind.wrap .i64 a11), ((x1.length : Int)), (IntKind.wrap .i64 (x2 + 1)), true))
else (
(ix x1 x2).bind fun a14 =>
(ix x1 (IntKind.wrap .i64 (x2 + 1))).bind fun a17 =>
some ((IntKind.wrap .i64 a14), (IntKind.wrap .i64 a17), (IntKind.wrap .i64 (x2 + 2)), true)))
theorem ext_next_ok {h : H} {σ : Stamp} (x0 : Int) (x1 : List Int) {u1 : V} (hu1 : SlH h (dI .u8) x1 u1) (x2 : Int) : Sim (p_ext_next x0 x1 x2) (ev G X0 58 σ [(.p (.int .u16 x0)), u1, (.p (.int .i64 x2))] h) (fun r s => s = ([.v (.p (.int .i64 r.1)), .v (.p (.int .i64 r.2.1)), .v (.p (.int .i64 r.2.2.1)), .v (.p (.bool r.2.2.2))], h)) := by
  refine Sim.ev rfl (Sim.ext (ext_next_entry _ _ _ _ _ _ _) ?_)
  rw [p_ext_next]
  have S0 : Fm 63 h [] [] [] (List.replicate 63 [] :: h) := Fm.start0
  refine Sim.cd (fun hc => ?_) (fun hc => ?_)
  · refine Sim.bd fun a1 h2 => ?_
    refine Sim.op ((S0.low hu1).iS h2 rfl) ?_
    obtain ⟨_, rfl, hE3⟩ := (S0.low hu1).el h2 rfl
    refine Sim.op (hE3.ld (j := 0) rfl) ?_
    refine Sim.op (castI_p _ _) ?_
    refine Sim.bd fun a4 h5 => ?_
    refine Sim.op ((S0.low hu1).iS h5 rfl) ?_
    obtain ⟨_, rfl, hE6⟩ := (S0.low hu1).el h5 rfl
    refine Sim.op (hE6.ld (j := 0) rfl) ?_
    refine Sim.op (castI_p _ _) ?_
    refine Sim.ch (P := fun r y => r = y) ?_ (fun b7 y8 h9 h10 => ?_)
    · refine Sim.cd (fun hc => ?_) (fun hc => ?_)
      · exact Sim.ret rfl rfl
      · exact Sim.ret rfl rfl
    subst h10
    exact Sim.fin (S0.finN (lv_cons (still_int _ _).lv (lv_cons (still_int _ _).lv (lv_cons (still_int _ _).lv (lv_cons (still_bool _).lv lv_nil))))) rfl
  · refine Sim.op ((S0.low hu1).len) ?_
    refine Sim.op (castI_p _ _) ?_
    refine Sim.cd (fun hc => ?_) (fun hc => ?_)
    · refine Sim.bd fun a11 h12 => ?_
      refine Sim.op ((S0.low hu1).iS h12 rfl) ?_
      obtain ⟨_, rfl, hE13⟩ := (S0.low hu1).el h12 rfl
      refine Sim.op (hE13.ld (j := 0) rfl) ?_
      refine Sim.op (castI_p _ _) ?_
      refine Sim.op ((S0.low hu1).len) ?_
      refine Sim.op (castI_p _ _) ?_
      exact Sim.fin (S0.finN (lv_cons (still_int _ _).lv (lv_cons (still_int _ _).lv (lv_cons (still_int _ _).lv (lv_cons (still_bool _).lv lv_nil))))) rfl
    · refine Sim.bd fun a14 h15 => ?_
      refine Sim.op ((S0.low hu1).iS h15 rfl) ?_
      obtain ⟨_, rfl, hE16⟩ := (S0.low hu1).el h15 rfl
      refine Sim.op (hE16.ld (j := 0) rfl) ?_
      refine Sim.op (castI_p _ _) ?_
      refine Sim.bd fun a17 h18 => ?_
      refine Sim.op ((S0.low hu1).iS h18 rfl) ?_
      obtain ⟨_, rfl, hE19⟩ := (S0.low hu1).el h18 rfl
      refine Sim.op (hE19.ld (j := 0) rfl) ?_
      refine Sim.op (castI_p _ _) ?_
      exact Sim.fin (S0.finN (lv_cons (still_int _ _).lv (lv_cons (still_int _ _).lv (lv_cons (still_int _ _).lv (lv_cons (still_bool _).lv lv_nil))))) rfl
end Go.Ev
/- Equations, printed by tracer2.py. -/
namespace Go.Ev
open Go.Proofs
set_option linter.unusedVariables false
set_option maxRecDepth 100000
-- 59 limelight/octet.Cut
theorem octet_Cut_entry (rec : CallF) (loop : LoopV) (σ : Stamp) (x0 : V) (x1 : Int) (x2 : Int) (h : H) : cvBody G rec loop 59 σ [x0, (.p (.int .i64 x1)), (.p (.int .i64 x2))] h =
 (bif decide (x1 < 0) then (some true) else (some (decide (x2 < 0)))).bind fun b1 =>
 (bif b1 then (some true) else ((lenO x0).bind fun t2 =>
 (castI .i64 t2).bind fun n3 =>
 some (decide (x1 > n3)))).bind fun b4 =>
 (bif b4 then (some true) else ((lenO x0).bind fun t5 =>
 (castI .i64 t5).bind fun n6 =>
 some (decide (x2 > (IntKind.wrap .i64 (n6 - x1)))))).bind fun b7 =>
 bif b7 then (
 fin true σ (List.replicate 35 [] :: h) [(.p (.slice .none 0 0)), (.p (.bool false))])
 else (
 (slS 1 x0 (some x1) (some (IntKind.wrap .i64 (x1 + x2))) none).bind fun t8 =>
 (callO rec 63 (6 :: 0 :: 1 :: 1 :: 0 :: σ) [t8] (List.replicate 35 [] :: h) (some 34)).bind fun q9 =>
 fin true σ q9.2 [q9.1, (.p (.bool true))]) := by kernel_rfl
end Go.Ev
/- Lifted by lift.py: octet_Cut as a plain function. -/
namespace Go.Ev
open Go.Proofs
set_option linter.unusedVariables false
set_option linter.unusedSimpArgs false
set_option maxRecDepth 100000
def p_octet_Cut (x0 : (List Int)) (x1 : Int) (x2 : Int) : Option ((List Int) × Bool) :=
(bif decide (x1 < 0) then (some true) else (some (decide (x2 < 0)))).bind fun b1 =>
(bif b1 then (some true) else (some (decide (x1 > ((x0.length : Int)))))).bind fun b5 =>
(bif b5 then (some true) else (some (decide (x2 > (IntKind.wrap .i64 (((x0.length : Int)) - x1)))))).bind fun b9 =>
bif b9 then (
some ((([] : List Int)), false))
else (
(sub x0 x1 (IntKind.wrap .i64 (x1 + x2))).bind fun a13 =>
(p_clone 1 a13).bind fun r15 =>
some (r15, true))
theorem octet_Cut_ok {h : H} {σ : Stamp} (x0 : List Int) {u0 : V} (hu0 : SlH h (dI .u8) x0 u0) (x1 : Int) (x2 : Int) : Sim (p_octet_Cut x0 x1 x2) (ev G X0 59 σ [u0, (.p (.int .i64 x1)), (.p (.int .i64 x2))] h) (fun r s => ∃ (v0 : V), SlF (dI .u8) r.1 v0 ∧ s = ([.v v0, .v (.p (.bool r.2))], h)) := by
  refine Sim.ev rfl (Sim.ext (octet_Cut_entry _ _ _ _ _ _ _) ?_)
  rw [p_octet_Cut]
  have S0 : Fm 35 h [] [] [] (List.replicate 35 [] :: h) := Fm.start0
  refine Sim.ch (P := fun r y => r = y) ?_ (fun b1 y2 h3 h4 => ?_)
  · refine Sim.cd (fun hc => ?_) (fun hc => ?_)
    · exact Sim.ret rfl rfl
    · exact Sim.ret rfl rfl
  subst h4
  refine Sim.ch (P := fun r y => r = y) ?_ (fun b5 y6 h7 h8 => ?_)
  · refine Sim.cd (fun hc => ?_) (fun hc => ?_)
    · exact Sim.ret rfl rfl
    · refine Sim.op ((S0.low hu0).len) ?_
      refine Sim.op (castI_p _ _) ?_
      exact Sim.ret rfl rfl
  subst h8
  refine Sim.ch (P := fun r y => r = y) ?_ (fun b9 y10 h11 h12 => ?_)
  · refine Sim.cd (fun hc => ?_) (fun hc => ?_)
    · exact Sim.ret rfl rfl
    · refine Sim.op ((S0.low hu0).len) ?_
      refine Sim.op (castI_p _ _) ?_
      exact Sim.ret rfl rfl
  subst h12
  refine Sim.cd (fun hc => ?_) (fun hc => ?_)
  · exact Sim.fin (S0.finN (lv_cons (SlF.nil (dI .u8)).still.lv (lv_cons (still_bool _).lv lv_nil))) ⟨(.p (.slice none 0 0)), (SlF.nil (dI .u8)), rfl⟩
  · refine Sim.bd fun a13 h14 => ?_
    refine Sim.op ((S0.low hu0).slS h14 rfl rfl rfl) ?_
    refine Sim.call (clone_ok (b := 1) (f := 63) (tt := 5) (e := 1) (τ := fun σ => _ :: _ :: _ :: _ :: _ :: σ) (fun x h => slices_Clone_Lbyte_byte_entry _ _ _ x h) ((S0.low hu0).sub h14 (e := 1) rfl) rfl (by decide) (by decide) (by decide) (by kernel_rfl) (by kernel_rfl) rfl) fun r15 cs16 H17 h18 q19 => ?_
    obtain ⟨c20, cs21, h22, h23, q19⟩ := q19
    cases q19
    obtain ⟨v24, H25, e26, S27⟩ := S0.land (dt := (dI .u8)) (d := 34) (e := 0) (n := 0) h22 h23 (by decide) rfl
    erw [e26]
    obtain ⟨v34, H29, e30, h32, S31⟩ := S27.expFrz (i := 0) (τ := 0 :: 1 :: σ) rfl rfl
    exact Sim.fin (S31.finE (Ex.st e30 (Ex.pl (still_bool _).lv Ex.nil))) ⟨v34, h32, rfl⟩
end Go.Ev
/- Lifted by lift.py: ext_Read as a plain function. -/
namespace Go.Ev
open Go.Proofs
set_option linter.unusedVariables false
set_option linter.unusedSimpArgs false
set_option maxRecDepth 100000
def p_ext_Read_l0 {β : Type} (k : Nat) (kE0 : (List T_api_Elem) → Option β) (kE1 : Int → Option β) (x0 : Int) (x1 : (List Int)) (x6 : (List T_api_Elem)) (x7 : Int) : Option β := match k with
| 0 => none
| k + 1 =>
bif decide (x7 < ((x1.length : Int))) then (
(ix x1 x7).bind fun a13 =>
bif a13 == 0 then (
p_ext_Read_l0 k kE0 kE1 x0 x1 x6 (IntKind.wrap .i64 (x7 + 1)))
else (
(p_ext_next x0 x1 x7).bind fun r16 =>
bif !r16.2.2.2 then (
kE0 x6)
else (
(p_octet_Cut x1 r16.2.2.1 r16.2.1).bind fun r21 =>
bif !r21.2 then (
kE1 13)
else (
(ap 32 x6 ([((⟨r16.1, r21.1⟩ : T_api_Elem))])).bind fun a29 =>
p_ext_Read_l0 k kE0 kE1 x0 x1 a29 (IntKind.wrap .i64 (r16.2.2.1 + r16.2.1))))))
else (
kE0 x6)
def p_ext_Read (k : Nat) (x0 : Int) (x1 : (List Int)) : Option ((List T_api_Elem) × Int) :=
(bif x0 != 48862 then (some (x0 != 4096)) else (some false)).bind fun b1 =>
bif b1 then (
some ((([] : List T_api_Elem)), 1))
else (
p_ext_Read_l0 k (fun r43_6 =>
bif decide (((r43_6.length : Int)) > 8) then (
some ((([] : List T_api_Elem)), 3))
else (
some (r43_6, 0))) (fun r57_5 =>
some ((([] : List T_api_Elem)), r57_5)) x0 x1 (([] : List T_api_Elem)) 0)
theorem ext_Read_l0_ok {h : H}  {β α : Type} {Q : β → α → Prop} {K : Exit × Env × H → Option α} {kE0 : (List T_api_Elem) → Option β} {kE1 : Int → Option β} (hE0 : ∀ (q6 : (List T_api_Elem)) (v37 : V) (H35 : Go.Ev.H) (_ : Fm 65 h [] [] [⟨[56], v37, dT_api_Elem, q6⟩] H35), Sim (kE0 q6) (K ((.exit 0), (envL [(6, v37)]), H35)) Q) (hE1 : ∀ (q5 : Int) (H39 : Go.Ev.H) (_ : Fm 65 h [] [] [] H39), Sim (kE1 q5) (K (.ret, (envL [(4, (.p (.slice none 0 0))), (5, (.p (.int .i64 q5)))]), H39)) Q) (k : Nat) : ∀ (x0 : Int) (x1 : (List Int)) (x6 : (List T_api_Elem)) (x7 : Int) (v9 : V) (h10 : SlH h (dI .u8) x1 v9) (v11 : V) (H7 : Go.Ev.H) (_ : Fm 65 h [] [] [⟨[56], v11, dT_api_Elem, x6⟩] H7) {σ : Stamp}, Sim (p_ext_Read_l0 k kE0 kE1 x0 x1 x6 x7) ((cvL G X0 ext_Read_c0 ext_Read_l0 σ (envL [(0, (.p (.int .u16 x0))), (1, v9), (6, v11), (7, (.p (.int .i64 x7)))]) H7).bind K) Q := by
  induction k with
  | zero => intros; exact Sim.no
  | succ k ih =>
    intro x0 x1 x6 x7 v9 h10 v11 H7 S8 σ
    rw [p_ext_Read_l0]
    refine Sim.round (Sim.ext (ext_Read_r0 _ _ _ _ _ _ _ _) ?_)
    refine Sim.op ((S8.low h10).len) ?_
    refine Sim.op (castI_p _ _) ?_
    refine Sim.cd (fun hc => ?_) (fun hc => ?_)
    · refine Sim.bd fun a13 h14 => ?_
      refine Sim.op ((S8.low h10).iS h14 rfl) ?_
      obtain ⟨_, rfl, hE15⟩ := (S8.low h10).el h14 rfl
      refine Sim.op (hE15.ld (j := 0) rfl) ?_
      refine Sim.op (castI_p _ _) ?_
      refine Sim.cd (fun hc => ?_) (fun hc => ?_)
      · exact ih x0 x1 x6 (IntKind.wrap .i64 (x7 + 1)) v9 h10 v11 H7 (S8.wk2 all_nil (all_cons ⟨[56], by simp, at_mem 0 rfl⟩ all_nil))
      · refine Sim.call (ext_next_ok x0 x1 (S8.low h10) x7) fun r16 cs17 H18 h19 q20 => ?_
        cases q20
        refine Sim.op (rfl) ?_
        refine Sim.op (castI_p _ _) ?_
        refine Sim.op (rfl) ?_
        refine Sim.op (castI_p _ _) ?_
        refine Sim.op (rfl) ?_
        refine Sim.op (castI_p _ _) ?_
        refine Sim.op (rfl) ?_
        refine Sim.op (asB_p _) ?_
        refine Sim.cd (fun hc => ?_) (fun hc => ?_)
        · exact hE0 x6 v11 H7 (S8.wk2 all_nil (all_cons ⟨[56], by simp, at_mem 0 rfl⟩ all_nil))
        · refine Sim.call (octet_Cut_ok x1 (S8.low h10) r16.2.2.1 r16.2.1) fun r21 cs22 H23 h24 q25 => ?_
          obtain ⟨v26, h27, q25⟩ := q25
          cases q25
          refine Sim.op (rfl) ?_
          refine Sim.op (rfl) ?_
          refine Sim.op (asB_p _) ?_
          refine Sim.cd (fun hc => ?_) (fun hc => ?_)
          · exact hE1 13 H7 (S8.wk2 all_nil all_nil)
          · refine Sim.op (bldV (pt_cons rfl (pt_cons h27.still.cells pt_nil)) (by kernel_rfl : _ = some (.agg [.p (.int .i64 r16.1), v26]))) ?_
            have h28 : SlF dT_api_Elem [((⟨r16.1, r21.1⟩ : T_api_Elem))] (.fz [(.p (.int .i64 r16.1)), v26] 1 2 true) := SlF.lit (cs := [(.p (.int .i64 r16.1)), v26]) (RL.cons (show dT_api_Elem.R ((⟨r16.1, r21.1⟩ : T_api_Elem)) [.p (.int .i64 r16.1), v26] from (dT_api_Elem.mk h27)) RL.nil) rfl rfl true
            refine Sim.op (bldS (pt_cons (c := [.p (.int .i64 r16.1), v26]) rfl pt_nil) (by kernel_rfl : _ = some (.fz [(.p (.int .i64 r16.1)), v26] 1 2 true))) ?_
            refine Sim.bd fun a29 h30 => ?_
            obtain ⟨v31, H32, e33, S34⟩ := S8.app (i := 0) (d := 56) (e := 2) (own := false) (σ := (5 :: 0 :: 1 :: 1 :: 1 :: 1 :: 1 :: 1 :: 0 :: σ)) rfl (h28.h H7).y h30 rfl (by decide) (by decide) rfl
            refine Sim.op (e33) ?_
            exact ih x0 x1 a29 (IntKind.wrap .i64 (r16.2.2.1 + r16.2.1)) v9 h10 v31 H32 (S34.wk2 all_nil (all_cons ⟨[56, 56], by simp, at_mem 0 rfl⟩ all_nil))
    · exact hE0 x6 v11 H7 (S8.wk2 all_nil (all_cons ⟨[56], by simp, at_mem 0 rfl⟩ all_nil))
theorem ext_Read_ok (k : Nat) {h : H} {σ : Stamp} (x0 : Int) (x1 : List Int) {u1 : V} (hu1 : SlH h (dI .u8) x1 u1) : Sim (p_ext_Read k x0 x1) (ev G X0 23 σ [(.p (.int .u16 x0)), u1] h) (fun r s => ∃ (v0 : V), SlF dT_api_Elem r.1 v0 ∧ s = ([.v v0, .v (.p (.int .i64 r.2))], h)) := by
  refine Sim.ev rfl (Sim.ext (ext_Read_entry _ _ _ _ _ _) ?_)
  rw [p_ext_Read]
  have S0 : Fm 65 h [] [] [] (List.replicate 65 [] :: h) := Fm.start0
  refine Sim.ch (P := fun r y => r = y) ?_ (fun b1 y2 h3 h4 => ?_)
  · refine Sim.cd (fun hc => ?_) (fun hc => ?_)
    · exact Sim.ret rfl rfl
    · exact Sim.ret rfl rfl
  subst h4
  refine Sim.cd (fun hc => ?_) (fun hc => ?_)
  · exact Sim.fin (S0.finN (lv_cons (SlF.nil dT_api_Elem).still.lv (lv_cons (still_int _ _).lv lv_nil))) ⟨(.p (.slice none 0 0)), (SlF.nil dT_api_Elem), rfl⟩
  · have S42 := S0.nil dT_api_Elem []
    refine Sim.as (ext_Read_l0_ok ?_ ?_ k x0 x1 (([] : List T_api_Elem)) 0 u1 hu1 (.p (.slice none 0 0)) (List.replicate 65 [] :: h) (S42.wk2 all_nil (all_cons ⟨[], by simp, at_mem 0 rfl⟩ all_nil))) 
    · intro r43_6 v46 H44 S45
      refine Sim.ext (ext_Read_a0_0 _ _ _ _ _) ?_
      refine Sim.op ((S45.sl (i := 0) rfl).len) ?_
      refine Sim.op (castI_p _ _) ?_
      refine Sim.cd (fun hc => ?_) (fun hc => ?_)
      · exact Sim.fin (S45.finN (lv_cons (SlF.nil dT_api_Elem).still.lv (lv_cons (still_int _ _).lv lv_nil))) ⟨(.p (.slice none 0 0)), (SlF.nil dT_api_Elem), rfl⟩
      · obtain ⟨v48, e49, S50⟩ := clip_D (G := G) (X := X0) (i := 0) (f := 60) (fun x h => slices_Clip_Lapi_Elem_api_Elem_entry _ _ _ x h) S45 rfl rfl rfl
        refine Sim.op (e49) ?_
        obtain ⟨v56, H51, e52, h54, S53⟩ := S50.expFrz (i := 0) (τ := 0 :: 1 :: σ) rfl rfl
        exact Sim.fin (S53.finE (Ex.st e52 (Ex.pl (still_int _ _).lv Ex.nil))) ⟨v56, h54, rfl⟩
    · intro r57_5 H58 S59
      refine Sim.ext (ext_Read_a0_ret _ _ _ _ _ _) ?_
      exact Sim.fin (S59.finN (lv_cons (SlF.nil dT_api_Elem).still.lv (lv_cons (still_int _ _).lv lv_nil))) ⟨(.p (.slice none 0 0)), (SlF.nil dT_api_Elem), rfl⟩
end Go.Ev
/- Equations, printed by tracer2.py. -/
namespace Go.Ev
open Go.Proofs
set_option linter.unusedVariables false
set_option maxRecDepth 100000
-- 26 limelight/ext.Rid
theorem ext_Rid_entry (rec : CallF) (loop : LoopV) (σ : Stamp) (x0 : V) (h : H) : cvBody G rec loop 26 σ [x0] h =
 (boxO false (0 :: 0 :: 0 :: σ) 1 (List.replicate 33 [] :: h) x0).bind fun q1 =>
 (fA q1.1 6).bind fun t2 =>
 (ldO false 1 q1.2 t2).bind fun t3 =>
 (castI .u16 t3).bind fun n4 =>
 (fA q1.1 7).bind fun t5 =>
 (ldO false 1 q1.2 t5).bind fun t6 =>
 (callO rec 23 (4 :: 0 :: 1 :: 0 :: σ) [(.p (.int .u16 n4)), t6] q1.2 (some 13)).bind fun q7 =>
 (extV q7.1 0).bind fun t8 =>
 (extV q7.1 1).bind fun t9 =>
 (castI .i64 t9).bind fun n10 =>
 bif n10 != 0 then (
 fin false σ q7.2 [(.p (.string ((⟨#[]⟩ : ByteArray)))), (.p (.bool false))])
 else (
 (callO rec 25 (1 :: 0 :: 1 :: 1 :: 1 :: 0 :: σ) [t8, (.p (.int .i64 1))] q7.2 (some 20)).bind fun q11 =>
 (extV q11.1 0).bind fun t12 =>
 (extV q11.1 1).bind fun t13 =>
 (asB t13).bind fun b14 =>
 (bif !b14 then (some ((.p (.bool true)), q11.2)) else ((strO q11.2 t12).bind fun t15 =>
 (castS t15).bind fun s16 =>
 (callO rec 64 (5 :: 0 :: 0 :: 1 :: 1 :: 1 :: 1 :: 0 :: σ) [(.p (.string s16))] q11.2 (some 28)).bind fun q17 =>
 (asB q17.1).bind fun b18 =>
 some ((.p (.bool (!b18))), q17.2))).bind fun q19 =>
 (asB q19.1).bind fun b20 =>
 bif b20 then (
 fin false σ q19.2 [(.p (.string ((⟨#[]⟩ : ByteArray)))), (.p (.bool false))])
 else (
 (strO q19.2 t12).bind fun t21 =>
 (castS t21).bind fun s22 =>
 fin false σ q19.2 [(.p (.string s22)), (.p (.bool true))])) := by kernel_rfl
end Go.Ev
/- Told from outside: rid_Right. -/
namespace Go.Ev
open Go.Proofs
def p_rid_Right (x0 : ByteArray) : Option Bool := some (RidX.rightB x0)
theorem rid_Right_ok {h : H} {σ : Stamp} (x0 : ByteArray) : Sim (p_rid_Right x0) (ev G X0 64 σ [(.p (.string x0))] h) (fun r s => s = ([.v (.p (.bool r))], h)) := Sim.told (ev_ext rfl)
end Go.Ev
/- Lifted by lift.py: ext_Rid as a plain function. -/
namespace Go.Ev
open Go.Proofs
set_option linter.unusedVariables false
set_option linter.unusedSimpArgs false
set_option maxRecDepth 100000
def p_ext_Rid (k : Nat) (x0 : T_api_Rtp) : Option (ByteArray × Bool) :=
(p_ext_Read k x0.Profile x0.Ext).bind fun r11 =>
bif r11.2 != 0 then (
some (((⟨#[]⟩ : ByteArray)), false))
else (
(p_ext_Find k r11.1 1).bind fun r18 =>
(bif !r18.2 then (some true) else ((p_rid_Right (strB r18.1)).bind fun r25 =>
some (!r25))).bind fun b30 =>
bif b30 then (
some (((⟨#[]⟩ : ByteArray)), false))
else (
some ((strB r18.1), true)))
theorem ext_Rid_ok (k : Nat) {h : H} {σ : Stamp} (x0 : T_api_Rtp) {u0 : List V} (hu0 : dT_api_Rtp.R x0 u0) : Sim (p_ext_Rid k x0) (ev G X0 26 σ [(.agg u0)] h) (fun r s => s = ([.v (.p (.string r.1)), .v (.p (.bool r.2))], h)) := by
  refine Sim.ev rfl (Sim.ext (ext_Rid_entry _ _ _ _ _) ?_)
  rw [p_ext_Rid]
  obtain ⟨v1, v3, v5, rfl, h2, h4, h6⟩ := dT_api_Rtp.inv hu0
  have S0 : Fm 33 h [] [] [] (List.replicate 33 [] :: h) := Fm.start0
  obtain ⟨H7, e8, S9⟩ := S0.box (own := false) (d := 1) (s := (0 :: 0 :: 0 :: σ)) (xs := [(.p (.bool x0.Marker)), (.p (.int .i64 x0.f_Type)), (.p (.int .u16 x0.Seq)), (.p (.int .u32 x0.Time)), (.p (.int .u32 x0.Ssrc)), v1, (.p (.int .u16 x0.Profile)), v3, v5]) (stills_cons (still_bool _) (stills_cons (still_int _ _) (stills_cons (still_int _ _) (stills_cons (still_int _ _) (stills_cons (still_int _ _) (stills_cons h2.still (stills_cons (still_int _ _) (stills_cons h4.still (stills_cons h6.still stills_nil))))))))) (by decide) rfl
  refine Sim.op (e8) ?_
  refine Sim.op (fA_ref _ _ _) ?_
  refine Sim.op ((S9.atG (i := 0) rfl).ld (j := 6) rfl) ?_
  refine Sim.op (castI_p _ _) ?_
  refine Sim.op (fA_ref _ _ _) ?_
  refine Sim.op ((S9.atG (i := 0) rfl).ld (j := 7) rfl) ?_
  refine Sim.call (ext_Read_ok k x0.Profile x0.Ext (h4.h H7)) fun r11 cs12 H13 h14 q15 => ?_
  obtain ⟨v16, h17, q15⟩ := q15
  cases q15
  refine Sim.op (rfl) ?_
  refine Sim.op (rfl) ?_
  refine Sim.op (castI_p _ _) ?_
  refine Sim.cd (fun hc => ?_) (fun hc => ?_)
  · exact Sim.fin (S9.finN (lv_cons (still_str _).lv (lv_cons (still_bool _).lv lv_nil))) rfl
  · refine Sim.call (ext_Find_ok k r11.1 (h17.h H7) 1) fun r18 cs19 H20 h21 q22 => ?_
    obtain ⟨v23, h24, q22⟩ := q22
    cases q22
    refine Sim.op (rfl) ?_
    refine Sim.op (rfl) ?_
    refine Sim.op (asB_p _) ?_
    refine Sim.ch (P := fun r y => (.p (.bool r), H7) = y) ?_ (fun b30 y31 h32 h33 => ?_)
    · refine Sim.cd (fun hc => ?_) (fun hc => ?_)
      · exact Sim.ret rfl rfl
      · refine Sim.op ((h24.h H7).str) ?_
        refine Sim.op (castS_p _) ?_
        refine Sim.call (rid_Right_ok (strB r18.1)) fun r25 cs26 H27 h28 q29 => ?_
        cases q29
        refine Sim.op (asB_p _) ?_
        exact Sim.ret rfl rfl
    subst h33
    refine Sim.op (asB_p _) ?_
    refine Sim.cd (fun hc => ?_) (fun hc => ?_)
    · exact Sim.fin (S9.finN (lv_cons (still_str _).lv (lv_cons (still_bool _).lv lv_nil))) rfl
    · refine Sim.op ((h24.h H7).str) ?_
      refine Sim.op (castS_p _) ?_
      exact Sim.fin (S9.finN (lv_cons (still_str _).lv (lv_cons (still_bool _).lv lv_nil))) rfl
end Go.Ev
/- Lifted by lift.py: limelightlaw4_known as a plain function. -/
namespace Go.Ev
open Go.Proofs
set_option linter.unusedVariables false
set_option linter.unusedSimpArgs false
set_option maxRecDepth 100000
def p_limelightlaw4_known (k : Nat)  : Option (Bool) :=
(p_ext_Bytes k 48862 ([((⟨1, ([104, 105])⟩ : T_api_Elem))])).bind fun r3 =>
(p_ext_Read k 48862 r3.1).bind fun r10 =>
(p_ext_Bytes k 0 (([] : List T_api_Elem))).bind fun r17 =>
(p_ext_Find k r10.1 1).bind fun r24 =>
(p_ext_Find k (([] : List T_api_Elem)) 1).bind fun r31 =>
(p_ext_Rid k ((⟨false, 0, 0, 0, 0, (([] : List Int)), 48862, r3.1, (([] : List Int))⟩ : T_api_Rtp))).bind fun r38 =>
(p_ext_Read k 4096 ([5, 9, 1, 1])).bind fun r44 =>
(bif r3.2 == 0 then (some ((strB r3.1).toList == ((⟨#[17, 104, 105, 0]⟩ : ByteArray)).toList)) else (some false)).bind fun b51 =>
(bif b51 then (some (r10.2 == 0)) else (some false)).bind fun b55 =>
(bif b55 then (some (((r10.1.length : Int)) == 1)) else (some false)).bind fun b59 =>
(bif b59 then (some (r17.2 == 1)) else (some false)).bind fun b63 =>
(bif b63 then (some r24.2) else (some false)).bind fun b67 =>
(bif b67 then (some ((strB r24.1).toList == ((⟨#[104, 105]⟩ : ByteArray)).toList)) else (some false)).bind fun b71 =>
(bif b71 then (some (!r31.2)) else (some false)).bind fun b75 =>
(bif b75 then (some r38.2) else (some false)).bind fun b79 =>
(bif b79 then (some (r38.1.toList == ((⟨#[104, 105]⟩ : ByteArray)).toList)) else (some false)).bind fun b83 =>
(bif b83 then (some (r44.2 == 13)) else (some false)).bind fun b87 =>
some (b87)
theorem limelightlaw4_known_ok (k : Nat) {h : H} {σ : Stamp}  : Sim (p_limelightlaw4_known k ) (ev G X0 20 σ [] h) (fun r s => s = ([.v (.p (.bool r))], h)) := by
  refine Sim.ev rfl (Sim.ext (limelightlaw4_known_entry _ _ _ _) ?_)
  rw [p_limelightlaw4_known]
  have S0 : Fm 95 h [] [] [] (List.replicate 95 [] :: h) := Fm.start0
  have h1 : SlF (dI .u8) [104, 105] (.fz [(.p (.int .u8 104)), (.p (.int .u8 105))] 2 1 true) := SlF.lit (cs := [(.p (.int .u8 104)), (.p (.int .u8 105))]) (RL.cons (show (dI .u8).R 104 [(.p (.int .u8 104))] from rfl) (RL.cons (show (dI .u8).R 105 [(.p (.int .u8 105))] from rfl) RL.nil)) rfl rfl true
  refine Sim.op (bldS (pt_cons rfl (pt_cons rfl pt_nil)) (by kernel_rfl : _ = some (.fz [(.p (.int .u8 104)), (.p (.int .u8 105))] 2 1 true))) ?_
  refine Sim.op (rfl) ?_
  refine Sim.op (bldV (pt_cons rfl (pt_cons h1.still.cells pt_nil)) (by kernel_rfl : _ = some (.agg [.p (.int .i64 1), .fz [(.p (.int .u8 104)), (.p (.int .u8 105))] 2 1 true]))) ?_
  have h2 : SlF dT_api_Elem [((⟨1, ([104, 105])⟩ : T_api_Elem))] (.fz [(.p (.int .i64 1)), (.fz [(.p (.int .u8 104)), (.p (.int .u8 105))] 2 1 true)] 1 2 true) := SlF.lit (cs := [(.p (.int .i64 1)), (.fz [(.p (.int .u8 104)), (.p (.int .u8 105))] 2 1 true)]) (RL.cons (show dT_api_Elem.R ((⟨1, ([104, 105])⟩ : T_api_Elem)) [.p (.int .i64 1), .fz [(.p (.int .u8 104)), (.p (.int .u8 105))] 2 1 true] from (dT_api_Elem.mk h1)) RL.nil) rfl rfl true
  refine Sim.op (bldS (pt_cons (c := [.p (.int .i64 1), .fz [(.p (.int .u8 104)), (.p (.int .u8 105))] 2 1 true]) rfl pt_nil) (by kernel_rfl : _ = some (.fz [(.p (.int .i64 1)), (.fz [(.p (.int .u8 104)), (.p (.int .u8 105))] 2 1 true)] 1 2 true))) ?_
  refine Sim.call (ext_Bytes_ok k 48862 ([((⟨1, ([104, 105])⟩ : T_api_Elem))]) (h2.h (List.replicate 95 [] :: h))) fun r3 cs4 H5 h6 q7 => ?_
  obtain ⟨v8, h9, q7⟩ := q7
  cases q7
  refine Sim.op (rfl) ?_
  refine Sim.op (rfl) ?_
  refine Sim.op (castI_p _ _) ?_
  refine Sim.call (ext_Read_ok k 48862 r3.1 (h9.h (List.replicate 95 [] :: h))) fun r10 cs11 H12 h13 q14 => ?_
  obtain ⟨v15, h16, q14⟩ := q14
  cases q14
  refine Sim.op (rfl) ?_
  refine Sim.op (rfl) ?_
  refine Sim.op (castI_p _ _) ?_
  refine Sim.call (ext_Bytes_ok k 0 (([] : List T_api_Elem)) ((SlF.nil dT_api_Elem).h (List.replicate 95 [] :: h))) fun r17 cs18 H19 h20 q21 => ?_
  obtain ⟨v22, h23, q21⟩ := q21
  cases q21
  refine Sim.op (rfl) ?_
  refine Sim.op (rfl) ?_
  refine Sim.op (castI_p _ _) ?_
  refine Sim.call (ext_Find_ok k r10.1 (h16.h (List.replicate 95 [] :: h)) 1) fun r24 cs25 H26 h27 q28 => ?_
  obtain ⟨v29, h30, q28⟩ := q28
  cases q28
  refine Sim.op (rfl) ?_
  refine Sim.op (rfl) ?_
  refine Sim.op (asB_p _) ?_
  refine Sim.call (ext_Find_ok k (([] : List T_api_Elem)) ((SlF.nil dT_api_Elem).h (List.replicate 95 [] :: h)) 1) fun r31 cs32 H33 h34 q35 => ?_
  obtain ⟨v36, h37, q35⟩ := q35
  cases q35
  refine Sim.op (rfl) ?_
  refine Sim.op (rfl) ?_
  refine Sim.op (asB_p _) ?_
  refine Sim.op (bldV (pt_cons rfl (pt_cons h9.still.cells pt_nil)) (by kernel_rfl : _ = some (.agg [.p (.bool false), .p (.int .i64 0), .p (.int .u16 0), .p (.int .u32 0), .p (.int .u32 0), .p (.slice none 0 0), .p (.int .u16 48862), v8, .p (.slice none 0 0)]))) ?_
  refine Sim.call (ext_Rid_ok k ((⟨false, 0, 0, 0, 0, (([] : List Int)), 48862, r3.1, (([] : List Int))⟩ : T_api_Rtp)) (show dT_api_Rtp.R ((⟨false, 0, 0, 0, 0, (([] : List Int)), 48862, r3.1, (([] : List Int))⟩ : T_api_Rtp)) [.p (.bool false), .p (.int .i64 0), .p (.int .u16 0), .p (.int .u32 0), .p (.int .u32 0), .p (.slice none 0 0), .p (.int .u16 48862), v8, .p (.slice none 0 0)] from (dT_api_Rtp.mk (SlF.nil (dI .u32)) h9 (SlF.nil (dI .u8))))) fun r38 cs39 H40 h41 q42 => ?_
  cases q42
  refine Sim.op (rfl) ?_
  refine Sim.op (castS_p _) ?_
  refine Sim.op (rfl) ?_
  refine Sim.op (asB_p _) ?_
  have h43 : SlF (dI .u8) [5, 9, 1, 1] (.fz [(.p (.int .u8 5)), (.p (.int .u8 9)), (.p (.int .u8 1)), (.p (.int .u8 1))] 4 1 true) := SlF.lit (cs := [(.p (.int .u8 5)), (.p (.int .u8 9)), (.p (.int .u8 1)), (.p (.int .u8 1))]) (RL.cons (show (dI .u8).R 5 [(.p (.int .u8 5))] from rfl) (RL.cons (show (dI .u8).R 9 [(.p (.int .u8 9))] from rfl) (RL.cons (show (dI .u8).R 1 [(.p (.int .u8 1))] from rfl) (RL.cons (show (dI .u8).R 1 [(.p (.int .u8 1))] from rfl) RL.nil)))) rfl rfl true
  refine Sim.op (bldS (pt_cons rfl (pt_cons rfl (pt_cons rfl (pt_cons rfl pt_nil)))) (by kernel_rfl : _ = some (.fz [(.p (.int .u8 5)), (.p (.int .u8 9)), (.p (.int .u8 1)), (.p (.int .u8 1))] 4 1 true))) ?_
  refine Sim.call (ext_Read_ok k 4096 ([5, 9, 1, 1]) (h43.h (List.replicate 95 [] :: h))) fun r44 cs45 H46 h47 q48 => ?_
  obtain ⟨v49, h50, q48⟩ := q48
  cases q48
  refine Sim.op (rfl) ?_
  refine Sim.op (rfl) ?_
  refine Sim.op (castI_p _ _) ?_
  refine Sim.ch (P := fun r y => r = y) ?_ (fun b51 y52 h53 h54 => ?_)
  · refine Sim.cd (fun hc => ?_) (fun hc => ?_)
    · refine Sim.op ((h9.h (List.replicate 95 [] :: h)).str) ?_
      refine Sim.op (castS_p _) ?_
      exact Sim.ret rfl rfl
    · exact Sim.ret rfl rfl
  subst h54
  refine Sim.ch (P := fun r y => r = y) ?_ (fun b55 y56 h57 h58 => ?_)
  · refine Sim.cd (fun hc => ?_) (fun hc => ?_)
    · exact Sim.ret rfl rfl
    · exact Sim.ret rfl rfl
  subst h58
  refine Sim.ch (P := fun r y => r = y) ?_ (fun b59 y60 h61 h62 => ?_)
  · refine Sim.cd (fun hc => ?_) (fun hc => ?_)
    · refine Sim.op ((h16.h (List.replicate 95 [] :: h)).len) ?_
      refine Sim.op (castI_p _ _) ?_
      exact Sim.ret rfl rfl
    · exact Sim.ret rfl rfl
  subst h62
  refine Sim.ch (P := fun r y => r = y) ?_ (fun b63 y64 h65 h66 => ?_)
  · refine Sim.cd (fun hc => ?_) (fun hc => ?_)
    · exact Sim.ret rfl rfl
    · exact Sim.ret rfl rfl
  subst h66
  refine Sim.ch (P := fun r y => r = y) ?_ (fun b67 y68 h69 h70 => ?_)
  · refine Sim.cd (fun hc => ?_) (fun hc => ?_)
    · exact Sim.ret rfl rfl
    · exact Sim.ret rfl rfl
  subst h70
  refine Sim.ch (P := fun r y => r = y) ?_ (fun b71 y72 h73 h74 => ?_)
  · refine Sim.cd (fun hc => ?_) (fun hc => ?_)
    · refine Sim.op ((h30.h (List.replicate 95 [] :: h)).str) ?_
      refine Sim.op (castS_p _) ?_
      exact Sim.ret rfl rfl
    · exact Sim.ret rfl rfl
  subst h74
  refine Sim.ch (P := fun r y => r = y) ?_ (fun b75 y76 h77 h78 => ?_)
  · refine Sim.cd (fun hc => ?_) (fun hc => ?_)
    · exact Sim.ret rfl rfl
    · exact Sim.ret rfl rfl
  subst h78
  refine Sim.ch (P := fun r y => r = y) ?_ (fun b79 y80 h81 h82 => ?_)
  · refine Sim.cd (fun hc => ?_) (fun hc => ?_)
    · exact Sim.ret rfl rfl
    · exact Sim.ret rfl rfl
  subst h82
  refine Sim.ch (P := fun r y => r = y) ?_ (fun b83 y84 h85 h86 => ?_)
  · refine Sim.cd (fun hc => ?_) (fun hc => ?_)
    · exact Sim.ret rfl rfl
    · exact Sim.ret rfl rfl
  subst h86
  refine Sim.ch (P := fun r y => r = y) ?_ (fun b87 y88 h89 h90 => ?_)
  · refine Sim.cd (fun hc => ?_) (fun hc => ?_)
    · exact Sim.ret rfl rfl
    · exact Sim.ret rfl rfl
  subst h90
  exact Sim.fin (S0.finN (lv_cons (still_bool _).lv lv_nil)) rfl
end Go.Ev
/- Equations, printed by tracer2.py. -/
namespace Go.Ev
open Go.Proofs
set_option linter.unusedVariables false
set_option maxRecDepth 100000
-- 19 limelight/limelightlaw4.reads
theorem limelightlaw4_reads_entry (rec : CallF) (loop : LoopV) (σ : Stamp) (x0 : Int) (x1 : V) (h : H) : cvBody G rec loop 19 σ [(.p (.int .u16 x0)), x1] h =
 (callO rec 23 (2 :: 0 :: 1 :: 0 :: σ) [(.p (.int .u16 x0)), x1] (List.replicate 57 [] :: h) (some 16)).bind fun q1 =>
 (extV q1.1 0).bind fun t2 =>
 (extV q1.1 1).bind fun t3 =>
 (castI .i64 t3).bind fun n4 =>
 (callO rec 55 (2 :: 0 :: 1 :: 1 :: 0 :: σ) [(.p (.int .u16 x0)), x1] q1.2 (some 22)).bind fun q5 =>
 (extV q5.1 0).bind fun t6 =>
 (extV q5.1 1).bind fun t7 =>
 (castI .i64 t7).bind fun n8 =>
 (buildV Try.prog 52 [(6, (.p (.int .u16 x0))), (7, x1)]).bind fun t9 =>
 (callO rec 26 (3 :: 0 :: 1 :: 1 :: 1 :: 0 :: σ) [t9] q5.2 (some 29)).bind fun q10 =>
 (extV q10.1 0).bind fun t11 =>
 (castS t11).bind fun s12 =>
 (extV q10.1 1).bind fun t13 =>
 (asB t13).bind fun b14 =>
 (buildV Try.prog 52 [(6, (.p (.int .u16 x0))), (7, x1)]).bind fun t15 =>
 (callO rec 27 (3 :: 0 :: 1 :: 1 :: 1 :: 1 :: 0 :: σ) [t15] q10.2 (some 36)).bind fun q16 =>
 (extV q16.1 0).bind fun t17 =>
 (castS t17).bind fun s18 =>
 (extV q16.1 1).bind fun t19 =>
 (asB t19).bind fun b20 =>
 (bif n4 == n8 then ((callO rec 24 (6 :: 0 :: 1 :: 1 :: 1 :: 1 :: 1 :: 0 :: σ) [t2, t6] q16.2 (some 45)).bind fun q21 =>
 (asB q21.1).bind fun b22 =>
 some ((.p (.bool b22)), q21.2)) else (some ((.p (.bool false)), q16.2))).bind fun q23 =>
 (asB q23.1).bind fun b24 =>
 (bif b24 then (some (s12.toList == s18.toList)) else (some false)).bind fun b25 =>
 (bif b25 then (some (b14 == b20)) else (some false)).bind fun b26 =>
 fin false σ q23.2 [(.p (.bool b26))] := by kernel_rfl
end Go.Ev
/- Equations, printed by tracer2.py. -/
namespace Go.Ev
open Go.Proofs
set_option linter.unusedVariables false
set_option maxRecDepth 100000
-- 24 limelight/limelightlaw4.elems
noncomputable def limelightlaw4_elems_c0 : Code := (codeAt (bodyOf Try.f24) [1, 1, 0, 1, 0, 0])
def limelightlaw4_elems_l0 : Lv := ⟨0, 16, [(0, 0)]⟩
noncomputable def limelightlaw4_elems_k0 (rec : CallF) (loop : LoopV) (σ : Stamp) : Exit → Env → H → Option (List C × H) := (kBlock 0 (kSeq G rec loop (codeAt (bodyOf Try.f24) [1, 1, 1]) ⟨16, 16, []⟩ (1 :: 1 :: 0 :: σ) (finC G false Try.f24 (1 :: σ))))
theorem limelightlaw4_elems_entry (rec : CallF) (loop : LoopV) (σ : Stamp) (x0 : V) (x1 : V) (h : H) : cvBody G rec loop 24 σ [x0, x1] h =
 (lenO x0).bind fun t1 =>
 (castI .i64 t1).bind fun n2 =>
 (lenO x1).bind fun t3 =>
 (castI .i64 t3).bind fun n4 =>
 bif n2 != n4 then (
 fin false σ (List.replicate 43 [] :: h) [(.p (.bool false))])
 else (
 (lenO x0).bind fun t5 =>
 (castI .i64 t5).bind fun n6 =>
 (loop limelightlaw4_elems_c0 limelightlaw4_elems_l0 (1 :: 0 :: 1 :: 1 :: 0 :: σ) (envL [(0, x0), (1, x1), (12, (.p (.int .i64 n6))), (13, (.p (.int .i64 0)))]) (List.replicate 43 [] :: h)).bind fun r7 => limelightlaw4_elems_k0 rec loop σ r7.1 r7.2.1 r7.2.2) := by kernel_rfl
theorem limelightlaw4_elems_r0 (rec : CallF) (loop : LoopV) (σ : Stamp) (x0 : V) (x1 : V) (x12 : Int) (x13 : Int) (h : H) : cvRound G rec loop limelightlaw4_elems_c0 limelightlaw4_elems_l0 σ (envL [(0, x0), (1, x1), (12, (.p (.int .i64 x12))), (13, (.p (.int .i64 x13)))]) h =
 bif decide (x13 < x12) then (
 (iS 2 x0 x13).bind fun t8 =>
 (fA t8 0).bind fun t9 =>
 (ldO false 1 h t9).bind fun t10 =>
 (castI .i64 t10).bind fun n11 =>
 (iS 2 x1 x13).bind fun t12 =>
 (fA t12 0).bind fun t13 =>
 (ldO false 1 h t13).bind fun t14 =>
 (castI .i64 t14).bind fun n15 =>
 (bif n11 != n15 then (some true) else ((iS 2 x0 x13).bind fun t16 =>
 (fA t16 1).bind fun t17 =>
 (ldO false 1 h t17).bind fun t18 =>
 (strO h t18).bind fun t19 =>
 (castS t19).bind fun s20 =>
 (iS 2 x1 x13).bind fun t21 =>
 (fA t21 1).bind fun t22 =>
 (ldO false 1 h t22).bind fun t23 =>
 (strO h t23).bind fun t24 =>
 (castS t24).bind fun s25 =>
 some (!(s20.toList == s25.toList)))).bind fun b26 =>
 bif b26 then (
 some (.ret, (envL [(4, (.p (.bool false)))]), h))
 else (
 loop limelightlaw4_elems_c0 limelightlaw4_elems_l0 (1 :: σ) (envL [(0, x0), (1, x1), (12, (.p (.int .i64 x12))), (13, (.p (.int .i64 (IntKind.wrap .i64 (x13 + 1)))))]) h))
 else (
 some ((.exit 0), (envL []), h)) := by kernel_rfl
theorem limelightlaw4_elems_a0_0 (rec : CallF) (loop : LoopV) (σ : Stamp)  (h : H) : limelightlaw4_elems_k0 rec loop σ (.exit 0) (envL []) h =
 fin false σ h [(.p (.bool true))] := by kernel_rfl
theorem limelightlaw4_elems_a0_ret (rec : CallF) (loop : LoopV) (σ : Stamp) (x4 : Bool) (h : H) : limelightlaw4_elems_k0 rec loop σ .ret (envL [(4, (.p (.bool x4)))]) h =
 fin false σ h [(.p (.bool x4))] := by kernel_rfl
end Go.Ev
/- Lifted by lift.py: limelightlaw4_elems as a plain function. -/
namespace Go.Ev
open Go.Proofs
set_option linter.unusedVariables false
set_option linter.unusedSimpArgs false
set_option maxRecDepth 100000
def p_limelightlaw4_elems_l0 {β : Type} (k : Nat) (kE0 : Unit → Option β) (kE1 : Bool → Option β) (x0 : (List T_api_Elem)) (x1 : (List T_api_Elem)) (x12 : Int) (x13 : Int) : Option β := match k with
| 0 => none
| k + 1 =>
bif decide (x13 < x12) then (
(ix x0 x13).bind fun a7 =>
(ix x1 x13).bind fun a19 =>
(bif a7.ID != a19.ID then (some true) else ((ix x0 x13).bind fun a31 =>
(ix x1 x13).bind fun a43 =>
some (!((strB a31.Data).toList == (strB a43.Data).toList)))).bind fun b55 =>
bif b55 then (
kE1 false)
else (
p_limelightlaw4_elems_l0 k kE0 kE1 x0 x1 x12 (IntKind.wrap .i64 (x13 + 1))))
else (
kE0 ())
def p_limelightlaw4_elems (k : Nat) (x0 : (List T_api_Elem)) (x1 : (List T_api_Elem)) : Option (Bool) :=
bif ((x0.length : Int)) != ((x1.length : Int)) then (
some (false))
else (
p_limelightlaw4_elems_l0 k (fun (_ : Unit) =>
some (true)) (fun r66_4 =>
some (r66_4)) x0 x1 ((x0.length : Int)) 0)
theorem limelightlaw4_elems_l0_ok {h : H}  {β α : Type} {Q : β → α → Prop} {K : Exit × Env × H → Option α} {kE0 : Unit → Option β} {kE1 : Bool → Option β} (hE0 : ∀ (_u : Unit) (H59 : Go.Ev.H) (_ : Fm 43 h [] [] [] H59), Sim (kE0 ()) (K ((.exit 0), (envL []), H59)) Q) (hE1 : ∀ (q4 : Bool) (H61 : Go.Ev.H) (_ : Fm 43 h [] [] [] H61), Sim (kE1 q4) (K (.ret, (envL [(4, (.p (.bool q4)))]), H61)) Q) (k : Nat) : ∀ (x0 : (List T_api_Elem)) (x1 : (List T_api_Elem)) (x12 : Int) (x13 : Int) (v3 : V) (h4 : SlH h dT_api_Elem x0 v3) (v5 : V) (h6 : SlH h dT_api_Elem x1 v5) (H1 : Go.Ev.H) (_ : Fm 43 h [] [] [] H1) {σ : Stamp}, Sim (p_limelightlaw4_elems_l0 k kE0 kE1 x0 x1 x12 x13) ((cvL G X0 limelightlaw4_elems_c0 limelightlaw4_elems_l0 σ (envL [(0, v3), (1, v5), (12, (.p (.int .i64 x12))), (13, (.p (.int .i64 x13)))]) H1).bind K) Q := by
  induction k with
  | zero => intros; exact Sim.no
  | succ k ih =>
    intro x0 x1 x12 x13 v3 h4 v5 h6 H1 S2 σ
    rw [p_limelightlaw4_elems_l0]
    refine Sim.round (Sim.ext (limelightlaw4_elems_r0 _ _ _ _ _ _ _ _) ?_)
    refine Sim.cd (fun hc => ?_) (fun hc => ?_)
    · refine Sim.bd fun a7 h8 => ?_
      refine Sim.op ((S2.low h4).iS h8 rfl) ?_
      obtain ⟨w10, h11, hE9⟩ := (S2.low h4).el h8 rfl
      obtain ⟨v12, rfl, h13⟩ := dT_api_Elem.inv h11
      refine Sim.op (hE9.fa (j := 0) (by simp)) ?_
      obtain ⟨w15, h16, hE14⟩ := (S2.low h4).el h8 rfl
      obtain ⟨v17, rfl, h18⟩ := dT_api_Elem.inv h16
      refine Sim.op (hE14.ld (j := 0) rfl) ?_
      refine Sim.op (castI_p _ _) ?_
      refine Sim.bd fun a19 h20 => ?_
      refine Sim.op ((S2.low h6).iS h20 rfl) ?_
      obtain ⟨w22, h23, hE21⟩ := (S2.low h6).el h20 rfl
      obtain ⟨v24, rfl, h25⟩ := dT_api_Elem.inv h23
      refine Sim.op (hE21.fa (j := 0) (by simp)) ?_
      obtain ⟨w27, h28, hE26⟩ := (S2.low h6).el h20 rfl
      obtain ⟨v29, rfl, h30⟩ := dT_api_Elem.inv h28
      refine Sim.op (hE26.ld (j := 0) rfl) ?_
      refine Sim.op (castI_p _ _) ?_
      refine Sim.ch (P := fun r y => r = y) ?_ (fun b55 y56 h57 h58 => ?_)
      · refine Sim.cd (fun hc => ?_) (fun hc => ?_)
        · exact Sim.ret rfl rfl
        · refine Sim.bd fun a31 h32 => ?_
          refine Sim.op ((S2.low h4).iS h32 rfl) ?_
          obtain ⟨w34, h35, hE33⟩ := (S2.low h4).el h32 rfl
          obtain ⟨v36, rfl, h37⟩ := dT_api_Elem.inv h35
          refine Sim.op (hE33.fa (j := 1) (by simp)) ?_
          obtain ⟨w39, h40, hE38⟩ := (S2.low h4).el h32 rfl
          obtain ⟨v41, rfl, h42⟩ := dT_api_Elem.inv h40
          refine Sim.op (hE38.ld (j := 1) rfl) ?_
          refine Sim.op ((h42.h H1).str) ?_
          refine Sim.op (castS_p _) ?_
          refine Sim.bd fun a43 h44 => ?_
          refine Sim.op ((S2.low h6).iS h44 rfl) ?_
          obtain ⟨w46, h47, hE45⟩ := (S2.low h6).el h44 rfl
          obtain ⟨v48, rfl, h49⟩ := dT_api_Elem.inv h47
          refine Sim.op (hE45.fa (j := 1) (by simp)) ?_
          obtain ⟨w51, h52, hE50⟩ := (S2.low h6).el h44 rfl
          obtain ⟨v53, rfl, h54⟩ := dT_api_Elem.inv h52
          refine Sim.op (hE50.ld (j := 1) rfl) ?_
          refine Sim.op ((h54.h H1).str) ?_
          refine Sim.op (castS_p _) ?_
          exact Sim.ret rfl rfl
      subst h58
      refine Sim.cd (fun hc => ?_) (fun hc => ?_)
      · exact hE1 false H1 (S2.wk2 all_nil all_nil)
      · exact ih x0 x1 x12 (IntKind.wrap .i64 (x13 + 1)) v3 h4 v5 h6 H1 (S2.wk2 all_nil all_nil)
    · exact hE0 () H1 (S2.wk2 all_nil all_nil)
theorem limelightlaw4_elems_ok (k : Nat) {h : H} {σ : Stamp} (x0 : List T_api_Elem) {u0 : V} (hu0 : SlH h dT_api_Elem x0 u0) (x1 : List T_api_Elem) {u1 : V} (hu1 : SlH h dT_api_Elem x1 u1) : Sim (p_limelightlaw4_elems k x0 x1) (ev G X0 24 σ [u0, u1] h) (fun r s => s = ([.v (.p (.bool r))], h)) := by
  refine Sim.ev rfl (Sim.ext (limelightlaw4_elems_entry _ _ _ _ _ _) ?_)
  rw [p_limelightlaw4_elems]
  have S0 : Fm 43 h [] [] [] (List.replicate 43 [] :: h) := Fm.start0
  refine Sim.op ((S0.low hu0).len) ?_
  refine Sim.op (castI_p _ _) ?_
  refine Sim.op ((S0.low hu1).len) ?_
  refine Sim.op (castI_p _ _) ?_
  refine Sim.cd (fun hc => ?_) (fun hc => ?_)
  · exact Sim.fin (S0.finN (lv_cons (still_bool _).lv lv_nil)) rfl
  · refine Sim.op ((S0.low hu0).len) ?_
    refine Sim.op (castI_p _ _) ?_
    refine Sim.as (limelightlaw4_elems_l0_ok ?_ ?_ k x0 x1 ((x0.length : Int)) 0 u0 hu0 u1 hu1 (List.replicate 43 [] :: h) (S0.wk2 all_nil all_nil)) 
    · intro _u H64 S65
      refine Sim.ext (limelightlaw4_elems_a0_0 _ _ _ _) ?_
      exact Sim.fin (S65.finN (lv_cons (still_bool _).lv lv_nil)) rfl
    · intro r66_4 H67 S68
      refine Sim.ext (limelightlaw4_elems_a0_ret _ _ _ _ _) ?_
      exact Sim.fin (S68.finN (lv_cons (still_bool _).lv lv_nil)) rfl
end Go.Ev
/- Equations, printed by tracer2.py. -/
namespace Go.Ev
open Go.Proofs
set_option linter.unusedVariables false
set_option maxRecDepth 100000
-- 55 limelight/limelightref3.ReadElems
noncomputable def limelightref3_ReadElems_c0 : Code := (codeAt (bodyOf Try.f55) [1, 1, 1, 0, 1, 0, 0])
def limelightref3_ReadElems_l0 : Lv := ⟨64, 48, [(0, 64)]⟩
noncomputable def limelightref3_ReadElems_k0 (rec : CallF) (loop : LoopV) (σ : Stamp) : Exit → Env → H → Option (List C × H) := (kBlock 0 (kSeq G rec loop (codeAt (bodyOf Try.f55) [1, 1, 1, 1]) ⟨48, 48, []⟩ (1 :: 1 :: 1 :: 0 :: σ) (finC G true Try.f55 (1 :: σ))))
theorem limelightref3_ReadElems_entry (rec : CallF) (loop : LoopV) (σ : Stamp) (x0 : Int) (x1 : V) (h : H) : cvBody G rec loop 55 σ [(.p (.int .u16 x0)), x1] h =
 (bif x0 != 48862 then (some (x0 != 4096)) else (some false)).bind fun b1 =>
 bif b1 then (
 fin true σ (List.replicate 97 [] :: h) [(.p (.slice .none 0 0)), (.p (.int .i64 1))])
 else (
 (loop limelightref3_ReadElems_c0 limelightref3_ReadElems_l0 (1 :: 0 :: 1 :: 1 :: 1 :: 0 :: σ) (envL [(0, (.p (.int .u16 x0))), (1, x1), (6, (.p (.slice .none 0 0))), (7, (.p (.int .i64 0)))]) (List.replicate 97 [] :: h)).bind fun r2 => limelightref3_ReadElems_k0 rec loop σ r2.1 r2.2.1 r2.2.2) := by kernel_rfl
theorem limelightref3_ReadElems_r0 (rec : CallF) (loop : LoopV) (σ : Stamp) (x0 : Int) (x1 : V) (x6 : V) (x7 : Int) (h : H) : cvRound G rec loop limelightref3_ReadElems_c0 limelightref3_ReadElems_l0 σ (envL [(0, (.p (.int .u16 x0))), (1, x1), (6, x6), (7, (.p (.int .i64 x7)))]) h =
 (lenO x1).bind fun t3 =>
 (castI .i64 t3).bind fun n4 =>
 bif decide (x7 < n4) then (
 (iS 1 x1 x7).bind fun t5 =>
 (ldO false 1 h t5).bind fun t6 =>
 (castI .u8 t6).bind fun n7 =>
 bif n7 == 0 then (
 loop limelightref3_ReadElems_c0 limelightref3_ReadElems_l0 (1 :: σ) (envL [(0, (.p (.int .u16 x0))), (1, x1), (6, x6), (7, (.p (.int .i64 (IntKind.wrap .i64 (x7 + 1)))))]) h)
 else (
 (iS 1 x1 x7).bind fun t8 =>
 (ldO false 1 h t8).bind fun t9 =>
 (castI .u8 t9).bind fun n10 =>
 (iS 1 x1 x7).bind fun t11 =>
 (ldO false 1 h t11).bind fun t12 =>
 (castI .u8 t12).bind fun n13 =>
 (bif x0 == 48862 then ((bif (IntKind.wrap .i64 (Int.fdiv n10 (2 ^ 4))) == 15 then (some true) else (some ((IntKind.wrap .i64 (Int.fdiv n10 (2 ^ 4))) == 0))).bind fun b14 =>
 some b14) else (some false)).bind fun b15 =>
 bif b15 then (
 some ((.exit 0), (envL [(6, x6)]), h))
 else (
 bif x0 == 4096 then (
 (lenO x1).bind fun t16 =>
 (castI .i64 t16).bind fun n17 =>
 bif decide ((IntKind.wrap .i64 (x7 + 1)) ≥ n17) then (
 some (.ret, (envL [(4, (.p (.slice .none 0 0))), (5, (.p (.int .i64 13)))]), h))
 else (
 (iS 1 x1 x7).bind fun t18 =>
 (ldO false 1 h t18).bind fun t19 =>
 (castI .u8 t19).bind fun n20 =>
 (iS 1 x1 (IntKind.wrap .i64 (x7 + 1))).bind fun t21 =>
 (ldO false 1 h t21).bind fun t22 =>
 (castI .u8 t22).bind fun n23 =>
 (callO rec 90 (3 :: 0 :: 1 :: 1 :: 1 :: 1 :: 1 :: 0 :: σ) [x1, (.p (.int .i64 (IntKind.wrap .i64 (x7 + 2)))), (.p (.int .i64 (IntKind.wrap .i64 n23)))] h (some 79)).bind fun q24 =>
 (extV q24.1 0).bind fun t25 =>
 (extV q24.1 1).bind fun t26 =>
 (asB t26).bind fun b27 =>
 bif !b27 then (
 some (.ret, (envL [(4, (.p (.slice .none 0 0))), (5, (.p (.int .i64 13)))]), q24.2))
 else (
 (buildV Try.prog 38 [(0, (.p (.int .i64 (IntKind.wrap .i64 n20)))), (1, t25)]).bind fun t28 =>
 (buildSliceV Try.prog 27 1 [(0, t28)]).bind fun t29 =>
 (apO false 2 32 (5 :: 0 :: 1 :: 1 :: 1 :: 1 :: 1 :: 1 :: 1 :: 0 :: σ) 89 q24.2 x6 t29).bind fun q30 =>
 loop limelightref3_ReadElems_c0 limelightref3_ReadElems_l0 (1 :: σ) (envL [(0, (.p (.int .u16 x0))), (1, x1), (6, q30.1), (7, (.p (.int .i64 (IntKind.wrap .i64 ((IntKind.wrap .i64 (x7 + 2)) + (IntKind.wrap .i64 n23))))))]) q30.2)))
 else (
 (callO rec 90 (3 :: 0 :: 1 :: 1 :: 1 :: 1 :: 1 :: 0 :: σ) [x1, (.p (.int .i64 (IntKind.wrap .i64 (x7 + 1)))), (.p (.int .i64 (IntKind.wrap .i64 ((IntKind.wrap .i64 (intBits .and .u8 n13 15)) + 1))))] h (some 79)).bind fun q31 =>
 (extV q31.1 0).bind fun t32 =>
 (extV q31.1 1).bind fun t33 =>
 (asB t33).bind fun b34 =>
 bif !b34 then (
 some (.ret, (envL [(4, (.p (.slice .none 0 0))), (5, (.p (.int .i64 13)))]), q31.2))
 else (
 (buildV Try.prog 38 [(0, (.p (.int .i64 (IntKind.wrap .i64 (Int.fdiv n10 (2 ^ 4)))))), (1, t32)]).bind fun t35 =>
 (buildSliceV Try.prog 27 1 [(0, t35)]).bind fun t36 =>
 (apO false 2 32 (5 :: 0 :: 1 :: 1 :: 1 :: 1 :: 1 :: 1 :: 1 :: 0 :: σ) 89 q31.2 x6 t36).bind fun q37 =>
 loop limelightref3_ReadElems_c0 limelightref3_ReadElems_l0 (1 :: σ) (envL [(0, (.p (.int .u16 x0))), (1, x1), (6, q37.1), (7, (.p (.int .i64 (IntKind.wrap .i64 ((IntKind.wrap .i64 (x7 + 1)) + (IntKind.wrap .i64 ((IntKind.wrap .i64 (intBits .and .u8 n13 15)) + 1)))))))]) q37.2)))))
 else (
 some ((.exit 0), (envL [(6, x6)]), h)) := by kernel_rfl
theorem limelightref3_ReadElems_a0_0 (rec : CallF) (loop : LoopV) (σ : Stamp) (x6 : V) (h : H) : limelightref3_ReadElems_k0 rec loop σ (.exit 0) (envL [(6, x6)]) h =
 (lenO x6).bind fun t38 =>
 (castI .i64 t38).bind fun n39 =>
 bif decide (n39 > 8) then (
 fin true σ h [(.p (.slice .none 0 0)), (.p (.int .i64 3))])
 else (
 fin true σ h [x6, (.p (.int .i64 0))]) := by kernel_rfl
theorem limelightref3_ReadElems_a0_ret (rec : CallF) (loop : LoopV) (σ : Stamp) (x4 : V) (x5 : Int) (h : H) : limelightref3_ReadElems_k0 rec loop σ .ret (envL [(4, x4), (5, (.p (.int .i64 x5)))]) h =
 fin true σ h [x4, (.p (.int .i64 x5))] := by kernel_rfl
end Go.Ev
/- Equations, printed by tracer2.py. -/
namespace Go.Ev
open Go.Proofs
set_option linter.unusedVariables false
set_option maxRecDepth 100000
-- 90 limelight/limelightref1.Cut
theorem limelightref1_Cut_entry (rec : CallF) (loop : LoopV) (σ : Stamp) (x0 : V) (x1 : Int) (x2 : Int) (h : H) : cvBody G rec loop 90 σ [x0, (.p (.int .i64 x1)), (.p (.int .i64 x2))] h =
 (bif decide (x1 < 0) then (some true) else (some (decide (x2 < 0)))).bind fun b1 =>
 (bif b1 then (some true) else ((lenO x0).bind fun t2 =>
 (castI .i64 t2).bind fun n3 =>
 some (decide (x1 > n3)))).bind fun b4 =>
 (bif b4 then (some true) else ((lenO x0).bind fun t5 =>
 (castI .i64 t5).bind fun n6 =>
 some (decide (x2 > (IntKind.wrap .i64 (n6 - x1)))))).bind fun b7 =>
 bif b7 then (
 fin true σ (List.replicate 36 [] :: h) [(.p (.slice .none 0 0)), (.p (.bool false))])
 else (
 (buildSliceV Try.prog 32 0 []).bind fun t8 =>
 (slS 1 x0 (some x1) (some (IntKind.wrap .i64 (x1 + x2))) none).bind fun t9 =>
 (apO true 1 1 (7 :: 0 :: 1 :: 1 :: 0 :: σ) 35 (List.replicate 36 [] :: h) t8 t9).bind fun q10 =>
 fin true σ q10.2 [q10.1, (.p (.bool true))]) := by kernel_rfl
end Go.Ev
/- Lifted by lift.py: limelightref1_Cut as a plain function. -/
namespace Go.Ev
open Go.Proofs
set_option linter.unusedVariables false
set_option linter.unusedSimpArgs false
set_option maxRecDepth 100000
def p_limelightref1_Cut (x0 : (List Int)) (x1 : Int) (x2 : Int) : Option ((List Int) × Bool) :=
(bif decide (x1 < 0) then (some true) else (some (decide (x2 < 0)))).bind fun b1 =>
(bif b1 then (some true) else (some (decide (x1 > ((x0.length : Int)))))).bind fun b5 =>
(bif b5 then (some true) else (some (decide (x2 > (IntKind.wrap .i64 (((x0.length : Int)) - x1)))))).bind fun b9 =>
bif b9 then (
some ((([] : List Int)), false))
else (
(sub x0 x1 (IntKind.wrap .i64 (x1 + x2))).bind fun a14 =>
(ap 1 (([] : List Int)) a14).bind fun a18 =>
some (a18, true))
theorem limelightref1_Cut_ok {h : H} {σ : Stamp} (x0 : List Int) {u0 : V} (hu0 : SlH h (dI .u8) x0 u0) (x1 : Int) (x2 : Int) : Sim (p_limelightref1_Cut x0 x1 x2) (ev G X0 90 σ [u0, (.p (.int .i64 x1)), (.p (.int .i64 x2))] h) (fun r s => ∃ (v0 : V), SlF (dI .u8) r.1 v0 ∧ s = ([.v v0, .v (.p (.bool r.2))], h)) := by
  refine Sim.ev rfl (Sim.ext (limelightref1_Cut_entry _ _ _ _ _ _ _) ?_)
  rw [p_limelightref1_Cut]
  have S0 : Fm 36 h [] [] [] (List.replicate 36 [] :: h) := Fm.start0
  refine Sim.ch (P := fun r y => r = y) ?_ (fun b1 y2 h3 h4 => ?_)
  · refine Sim.cd (fun hc => ?_) (fun hc => ?_)
    · exact Sim.ret rfl rfl
    · exact Sim.ret rfl rfl
  subst h4
  refine Sim.ch (P := fun r y => r = y) ?_ (fun b5 y6 h7 h8 => ?_)
  · refine Sim.cd (fun hc => ?_) (fun hc => ?_)
    · exact Sim.ret rfl rfl
    · refine Sim.op ((S0.low hu0).len) ?_
      refine Sim.op (castI_p _ _) ?_
      exact Sim.ret rfl rfl
  subst h8
  refine Sim.ch (P := fun r y => r = y) ?_ (fun b9 y10 h11 h12 => ?_)
  · refine Sim.cd (fun hc => ?_) (fun hc => ?_)
    · exact Sim.ret rfl rfl
    · refine Sim.op ((S0.low hu0).len) ?_
      refine Sim.op (castI_p _ _) ?_
      exact Sim.ret rfl rfl
  subst h12
  refine Sim.cd (fun hc => ?_) (fun hc => ?_)
  · exact Sim.fin (S0.finN (lv_cons (SlF.nil (dI .u8)).still.lv (lv_cons (still_bool _).lv lv_nil))) ⟨(.p (.slice none 0 0)), (SlF.nil (dI .u8)), rfl⟩
  · have h13 : SlF (dI .u8) ([] : List Int) (.fz [] 0 1 true) := SlF.lit (cs := []) RL.nil rfl rfl true
    refine Sim.op (bldS pt_nil (by kernel_rfl : _ = some (.fz [] 0 1 true))) ?_
    refine Sim.bd fun a14 h15 => ?_
    refine Sim.op ((S0.low hu0).slS h15 rfl rfl rfl) ?_
    have S17 := S0.nil' (dI .u8) [] (e := 1) rfl
    refine Sim.bd fun a18 h19 => ?_
    obtain ⟨v20, H21, e22, S23⟩ := S17.app (i := 0) (d := 35) (e := 1) (own := true) (σ := (7 :: 0 :: 1 :: 1 :: 0 :: σ)) rfl ((S17.low hu0).sub h15 (e := 1) rfl).y h19 rfl (by decide) (by decide) rfl
    refine Sim.op (e22) ?_
    obtain ⟨v29, H24, e25, h27, S26⟩ := S23.expFrz (i := 0) (τ := 0 :: 1 :: σ) rfl rfl
    exact Sim.fin (S26.finE (Ex.st e25 (Ex.pl (still_bool _).lv Ex.nil))) ⟨v29, h27, rfl⟩
end Go.Ev
/- Lifted by lift.py: limelightref3_ReadElems as a plain function. -/
namespace Go.Ev
open Go.Proofs
set_option linter.unusedVariables false
set_option linter.unusedSimpArgs false
set_option maxRecDepth 100000
def p_limelightref3_ReadElems_l0 {β : Type} (k : Nat) (kE0 : (List T_api_Elem) → Option β) (kE1 : Int → Option β) (x0 : Int) (x1 : (List Int)) (x6 : (List T_api_Elem)) (x7 : Int) : Option β := match k with
| 0 => none
| k + 1 =>
bif decide (x7 < ((x1.length : Int))) then (
(ix x1 x7).bind fun a13 =>
bif a13 == 0 then (
p_limelightref3_ReadElems_l0 k kE0 kE1 x0 x1 x6 (IntKind.wrap .i64 (x7 + 1)))
else (
(ix x1 x7).bind fun a16 =>
(ix x1 x7).bind fun a19 =>
(bif x0 == 48862 then ((bif (IntKind.wrap .i64 (Int.fdiv a16 (2 ^ 4))) == 15 then (some true) else (some ((IntKind.wrap .i64 (Int.fdiv a16 (2 ^ 4))) == 0))).bind fun b22 =>
some b22) else (some false)).bind fun b26 =>
bif b26 then (
kE0 x6)
else (
bif x0 == 4096 then (
bif decide ((IntKind.wrap .i64 (x7 + 1)) ≥ ((x1.length : Int))) then (
kE1 13)
else (
(ix x1 x7).bind fun a30 =>
(ix x1 (IntKind.wrap .i64 (x7 + 1))).bind fun a33 =>
(p_limelightref1_Cut x1 (IntKind.wrap .i64 (x7 + 2)) (IntKind.wrap .i64 a33)).bind fun r36 =>
bif !r36.2 then (
kE1 13)
else (
(ap 32 x6 ([((⟨(IntKind.wrap .i64 a30), r36.1⟩ : T_api_Elem))])).bind fun a44 =>
p_limelightref3_ReadElems_l0 k kE0 kE1 x0 x1 a44 (IntKind.wrap .i64 ((IntKind.wrap .i64 (x7 + 2)) + (IntKind.wrap .i64 a33))))))
else (
(p_limelightref1_Cut x1 (IntKind.wrap .i64 (x7 + 1)) (IntKind.wrap .i64 ((IntKind.wrap .i64 (intBits .and .u8 a19 15)) + 1))).bind fun r50 =>
bif !r50.2 then (
kE1 13)
else (
(ap 32 x6 ([((⟨(IntKind.wrap .i64 (Int.fdiv a16 (2 ^ 4))), r50.1⟩ : T_api_Elem))])).bind fun a58 =>
p_limelightref3_ReadElems_l0 k kE0 kE1 x0 x1 a58 (IntKind.wrap .i64 ((IntKind.wrap .i64 (x7 + 1)) + (IntKind.wrap .i64 ((IntKind.wrap .i64 (intBits .and .u8 a19 15)) + 1)))))))))
else (
kE0 x6)
def p_limelightref3_ReadElems (k : Nat) (x0 : Int) (x1 : (List Int)) : Option ((List T_api_Elem) × Int) :=
(bif x0 != 48862 then (some (x0 != 4096)) else (some false)).bind fun b1 =>
bif b1 then (
some ((([] : List T_api_Elem)), 1))
else (
p_limelightref3_ReadElems_l0 k (fun r72_6 =>
bif decide (((r72_6.length : Int)) > 8) then (
some ((([] : List T_api_Elem)), 3))
else (
some (r72_6, 0))) (fun r83_5 =>
some ((([] : List T_api_Elem)), r83_5)) x0 x1 (([] : List T_api_Elem)) 0)
theorem limelightref3_ReadElems_l0_ok {h : H}  {β α : Type} {Q : β → α → Prop} {K : Exit × Env × H → Option α} {kE0 : (List T_api_Elem) → Option β} {kE1 : Int → Option β} (hE0 : ∀ (q6 : (List T_api_Elem)) (v66 : V) (H64 : Go.Ev.H) (_ : Fm 97 h [] [] [⟨[89], v66, dT_api_Elem, q6⟩] H64), Sim (kE0 q6) (K ((.exit 0), (envL [(6, v66)]), H64)) Q) (hE1 : ∀ (q5 : Int) (H68 : Go.Ev.H) (_ : Fm 97 h [] [] [] H68), Sim (kE1 q5) (K (.ret, (envL [(4, (.p (.slice none 0 0))), (5, (.p (.int .i64 q5)))]), H68)) Q) (k : Nat) : ∀ (x0 : Int) (x1 : (List Int)) (x6 : (List T_api_Elem)) (x7 : Int) (v9 : V) (h10 : SlH h (dI .u8) x1 v9) (v11 : V) (H7 : Go.Ev.H) (_ : Fm 97 h [] [] [⟨[89], v11, dT_api_Elem, x6⟩] H7) {σ : Stamp}, Sim (p_limelightref3_ReadElems_l0 k kE0 kE1 x0 x1 x6 x7) ((cvL G X0 limelightref3_ReadElems_c0 limelightref3_ReadElems_l0 σ (envL [(0, (.p (.int .u16 x0))), (1, v9), (6, v11), (7, (.p (.int .i64 x7)))]) H7).bind K) Q := by
  induction k with
  | zero => intros; exact Sim.no
  | succ k ih =>
    intro x0 x1 x6 x7 v9 h10 v11 H7 S8 σ
    rw [p_limelightref3_ReadElems_l0]
    refine Sim.round (Sim.ext (limelightref3_ReadElems_r0 _ _ _ _ _ _ _ _) ?_)
    refine Sim.op ((S8.low h10).len) ?_
    refine Sim.op (castI_p _ _) ?_
    refine Sim.cd (fun hc => ?_) (fun hc => ?_)
    · refine Sim.bd fun a13 h14 => ?_
      refine Sim.op ((S8.low h10).iS h14 rfl) ?_
      obtain ⟨_, rfl, hE15⟩ := (S8.low h10).el h14 rfl
      refine Sim.op (hE15.ld (j := 0) rfl) ?_
      refine Sim.op (castI_p _ _) ?_
      refine Sim.cd (fun hc => ?_) (fun hc => ?_)
      · exact ih x0 x1 x6 (IntKind.wrap .i64 (x7 + 1)) v9 h10 v11 H7 (S8.wk2 all_nil (all_cons ⟨[89], by simp, at_mem 0 rfl⟩ all_nil))
      · refine Sim.bd fun a16 h17 => ?_
        refine Sim.op ((S8.low h10).iS h17 rfl) ?_
        obtain ⟨_, rfl, hE18⟩ := (S8.low h10).el h17 rfl
        refine Sim.op (hE18.ld (j := 0) rfl) ?_
        refine Sim.op (castI_p _ _) ?_
        refine Sim.bd fun a19 h20 => ?_
        refine Sim.op ((S8.low h10).iS h20 rfl) ?_
        obtain ⟨_, rfl, hE21⟩ := (S8.low h10).el h20 rfl
        refine Sim.op (hE21.ld (j := 0) rfl) ?_
        refine Sim.op (castI_p _ _) ?_
        refine Sim.ch (P := fun r y => r = y) ?_ (fun b26 y27 h28 h29 => ?_)
        · refine Sim.cd (fun hc => ?_) (fun hc => ?_)
          · refine Sim.ch (P := fun r y => r = y) ?_ (fun b22 y23 h24 h25 => ?_)
            · refine Sim.cd (fun hc => ?_) (fun hc => ?_)
              · exact Sim.ret rfl rfl
              · exact Sim.ret rfl rfl
            subst h25
            exact Sim.ret rfl rfl
          · exact Sim.ret rfl rfl
        subst h29
        refine Sim.cd (fun hc => ?_) (fun hc => ?_)
        · exact hE0 x6 v11 H7 (S8.wk2 all_nil (all_cons ⟨[89], by simp, at_mem 0 rfl⟩ all_nil))
        · refine Sim.cd (fun hc => ?_) (fun hc => ?_)
          · refine Sim.op ((S8.low h10).len) ?_
            refine Sim.op (castI_p _ _) ?_
            refine Sim.cd (fun hc => ?_) (fun hc => ?_)
            · exact hE1 13 H7 (S8.wk2 all_nil all_nil)
            · refine Sim.bd fun a30 h31 => ?_
              refine Sim.op ((S8.low h10).iS h31 rfl) ?_
              obtain ⟨_, rfl, hE32⟩ := (S8.low h10).el h31 rfl
              refine Sim.op (hE32.ld (j := 0) rfl) ?_
              refine Sim.op (castI_p _ _) ?_
              refine Sim.bd fun a33 h34 => ?_
              refine Sim.op ((S8.low h10).iS h34 rfl) ?_
              obtain ⟨_, rfl, hE35⟩ := (S8.low h10).el h34 rfl
              refine Sim.op (hE35.ld (j := 0) rfl) ?_
              refine Sim.op (castI_p _ _) ?_
              refine Sim.call (limelightref1_Cut_ok x1 (S8.low h10) (IntKind.wrap .i64 (x7 + 2)) (IntKind.wrap .i64 a33)) fun r36 cs37 H38 h39 q40 => ?_
              obtain ⟨v41, h42, q40⟩ := q40
              cases q40
              refine Sim.op (rfl) ?_
              refine Sim.op (rfl) ?_
              refine Sim.op (asB_p _) ?_
              refine Sim.cd (fun hc => ?_) (fun hc => ?_)
              · exact hE1 13 H7 (S8.wk2 all_nil all_nil)
              · refine Sim.op (bldV (pt_cons rfl (pt_cons h42.still.cells pt_nil)) (by kernel_rfl : _ = some (.agg [.p (.int .i64 (IntKind.wrap .i64 a30)), v41]))) ?_
                have h43 : SlF dT_api_Elem [((⟨(IntKind.wrap .i64 a30), r36.1⟩ : T_api_Elem))] (.fz [(.p (.int .i64 (IntKind.wrap .i64 a30))), v41] 1 2 true) := SlF.lit (cs := [(.p (.int .i64 (IntKind.wrap .i64 a30))), v41]) (RL.cons (show dT_api_Elem.R ((⟨(IntKind.wrap .i64 a30), r36.1⟩ : T_api_Elem)) [.p (.int .i64 (IntKind.wrap .i64 a30)), v41] from (dT_api_Elem.mk h42)) RL.nil) rfl rfl true
                refine Sim.op (bldS (pt_cons (c := [.p (.int .i64 (IntKind.wrap .i64 a30)), v41]) rfl pt_nil) (by kernel_rfl : _ = some (.fz [(.p (.int .i64 (IntKind.wrap .i64 a30))), v41] 1 2 true))) ?_
                refine Sim.bd fun a44 h45 => ?_
                obtain ⟨v46, H47, e48, S49⟩ := S8.app (i := 0) (d := 89) (e := 2) (own := false) (σ := (5 :: 0 :: 1 :: 1 :: 1 :: 1 :: 1 :: 1 :: 1 :: 0 :: σ)) rfl (h43.h H7).y h45 rfl (by decide) (by decide) rfl
                refine Sim.op (e48) ?_
                exact ih x0 x1 a44 (IntKind.wrap .i64 ((IntKind.wrap .i64 (x7 + 2)) + (IntKind.wrap .i64 a33))) v9 h10 v46 H47 (S49.wk2 all_nil (all_cons ⟨[89, 89], by simp, at_mem 0 rfl⟩ all_nil))
          · refine Sim.call (limelightref1_Cut_ok x1 (S8.low h10) (IntKind.wrap .i64 (x7 + 1)) (IntKind.wrap .i64 ((IntKind.wrap .i64 (intBits .and .u8 a19 15)) + 1))) fun r50 cs51 H52 h53 q54 => ?_
            obtain ⟨v55, h56, q54⟩ := q54
            cases q54
            refine Sim.op (rfl) ?_
            refine Sim.op (rfl) ?_
            refine Sim.op (asB_p _) ?_
            refine Sim.cd (fun hc => ?_) (fun hc => ?_)
            · exact hE1 13 H7 (S8.wk2 all_nil all_nil)
            · refine Sim.op (bldV (pt_cons rfl (pt_cons h56.still.cells pt_nil)) (by kernel_rfl : _ = some (.agg [.p (.int .i64 (IntKind.wrap .i64 (Int.fdiv a16 (2 ^ 4)))), v55]))) ?_
              have h57 : SlF dT_api_Elem [((⟨(IntKind.wrap .i64 (Int.fdiv a16 (2 ^ 4))), r50.1⟩ : T_api_Elem))] (.fz [(.p (.int .i64 (IntKind.wrap .i64 (Int.fdiv a16 (2 ^ 4))))), v55] 1 2 true) := SlF.lit (cs := [(.p (.int .i64 (IntKind.wrap .i64 (Int.fdiv a16 (2 ^ 4))))), v55]) (RL.cons (show dT_api_Elem.R ((⟨(IntKind.wrap .i64 (Int.fdiv a16 (2 ^ 4))), r50.1⟩ : T_api_Elem)) [.p (.int .i64 (IntKind.wrap .i64 (Int.fdiv a16 (2 ^ 4)))), v55] from (dT_api_Elem.mk h56)) RL.nil) rfl rfl true
              refine Sim.op (bldS (pt_cons (c := [.p (.int .i64 (IntKind.wrap .i64 (Int.fdiv a16 (2 ^ 4)))), v55]) rfl pt_nil) (by kernel_rfl : _ = some (.fz [(.p (.int .i64 (IntKind.wrap .i64 (Int.fdiv a16 (2 ^ 4))))), v55] 1 2 true))) ?_
              refine Sim.bd fun a58 h59 => ?_
              obtain ⟨v60, H61, e62, S63⟩ := S8.app (i := 0) (d := 89) (e := 2) (own := false) (σ := (5 :: 0 :: 1 :: 1 :: 1 :: 1 :: 1 :: 1 :: 1 :: 0 :: σ)) rfl (h57.h H7).y h59 rfl (by decide) (by decide) rfl
              refine Sim.op (e62) ?_
              exact ih x0 x1 a58 (IntKind.wrap .i64 ((IntKind.wrap .i64 (x7 + 1)) + (IntKind.wrap .i64 ((IntKind.wrap .i64 (intBits .and .u8 a19 15)) + 1)))) v9 h10 v60 H61 (S63.wk2 all_nil (all_cons ⟨[89, 89], by simp, at_mem 0 rfl⟩ all_nil))
    · exact hE0 x6 v11 H7 (S8.wk2 all_nil (all_cons ⟨[89], by simp, at_mem 0 rfl⟩ all_nil))
theorem limelightref3_ReadElems_ok (k : Nat) {h : H} {σ : Stamp} (x0 : Int) (x1 : List Int) {u1 : V} (hu1 : SlH h (dI .u8) x1 u1) : Sim (p_limelightref3_ReadElems k x0 x1) (ev G X0 55 σ [(.p (.int .u16 x0)), u1] h) (fun r s => ∃ (v0 : V), SlF dT_api_Elem r.1 v0 ∧ s = ([.v v0, .v (.p (.int .i64 r.2))], h)) := by
  refine Sim.ev rfl (Sim.ext (limelightref3_ReadElems_entry _ _ _ _ _ _) ?_)
  rw [p_limelightref3_ReadElems]
  have S0 : Fm 97 h [] [] [] (List.replicate 97 [] :: h) := Fm.start0
  refine Sim.ch (P := fun r y => r = y) ?_ (fun b1 y2 h3 h4 => ?_)
  · refine Sim.cd (fun hc => ?_) (fun hc => ?_)
    · exact Sim.ret rfl rfl
    · exact Sim.ret rfl rfl
  subst h4
  refine Sim.cd (fun hc => ?_) (fun hc => ?_)
  · exact Sim.fin (S0.finN (lv_cons (SlF.nil dT_api_Elem).still.lv (lv_cons (still_int _ _).lv lv_nil))) ⟨(.p (.slice none 0 0)), (SlF.nil dT_api_Elem), rfl⟩
  · have S71 := S0.nil dT_api_Elem []
    refine Sim.as (limelightref3_ReadElems_l0_ok ?_ ?_ k x0 x1 (([] : List T_api_Elem)) 0 u1 hu1 (.p (.slice none 0 0)) (List.replicate 97 [] :: h) (S71.wk2 all_nil (all_cons ⟨[], by simp, at_mem 0 rfl⟩ all_nil))) 
    · intro r72_6 v75 H73 S74
      refine Sim.ext (limelightref3_ReadElems_a0_0 _ _ _ _ _) ?_
      refine Sim.op ((S74.sl (i := 0) rfl).len) ?_
      refine Sim.op (castI_p _ _) ?_
      refine Sim.cd (fun hc => ?_) (fun hc => ?_)
      · exact Sim.fin (S74.finN (lv_cons (SlF.nil dT_api_Elem).still.lv (lv_cons (still_int _ _).lv lv_nil))) ⟨(.p (.slice none 0 0)), (SlF.nil dT_api_Elem), rfl⟩
      · obtain ⟨v82, H77, e78, h80, S79⟩ := S74.expFrz (i := 0) (τ := 0 :: 1 :: σ) rfl rfl
        exact Sim.fin (S79.finE (Ex.st e78 (Ex.pl (still_int _ _).lv Ex.nil))) ⟨v82, h80, rfl⟩
    · intro r83_5 H84 S85
      refine Sim.ext (limelightref3_ReadElems_a0_ret _ _ _ _ _ _) ?_
      exact Sim.fin (S85.finN (lv_cons (SlF.nil dT_api_Elem).still.lv (lv_cons (still_int _ _).lv lv_nil))) ⟨(.p (.slice none 0 0)), (SlF.nil dT_api_Elem), rfl⟩
end Go.Ev
/- Equations, printed by tracer2.py. -/
namespace Go.Ev
open Go.Proofs
set_option linter.unusedVariables false
set_option maxRecDepth 100000
-- 27 limelight/limelightref3.Rid
theorem limelightref3_Rid_entry (rec : CallF) (loop : LoopV) (σ : Stamp) (x0 : V) (h : H) : cvBody G rec loop 27 σ [x0] h =
 (boxO false (0 :: 0 :: 0 :: σ) 1 (List.replicate 33 [] :: h) x0).bind fun q1 =>
 (fA q1.1 6).bind fun t2 =>
 (ldO false 1 q1.2 t2).bind fun t3 =>
 (castI .u16 t3).bind fun n4 =>
 (fA q1.1 7).bind fun t5 =>
 (ldO false 1 q1.2 t5).bind fun t6 =>
 (callO rec 55 (4 :: 0 :: 1 :: 0 :: σ) [(.p (.int .u16 n4)), t6] q1.2 (some 13)).bind fun q7 =>
 (extV q7.1 0).bind fun t8 =>
 (extV q7.1 1).bind fun t9 =>
 (castI .i64 t9).bind fun n10 =>
 bif n10 != 0 then (
 fin false σ q7.2 [(.p (.string ((⟨#[]⟩ : ByteArray)))), (.p (.bool false))])
 else (
 (callO rec 53 (1 :: 0 :: 1 :: 1 :: 1 :: 0 :: σ) [t8, (.p (.int .i64 1))] q7.2 (some 20)).bind fun q11 =>
 (extV q11.1 0).bind fun t12 =>
 (extV q11.1 1).bind fun t13 =>
 (asB t13).bind fun b14 =>
 (bif !b14 then (some ((.p (.bool true)), q11.2)) else ((strO q11.2 t12).bind fun t15 =>
 (castS t15).bind fun s16 =>
 (callO rec 65 (5 :: 0 :: 0 :: 1 :: 1 :: 1 :: 1 :: 0 :: σ) [(.p (.string s16))] q11.2 (some 28)).bind fun q17 =>
 (asB q17.1).bind fun b18 =>
 some ((.p (.bool (!b18))), q17.2))).bind fun q19 =>
 (asB q19.1).bind fun b20 =>
 bif b20 then (
 fin false σ q19.2 [(.p (.string ((⟨#[]⟩ : ByteArray)))), (.p (.bool false))])
 else (
 (strO q19.2 t12).bind fun t21 =>
 (castS t21).bind fun s22 =>
 fin false σ q19.2 [(.p (.string s22)), (.p (.bool true))])) := by kernel_rfl
end Go.Ev
/- Told from outside: limelightref1_Rid. -/
namespace Go.Ev
open Go.Proofs
def p_limelightref1_Rid (x0 : ByteArray) : Option Bool := some (RidX.rightB x0)
theorem limelightref1_Rid_ok {h : H} {σ : Stamp} (x0 : ByteArray) : Sim (p_limelightref1_Rid x0) (ev G X0 65 σ [(.p (.string x0))] h) (fun r s => s = ([.v (.p (.bool r))], h)) := Sim.told (ev_ext rfl)
end Go.Ev
/- Equations, printed by tracer2.py. -/
namespace Go.Ev
open Go.Proofs
set_option linter.unusedVariables false
set_option maxRecDepth 100000
-- 53 limelight/limelightref3.Find
noncomputable def limelightref3_Find_c0 : Code := (codeAt (bodyOf Try.f53) [1, 0, 1, 0, 0])
def limelightref3_Find_l0 : Lv := ⟨0, 48, [(0, 0)]⟩
noncomputable def limelightref3_Find_k0 (rec : CallF) (loop : LoopV) (σ : Stamp) : Exit → Env → H → Option (List C × H) := (kBlock 0 (kSeq G rec loop (codeAt (bodyOf Try.f53) [1, 1]) ⟨48, 48, []⟩ (1 :: 0 :: σ) (finC G true Try.f53 (1 :: σ))))
theorem limelightref3_Find_entry (rec : CallF) (loop : LoopV) (σ : Stamp) (x0 : V) (x1 : Int) (h : H) : cvBody G rec loop 53 σ [x0, (.p (.int .i64 x1))] h =
 (lenO x0).bind fun t1 =>
 (castI .i64 t1).bind fun n2 =>
 (loop limelightref3_Find_c0 limelightref3_Find_l0 (1 :: 0 :: 1 :: 0 :: σ) (envL [(1, (.p (.int .i64 x1))), (8, x0), (9, (.p (.int .i64 n2))), (10, (.p (.int .i64 0)))]) (List.replicate 23 [] :: h)).bind fun r3 => limelightref3_Find_k0 rec loop σ r3.1 r3.2.1 r3.2.2 := by kernel_rfl
theorem limelightref3_Find_r0 (rec : CallF) (loop : LoopV) (σ : Stamp) (x1 : Int) (x8 : V) (x9 : Int) (x10 : Int) (h : H) : cvRound G rec loop limelightref3_Find_c0 limelightref3_Find_l0 σ (envL [(1, (.p (.int .i64 x1))), (8, x8), (9, (.p (.int .i64 x9))), (10, (.p (.int .i64 x10)))]) h =
 bif decide (x10 < x9) then (
 (iS 2 x8 x10).bind fun t4 =>
 (ldO true 2 h t4).bind fun t5 =>
 (some (alO [.p (.int .i64 0), .p (.slice none 0 0)] (2 :: 0 :: 0 :: 1 :: 1 :: 0 :: σ) 7 h)).bind fun q6 =>
 ((stO false 2 (3 :: 0 :: 0 :: 1 :: 1 :: 0 :: σ) q6.2 q6.1 t5).map fun h => (udf, h)).bind fun q7 =>
 (fA q6.1 0).bind fun t8 =>
 (ldO false 1 q7.2 t8).bind fun t9 =>
 (castI .i64 t9).bind fun n10 =>
 bif n10 == x1 then (
 (buildSliceV Try.prog 32 0 []).bind fun t11 =>
 (fA q6.1 1).bind fun t12 =>
 (ldO false 1 q7.2 t12).bind fun t13 =>
 (apO true 1 1 (3 :: 0 :: 1 :: 1 :: 0 :: 1 :: 1 :: 0 :: σ) 21 q7.2 t11 t13).bind fun q14 =>
 some (.ret, (envL [(4, q14.1), (5, (.p (.bool true)))]), q14.2))
 else (
 loop limelightref3_Find_c0 limelightref3_Find_l0 (1 :: σ) (envL [(1, (.p (.int .i64 x1))), (8, x8), (9, (.p (.int .i64 x9))), (10, (.p (.int .i64 (IntKind.wrap .i64 (x10 + 1)))))]) q7.2))
 else (
 some ((.exit 0), (envL []), h)) := by kernel_rfl
theorem limelightref3_Find_a0_0 (rec : CallF) (loop : LoopV) (σ : Stamp)  (h : H) : limelightref3_Find_k0 rec loop σ (.exit 0) (envL []) h =
 fin true σ h [(.p (.slice .none 0 0)), (.p (.bool false))] := by kernel_rfl
theorem limelightref3_Find_a0_ret (rec : CallF) (loop : LoopV) (σ : Stamp) (x4 : V) (x5 : Bool) (h : H) : limelightref3_Find_k0 rec loop σ .ret (envL [(4, x4), (5, (.p (.bool x5)))]) h =
 fin true σ h [x4, (.p (.bool x5))] := by kernel_rfl
end Go.Ev
/- Lifted by lift.py: limelightref3_Find as a plain function. -/
namespace Go.Ev
open Go.Proofs
set_option linter.unusedVariables false
set_option linter.unusedSimpArgs false
set_option maxRecDepth 100000
def p_limelightref3_Find_l0 {β : Type} (k : Nat) (kE0 : Unit → Option β) (kE1 : (List Int) → Bool → Option β) (x1 : Int) (x8 : (List T_api_Elem)) (x9 : Int) (x10 : Int) : Option β := match k with
| 0 => none
| k + 1 =>
bif decide (x10 < x9) then (
(ix x8 x10).bind fun a5 =>
bif a5.ID == x1 then (
(ap 1 (([] : List Int)) a5.Data).bind fun a22 =>
kE1 a22 true)
else (
p_limelightref3_Find_l0 k kE0 kE1 x1 x8 x9 (IntKind.wrap .i64 (x10 + 1))))
else (
kE0 ())
def p_limelightref3_Find (k : Nat) (x0 : (List T_api_Elem)) (x1 : Int) : Option ((List Int) × Bool) :=
p_limelightref3_Find_l0 k (fun (_ : Unit) =>
some ((([] : List Int)), false)) (fun r37_4 r37_5 =>
some (r37_4, r37_5)) x1 x0 ((x0.length : Int)) 0
theorem limelightref3_Find_l0_ok {h : H}  {β α : Type} {Q : β → α → Prop} {K : Exit × Env × H → Option α} {kE0 : Unit → Option β} {kE1 : (List Int) → Bool → Option β} (hE0 : ∀ (_u : Unit) (H28 : Go.Ev.H) (_ : Fm 23 h [] [] [] H28), Sim (kE0 ()) (K ((.exit 0), (envL []), H28)) Q) (hE1 : ∀ (q4 : (List Int)) (q5 : Bool) (v32 : V) (H30 : Go.Ev.H) (_ : Fm 23 h [] [] [⟨[21], v32, (dI .u8), q4⟩] H30), Sim (kE1 q4 q5) (K (.ret, (envL [(4, v32), (5, (.p (.bool q5)))]), H30)) Q) (k : Nat) : ∀ (x1 : Int) (x8 : (List T_api_Elem)) (x9 : Int) (x10 : Int) (v3 : V) (h4 : SlH h dT_api_Elem x8 v3) (H1 : Go.Ev.H) (_ : Fm 23 h [] [] [] H1) {σ : Stamp}, Sim (p_limelightref3_Find_l0 k kE0 kE1 x1 x8 x9 x10) ((cvL G X0 limelightref3_Find_c0 limelightref3_Find_l0 σ (envL [(1, (.p (.int .i64 x1))), (8, v3), (9, (.p (.int .i64 x9))), (10, (.p (.int .i64 x10)))]) H1).bind K) Q := by
  induction k with
  | zero => intros; exact Sim.no
  | succ k ih =>
    intro x1 x8 x9 x10 v3 h4 H1 S2 σ
    rw [p_limelightref3_Find_l0]
    refine Sim.round (Sim.ext (limelightref3_Find_r0 _ _ _ _ _ _ _ _) ?_)
    refine Sim.cd (fun hc => ?_) (fun hc => ?_)
    · refine Sim.bd fun a5 h6 => ?_
      refine Sim.op ((S2.low h4).iS h6 rfl) ?_
      obtain ⟨w8, h9, hE7⟩ := (S2.low h4).el h6 rfl
      obtain ⟨v10, rfl, h11⟩ := dT_api_Elem.inv h9
      refine Sim.op (hE7.all (by simp)) ?_
      obtain ⟨H12, e13, S14⟩ := S2.al (d := 7) (s := (2 :: 0 :: 0 :: 1 :: 1 :: 0 :: σ)) (z := [(.p (.int .i64 0)), (.p (.slice none 0 0))]) (by decide) rfl
      refine Sim.op (congrArg some e13) ?_
      obtain ⟨H16, e17, S18⟩ := S14.stGv (i := 0) (j := 0) (own := false) (σ := (3 :: 0 :: 0 :: 1 :: 1 :: 0 :: σ)) (xs := [.p (.int .i64 a5.ID), v10]) rfl rfl (stills_cons (still_int _ _) (stills_cons h11.still stills_nil)) rfl rfl
      refine Sim.op (st_map e17) ?_
      refine Sim.op (fA_ref _ _ _) ?_
      refine Sim.op ((S18.atG (i := 0) rfl).ld (j := 0) rfl) ?_
      refine Sim.op (castI_p _ _) ?_
      refine Sim.cd (fun hc => ?_) (fun hc => ?_)
      · have h19 : SlF (dI .u8) ([] : List Int) (.fz [] 0 1 true) := SlF.lit (cs := []) RL.nil rfl rfl true
        refine Sim.op (bldS pt_nil (by kernel_rfl : _ = some (.fz [] 0 1 true))) ?_
        refine Sim.op (fA_ref _ _ _) ?_
        refine Sim.op ((S18.atG (i := 0) rfl).ld (j := 1) rfl) ?_
        have S21 := S18.nil' (dI .u8) [] (e := 1) rfl
        refine Sim.bd fun a22 h23 => ?_
        obtain ⟨v24, H25, e26, S27⟩ := S21.app (i := 0) (d := 21) (e := 1) (own := true) (σ := (3 :: 0 :: 1 :: 1 :: 0 :: 1 :: 1 :: 0 :: σ)) rfl (h11.h H16).y h23 rfl (by decide) (by decide) rfl
        refine Sim.op (e26) ?_
        exact hE1 a22 true v24 H25 (S27.wk2 all_nil (all_cons ⟨[21], by simp, at_mem 0 rfl⟩ all_nil))
      · exact ih x1 x8 x9 (IntKind.wrap .i64 (x10 + 1)) v3 h4 H16 (S18.wk2 all_nil all_nil)
    · exact hE0 () H1 (S2.wk2 all_nil all_nil)
theorem limelightref3_Find_ok (k : Nat) {h : H} {σ : Stamp} (x0 : List T_api_Elem) {u0 : V} (hu0 : SlH h dT_api_Elem x0 u0) (x1 : Int) : Sim (p_limelightref3_Find k x0 x1) (ev G X0 53 σ [u0, (.p (.int .i64 x1))] h) (fun r s => ∃ (v0 : V), SlF (dI .u8) r.1 v0 ∧ s = ([.v v0, .v (.p (.bool r.2))], h)) := by
  refine Sim.ev rfl (Sim.ext (limelightref3_Find_entry _ _ _ _ _ _) ?_)
  rw [p_limelightref3_Find]
  have S0 : Fm 23 h [] [] [] (List.replicate 23 [] :: h) := Fm.start0
  refine Sim.op ((S0.low hu0).len) ?_
  refine Sim.op (castI_p _ _) ?_
  refine Sim.as (limelightref3_Find_l0_ok ?_ ?_ k x1 x0 ((x0.length : Int)) 0 u0 hu0 (List.replicate 23 [] :: h) (S0.wk2 all_nil all_nil)) 
  · intro _u H35 S36
    refine Sim.ext (limelightref3_Find_a0_0 _ _ _ _) ?_
    exact Sim.fin (S36.finN (lv_cons (SlF.nil (dI .u8)).still.lv (lv_cons (still_bool _).lv lv_nil))) ⟨(.p (.slice none 0 0)), (SlF.nil (dI .u8)), rfl⟩
  · intro r37_4 r37_5 v40 H38 S39
    refine Sim.ext (limelightref3_Find_a0_ret _ _ _ _ _ _) ?_
    obtain ⟨v47, H42, e43, h45, S44⟩ := S39.expFrz (i := 0) (τ := 0 :: 1 :: σ) rfl rfl
    exact Sim.fin (S44.finE (Ex.st e43 (Ex.pl (still_bool _).lv Ex.nil))) ⟨v47, h45, rfl⟩
end Go.Ev
/- Lifted by lift.py: limelightref3_Rid as a plain function. -/
namespace Go.Ev
open Go.Proofs
set_option linter.unusedVariables false
set_option linter.unusedSimpArgs false
set_option maxRecDepth 100000
def p_limelightref3_Rid (k : Nat) (x0 : T_api_Rtp) : Option (ByteArray × Bool) :=
(p_limelightref3_ReadElems k x0.Profile x0.Ext).bind fun r11 =>
bif r11.2 != 0 then (
some (((⟨#[]⟩ : ByteArray)), false))
else (
(p_limelightref3_Find k r11.1 1).bind fun r18 =>
(bif !r18.2 then (some true) else ((p_limelightref1_Rid (strB r18.1)).bind fun r25 =>
some (!r25))).bind fun b30 =>
bif b30 then (
some (((⟨#[]⟩ : ByteArray)), false))
else (
some ((strB r18.1), true)))
theorem limelightref3_Rid_ok (k : Nat) {h : H} {σ : Stamp} (x0 : T_api_Rtp) {u0 : List V} (hu0 : dT_api_Rtp.R x0 u0) : Sim (p_limelightref3_Rid k x0) (ev G X0 27 σ [(.agg u0)] h) (fun r s => s = ([.v (.p (.string r.1)), .v (.p (.bool r.2))], h)) := by
  refine Sim.ev rfl (Sim.ext (limelightref3_Rid_entry _ _ _ _ _) ?_)
  rw [p_limelightref3_Rid]
  obtain ⟨v1, v3, v5, rfl, h2, h4, h6⟩ := dT_api_Rtp.inv hu0
  have S0 : Fm 33 h [] [] [] (List.replicate 33 [] :: h) := Fm.start0
  obtain ⟨H7, e8, S9⟩ := S0.box (own := false) (d := 1) (s := (0 :: 0 :: 0 :: σ)) (xs := [(.p (.bool x0.Marker)), (.p (.int .i64 x0.f_Type)), (.p (.int .u16 x0.Seq)), (.p (.int .u32 x0.Time)), (.p (.int .u32 x0.Ssrc)), v1, (.p (.int .u16 x0.Profile)), v3, v5]) (stills_cons (still_bool _) (stills_cons (still_int _ _) (stills_cons (still_int _ _) (stills_cons (still_int _ _) (stills_cons (still_int _ _) (stills_cons h2.still (stills_cons (still_int _ _) (stills_cons h4.still (stills_cons h6.still stills_nil))))))))) (by decide) rfl
  refine Sim.op (e8) ?_
  refine Sim.op (fA_ref _ _ _) ?_
  refine Sim.op ((S9.atG (i := 0) rfl).ld (j := 6) rfl) ?_
  refine Sim.op (castI_p _ _) ?_
  refine Sim.op (fA_ref _ _ _) ?_
  refine Sim.op ((S9.atG (i := 0) rfl).ld (j := 7) rfl) ?_
  refine Sim.call (limelightref3_ReadElems_ok k x0.Profile x0.Ext (h4.h H7)) fun r11 cs12 H13 h14 q15 => ?_
  obtain ⟨v16, h17, q15⟩ := q15
  cases q15
  refine Sim.op (rfl) ?_
  refine Sim.op (rfl) ?_
  refine Sim.op (castI_p _ _) ?_
  refine Sim.cd (fun hc => ?_) (fun hc => ?_)
  · exact Sim.fin (S9.finN (lv_cons (still_str _).lv (lv_cons (still_bool _).lv lv_nil))) rfl
  · refine Sim.call (limelightref3_Find_ok k r11.1 (h17.h H7) 1) fun r18 cs19 H20 h21 q22 => ?_
    obtain ⟨v23, h24, q22⟩ := q22
    cases q22
    refine Sim.op (rfl) ?_
    refine Sim.op (rfl) ?_
    refine Sim.op (asB_p _) ?_
    refine Sim.ch (P := fun r y => (.p (.bool r), H7) = y) ?_ (fun b30 y31 h32 h33 => ?_)
    · refine Sim.cd (fun hc => ?_) (fun hc => ?_)
      · exact Sim.ret rfl rfl
      · refine Sim.op ((h24.h H7).str) ?_
        refine Sim.op (castS_p _) ?_
        refine Sim.call (limelightref1_Rid_ok (strB r18.1)) fun r25 cs26 H27 h28 q29 => ?_
        cases q29
        refine Sim.op (asB_p _) ?_
        exact Sim.ret rfl rfl
    subst h33
    refine Sim.op (asB_p _) ?_
    refine Sim.cd (fun hc => ?_) (fun hc => ?_)
    · exact Sim.fin (S9.finN (lv_cons (still_str _).lv (lv_cons (still_bool _).lv lv_nil))) rfl
    · refine Sim.op ((h24.h H7).str) ?_
      refine Sim.op (castS_p _) ?_
      exact Sim.fin (S9.finN (lv_cons (still_str _).lv (lv_cons (still_bool _).lv lv_nil))) rfl
end Go.Ev
/- Lifted by lift.py: limelightlaw4_reads as a plain function. -/
namespace Go.Ev
open Go.Proofs
set_option linter.unusedVariables false
set_option linter.unusedSimpArgs false
set_option maxRecDepth 100000
def p_limelightlaw4_reads (k : Nat) (x0 : Int) (x1 : (List Int)) : Option (Bool) :=
(p_ext_Read k x0 x1).bind fun r1 =>
(p_limelightref3_ReadElems k x0 x1).bind fun r8 =>
(p_ext_Rid k ((⟨false, 0, 0, 0, 0, (([] : List Int)), x0, x1, (([] : List Int))⟩ : T_api_Rtp))).bind fun r15 =>
(p_limelightref3_Rid k ((⟨false, 0, 0, 0, 0, (([] : List Int)), x0, x1, (([] : List Int))⟩ : T_api_Rtp))).bind fun r20 =>
(bif r1.2 == r8.2 then ((p_limelightlaw4_elems k r1.1 r8.1).bind fun r25 =>
some r25) else (some false)).bind fun b30 =>
(bif b30 then (some (r15.1.toList == r20.1.toList)) else (some false)).bind fun b34 =>
(bif b34 then (some (r15.2 == r20.2)) else (some false)).bind fun b38 =>
some (b38)
theorem limelightlaw4_reads_ok (k : Nat) {h : H} {σ : Stamp} (x0 : Int) (x1 : List Int) {u1 : V} (hu1 : SlF (dI .u8) x1 u1) : Sim (p_limelightlaw4_reads k x0 x1) (ev G X0 19 σ [(.p (.int .u16 x0)), u1] h) (fun r s => s = ([.v (.p (.bool r))], h)) := by
  refine Sim.ev rfl (Sim.ext (limelightlaw4_reads_entry _ _ _ _ _ _) ?_)
  rw [p_limelightlaw4_reads]
  have S0 : Fm 57 h [] [] [] (List.replicate 57 [] :: h) := Fm.start0
  refine Sim.call (ext_Read_ok k x0 x1 (hu1.h (List.replicate 57 [] :: h))) fun r1 cs2 H3 h4 q5 => ?_
  obtain ⟨v6, h7, q5⟩ := q5
  cases q5
  refine Sim.op (rfl) ?_
  refine Sim.op (rfl) ?_
  refine Sim.op (castI_p _ _) ?_
  refine Sim.call (limelightref3_ReadElems_ok k x0 x1 (hu1.h (List.replicate 57 [] :: h))) fun r8 cs9 H10 h11 q12 => ?_
  obtain ⟨v13, h14, q12⟩ := q12
  cases q12
  refine Sim.op (rfl) ?_
  refine Sim.op (rfl) ?_
  refine Sim.op (castI_p _ _) ?_
  refine Sim.op (bldV (pt_cons rfl (pt_cons hu1.still.cells pt_nil)) (by kernel_rfl : _ = some (.agg [.p (.bool false), .p (.int .i64 0), .p (.int .u16 0), .p (.int .u32 0), .p (.int .u32 0), .p (.slice none 0 0), .p (.int .u16 x0), u1, .p (.slice none 0 0)]))) ?_
  refine Sim.call (ext_Rid_ok k ((⟨false, 0, 0, 0, 0, (([] : List Int)), x0, x1, (([] : List Int))⟩ : T_api_Rtp)) (show dT_api_Rtp.R ((⟨false, 0, 0, 0, 0, (([] : List Int)), x0, x1, (([] : List Int))⟩ : T_api_Rtp)) [.p (.bool false), .p (.int .i64 0), .p (.int .u16 0), .p (.int .u32 0), .p (.int .u32 0), .p (.slice none 0 0), .p (.int .u16 x0), u1, .p (.slice none 0 0)] from (dT_api_Rtp.mk (SlF.nil (dI .u32)) hu1 (SlF.nil (dI .u8))))) fun r15 cs16 H17 h18 q19 => ?_
  cases q19
  refine Sim.op (rfl) ?_
  refine Sim.op (castS_p _) ?_
  refine Sim.op (rfl) ?_
  refine Sim.op (asB_p _) ?_
  refine Sim.op (bldV (pt_cons rfl (pt_cons hu1.still.cells pt_nil)) (by kernel_rfl : _ = some (.agg [.p (.bool false), .p (.int .i64 0), .p (.int .u16 0), .p (.int .u32 0), .p (.int .u32 0), .p (.slice none 0 0), .p (.int .u16 x0), u1, .p (.slice none 0 0)]))) ?_
  refine Sim.call (limelightref3_Rid_ok k ((⟨false, 0, 0, 0, 0, (([] : List Int)), x0, x1, (([] : List Int))⟩ : T_api_Rtp)) (show dT_api_Rtp.R ((⟨false, 0, 0, 0, 0, (([] : List Int)), x0, x1, (([] : List Int))⟩ : T_api_Rtp)) [.p (.bool false), .p (.int .i64 0), .p (.int .u16 0), .p (.int .u32 0), .p (.int .u32 0), .p (.slice none 0 0), .p (.int .u16 x0), u1, .p (.slice none 0 0)] from (dT_api_Rtp.mk (SlF.nil (dI .u32)) hu1 (SlF.nil (dI .u8))))) fun r20 cs21 H22 h23 q24 => ?_
  cases q24
  refine Sim.op (rfl) ?_
  refine Sim.op (castS_p _) ?_
  refine Sim.op (rfl) ?_
  refine Sim.op (asB_p _) ?_
  refine Sim.ch (P := fun r y => (.p (.bool r), (List.replicate 57 [] :: h)) = y) ?_ (fun b30 y31 h32 h33 => ?_)
  · refine Sim.cd (fun hc => ?_) (fun hc => ?_)
    · refine Sim.call (limelightlaw4_elems_ok k r1.1 (h7.h (List.replicate 57 [] :: h)) r8.1 (h14.h (List.replicate 57 [] :: h))) fun r25 cs26 H27 h28 q29 => ?_
      cases q29
      refine Sim.op (asB_p _) ?_
      exact Sim.ret rfl rfl
    · exact Sim.ret rfl rfl
  subst h33
  refine Sim.op (asB_p _) ?_
  refine Sim.ch (P := fun r y => r = y) ?_ (fun b34 y35 h36 h37 => ?_)
  · refine Sim.cd (fun hc => ?_) (fun hc => ?_)
    · exact Sim.ret rfl rfl
    · exact Sim.ret rfl rfl
  subst h37
  refine Sim.ch (P := fun r y => r = y) ?_ (fun b38 y39 h40 h41 => ?_)
  · refine Sim.cd (fun hc => ?_) (fun hc => ?_)
    · exact Sim.ret rfl rfl
    · exact Sim.ret rfl rfl
  subst h41
  exact Sim.fin (S0.finN (lv_cons (still_bool _).lv lv_nil)) rfl
end Go.Ev
/- Equations, printed by tracer2.py. -/
namespace Go.Ev
open Go.Proofs
set_option linter.unusedVariables false
set_option maxRecDepth 100000
-- 17 limelight/limelightlaw4.same
theorem limelightlaw4_same_entry (rec : CallF) (loop : LoopV) (σ : Stamp) (x0 : Int) (x1 : V) (x2 : Int) (h : H) : cvBody G rec loop 17 σ [(.p (.int .u16 x0)), x1, (.p (.int .i64 x2))] h =
 (callO rec 22 (2 :: 0 :: 1 :: 0 :: σ) [(.p (.int .u16 x0)), x1] (List.replicate 66 [] :: h) (some 18)).bind fun q1 =>
 (extV q1.1 0).bind fun t2 =>
 (extV q1.1 1).bind fun t3 =>
 (castI .i64 t3).bind fun n4 =>
 (callO rec 18 (2 :: 0 :: 1 :: 1 :: 0 :: σ) [(.p (.int .u16 x0)), x1] q1.2 (some 24)).bind fun q5 =>
 (extV q5.1 0).bind fun t6 =>
 (extV q5.1 1).bind fun t7 =>
 (castI .i64 t7).bind fun n8 =>
 (callO rec 25 (2 :: 0 :: 1 :: 1 :: 1 :: 0 :: σ) [x1, (.p (.int .i64 x2))] q5.2 (some 30)).bind fun q9 =>
 (extV q9.1 0).bind fun t10 =>
 (extV q9.1 1).bind fun t11 =>
 (asB t11).bind fun b12 =>
 (callO rec 53 (2 :: 0 :: 1 :: 1 :: 1 :: 1 :: 0 :: σ) [x1, (.p (.int .i64 x2))] q9.2 (some 36)).bind fun q13 =>
 (extV q13.1 0).bind fun t14 =>
 (extV q13.1 1).bind fun t15 =>
 (asB t15).bind fun b16 =>
 (bif n4 == n8 then ((strO q13.2 t2).bind fun t17 =>
 (castS t17).bind fun s18 =>
 (strO q13.2 t6).bind fun t19 =>
 (castS t19).bind fun s20 =>
 some (s18.toList == s20.toList)) else (some false)).bind fun b21 =>
 (bif b21 then ((strO q13.2 t10).bind fun t22 =>
 (castS t22).bind fun s23 =>
 (strO q13.2 t14).bind fun t24 =>
 (castS t24).bind fun s25 =>
 some (s23.toList == s25.toList)) else (some false)).bind fun b26 =>
 (bif b26 then (some (b12 == b16)) else (some false)).bind fun b27 =>
 (bif b27 then ((callO rec 19 (25 :: 0 :: 1 :: 1 :: 1 :: 1 :: 1 :: 0 :: σ) [(.p (.int .u16 x0)), t6] q13.2 (some 64)).bind fun q28 =>
 (asB q28.1).bind fun b29 =>
 some ((.p (.bool b29)), q28.2)) else (some ((.p (.bool false)), q13.2))).bind fun q30 =>
 (asB q30.1).bind fun b31 =>
 fin false σ q30.2 [(.p (.bool b31))] := by kernel_rfl
end Go.Ev
/- Equations, printed by tracer2.py. -/
namespace Go.Ev
open Go.Proofs
set_option linter.unusedVariables false
set_option maxRecDepth 100000
-- 18 limelight/limelightref3.Elems
noncomputable def limelightref3_Elems_c0 : Code := (codeAt (bodyOf Try.f18) [1, 1, 1, 1, 0, 1, 0, 0])
def limelightref3_Elems_l0 : Lv := ⟨64, 48, [(0, 64)]⟩
noncomputable def limelightref3_Elems_k0 (rec : CallF) (loop : LoopV) (σ : Stamp) : Exit → Env → H → Option (List C × H) := (kBlock 0 (kSeq G rec loop (codeAt (bodyOf Try.f18) [1, 1, 1, 1, 1]) ⟨48, 48, []⟩ (1 :: 1 :: 1 :: 1 :: 0 :: σ) (finC G true Try.f18 (1 :: σ))))
theorem limelightref3_Elems_entry (rec : CallF) (loop : LoopV) (σ : Stamp) (x0 : Int) (x1 : V) (h : H) : cvBody G rec loop 18 σ [(.p (.int .u16 x0)), x1] h =
 (bif x0 != 48862 then (some (x0 != 4096)) else (some false)).bind fun b1 =>
 bif b1 then (
 fin true σ (List.replicate 89 [] :: h) [(.p (.slice .none 0 0)), (.p (.int .i64 1))])
 else (
 (lenO x1).bind fun t2 =>
 (castI .i64 t2).bind fun n3 =>
 bif decide (n3 > 8) then (
 fin true σ (List.replicate 89 [] :: h) [(.p (.slice .none 0 0)), (.p (.int .i64 3))])
 else (
 (lenO x1).bind fun t4 =>
 (castI .i64 t4).bind fun n5 =>
 (loop limelightref3_Elems_c0 limelightref3_Elems_l0 (1 :: 0 :: 1 :: 1 :: 1 :: 1 :: 0 :: σ) (envL [(0, (.p (.int .u16 x0))), (6, (.p (.slice .none 0 0))), (19, x1), (20, (.p (.int .i64 n5))), (21, (.p (.int .i64 0)))]) (List.replicate 89 [] :: h)).bind fun r6 => limelightref3_Elems_k0 rec loop σ r6.1 r6.2.1 r6.2.2)) := by kernel_rfl
theorem limelightref3_Elems_r0 (rec : CallF) (loop : LoopV) (σ : Stamp) (x0 : Int) (x6 : V) (x19 : V) (x20 : Int) (x21 : Int) (h : H) : cvRound G rec loop limelightref3_Elems_c0 limelightref3_Elems_l0 σ (envL [(0, (.p (.int .u16 x0))), (6, x6), (19, x19), (20, (.p (.int .i64 x20))), (21, (.p (.int .i64 x21)))]) h =
 bif decide (x21 < x20) then (
 (iS 2 x19 x21).bind fun t7 =>
 (ldO true 2 h t7).bind fun t8 =>
 (some (alO [.p (.int .i64 0), .p (.slice none 0 0)] (2 :: 0 :: 0 :: 1 :: 1 :: 0 :: σ) 8 h)).bind fun q9 =>
 ((stO false 2 (3 :: 0 :: 0 :: 1 :: 1 :: 0 :: σ) q9.2 q9.1 t8).map fun h => (udf, h)).bind fun q10 =>
 (fA q9.1 1).bind fun t11 =>
 (ldO false 1 q10.2 t11).bind fun t12 =>
 (lenO t12).bind fun t13 =>
 (castI .i64 t13).bind fun n14 =>
 (bif x0 == 48862 then ((fA q9.1 0).bind fun t15 =>
 (ldO false 1 q10.2 t15).bind fun t16 =>
 (castI .i64 t16).bind fun n17 =>
 (bif decide (n17 < 1) then (some true) else ((fA q9.1 0).bind fun t18 =>
 (ldO false 1 q10.2 t18).bind fun t19 =>
 (castI .i64 t19).bind fun n20 =>
 some (decide (n20 > 14)))).bind fun b21 =>
 (bif b21 then (some true) else (some (decide (n14 < 1)))).bind fun b22 =>
 (bif b22 then (some true) else (some (decide (n14 > 16)))).bind fun b23 =>
 some b23) else (some false)).bind fun b24 =>
 (bif b24 then (some true) else ((fA q9.1 0).bind fun t25 =>
 (ldO false 1 q10.2 t25).bind fun t26 =>
 (castI .i64 t26).bind fun n27 =>
 some (decide (n27 < 1)))).bind fun b28 =>
 (bif b28 then (some true) else ((fA q9.1 0).bind fun t29 =>
 (ldO false 1 q10.2 t29).bind fun t30 =>
 (castI .i64 t30).bind fun n31 =>
 some (decide (n31 > 255)))).bind fun b32 =>
 (bif b32 then (some true) else (some (decide (n14 > 255)))).bind fun b33 =>
 bif b33 then (
 some (.ret, (envL [(4, (.p (.slice .none 0 0))), (5, (.p (.int .i64 1)))]), q10.2))
 else (
 bif x0 == 48862 then (
 (fA q9.1 0).bind fun t34 =>
 (ldO false 1 q10.2 t34).bind fun t35 =>
 (castI .i64 t35).bind fun n36 =>
 (buildSliceV Try.prog 32 1 [(0, (.p (.int .u8 (IntKind.wrap .u8 (IntKind.wrap .i64 ((IntKind.wrap .i64 ((IntKind.wrap .i64 (16 * n36)) + n14)) - 1))))))]).bind fun t37 =>
 (apO true 1 1 (9 :: 1 :: 0 :: 1 :: 1 :: 1 :: 0 :: 1 :: 1 :: 0 :: σ) 73 q10.2 x6 t37).bind fun q38 =>
 (fA q9.1 1).bind fun t39 =>
 (ldO false 1 q38.2 t39).bind fun t40 =>
 (apO true 1 1 (3 :: 1 :: 1 :: 1 :: 1 :: 0 :: 1 :: 1 :: 0 :: σ) 85 q38.2 q38.1 t40).bind fun q41 =>
 loop limelightref3_Elems_c0 limelightref3_Elems_l0 (1 :: σ) (envL [(0, (.p (.int .u16 x0))), (6, q41.1), (19, x19), (20, (.p (.int .i64 x20))), (21, (.p (.int .i64 (IntKind.wrap .i64 (x21 + 1)))))]) q41.2)
 else (
 (fA q9.1 0).bind fun t42 =>
 (ldO false 1 q10.2 t42).bind fun t43 =>
 (castI .i64 t43).bind fun n44 =>
 (buildSliceV Try.prog 32 2 [(0, (.p (.int .u8 (IntKind.wrap .u8 n44)))), (1, (.p (.int .u8 (IntKind.wrap .u8 n14))))]).bind fun t45 =>
 (apO true 1 1 (7 :: 1 :: 0 :: 1 :: 1 :: 1 :: 0 :: 1 :: 1 :: 0 :: σ) 81 q10.2 x6 t45).bind fun q46 =>
 (fA q9.1 1).bind fun t47 =>
 (ldO false 1 q46.2 t47).bind fun t48 =>
 (apO true 1 1 (3 :: 1 :: 1 :: 1 :: 1 :: 0 :: 1 :: 1 :: 0 :: σ) 85 q46.2 q46.1 t48).bind fun q49 =>
 loop limelightref3_Elems_c0 limelightref3_Elems_l0 (1 :: σ) (envL [(0, (.p (.int .u16 x0))), (6, q49.1), (19, x19), (20, (.p (.int .i64 x20))), (21, (.p (.int .i64 (IntKind.wrap .i64 (x21 + 1)))))]) q49.2)))
 else (
 some ((.exit 0), (envL [(6, x6)]), h)) := by kernel_rfl
theorem limelightref3_Elems_a0_0 (rec : CallF) (loop : LoopV) (σ : Stamp) (x6 : V) (h : H) : limelightref3_Elems_k0 rec loop σ (.exit 0) (envL [(6, x6)]) h =
 (callO rec 54 (1 :: 0 :: 1 :: 1 :: 1 :: 1 :: 1 :: 0 :: σ) [x6, (.p (.int .i64 4))] h (some 88)).bind fun q50 =>
 fin true σ q50.2 [q50.1, (.p (.int .i64 0))] := by kernel_rfl
theorem limelightref3_Elems_a0_ret (rec : CallF) (loop : LoopV) (σ : Stamp) (x4 : V) (x5 : Int) (h : H) : limelightref3_Elems_k0 rec loop σ .ret (envL [(4, x4), (5, (.p (.int .i64 x5)))]) h =
 fin true σ h [x4, (.p (.int .i64 x5))] := by kernel_rfl
end Go.Ev
/- Equations, printed by tracer2.py. -/
namespace Go.Ev
open Go.Proofs
set_option linter.unusedVariables false
set_option maxRecDepth 100000
-- 54 limelight/limelightref1.Pad
noncomputable def limelightref1_Pad_c0 : Code := (codeAt (bodyOf Try.f54) [1, 1, 0, 0, 0])
def limelightref1_Pad_l0 : Lv := ⟨32, 16, [(0, 32)]⟩
noncomputable def limelightref1_Pad_k0 (rec : CallF) (loop : LoopV) (σ : Stamp) : Exit → Env → H → Option (List C × H) := (kBlock 0 (kSeq G rec loop (codeAt (bodyOf Try.f54) [1, 1, 1]) ⟨16, 16, []⟩ (1 :: 1 :: 0 :: σ) (finC G false Try.f54 (1 :: σ))))
theorem limelightref1_Pad_entry (rec : CallF) (loop : LoopV) (σ : Stamp) (x0 : V) (x1 : Int) (h : H) : cvBody G rec loop 54 σ [x0, (.p (.int .i64 x1))] h =
 (buildSliceV Try.prog 32 0 []).bind fun t1 =>
 (apO true 1 1 (2 :: 0 :: 1 :: 0 :: σ) 8 (List.replicate 26 [] :: h) t1 x0).bind fun q2 =>
 (loop limelightref1_Pad_c0 limelightref1_Pad_l0 (0 :: 1 :: 1 :: 0 :: σ) (envL [(1, (.p (.int .i64 x1))), (5, q2.1)]) q2.2).bind fun r3 => limelightref1_Pad_k0 rec loop σ r3.1 r3.2.1 r3.2.2 := by kernel_rfl
theorem limelightref1_Pad_r0 (rec : CallF) (loop : LoopV) (σ : Stamp) (x1 : Int) (x5 : V) (h : H) : cvRound G rec loop limelightref1_Pad_c0 limelightref1_Pad_l0 σ (envL [(1, (.p (.int .i64 x1))), (5, x5)]) h =
 (bif decide (x1 ≥ 1) then (some (decide (x1 ≤ 64))) else (some false)).bind fun b4 =>
 (bif b4 then ((lenO x5).bind fun t5 =>
 (castI .i64 t5).bind fun n6 =>
 (remI .i64 n6 x1).bind fun t7 =>
 (castI .i64 t7).bind fun n8 =>
 some (n8 != 0)) else (some false)).bind fun b9 =>
 bif b9 then (
 (buildSliceV Try.prog 32 1 [(0, (.p (.int .u8 0)))]).bind fun t10 =>
 (apO true 1 1 (2 :: 1 :: 0 :: σ) 24 h x5 t10).bind fun q11 =>
 loop limelightref1_Pad_c0 limelightref1_Pad_l0 (1 :: σ) (envL [(1, (.p (.int .i64 x1))), (5, q11.1)]) q11.2)
 else (
 some ((.exit 0), (envL [(5, x5)]), h)) := by kernel_rfl
theorem limelightref1_Pad_a0_0 (rec : CallF) (loop : LoopV) (σ : Stamp) (x5 : V) (h : H) : limelightref1_Pad_k0 rec loop σ (.exit 0) (envL [(5, x5)]) h =
 fin false σ h [x5] := by kernel_rfl
end Go.Ev
/- Lifted by lift.py: limelightref1_Pad as a plain function. -/
namespace Go.Ev
open Go.Proofs
set_option linter.unusedVariables false
set_option linter.unusedSimpArgs false
set_option maxRecDepth 100000
def p_limelightref1_Pad_l0 {β : Type} (k : Nat) (kE0 : (List Int) → Option β) (x1 : Int) (x5 : (List Int)) : Option β := match k with
| 0 => none
| k + 1 =>
(bif decide (x1 ≥ 1) then (some (decide (x1 ≤ 64))) else (some false)).bind fun b14 =>
(bif b14 then ((remP ((x5.length : Int)) x1).bind fun n18 =>
some (n18 != 0)) else (some false)).bind fun b20 =>
bif b20 then (
(ap 1 x5 ([0])).bind fun a25 =>
p_limelightref1_Pad_l0 k kE0 x1 a25)
else (
kE0 x5)
def p_limelightref1_Pad (k : Nat) (x0 : (List Int)) (x1 : Int) : Option ((List Int)) :=
(ap 1 (([] : List Int)) x0).bind fun a4 =>
p_limelightref1_Pad_l0 k (fun r35_5 =>
some (r35_5)) x1 a4
theorem limelightref1_Pad_l0_ok {h : H}  {β α : Type} {Q : β → α → Prop} {K : Exit × Env × H → Option α} {kE0 : (List Int) → Option β} (hE0 : ∀ (q5 : (List Int)) (v33 : V) (H31 : Go.Ev.H) (_ : Fm 26 h [] [] [⟨[8, 24], v33, (dI .u8), q5⟩] H31), Sim (kE0 q5) (K ((.exit 0), (envL [(5, v33)]), H31)) Q) (k : Nat) : ∀ (x1 : Int) (x5 : (List Int)) (v12 : V) (H10 : Go.Ev.H) (_ : Fm 26 h [] [] [⟨[8, 24], v12, (dI .u8), x5⟩] H10) {σ : Stamp}, Sim (p_limelightref1_Pad_l0 k kE0 x1 x5) ((cvL G X0 limelightref1_Pad_c0 limelightref1_Pad_l0 σ (envL [(1, (.p (.int .i64 x1))), (5, v12)]) H10).bind K) Q := by
  induction k with
  | zero => intros; exact Sim.no
  | succ k ih =>
    intro x1 x5 v12 H10 S11 σ
    rw [p_limelightref1_Pad_l0]
    refine Sim.round (Sim.ext (limelightref1_Pad_r0 _ _ _ _ _ _) ?_)
    refine Sim.ch (P := fun r y => r = y) ?_ (fun b14 y15 h16 h17 => ?_)
    · refine Sim.cd (fun hc => ?_) (fun hc => ?_)
      · exact Sim.ret rfl rfl
      · exact Sim.ret rfl rfl
    subst h17
    refine Sim.ch (P := fun r y => r = y) ?_ (fun b20 y21 h22 h23 => ?_)
    · refine Sim.cd (fun hc => ?_) (fun hc => ?_)
      · refine Sim.op ((S11.sl (i := 0) rfl).len) ?_
        refine Sim.op (castI_p _ _) ?_
        refine Sim.bd fun n18 h19 => ?_
        refine Sim.op (remP_ok h19) ?_
        refine Sim.op (castI_p _ _) ?_
        exact Sim.ret rfl rfl
      · exact Sim.ret rfl rfl
    subst h23
    refine Sim.cd (fun hc => ?_) (fun hc => ?_)
    · have h24 : SlF (dI .u8) [0] (.fz [(.p (.int .u8 0))] 1 1 true) := SlF.lit (cs := [(.p (.int .u8 0))]) (RL.cons (show (dI .u8).R 0 [(.p (.int .u8 0))] from rfl) RL.nil) rfl rfl true
      refine Sim.op (bldS (pt_cons rfl pt_nil) (by kernel_rfl : _ = some (.fz [(.p (.int .u8 0))] 1 1 true))) ?_
      refine Sim.bd fun a25 h26 => ?_
      obtain ⟨v27, H28, e29, S30⟩ := S11.app (i := 0) (d := 24) (e := 1) (own := true) (σ := (2 :: 1 :: 0 :: σ)) rfl (h24.h H10).y h26 rfl (by decide) (by decide) rfl
      refine Sim.op (e29) ?_
      exact ih x1 a25 v27 H28 (S30.wk2 all_nil (all_cons ⟨[24, 8, 24], by simp, at_mem 0 rfl⟩ all_nil))
    · exact hE0 x5 v12 H10 (S11.wk2 all_nil (all_cons ⟨[8, 24], by simp, at_mem 0 rfl⟩ all_nil))
theorem limelightref1_Pad_ok (k : Nat) {h : H} {σ : Stamp} (x0 : List Int) {u0 : V} (hu0 : SlH h (dI .u8) x0 u0) (x1 : Int) : Sim (p_limelightref1_Pad k x0 x1) (ev G X0 54 σ [u0, (.p (.int .i64 x1))] h) (fun r s => ∃ (c0 : C), ∃ (a0 : List V), OwnS c0 (dI .u8).sz r.length a0 ∧ (dI .u8).L r a0 ∧ s = ([c0], h)) := by
  refine Sim.ev rfl (Sim.ext (limelightref1_Pad_entry _ _ _ _ _ _) ?_)
  rw [p_limelightref1_Pad]
  have S0 : Fm 26 h [] [] [] (List.replicate 26 [] :: h) := Fm.start0
  have h1 : SlF (dI .u8) ([] : List Int) (.fz [] 0 1 true) := SlF.lit (cs := []) RL.nil rfl rfl true
  refine Sim.op (bldS pt_nil (by kernel_rfl : _ = some (.fz [] 0 1 true))) ?_
  have S3 := S0.nil' (dI .u8) [] (e := 1) rfl
  refine Sim.bd fun a4 h5 => ?_
  obtain ⟨v6, H7, e8, S9⟩ := S3.app (i := 0) (d := 8) (e := 1) (own := true) (σ := (2 :: 0 :: 1 :: 0 :: σ)) rfl (S3.low hu0).y h5 rfl (by decide) (by decide) rfl
  refine Sim.op (e8) ?_
  refine Sim.as (limelightref1_Pad_l0_ok ?_ k x1 a4 v6 H7 (S9.wk2 all_nil (all_cons ⟨[8], by simp, at_mem 0 rfl⟩ all_nil))) 
  · intro r35_5 v38 H36 S37
    refine Sim.ext (limelightref1_Pad_a0_0 _ _ _ _ _) ?_
    obtain ⟨c45, cs46, H40, e41, h43, h44, S42⟩ := S37.expOwn (i := 0) (τ := 0 :: 1 :: σ) rfl rfl rfl
    exact Sim.fin (S42.finE (Ex.st e41 Ex.nil)) ⟨c45, cs46, h43, h44, rfl⟩
end Go.Ev
/- Lifted by lift.py: limelightref3_Elems as a plain function. -/
namespace Go.Ev
open Go.Proofs
set_option linter.unusedVariables false
set_option linter.unusedSimpArgs false
set_option maxRecDepth 100000
def p_limelightref3_Elems_l0 {β : Type} (k : Nat) (kE0 : (List Int) → Option β) (kE1 : Int → Option β) (x0 : Int) (x6 : (List Int)) (x19 : (List T_api_Elem)) (x20 : Int) (x21 : Int) : Option β := match k with
| 0 => none
| k + 1 =>
bif decide (x21 < x20) then (
(ix x19 x21).bind fun a13 =>
(bif x0 == 48862 then ((bif decide (a13.ID < 1) then (some true) else (some (decide (a13.ID > 14)))).bind fun b27 =>
(bif b27 then (some true) else (some (decide (((a13.Data.length : Int)) < 1)))).bind fun b31 =>
(bif b31 then (some true) else (some (decide (((a13.Data.length : Int)) > 16)))).bind fun b35 =>
some b35) else (some false)).bind fun b39 =>
(bif b39 then (some true) else (some (decide (a13.ID < 1)))).bind fun b43 =>
(bif b43 then (some true) else (some (decide (a13.ID > 255)))).bind fun b47 =>
(bif b47 then (some true) else (some (decide (((a13.Data.length : Int)) > 255)))).bind fun b51 =>
bif b51 then (
kE1 1)
else (
bif x0 == 48862 then (
(ap 1 x6 ([(IntKind.wrap .u8 (IntKind.wrap .i64 ((IntKind.wrap .i64 ((IntKind.wrap .i64 (16 * a13.ID)) + ((a13.Data.length : Int)))) - 1)))])).bind fun a56 =>
(ap 1 a56 a13.Data).bind fun a62 =>
p_limelightref3_Elems_l0 k kE0 kE1 x0 a62 x19 x20 (IntKind.wrap .i64 (x21 + 1)))
else (
(ap 1 x6 ([(IntKind.wrap .u8 a13.ID), (IntKind.wrap .u8 ((a13.Data.length : Int)))])).bind fun a69 =>
(ap 1 a69 a13.Data).bind fun a75 =>
p_limelightref3_Elems_l0 k kE0 kE1 x0 a75 x19 x20 (IntKind.wrap .i64 (x21 + 1)))))
else (
kE0 x6)
def p_limelightref3_Elems (k : Nat) (x0 : Int) (x1 : (List T_api_Elem)) : Option ((List Int) × Int) :=
(bif x0 != 48862 then (some (x0 != 4096)) else (some false)).bind fun b1 =>
bif b1 then (
some ((([] : List Int)), 1))
else (
bif decide (((x1.length : Int)) > 8) then (
some ((([] : List Int)), 3))
else (
p_limelightref3_Elems_l0 k (fun r89_6 =>
(p_limelightref1_Pad k r89_6 4).bind fun r94 =>
some (r94, 0)) (fun r114_5 =>
some ((([] : List Int)), r114_5)) x0 (([] : List Int)) x1 ((x1.length : Int)) 0))
theorem limelightref3_Elems_l0_ok {h : H}  {β α : Type} {Q : β → α → Prop} {K : Exit × Env × H → Option α} {kE0 : (List Int) → Option β} {kE1 : Int → Option β} (hE0 : ∀ (q6 : (List Int)) (v83 : V) (H81 : Go.Ev.H) (_ : Fm 89 h [] [] [⟨[73, 81, 85], v83, (dI .u8), q6⟩] H81), Sim (kE0 q6) (K ((.exit 0), (envL [(6, v83)]), H81)) Q) (hE1 : ∀ (q5 : Int) (H85 : Go.Ev.H) (_ : Fm 89 h [] [] [] H85), Sim (kE1 q5) (K (.ret, (envL [(4, (.p (.slice none 0 0))), (5, (.p (.int .i64 q5)))]), H85)) Q) (k : Nat) : ∀ (x0 : Int) (x6 : (List Int)) (x19 : (List T_api_Elem)) (x20 : Int) (x21 : Int) (v9 : V) (v11 : V) (h12 : SlH h dT_api_Elem x19 v11) (H7 : Go.Ev.H) (_ : Fm 89 h [] [] [⟨[73, 81, 85], v9, (dI .u8), x6⟩] H7) {σ : Stamp}, Sim (p_limelightref3_Elems_l0 k kE0 kE1 x0 x6 x19 x20 x21) ((cvL G X0 limelightref3_Elems_c0 limelightref3_Elems_l0 σ (envL [(0, (.p (.int .u16 x0))), (6, v9), (19, v11), (20, (.p (.int .i64 x20))), (21, (.p (.int .i64 x21)))]) H7).bind K) Q := by
  induction k with
  | zero => intros; exact Sim.no
  | succ k ih =>
    intro x0 x6 x19 x20 x21 v9 v11 h12 H7 S8 σ
    rw [p_limelightref3_Elems_l0]
    refine Sim.round (Sim.ext (limelightref3_Elems_r0 _ _ _ _ _ _ _ _ _) ?_)
    refine Sim.cd (fun hc => ?_) (fun hc => ?_)
    · refine Sim.bd fun a13 h14 => ?_
      refine Sim.op ((S8.low h12).iS h14 rfl) ?_
      obtain ⟨w16, h17, hE15⟩ := (S8.low h12).el h14 rfl
      obtain ⟨v18, rfl, h19⟩ := dT_api_Elem.inv h17
      refine Sim.op (hE15.all (by simp)) ?_
      obtain ⟨H20, e21, S22⟩ := S8.al (d := 8) (s := (2 :: 0 :: 0 :: 1 :: 1 :: 0 :: σ)) (z := [(.p (.int .i64 0)), (.p (.slice none 0 0))]) (by decide) rfl
      refine Sim.op (congrArg some e21) ?_
      obtain ⟨H24, e25, S26⟩ := S22.stGv (i := 0) (j := 0) (own := false) (σ := (3 :: 0 :: 0 :: 1 :: 1 :: 0 :: σ)) (xs := [.p (.int .i64 a13.ID), v18]) rfl rfl (stills_cons (still_int _ _) (stills_cons h19.still stills_nil)) rfl rfl
      refine Sim.op (st_map e25) ?_
      refine Sim.op (fA_ref _ _ _) ?_
      refine Sim.op ((S26.atG (i := 0) rfl).ld (j := 1) rfl) ?_
      refine Sim.op ((h19.h H24).len) ?_
      refine Sim.op (castI_p _ _) ?_
      refine Sim.ch (P := fun r y => r = y) ?_ (fun b39 y40 h41 h42 => ?_)
      · refine Sim.cd (fun hc => ?_) (fun hc => ?_)
        · refine Sim.op (fA_ref _ _ _) ?_
          refine Sim.op ((S26.atG (i := 0) rfl).ld (j := 0) rfl) ?_
          refine Sim.op (castI_p _ _) ?_
          refine Sim.ch (P := fun r y => r = y) ?_ (fun b27 y28 h29 h30 => ?_)
          · refine Sim.cd (fun hc => ?_) (fun hc => ?_)
            · exact Sim.ret rfl rfl
            · refine Sim.op (fA_ref _ _ _) ?_
              refine Sim.op ((S26.atG (i := 0) rfl).ld (j := 0) rfl) ?_
              refine Sim.op (castI_p _ _) ?_
              exact Sim.ret rfl rfl
          subst h30
          refine Sim.ch (P := fun r y => r = y) ?_ (fun b31 y32 h33 h34 => ?_)
          · refine Sim.cd (fun hc => ?_) (fun hc => ?_)
            · exact Sim.ret rfl rfl
            · exact Sim.ret rfl rfl
          subst h34
          refine Sim.ch (P := fun r y => r = y) ?_ (fun b35 y36 h37 h38 => ?_)
          · refine Sim.cd (fun hc => ?_) (fun hc => ?_)
            · exact Sim.ret rfl rfl
            · exact Sim.ret rfl rfl
          subst h38
          exact Sim.ret rfl rfl
        · exact Sim.ret rfl rfl
      subst h42
      refine Sim.ch (P := fun r y => r = y) ?_ (fun b43 y44 h45 h46 => ?_)
      · refine Sim.cd (fun hc => ?_) (fun hc => ?_)
        · exact Sim.ret rfl rfl
        · refine Sim.op (fA_ref _ _ _) ?_
          refine Sim.op ((S26.atG (i := 0) rfl).ld (j := 0) rfl) ?_
          refine Sim.op (castI_p _ _) ?_
          exact Sim.ret rfl rfl
      subst h46
      refine Sim.ch (P := fun r y => r = y) ?_ (fun b47 y48 h49 h50 => ?_)
      · refine Sim.cd (fun hc => ?_) (fun hc => ?_)
        · exact Sim.ret rfl rfl
        · refine Sim.op (fA_ref _ _ _) ?_
          refine Sim.op ((S26.atG (i := 0) rfl).ld (j := 0) rfl) ?_
          refine Sim.op (castI_p _ _) ?_
          exact Sim.ret rfl rfl
      subst h50
      refine Sim.ch (P := fun r y => r = y) ?_ (fun b51 y52 h53 h54 => ?_)
      · refine Sim.cd (fun hc => ?_) (fun hc => ?_)
        · exact Sim.ret rfl rfl
        · exact Sim.ret rfl rfl
      subst h54
      refine Sim.cd (fun hc => ?_) (fun hc => ?_)
      · exact hE1 1 H24 (S26.wk2 all_nil all_nil)
      · refine Sim.cd (fun hc => ?_) (fun hc => ?_)
        · refine Sim.op (fA_ref _ _ _) ?_
          refine Sim.op ((S26.atG (i := 0) rfl).ld (j := 0) rfl) ?_
          refine Sim.op (castI_p _ _) ?_
          have h55 : SlF (dI .u8) [(IntKind.wrap .u8 (IntKind.wrap .i64 ((IntKind.wrap .i64 ((IntKind.wrap .i64 (16 * a13.ID)) + ((a13.Data.length : Int)))) - 1)))] (.fz [(.p (.int .u8 (IntKind.wrap .u8 (IntKind.wrap .i64 ((IntKind.wrap .i64 ((IntKind.wrap .i64 (16 * a13.ID)) + ((a13.Data.length : Int)))) - 1)))))] 1 1 true) := SlF.lit (cs := [(.p (.int .u8 (IntKind.wrap .u8 (IntKind.wrap .i64 ((IntKind.wrap .i64 ((IntKind.wrap .i64 (16 * a13.ID)) + ((a13.Data.length : Int)))) - 1)))))]) (RL.cons (show (dI .u8).R (IntKind.wrap .u8 (IntKind.wrap .i64 ((IntKind.wrap .i64 ((IntKind.wrap .i64 (16 * a13.ID)) + ((a13.Data.length : Int)))) - 1))) [(.p (.int .u8 (IntKind.wrap .u8 (IntKind.wrap .i64 ((IntKind.wrap .i64 ((IntKind.wrap .i64 (16 * a13.ID)) + ((a13.Data.length : Int)))) - 1)))))] from rfl) RL.nil) rfl rfl true
          refine Sim.op (bldS (pt_cons rfl pt_nil) (by kernel_rfl : _ = some (.fz [(.p (.int .u8 (IntKind.wrap .u8 (IntKind.wrap .i64 ((IntKind.wrap .i64 ((IntKind.wrap .i64 (16 * a13.ID)) + ((a13.Data.length : Int)))) - 1)))))] 1 1 true))) ?_
          refine Sim.bd fun a56 h57 => ?_
          obtain ⟨v58, H59, e60, S61⟩ := S26.app (i := 0) (d := 73) (e := 1) (own := true) (σ := (9 :: 1 :: 0 :: 1 :: 1 :: 1 :: 0 :: 1 :: 1 :: 0 :: σ)) rfl (h55.h H24).y h57 rfl (by decide) (by decide) rfl
          refine Sim.op (e60) ?_
          refine Sim.op (fA_ref _ _ _) ?_
          refine Sim.op ((S61.atG (i := 0) rfl).ld (j := 1) rfl) ?_
          refine Sim.bd fun a62 h63 => ?_
          obtain ⟨v64, H65, e66, S67⟩ := S61.app (i := 0) (d := 85) (e := 1) (own := true) (σ := (3 :: 1 :: 1 :: 1 :: 1 :: 0 :: 1 :: 1 :: 0 :: σ)) rfl (h19.h H59).y h63 rfl (by decide) (by decide) rfl
          refine Sim.op (e66) ?_
          exact ih x0 a62 x19 x20 (IntKind.wrap .i64 (x21 + 1)) v64 v11 h12 H65 (S67.wk2 all_nil (all_cons ⟨[85, 73, 73, 81, 85], by simp, at_mem 0 rfl⟩ all_nil))
        · refine Sim.op (fA_ref _ _ _) ?_
          refine Sim.op ((S26.atG (i := 0) rfl).ld (j := 0) rfl) ?_
          refine Sim.op (castI_p _ _) ?_
          have h68 : SlF (dI .u8) [(IntKind.wrap .u8 a13.ID), (IntKind.wrap .u8 ((a13.Data.length : Int)))] (.fz [(.p (.int .u8 (IntKind.wrap .u8 a13.ID))), (.p (.int .u8 (IntKind.wrap .u8 ((a13.Data.length : Int)))))] 2 1 true) := SlF.lit (cs := [(.p (.int .u8 (IntKind.wrap .u8 a13.ID))), (.p (.int .u8 (IntKind.wrap .u8 ((a13.Data.length : Int)))))]) (RL.cons (show (dI .u8).R (IntKind.wrap .u8 a13.ID) [(.p (.int .u8 (IntKind.wrap .u8 a13.ID)))] from rfl) (RL.cons (show (dI .u8).R (IntKind.wrap .u8 ((a13.Data.length : Int))) [(.p (.int .u8 (IntKind.wrap .u8 ((a13.Data.length : Int)))))] from rfl) RL.nil)) rfl rfl true
          refine Sim.op (bldS (pt_cons rfl (pt_cons rfl pt_nil)) (by kernel_rfl : _ = some (.fz [(.p (.int .u8 (IntKind.wrap .u8 a13.ID))), (.p (.int .u8 (IntKind.wrap .u8 ((a13.Data.length : Int)))))] 2 1 true))) ?_
          refine Sim.bd fun a69 h70 => ?_
          obtain ⟨v71, H72, e73, S74⟩ := S26.app (i := 0) (d := 81) (e := 1) (own := true) (σ := (7 :: 1 :: 0 :: 1 :: 1 :: 1 :: 0 :: 1 :: 1 :: 0 :: σ)) rfl (h68.h H24).y h70 rfl (by decide) (by decide) rfl
          refine Sim.op (e73) ?_
          refine Sim.op (fA_ref _ _ _) ?_
          refine Sim.op ((S74.atG (i := 0) rfl).ld (j := 1) rfl) ?_
          refine Sim.bd fun a75 h76 => ?_
          obtain ⟨v77, H78, e79, S80⟩ := S74.app (i := 0) (d := 85) (e := 1) (own := true) (σ := (3 :: 1 :: 1 :: 1 :: 1 :: 0 :: 1 :: 1 :: 0 :: σ)) rfl (h19.h H72).y h76 rfl (by decide) (by decide) rfl
          refine Sim.op (e79) ?_
          exact ih x0 a75 x19 x20 (IntKind.wrap .i64 (x21 + 1)) v77 v11 h12 H78 (S80.wk2 all_nil (all_cons ⟨[85, 81, 73, 81, 85], by simp, at_mem 0 rfl⟩ all_nil))
    · exact hE0 x6 v9 H7 (S8.wk2 all_nil (all_cons ⟨[73, 81, 85], by simp, at_mem 0 rfl⟩ all_nil))
theorem limelightref3_Elems_ok (k : Nat) {h : H} {σ : Stamp} (x0 : Int) (x1 : List T_api_Elem) {u1 : V} (hu1 : SlH h dT_api_Elem x1 u1) : Sim (p_limelightref3_Elems k x0 x1) (ev G X0 18 σ [(.p (.int .u16 x0)), u1] h) (fun r s => ∃ (v0 : V), SlF (dI .u8) r.1 v0 ∧ s = ([.v v0, .v (.p (.int .i64 r.2))], h)) := by
  refine Sim.ev rfl (Sim.ext (limelightref3_Elems_entry _ _ _ _ _ _) ?_)
  rw [p_limelightref3_Elems]
  have S0 : Fm 89 h [] [] [] (List.replicate 89 [] :: h) := Fm.start0
  refine Sim.ch (P := fun r y => r = y) ?_ (fun b1 y2 h3 h4 => ?_)
  · refine Sim.cd (fun hc => ?_) (fun hc => ?_)
    · exact Sim.ret rfl rfl
    · exact Sim.ret rfl rfl
  subst h4
  refine Sim.cd (fun hc => ?_) (fun hc => ?_)
  · exact Sim.fin (S0.finN (lv_cons (SlF.nil (dI .u8)).still.lv (lv_cons (still_int _ _).lv lv_nil))) ⟨(.p (.slice none 0 0)), (SlF.nil (dI .u8)), rfl⟩
  · refine Sim.op ((S0.low hu1).len) ?_
    refine Sim.op (castI_p _ _) ?_
    refine Sim.cd (fun hc => ?_) (fun hc => ?_)
    · exact Sim.fin (S0.finN (lv_cons (SlF.nil (dI .u8)).still.lv (lv_cons (still_int _ _).lv lv_nil))) ⟨(.p (.slice none 0 0)), (SlF.nil (dI .u8)), rfl⟩
    · refine Sim.op ((S0.low hu1).len) ?_
      refine Sim.op (castI_p _ _) ?_
      have S88 := S0.nil (dI .u8) []
      refine Sim.as (limelightref3_Elems_l0_ok ?_ ?_ k x0 (([] : List Int)) x1 ((x1.length : Int)) 0 (.p (.slice none 0 0)) u1 hu1 (List.replicate 89 [] :: h) (S88.wk2 all_nil (all_cons ⟨[], by simp, at_mem 0 rfl⟩ all_nil))) 
      · intro r89_6 v92 H90 S91
        refine Sim.ext (limelightref3_Elems_a0_0 _ _ _ _ _) ?_
        refine Sim.call (limelightref1_Pad_ok k r89_6 (S91.sl (i := 0) rfl) 4) fun r94 cs95 H96 h97 q98 => ?_
        obtain ⟨c99, cs100, h101, h102, q98⟩ := q98
        cases q98
        obtain ⟨v103, H104, e105, S106⟩ := S91.land (dt := (dI .u8)) (d := 88) (e := 0) (n := 0) h101 h102 (by decide) rfl
        erw [e105]
        obtain ⟨v113, H108, e109, h111, S110⟩ := S106.expFrz (i := 0) (τ := 0 :: 1 :: σ) rfl rfl
        exact Sim.fin (S110.finE (Ex.st e109 (Ex.pl (still_int _ _).lv Ex.nil))) ⟨v113, h111, rfl⟩
      · intro r114_5 H115 S116
        refine Sim.ext (limelightref3_Elems_a0_ret _ _ _ _ _ _) ?_
        exact Sim.fin (S116.finN (lv_cons (SlF.nil (dI .u8)).still.lv (lv_cons (still_int _ _).lv lv_nil))) ⟨(.p (.slice none 0 0)), (SlF.nil (dI .u8)), rfl⟩
end Go.Ev
/- Lifted by lift.py: limelightlaw4_same as a plain function. -/
namespace Go.Ev
open Go.Proofs
set_option linter.unusedVariables false
set_option linter.unusedSimpArgs false
set_option maxRecDepth 100000
def p_limelightlaw4_same (k : Nat) (x0 : Int) (x1 : (List T_api_Elem)) (x2 : Int) : Option (Bool) :=
(p_ext_Bytes k x0 x1).bind fun r1 =>
(p_limelightref3_Elems k x0 x1).bind fun r8 =>
(p_ext_Find k x1 x2).bind fun r15 =>
(p_limelightref3_Find k x1 x2).bind fun r22 =>
(bif r1.2 == r8.2 then (some ((strB r1.1).toList == (strB r8.1).toList)) else (some false)).bind fun b29 =>
(bif b29 then (some ((strB r15.1).toList == (strB r22.1).toList)) else (some false)).bind fun b33 =>
(bif b33 then (some (r15.2 == r22.2)) else (some false)).bind fun b37 =>
(bif b37 then ((p_limelightlaw4_reads k x0 r8.1).bind fun r41 =>
some r41) else (some false)).bind fun b46 =>
some (b46)
theorem limelightlaw4_same_ok (k : Nat) {h : H} {σ : Stamp} (x0 : Int) (x1 : List T_api_Elem) {u1 : V} (hu1 : SlH h dT_api_Elem x1 u1) (x2 : Int) : Sim (p_limelightlaw4_same k x0 x1 x2) (ev G X0 17 σ [(.p (.int .u16 x0)), u1, (.p (.int .i64 x2))] h) (fun r s => s = ([.v (.p (.bool r))], h)) := by
  refine Sim.ev rfl (Sim.ext (limelightlaw4_same_entry _ _ _ _ _ _ _) ?_)
  rw [p_limelightlaw4_same]
  have S0 : Fm 66 h [] [] [] (List.replicate 66 [] :: h) := Fm.start0
  refine Sim.call (ext_Bytes_ok k x0 x1 (S0.low hu1)) fun r1 cs2 H3 h4 q5 => ?_
  obtain ⟨v6, h7, q5⟩ := q5
  cases q5
  refine Sim.op (rfl) ?_
  refine Sim.op (rfl) ?_
  refine Sim.op (castI_p _ _) ?_
  refine Sim.call (limelightref3_Elems_ok k x0 x1 (S0.low hu1)) fun r8 cs9 H10 h11 q12 => ?_
  obtain ⟨v13, h14, q12⟩ := q12
  cases q12
  refine Sim.op (rfl) ?_
  refine Sim.op (rfl) ?_
  refine Sim.op (castI_p _ _) ?_
  refine Sim.call (ext_Find_ok k x1 (S0.low hu1) x2) fun r15 cs16 H17 h18 q19 => ?_
  obtain ⟨v20, h21, q19⟩ := q19
  cases q19
  refine Sim.op (rfl) ?_
  refine Sim.op (rfl) ?_
  refine Sim.op (asB_p _) ?_
  refine Sim.call (limelightref3_Find_ok k x1 (S0.low hu1) x2) fun r22 cs23 H24 h25 q26 => ?_
  obtain ⟨v27, h28, q26⟩ := q26
  cases q26
  refine Sim.op (rfl) ?_
  refine Sim.op (rfl) ?_
  refine Sim.op (asB_p _) ?_
  refine Sim.ch (P := fun r y => r = y) ?_ (fun b29 y30 h31 h32 => ?_)
  · refine Sim.cd (fun hc => ?_) (fun hc => ?_)
    · refine Sim.op ((h7.h (List.replicate 66 [] :: h)).str) ?_
      refine Sim.op (castS_p _) ?_
      refine Sim.op ((h14.h (List.replicate 66 [] :: h)).str) ?_
      refine Sim.op (castS_p _) ?_
      exact Sim.ret rfl rfl
    · exact Sim.ret rfl rfl
  subst h32
  refine Sim.ch (P := fun r y => r = y) ?_ (fun b33 y34 h35 h36 => ?_)
  · refine Sim.cd (fun hc => ?_) (fun hc => ?_)
    · refine Sim.op ((h21.h (List.replicate 66 [] :: h)).str) ?_
      refine Sim.op (castS_p _) ?_
      refine Sim.op ((h28.h (List.replicate 66 [] :: h)).str) ?_
      refine Sim.op (castS_p _) ?_
      exact Sim.ret rfl rfl
    · exact Sim.ret rfl rfl
  subst h36
  refine Sim.ch (P := fun r y => r = y) ?_ (fun b37 y38 h39 h40 => ?_)
  · refine Sim.cd (fun hc => ?_) (fun hc => ?_)
    · exact Sim.ret rfl rfl
    · exact Sim.ret rfl rfl
  subst h40
  refine Sim.ch (P := fun r y => (.p (.bool r), (List.replicate 66 [] :: h)) = y) ?_ (fun b46 y47 h48 h49 => ?_)
  · refine Sim.cd (fun hc => ?_) (fun hc => ?_)
    · refine Sim.call (limelightlaw4_reads_ok k x0 r8.1 h14) fun r41 cs42 H43 h44 q45 => ?_
      cases q45
      refine Sim.op (asB_p _) ?_
      exact Sim.ret rfl rfl
    · exact Sim.ret rfl rfl
  subst h49
  refine Sim.op (asB_p _) ?_
  exact Sim.fin (S0.finN (lv_cons (still_bool _).lv lv_nil)) rfl
end Go.Ev
/- Equations, printed by tracer2.py. -/
namespace Go.Ev
open Go.Proofs
set_option linter.unusedVariables false
set_option maxRecDepth 100000
-- 15 limelight/limelightlaw4.tape
noncomputable def limelightlaw4_tape_c0 : Code := (codeAt (bodyOf Try.f15) [1, 1, 0, 1, 0, 0])
def limelightlaw4_tape_l0 : Lv := ⟨8, 4, [(0, 8)]⟩
noncomputable def limelightlaw4_tape_k0 (rec : CallF) (loop : LoopV) (σ : Stamp) : Exit → Env → H → Option (List C × H) := (kBlock 0 (kSeq G rec loop (codeAt (bodyOf Try.f15) [1, 1, 1]) ⟨4, 4, []⟩ (1 :: 1 :: 0 :: σ) (finC G true Try.f15 (1 :: σ))))
theorem limelightlaw4_tape_entry (rec : CallF) (loop : LoopV) (σ : Stamp) (x0 : Int) (h : H) : cvBody G rec loop 15 σ [(.p (.int .i64 x0))] h =
 (loop limelightlaw4_tape_c0 limelightlaw4_tape_l0 (1 :: 0 :: 1 :: 1 :: 0 :: σ) (envL [(0, (.p (.int .i64 x0))), (3, (.p (.slice .none 0 0))), (4, (.p (.int .i64 0)))]) (List.replicate 25 [] :: h)).bind fun r1 => limelightlaw4_tape_k0 rec loop σ r1.1 r1.2.1 r1.2.2 := by kernel_rfl
theorem limelightlaw4_tape_r0 (rec : CallF) (loop : LoopV) (σ : Stamp) (x0 : Int) (x3 : V) (x4 : Int) (h : H) : cvRound G rec loop limelightlaw4_tape_c0 limelightlaw4_tape_l0 σ (envL [(0, (.p (.int .i64 x0))), (3, x3), (4, (.p (.int .i64 x4)))]) h =
 bif decide (x4 < 400) then (
 (buildSliceV Try.prog 23 1 [(0, (.p (.int .i64 (Int.tmod (IntKind.wrap .i64 ((IntKind.wrap .i64 ((IntKind.wrap .i64 ((IntKind.wrap .i64 (x4 * x4)) * 7)) + (IntKind.wrap .i64 (x0 * 29)))) + (IntKind.wrap .i64 (x4 * x0)))) 211))))]).bind fun t2 =>
 (apO true 1 8 (14 :: 0 :: 1 :: 0 :: σ) 23 h x3 t2).bind fun q3 =>
 loop limelightlaw4_tape_c0 limelightlaw4_tape_l0 (1 :: σ) (envL [(0, (.p (.int .i64 x0))), (3, q3.1), (4, (.p (.int .i64 (IntKind.wrap .i64 (x4 + 1)))))]) q3.2)
 else (
 some ((.exit 0), (envL [(3, x3)]), h)) := by kernel_rfl
theorem limelightlaw4_tape_a0_0 (rec : CallF) (loop : LoopV) (σ : Stamp) (x3 : V) (h : H) : limelightlaw4_tape_k0 rec loop σ (.exit 0) (envL [(3, x3)]) h =
 fin true σ h [x3] := by kernel_rfl
end Go.Ev
/- Lifted by lift.py: limelightlaw4_tape as a plain function. -/
namespace Go.Ev
open Go.Proofs
set_option linter.unusedVariables false
set_option linter.unusedSimpArgs false
set_option maxRecDepth 100000
def p_limelightlaw4_tape_l0 {β : Type} (k : Nat) (kE0 : (List Int) → Option β) (x0 : Int) (x3 : (List Int)) (x4 : Int) : Option β := match k with
| 0 => none
| k + 1 =>
bif decide (x4 < 400) then (
(ap 8 x3 ([(Int.tmod (IntKind.wrap .i64 ((IntKind.wrap .i64 ((IntKind.wrap .i64 ((IntKind.wrap .i64 (x4 * x4)) * 7)) + (IntKind.wrap .i64 (x0 * 29)))) + (IntKind.wrap .i64 (x4 * x0)))) 211)])).bind fun a8 =>
p_limelightlaw4_tape_l0 k kE0 x0 a8 (IntKind.wrap .i64 (x4 + 1)))
else (
kE0 x3)
def p_limelightlaw4_tape (k : Nat) (x0 : Int) : Option ((List Int)) :=
p_limelightlaw4_tape_l0 k (fun r20_3 =>
some (r20_3)) x0 (([] : List Int)) 0
theorem limelightlaw4_tape_l0_ok {h : H}  {β α : Type} {Q : β → α → Prop} {K : Exit × Env × H → Option α} {kE0 : (List Int) → Option β} (hE0 : ∀ (q3 : (List Int)) (v16 : V) (H14 : Go.Ev.H) (_ : Fm 25 h [] [] [⟨[23], v16, (dI .i64), q3⟩] H14), Sim (kE0 q3) (K ((.exit 0), (envL [(3, v16)]), H14)) Q) (k : Nat) : ∀ (x0 : Int) (x3 : (List Int)) (x4 : Int) (v5 : V) (H3 : Go.Ev.H) (_ : Fm 25 h [] [] [⟨[23], v5, (dI .i64), x3⟩] H3) {σ : Stamp}, Sim (p_limelightlaw4_tape_l0 k kE0 x0 x3 x4) ((cvL G X0 limelightlaw4_tape_c0 limelightlaw4_tape_l0 σ (envL [(0, (.p (.int .i64 x0))), (3, v5), (4, (.p (.int .i64 x4)))]) H3).bind K) Q := by
  induction k with
  | zero => intros; exact Sim.no
  | succ k ih =>
    intro x0 x3 x4 v5 H3 S4 σ
    rw [p_limelightlaw4_tape_l0]
    refine Sim.round (Sim.ext (limelightlaw4_tape_r0 _ _ _ _ _ _ _) ?_)
    refine Sim.cd (fun hc => ?_) (fun hc => ?_)
    · have h7 : SlF (dI .i64) [(Int.tmod (IntKind.wrap .i64 ((IntKind.wrap .i64 ((IntKind.wrap .i64 ((IntKind.wrap .i64 (x4 * x4)) * 7)) + (IntKind.wrap .i64 (x0 * 29)))) + (IntKind.wrap .i64 (x4 * x0)))) 211)] (.fz [(.p (.int .i64 (Int.tmod (IntKind.wrap .i64 ((IntKind.wrap .i64 ((IntKind.wrap .i64 ((IntKind.wrap .i64 (x4 * x4)) * 7)) + (IntKind.wrap .i64 (x0 * 29)))) + (IntKind.wrap .i64 (x4 * x0)))) 211)))] 1 1 true) := SlF.lit (cs := [(.p (.int .i64 (Int.tmod (IntKind.wrap .i64 ((IntKind.wrap .i64 ((IntKind.wrap .i64 ((IntKind.wrap .i64 (x4 * x4)) * 7)) + (IntKind.wrap .i64 (x0 * 29)))) + (IntKind.wrap .i64 (x4 * x0)))) 211)))]) (RL.cons (show (dI .i64).R (Int.tmod (IntKind.wrap .i64 ((IntKind.wrap .i64 ((IntKind.wrap .i64 ((IntKind.wrap .i64 (x4 * x4)) * 7)) + (IntKind.wrap .i64 (x0 * 29)))) + (IntKind.wrap .i64 (x4 * x0)))) 211) [(.p (.int .i64 (Int.tmod (IntKind.wrap .i64 ((IntKind.wrap .i64 ((IntKind.wrap .i64 ((IntKind.wrap .i64 (x4 * x4)) * 7)) + (IntKind.wrap .i64 (x0 * 29)))) + (IntKind.wrap .i64 (x4 * x0)))) 211)))] from rfl) RL.nil) rfl rfl true
      refine Sim.op (bldS (pt_cons rfl pt_nil) (by kernel_rfl : _ = some (.fz [(.p (.int .i64 (Int.tmod (IntKind.wrap .i64 ((IntKind.wrap .i64 ((IntKind.wrap .i64 ((IntKind.wrap .i64 (x4 * x4)) * 7)) + (IntKind.wrap .i64 (x0 * 29)))) + (IntKind.wrap .i64 (x4 * x0)))) 211)))] 1 1 true))) ?_
      refine Sim.bd fun a8 h9 => ?_
      obtain ⟨v10, H11, e12, S13⟩ := S4.app (i := 0) (d := 23) (e := 1) (own := true) (σ := (14 :: 0 :: 1 :: 0 :: σ)) rfl (h7.h H3).y h9 rfl (by decide) (by decide) rfl
      refine Sim.op (e12) ?_
      exact ih x0 a8 (IntKind.wrap .i64 (x4 + 1)) v10 H11 (S13.wk2 all_nil (all_cons ⟨[23, 23], by simp, at_mem 0 rfl⟩ all_nil))
    · exact hE0 x3 v5 H3 (S4.wk2 all_nil (all_cons ⟨[23], by simp, at_mem 0 rfl⟩ all_nil))
theorem limelightlaw4_tape_ok (k : Nat) {h : H} {σ : Stamp} (x0 : Int) : Sim (p_limelightlaw4_tape k x0) (ev G X0 15 σ [(.p (.int .i64 x0))] h) (fun r s => ∃ (v0 : V), SlF (dI .i64) r v0 ∧ s = ([.v v0], h)) := by
  refine Sim.ev rfl (Sim.ext (limelightlaw4_tape_entry _ _ _ _ _) ?_)
  rw [p_limelightlaw4_tape]
  have S0 : Fm 25 h [] [] [] (List.replicate 25 [] :: h) := Fm.start0
  have S19 := S0.nil (dI .i64) []
  refine Sim.as (limelightlaw4_tape_l0_ok ?_ k x0 (([] : List Int)) 0 (.p (.slice none 0 0)) (List.replicate 25 [] :: h) (S19.wk2 all_nil (all_cons ⟨[], by simp, at_mem 0 rfl⟩ all_nil))) 
  · intro r20_3 v23 H21 S22
    refine Sim.ext (limelightlaw4_tape_a0_0 _ _ _ _ _) ?_
    obtain ⟨v30, H25, e26, h28, S27⟩ := S22.expFrz (i := 0) (τ := 0 :: 1 :: σ) rfl rfl
    exact Sim.fin (S27.finE (Ex.st e26 Ex.nil)) ⟨v30, h28, rfl⟩
end Go.Ev
/- Lifted by lift.py: limelightlaw4_ExtNumbers as a plain function. -/
namespace Go.Ev
open Go.Proofs
set_option linter.unusedVariables false
set_option linter.unusedSimpArgs false
set_option maxRecDepth 100000
def p_limelightlaw4_ExtNumbers_l1 {β : Type} (k : Nat) (kE0 : Int → (List T_api_Elem) → Option β) (kE1 : Bool → Option β) (x1 : Int) (x3 : (List T_api_Elem)) (x4 : (List T_api_Elem)) (x30 : (List Int)) (x31 : Int) (x32 : Int) : Option β := match k with
| 0 => none
| k + 1 =>
bif decide (x32 < x31) then (
(ix x30 x32).bind fun a57 =>
(p_limelightlaw4_same k a57 x3 (Int.tmod x1 15)).bind fun r60 =>
(bif !r60 then (some true) else ((p_limelightlaw4_same k a57 x4 x1).bind fun r65 =>
some (!r65))).bind fun b70 =>
bif b70 then (bif true then (
kE1 false)
else (
p_limelightlaw4_ExtNumbers_l1 k kE0 kE1 x1 x3 x4 x30 x31 (IntKind.wrap .i64 (x32 + 1)))) else ((ap 32 (([] : List T_api_Elem)) x3).bind fun a77 =>
(ap 32 a77 x4).bind fun a83 =>
(p_limelightlaw4_same k a57 a83 3).bind fun r89 =>
bif !r89 then (
kE1 false)
else (
p_limelightlaw4_ExtNumbers_l1 k kE0 kE1 x1 x3 x4 x30 x31 (IntKind.wrap .i64 (x32 + 1)))))
else (
kE0 x1 x4)
def p_limelightlaw4_ExtNumbers_l3 {β : Type} (k : Nat) (kE0 : Int → Option β) (kE1 : Bool → Option β) (x1 : Int) (x7 : (List Int)) (x9 : Int) : Option β := match k with
| 0 => none
| k + 1 =>
bif decide (x9 < ((x7.length : Int))) then (
(sub x7 0 x9).bind fun a116 =>
(p_limelightlaw4_reads k 4096 a116).bind fun r118 =>
(bif !r118 then (some true) else ((sub x7 x9 ((x7.length : Int))).bind fun a123 =>
(p_limelightlaw4_reads k 48862 a123).bind fun r125 =>
some (!r125))).bind fun b130 =>
bif b130 then (
kE1 false)
else (
p_limelightlaw4_ExtNumbers_l3 k kE0 kE1 x1 x7 (IntKind.wrap .i64 (x9 + 1))))
else (
kE0 x1)
def p_limelightlaw4_ExtNumbers_l0 {β : Type} (k : Nat) (kE0 : Unit → Option β) (kE1 : Bool → Option β) (x1 : Int) : Option β := match k with
| 0 => none
| k + 1 =>
bif decide (x1 < 60) then (
(p_limelightlaw4_tape k x1).bind fun r3 =>
(p_limelightkeep_Tape_Elems k (⟨r3, 0⟩ : T_limelightkeep_Tape) false).bind fun r14 =>
(p_limelightkeep_Tape_Elems k (⟨r14.2.f_L, r14.2.f_At⟩ : T_limelightkeep_Tape) true).bind fun r31 =>
p_limelightlaw4_ExtNumbers_l1 k (fun r100_1 r100_4 =>
(p_limelightref3_Elems k 4096 r100_4).bind fun r105 =>
p_limelightlaw4_ExtNumbers_l3 k (fun r138_1 =>
p_limelightlaw4_ExtNumbers_l0 k kE0 kE1 (IntKind.wrap .i64 (r138_1 + 1))) (fun r141_0 =>
kE1 r141_0) r100_1 r105.1 0) (fun r144_0 =>
kE1 r144_0) x1 r14.1 r31.1 ([48862, 4096, 0, 1]) ((([48862, 4096, 0, 1]).length : Int)) 0)
else (
kE0 ())
def p_limelightlaw4_ExtNumbers_l4 {β : Type} (k : Nat) (kE0 : (List Int) → Int → Int → Option β) (kE1 : Bool → Option β) (x11 : Int) (x83 : (List Int)) (x84 : Int) (x85 : Int) (x89 : (List Int)) (x90 : Int) (x91 : Int) : Option β := match k with
| 0 => none
| k + 1 =>
bif decide (x91 < x90) then (
(ix x89 x91).bind fun a169 =>
(mk 1 0 a169).bind fun a172 =>
(p_limelightlaw4_same k 48862 ([((⟨x11, a172⟩ : T_api_Elem))]) x11).bind fun r180 =>
(bif !r180 then (some true) else ((p_limelightlaw4_same k 4096 ([((⟨x11, a172⟩ : T_api_Elem))]) x11).bind fun r185 =>
some (!r185))).bind fun b190 =>
bif b190 then (
kE1 false)
else (
p_limelightlaw4_ExtNumbers_l4 k kE0 kE1 x11 x83 x84 x85 x89 x90 (IntKind.wrap .i64 (x91 + 1))))
else (
kE0 x83 x84 x85)
def p_limelightlaw4_ExtNumbers_l2 {β : Type} (k : Nat) (kE0 : Unit → Option β) (kE1 : Bool → Option β) (x83 : (List Int)) (x84 : Int) (x85 : Int) : Option β := match k with
| 0 => none
| k + 1 =>
bif decide (x85 < x84) then (
(ix x83 x85).bind fun a159 =>
p_limelightlaw4_ExtNumbers_l4 k (fun r200_83 r200_84 r200_85 =>
p_limelightlaw4_ExtNumbers_l2 k kE0 kE1 r200_83 r200_84 (IntKind.wrap .i64 (r200_85 + 1))) (fun r205_0 =>
kE1 r205_0) a159 x83 x84 x85 ([0, 1, 16, 17, 255, 256]) ((([0, 1, 16, 17, 255, 256]).length : Int)) 0)
else (
kE0 ())
def p_limelightlaw4_ExtNumbers_l5 {β : Type} (k : Nat) (kE0 : Unit → Option β) (kE1 : Bool → Option β) (x15 : (List T_api_Elem)) (x16 : Int) : Option β := match k with
| 0 => none
| k + 1 =>
bif decide (x16 < 10) then (
(p_limelightlaw4_same k 48862 x15 1).bind fun r221 =>
(bif !r221 then (some true) else ((p_limelightlaw4_same k 4096 x15 1).bind fun r226 =>
some (!r226))).bind fun b231 =>
bif b231 then (
kE1 false)
else (
(ap 32 x15 ([((⟨1, ([120])⟩ : T_api_Elem))])).bind fun a237 =>
p_limelightlaw4_ExtNumbers_l5 k kE0 kE1 a237 (IntKind.wrap .i64 (x16 + 1))))
else (
kE0 ())
def p_limelightlaw4_ExtNumbers_l6 {β : Type} (k : Nat) (kE0 : Unit → Option β) (kE1 : Bool → Option β) (x17 : Int) : Option β := match k with
| 0 => none
| k + 1 =>
bif decide (x17 < 256) then (
(p_limelightlaw4_reads k 48862 ([(IntKind.wrap .u8 x17), 97, 98, 0])).bind fun r255 =>
(bif !r255 then (some true) else ((p_limelightlaw4_reads k 4096 ([(IntKind.wrap .u8 x17), 2, 97, 98])).bind fun r261 =>
some (!r261))).bind fun b266 =>
(bif b266 then (some true) else ((p_limelightlaw4_reads k 48862 ([17, 97, (IntKind.wrap .u8 x17), (IntKind.wrap .u8 x17)])).bind fun r271 =>
some (!r271))).bind fun b276 =>
bif b276 then (
kE1 false)
else (
p_limelightlaw4_ExtNumbers_l6 k kE0 kE1 (IntKind.wrap .i64 (x17 + 1))))
else (
kE0 ())
def p_limelightlaw4_ExtNumbers (k : Nat)  : Option (Bool) :=
p_limelightlaw4_ExtNumbers_l0 k (fun (_ : Unit) =>
p_limelightlaw4_ExtNumbers_l2 k (fun (_ : Unit) =>
p_limelightlaw4_ExtNumbers_l5 k (fun (_ : Unit) =>
p_limelightlaw4_ExtNumbers_l6 k (fun (_ : Unit) =>
(p_limelightlaw4_reads k 4096 ([0, 0, 7])).bind fun r288 =>
(bif r288 then ((p_limelightlaw4_known k).bind fun r293 =>
some r293) else (some false)).bind fun b298 =>
some (b298)) (fun r302_0 =>
some (r302_0)) 0) (fun r305_0 =>
some (r305_0)) (([] : List T_api_Elem)) 0) (fun r308_0 =>
some (r308_0)) ([(-1), 0, 1, 14, 15, 255, 256]) ((([(-1), 0, 1, 14, 15, 255, 256]).length : Int)) 0) (fun r311_0 =>
some (r311_0)) 0
theorem limelightlaw4_ExtNumbers_l1_ok {h : H}  {β α : Type} {Q : β → α → Prop} {K : Exit × Env × H → Option α} {kE0 : Int → (List T_api_Elem) → Option β} {kE1 : Bool → Option β} (hE0 : ∀ (q1 : Int) (q4 : (List T_api_Elem)) (v96 : V) (H94 : Go.Ev.H) (_ : Fm 160 h [] [] [⟨[29], v96, dT_api_Elem, q4⟩] H94), Sim (kE0 q1 q4) (K ((.exit 2), (envL [(1, (.p (.int .i64 q1))), (4, v96)]), H94)) Q) (hE1 : ∀ (q0 : Bool) (H98 : Go.Ev.H) (_ : Fm 160 h [] [] [] H98), Sim (kE1 q0) (K (.ret, (envL [(0, (.p (.bool q0)))]), H98)) Q) (k : Nat) : ∀ (x1 : Int) (x3 : (List T_api_Elem)) (x4 : (List T_api_Elem)) (x30 : (List Int)) (x31 : Int) (x32 : Int) (v51 : V) (v53 : V) (v55 : V) (h56 : SlF (dI .u16) x30 v55) (H49 : Go.Ev.H) (_ : Fm 160 h [] [] [⟨[27], v51, dT_api_Elem, x3⟩, ⟨[29], v53, dT_api_Elem, x4⟩] H49) {σ : Stamp}, Sim (p_limelightlaw4_ExtNumbers_l1 k kE0 kE1 x1 x3 x4 x30 x31 x32) ((cvL G X0 limelightlaw4_ExtNumbers_c1 limelightlaw4_ExtNumbers_l1 σ (envL [(1, (.p (.int .i64 x1))), (3, v51), (4, v53), (30, v55), (31, (.p (.int .i64 x31))), (32, (.p (.int .i64 x32)))]) H49).bind K) Q := by
  induction k with
  | zero => intros; exact Sim.no
  | succ k ih =>
    intro x1 x3 x4 x30 x31 x32 v51 v53 v55 h56 H49 S50 σ
    rw [p_limelightlaw4_ExtNumbers_l1]
    refine Sim.round (Sim.ext (limelightlaw4_ExtNumbers_r1 _ _ _ _ _ _ _ _ _ _) ?_)
    refine Sim.cd (fun hc => ?_) (fun hc => ?_)
    · refine Sim.bd fun a57 h58 => ?_
      refine Sim.op ((h56.h H49).iS h58 rfl) ?_
      obtain ⟨_, rfl, hE59⟩ := (h56.h H49).el h58 rfl
      refine Sim.op (hE59.ld (j := 0) rfl) ?_
      refine Sim.op (castI_p _ _) ?_
      refine Sim.call (limelightlaw4_same_ok k a57 x3 (S50.sl (i := 0) rfl) (Int.tmod x1 15)) fun r60 cs61 H62 h63 q64 => ?_
      cases q64
      refine Sim.op (asB_p _) ?_
      refine Sim.ch (P := fun r y => (.p (.bool r), H49) = y) ?_ (fun b70 y71 h72 h73 => ?_)
      · refine Sim.cd (fun hc => ?_) (fun hc => ?_)
        · exact Sim.ret rfl rfl
        · refine Sim.call (limelightlaw4_same_ok k a57 x4 (S50.sl (i := 1) rfl) x1) fun r65 cs66 H67 h68 q69 => ?_
          cases q69
          refine Sim.op (asB_p _) ?_
          exact Sim.ret rfl rfl
      subst h73
      refine Sim.op (asB_p _) ?_
      refine Sim.cdk (fun hc => ?_) (fun hc => ?_)
      · refine Sim.as ?_
        refine Sim.pure ?_
        refine Sim.op (asB_p _) ?_
        refine Sim.cd (fun hc => ?_) (fun hc => ?_)
        · exact hE1 false H49 (S50.wk2 all_nil all_nil)
        · exact ih x1 x3 x4 x30 x31 (IntKind.wrap .i64 (x32 + 1)) v51 v53 v55 h56 H49 (S50.wk2 all_nil (all_cons ⟨[27], by simp, at_mem 0 rfl⟩ (all_cons ⟨[29], by simp, at_mem 1 rfl⟩ all_nil)))
      · refine Sim.as ?_
        have h74 : SlF dT_api_Elem ([] : List T_api_Elem) (.fz [] 0 2 true) := SlF.lit (cs := []) RL.nil rfl rfl true
        refine Sim.op (bldS pt_nil (by kernel_rfl : _ = some (.fz [] 0 2 true))) ?_
        have S76 := S50.nil' dT_api_Elem [] (e := 2) rfl
        refine Sim.bd fun a77 h78 => ?_
        obtain ⟨v79, H80, e81, S82⟩ := S76.app (i := 0) (d := 53) (e := 2) (own := false) (σ := (17 :: 0 :: 1 :: 0 :: 1 :: 1 :: 0 :: σ)) rfl (S76.sl (i := 1) rfl).y h78 rfl (by decide) (by decide) rfl
        refine Sim.op (e81) ?_
        refine Sim.bd fun a83 h84 => ?_
        obtain ⟨v85, H86, e87, S88⟩ := S82.app (i := 0) (d := 55) (e := 2) (own := false) (σ := (19 :: 0 :: 1 :: 0 :: 1 :: 1 :: 0 :: σ)) rfl (S82.sl (i := 2) rfl).y h84 rfl (by decide) (by decide) rfl
        refine Sim.op (e87) ?_
        refine Sim.call (limelightlaw4_same_ok k a57 a83 (S88.sl (i := 0) rfl) 3) fun r89 cs90 H91 h92 q93 => ?_
        cases q93
        refine Sim.op (asB_p _) ?_
        refine Sim.pure ?_
        refine Sim.op (asB_p _) ?_
        refine Sim.cd (fun hc => ?_) (fun hc => ?_)
        · exact hE1 false H86 (S88.wk2 all_nil all_nil)
        · exact ih x1 x3 x4 x30 x31 (IntKind.wrap .i64 (x32 + 1)) v51 v53 v55 h56 H86 (S88.wk2 all_nil (all_cons ⟨[27], by simp, at_mem 1 rfl⟩ (all_cons ⟨[29], by simp, at_mem 2 rfl⟩ all_nil)))
    · exact hE0 x1 x4 v53 H49 (S50.wk2 all_nil (all_cons ⟨[29], by simp, at_mem 1 rfl⟩ all_nil))
theorem limelightlaw4_ExtNumbers_l3_ok {h : H}  {β α : Type} {Q : β → α → Prop} {K : Exit × Env × H → Option α} {kE0 : Int → Option β} {kE1 : Bool → Option β} (hE0 : ∀ (q1 : Int) (H134 : Go.Ev.H) (_ : Fm 160 h [] [] [] H134), Sim (kE0 q1) (K ((.exit 4), (envL [(1, (.p (.int .i64 q1)))]), H134)) Q) (hE1 : ∀ (q0 : Bool) (H136 : Go.Ev.H) (_ : Fm 160 h [] [] [] H136), Sim (kE1 q0) (K (.ret, (envL [(0, (.p (.bool q0)))]), H136)) Q) (k : Nat) : ∀ (x1 : Int) (x7 : (List Int)) (x9 : Int) (v114 : V) (h115 : SlF (dI .u8) x7 v114) (H112 : Go.Ev.H) (_ : Fm 160 h [] [] [] H112) {σ : Stamp}, Sim (p_limelightlaw4_ExtNumbers_l3 k kE0 kE1 x1 x7 x9) ((cvL G X0 limelightlaw4_ExtNumbers_c3 limelightlaw4_ExtNumbers_l3 σ (envL [(1, (.p (.int .i64 x1))), (7, v114), (9, (.p (.int .i64 x9)))]) H112).bind K) Q := by
  induction k with
  | zero => intros; exact Sim.no
  | succ k ih =>
    intro x1 x7 x9 v114 h115 H112 S113 σ
    rw [p_limelightlaw4_ExtNumbers_l3]
    refine Sim.round (Sim.ext (limelightlaw4_ExtNumbers_r3 _ _ _ _ _ _ _) ?_)
    refine Sim.op ((h115.h H112).len) ?_
    refine Sim.op (castI_p _ _) ?_
    refine Sim.cd (fun hc => ?_) (fun hc => ?_)
    · refine Sim.bd fun a116 h117 => ?_
      refine Sim.op ((h115.h H112).slS h117 rfl rfl rfl) ?_
      refine Sim.call (limelightlaw4_reads_ok k 4096 a116 (h115.sub h117 (e := 1) rfl)) fun r118 cs119 H120 h121 q122 => ?_
      cases q122
      refine Sim.op (asB_p _) ?_
      refine Sim.ch (P := fun r y => (.p (.bool r), H112) = y) ?_ (fun b130 y131 h132 h133 => ?_)
      · refine Sim.cd (fun hc => ?_) (fun hc => ?_)
        · exact Sim.ret rfl rfl
        · refine Sim.bd fun a123 h124 => ?_
          refine Sim.op ((h115.h H112).slS h124 rfl rfl rfl) ?_
          refine Sim.call (limelightlaw4_reads_ok k 48862 a123 (h115.sub h124 (e := 1) rfl)) fun r125 cs126 H127 h128 q129 => ?_
          cases q129
          refine Sim.op (asB_p _) ?_
          exact Sim.ret rfl rfl
      subst h133
      refine Sim.op (asB_p _) ?_
      refine Sim.cd (fun hc => ?_) (fun hc => ?_)
      · exact hE1 false H112 (S113.wk2 all_nil all_nil)
      · exact ih x1 x7 (IntKind.wrap .i64 (x9 + 1)) v114 h115 H112 (S113.wk2 all_nil all_nil)
    · exact hE0 x1 H112 (S113.wk2 all_nil all_nil)
theorem limelightlaw4_ExtNumbers_l0_ok {h : H}  {β α : Type} {Q : β → α → Prop} {K : Exit × Env × H → Option α} {kE0 : Unit → Option β} {kE1 : Bool → Option β} (hE0 : ∀ (_u : Unit) (H147 : Go.Ev.H) (_ : Fm 160 h [] [] [] H147), Sim (kE0 ()) (K ((.exit 0), (envL []), H147)) Q) (hE1 : ∀ (q0 : Bool) (H149 : Go.Ev.H) (_ : Fm 160 h [] [] [] H149), Sim (kE1 q0) (K (.ret, (envL [(0, (.p (.bool q0)))]), H149)) Q) (k : Nat) : ∀ (x1 : Int) (H1 : Go.Ev.H) (_ : Fm 160 h [] [] [] H1) {σ : Stamp}, Sim (p_limelightlaw4_ExtNumbers_l0 k kE0 kE1 x1) ((cvL G X0 limelightlaw4_ExtNumbers_c0 limelightlaw4_ExtNumbers_l0 σ (envL [(1, (.p (.int .i64 x1)))]) H1).bind K) Q := by
  induction k with
  | zero => intros; exact Sim.no
  | succ k ih =>
    intro x1 H1 S2 σ
    rw [p_limelightlaw4_ExtNumbers_l0]
    refine Sim.round (Sim.ext (limelightlaw4_ExtNumbers_r0 _ _ _ _ _) ?_)
    refine Sim.cd (fun hc => ?_) (fun hc => ?_)
    · refine Sim.call (limelightlaw4_tape_ok k x1) fun r3 cs4 H5 h6 q7 => ?_
      obtain ⟨v8, h9, q7⟩ := q7
      cases q7
      refine Sim.op (bldV (pt_cons h9.still.cells pt_nil) (by kernel_rfl : _ = some (.agg [v8, .p (.int .i64 0)]))) ?_
      obtain ⟨H10, e11, S12⟩ := S2.box (own := false) (d := 25) (s := (3 :: 0 :: 0 :: 1 :: 0 :: σ)) (xs := [v8, .p (.int .i64 0)]) (stills_cons h9.still (stills_cons (still_int _ _) stills_nil)) (by decide) rfl
      refine Sim.op (e11) ?_
      refine Sim.call (limelightkeep_Tape_Elems_ok k (⟨r3, 0⟩ : T_limelightkeep_Tape) h9 (S12.atG (i := 0) rfl) false) fun r14 cs15 H16 h17 q18 => ?_
      obtain ⟨c19, cs20, v23, h21, h22, h24, q18⟩ := q18
      cases q18
      have S25 := S12.setG (i := 0) (cs' := List.map C.v [v23, (.p (.int .i64 r14.2.f_At))]) rfl rfl rfl
      obtain ⟨v26, H27, e28, S29⟩ := S25.land (dt := dT_api_Elem) (d := 27) (e := 0) (n := 0) h21 h22 (by decide) rfl
      erw [e28]
      refine Sim.call (limelightkeep_Tape_Elems_ok k (⟨r14.2.f_L, r14.2.f_At⟩ : T_limelightkeep_Tape) h24 (S29.atG (i := 0) rfl) true) fun r31 cs32 H33 h34 q35 => ?_
      obtain ⟨c36, cs37, v40, h38, h39, h41, q35⟩ := q35
      cases q35
      have S42 := S29.setG (i := 0) (cs' := List.map C.v [v40, (.p (.int .i64 r31.2.f_At))]) rfl rfl rfl
      obtain ⟨v43, H44, e45, S46⟩ := S42.land (dt := dT_api_Elem) (d := 29) (e := 0) (n := 0) h38 h39 (by decide) rfl
      erw [e45]
      have h48 : SlF (dI .u16) [48862, 4096, 0, 1] (.fz [(.p (.int .u16 48862)), (.p (.int .u16 4096)), (.p (.int .u16 0)), (.p (.int .u16 1))] 4 1 true) := SlF.lit (cs := [(.p (.int .u16 48862)), (.p (.int .u16 4096)), (.p (.int .u16 0)), (.p (.int .u16 1))]) (RL.cons (show (dI .u16).R 48862 [(.p (.int .u16 48862))] from rfl) (RL.cons (show (dI .u16).R 4096 [(.p (.int .u16 4096))] from rfl) (RL.cons (show (dI .u16).R 0 [(.p (.int .u16 0))] from rfl) (RL.cons (show (dI .u16).R 1 [(.p (.int .u16 1))] from rfl) RL.nil)))) rfl rfl true
      refine Sim.op (bldS (pt_cons rfl (pt_cons rfl (pt_cons rfl (pt_cons rfl pt_nil)))) (by kernel_rfl : _ = some (.fz [(.p (.int .u16 48862)), (.p (.int .u16 4096)), (.p (.int .u16 0)), (.p (.int .u16 1))] 4 1 true))) ?_
      refine Sim.op ((h48.h H44).len) ?_
      refine Sim.op (castI_p _ _) ?_
      refine Sim.as (limelightlaw4_ExtNumbers_l1_ok ?_ ?_ k x1 r14.1 r31.1 ([48862, 4096, 0, 1]) ((([48862, 4096, 0, 1]).length : Int)) 0 v26 v43 (.fz [(.p (.int .u16 48862)), (.p (.int .u16 4096)), (.p (.int .u16 0)), (.p (.int .u16 1))] 4 1 true) h48 H44 (S46.wk2 all_nil (all_cons ⟨[27], by simp, at_mem 1 rfl⟩ (all_cons ⟨[29], by simp, at_mem 0 rfl⟩ all_nil)))) 
      · intro r100_1 r100_4 v103 H101 S102
        refine Sim.ext (limelightlaw4_ExtNumbers_a1_2 _ _ _ _ _ _) ?_
        refine Sim.call (limelightref3_Elems_ok k 4096 r100_4 (S102.sl (i := 0) rfl)) fun r105 cs106 H107 h108 q109 => ?_
        obtain ⟨v110, h111, q109⟩ := q109
        cases q109
        refine Sim.op (rfl) ?_
        refine Sim.op (rfl) ?_
        refine Sim.op (castI_p _ _) ?_
        refine Sim.as (limelightlaw4_ExtNumbers_l3_ok ?_ ?_ k r100_1 r105.1 0 v110 h111 H101 (S102.wk2 all_nil all_nil)) 
        · intro r138_1 H139 S140
          refine Sim.ext (limelightlaw4_ExtNumbers_a3_4 _ _ _ _ _) ?_
          exact ih (IntKind.wrap .i64 (r138_1 + 1)) H139 (S140.wk2 all_nil all_nil)
        · intro r141_0 H142 S143
          refine Sim.ext (limelightlaw4_ExtNumbers_a3_ret _ _ _ _ _) ?_
          exact hE1 r141_0 H142 (S143.wk2 all_nil all_nil)
      · intro r144_0 H145 S146
        refine Sim.ext (limelightlaw4_ExtNumbers_a1_ret _ _ _ _ _) ?_
        exact hE1 r144_0 H145 (S146.wk2 all_nil all_nil)
    · exact hE0 () H1 (S2.wk2 all_nil all_nil)
theorem limelightlaw4_ExtNumbers_l4_ok {h : H}  {β α : Type} {Q : β → α → Prop} {K : Exit × Env × H → Option α} {kE0 : (List Int) → Int → Int → Option β} {kE1 : Bool → Option β} (hE0 : ∀ (q83 : (List Int)) (q84 : Int) (q85 : Int) (v196 : V) (h197 : SlF (dI .i64) q83 v196) (H194 : Go.Ev.H) (_ : Fm 160 h [] [] [] H194), Sim (kE0 q83 q84 q85) (K ((.exit 8), (envL [(83, v196), (84, (.p (.int .i64 q84))), (85, (.p (.int .i64 q85)))]), H194)) Q) (hE1 : ∀ (q0 : Bool) (H198 : Go.Ev.H) (_ : Fm 160 h [] [] [] H198), Sim (kE1 q0) (K (.ret, (envL [(0, (.p (.bool q0)))]), H198)) Q) (k : Nat) : ∀ (x11 : Int) (x83 : (List Int)) (x84 : Int) (x85 : Int) (x89 : (List Int)) (x90 : Int) (x91 : Int) (v165 : V) (h166 : SlF (dI .i64) x83 v165) (v167 : V) (h168 : SlF (dI .i64) x89 v167) (H163 : Go.Ev.H) (_ : Fm 160 h [] [] [] H163) {σ : Stamp}, Sim (p_limelightlaw4_ExtNumbers_l4 k kE0 kE1 x11 x83 x84 x85 x89 x90 x91) ((cvL G X0 limelightlaw4_ExtNumbers_c4 limelightlaw4_ExtNumbers_l4 σ (envL [(11, (.p (.int .i64 x11))), (83, v165), (84, (.p (.int .i64 x84))), (85, (.p (.int .i64 x85))), (89, v167), (90, (.p (.int .i64 x90))), (91, (.p (.int .i64 x91)))]) H163).bind K) Q := by
  induction k with
  | zero => intros; exact Sim.no
  | succ k ih =>
    intro x11 x83 x84 x85 x89 x90 x91 v165 h166 v167 h168 H163 S164 σ
    rw [p_limelightlaw4_ExtNumbers_l4]
    refine Sim.round (Sim.ext (limelightlaw4_ExtNumbers_r4 _ _ _ _ _ _ _ _ _ _ _) ?_)
    refine Sim.cd (fun hc => ?_) (fun hc => ?_)
    · refine Sim.bd fun a169 h170 => ?_
      refine Sim.op ((h168.h H163).iS h170 rfl) ?_
      obtain ⟨_, rfl, hE171⟩ := (h168.h H163).el h170 rfl
      refine Sim.op (hE171.ld (j := 0) rfl) ?_
      refine Sim.op (castI_p _ _) ?_
      refine Sim.bd fun a172 h173 => ?_
      obtain ⟨v174, H175, e176, h178, S177⟩ := S164.mkF (dt := (dI .u8)) (d := 97) (e := 1) (zv := [(.p (.int .u8 0))]) (σ := (2 :: 0 :: 1 :: 0 :: 1 :: 1 :: 0 :: σ)) h173 rfl rfl (by decide) (by decide) rfl
      refine Sim.op (e176) ?_
      refine Sim.op (bldV (pt_cons rfl (pt_cons h178.still.cells pt_nil)) (by kernel_rfl : _ = some (.agg [.p (.int .i64 x11), v174]))) ?_
      have h179 : SlF dT_api_Elem [((⟨x11, a172⟩ : T_api_Elem))] (.fz [(.p (.int .i64 x11)), v174] 1 2 true) := SlF.lit (cs := [(.p (.int .i64 x11)), v174]) (RL.cons (show dT_api_Elem.R ((⟨x11, a172⟩ : T_api_Elem)) [.p (.int .i64 x11), v174] from (dT_api_Elem.mk h178)) RL.nil) rfl rfl true
      refine Sim.op (bldS (pt_cons (c := [.p (.int .i64 x11), v174]) rfl pt_nil) (by kernel_rfl : _ = some (.fz [(.p (.int .i64 x11)), v174] 1 2 true))) ?_
      refine Sim.call (limelightlaw4_same_ok k 48862 ([((⟨x11, a172⟩ : T_api_Elem))]) (h179.h H175) x11) fun r180 cs181 H182 h183 q184 => ?_
      cases q184
      refine Sim.op (asB_p _) ?_
      refine Sim.ch (P := fun r y => (.p (.bool r), H175) = y) ?_ (fun b190 y191 h192 h193 => ?_)
      · refine Sim.cd (fun hc => ?_) (fun hc => ?_)
        · exact Sim.ret rfl rfl
        · refine Sim.call (limelightlaw4_same_ok k 4096 ([((⟨x11, a172⟩ : T_api_Elem))]) (h179.h H175) x11) fun r185 cs186 H187 h188 q189 => ?_
          cases q189
          refine Sim.op (asB_p _) ?_
          exact Sim.ret rfl rfl
      subst h193
      refine Sim.op (asB_p _) ?_
      refine Sim.cd (fun hc => ?_) (fun hc => ?_)
      · exact hE1 false H175 (S177.wk2 all_nil all_nil)
      · exact ih x11 x83 x84 x85 x89 x90 (IntKind.wrap .i64 (x91 + 1)) v165 h166 v167 h168 H175 (S177.wk2 all_nil all_nil)
    · exact hE0 x83 x84 x85 v165 h166 H163 (S164.wk2 all_nil all_nil)
theorem limelightlaw4_ExtNumbers_l2_ok {h : H}  {β α : Type} {Q : β → α → Prop} {K : Exit × Env × H → Option α} {kE0 : Unit → Option β} {kE1 : Bool → Option β} (hE0 : ∀ (_u : Unit) (H208 : Go.Ev.H) (_ : Fm 160 h [] [] [] H208), Sim (kE0 ()) (K ((.exit 6), (envL []), H208)) Q) (hE1 : ∀ (q0 : Bool) (H210 : Go.Ev.H) (_ : Fm 160 h [] [] [] H210), Sim (kE1 q0) (K (.ret, (envL [(0, (.p (.bool q0)))]), H210)) Q) (k : Nat) : ∀ (x83 : (List Int)) (x84 : Int) (x85 : Int) (v157 : V) (h158 : SlF (dI .i64) x83 v157) (H155 : Go.Ev.H) (_ : Fm 160 h [] [] [] H155) {σ : Stamp}, Sim (p_limelightlaw4_ExtNumbers_l2 k kE0 kE1 x83 x84 x85) ((cvL G X0 limelightlaw4_ExtNumbers_c2 limelightlaw4_ExtNumbers_l2 σ (envL [(83, v157), (84, (.p (.int .i64 x84))), (85, (.p (.int .i64 x85)))]) H155).bind K) Q := by
  induction k with
  | zero => intros; exact Sim.no
  | succ k ih =>
    intro x83 x84 x85 v157 h158 H155 S156 σ
    rw [p_limelightlaw4_ExtNumbers_l2]
    refine Sim.round (Sim.ext (limelightlaw4_ExtNumbers_r2 _ _ _ _ _ _ _) ?_)
    refine Sim.cd (fun hc => ?_) (fun hc => ?_)
    · refine Sim.bd fun a159 h160 => ?_
      refine Sim.op ((h158.h H155).iS h160 rfl) ?_
      obtain ⟨_, rfl, hE161⟩ := (h158.h H155).el h160 rfl
      refine Sim.op (hE161.ld (j := 0) rfl) ?_
      refine Sim.op (castI_p _ _) ?_
      have h162 : SlF (dI .i64) [0, 1, 16, 17, 255, 256] (.fz [(.p (.int .i64 0)), (.p (.int .i64 1)), (.p (.int .i64 16)), (.p (.int .i64 17)), (.p (.int .i64 255)), (.p (.int .i64 256))] 6 1 true) := SlF.lit (cs := [(.p (.int .i64 0)), (.p (.int .i64 1)), (.p (.int .i64 16)), (.p (.int .i64 17)), (.p (.int .i64 255)), (.p (.int .i64 256))]) (RL.cons (show (dI .i64).R 0 [(.p (.int .i64 0))] from rfl) (RL.cons (show (dI .i64).R 1 [(.p (.int .i64 1))] from rfl) (RL.cons (show (dI .i64).R 16 [(.p (.int .i64 16))] from rfl) (RL.cons (show (dI .i64).R 17 [(.p (.int .i64 17))] from rfl) (RL.cons (show (dI .i64).R 255 [(.p (.int .i64 255))] from rfl) (RL.cons (show (dI .i64).R 256 [(.p (.int .i64 256))] from rfl) RL.nil)))))) rfl rfl true
      refine Sim.op (bldS (pt_cons rfl (pt_cons rfl (pt_cons rfl (pt_cons rfl (pt_cons rfl (pt_cons rfl pt_nil)))))) (by kernel_rfl : _ = some (.fz [(.p (.int .i64 0)), (.p (.int .i64 1)), (.p (.int .i64 16)), (.p (.int .i64 17)), (.p (.int .i64 255)), (.p (.int .i64 256))] 6 1 true))) ?_
      refine Sim.op ((h162.h H155).len) ?_
      refine Sim.op (castI_p _ _) ?_
      refine Sim.as (limelightlaw4_ExtNumbers_l4_ok ?_ ?_ k a159 x83 x84 x85 ([0, 1, 16, 17, 255, 256]) ((([0, 1, 16, 17, 255, 256]).length : Int)) 0 v157 h158 (.fz [(.p (.int .i64 0)), (.p (.int .i64 1)), (.p (.int .i64 16)), (.p (.int .i64 17)), (.p (.int .i64 255)), (.p (.int .i64 256))] 6 1 true) h162 H155 (S156.wk2 all_nil all_nil)) 
      · intro r200_83 r200_84 r200_85 v203 h204 H201 S202
        refine Sim.ext (limelightlaw4_ExtNumbers_a4_8 _ _ _ _ _ _ _) ?_
        exact ih r200_83 r200_84 (IntKind.wrap .i64 (r200_85 + 1)) v203 h204 H201 (S202.wk2 all_nil all_nil)
      · intro r205_0 H206 S207
        refine Sim.ext (limelightlaw4_ExtNumbers_a4_ret _ _ _ _ _) ?_
        exact hE1 r205_0 H206 (S207.wk2 all_nil all_nil)
    · exact hE0 () H155 (S156.wk2 all_nil all_nil)
theorem limelightlaw4_ExtNumbers_l5_ok {h : H}  {β α : Type} {Q : β → α → Prop} {K : Exit × Env × H → Option α} {kE0 : Unit → Option β} {kE1 : Bool → Option β} (hE0 : ∀ (_u : Unit) (H243 : Go.Ev.H) (_ : Fm 160 h [] [] [] H243), Sim (kE0 ()) (K ((.exit 10), (envL []), H243)) Q) (hE1 : ∀ (q0 : Bool) (H245 : Go.Ev.H) (_ : Fm 160 h [] [] [] H245), Sim (kE1 q0) (K (.ret, (envL [(0, (.p (.bool q0)))]), H245)) Q) (k : Nat) : ∀ (x15 : (List T_api_Elem)) (x16 : Int) (v219 : V) (H217 : Go.Ev.H) (_ : Fm 160 h [] [] [⟨[129], v219, dT_api_Elem, x15⟩] H217) {σ : Stamp}, Sim (p_limelightlaw4_ExtNumbers_l5 k kE0 kE1 x15 x16) ((cvL G X0 limelightlaw4_ExtNumbers_c5 limelightlaw4_ExtNumbers_l5 σ (envL [(15, v219), (16, (.p (.int .i64 x16)))]) H217).bind K) Q := by
  induction k with
  | zero => intros; exact Sim.no
  | succ k ih =>
    intro x15 x16 v219 H217 S218 σ
    rw [p_limelightlaw4_ExtNumbers_l5]
    refine Sim.round (Sim.ext (limelightlaw4_ExtNumbers_r5 _ _ _ _ _ _) ?_)
    refine Sim.cd (fun hc => ?_) (fun hc => ?_)
    · refine Sim.call (limelightlaw4_same_ok k 48862 x15 (S218.sl (i := 0) rfl) 1) fun r221 cs222 H223 h224 q225 => ?_
      cases q225
      refine Sim.op (asB_p _) ?_
      refine Sim.ch (P := fun r y => (.p (.bool r), H217) = y) ?_ (fun b231 y232 h233 h234 => ?_)
      · refine Sim.cd (fun hc => ?_) (fun hc => ?_)
        · exact Sim.ret rfl rfl
        · refine Sim.call (limelightlaw4_same_ok k 4096 x15 (S218.sl (i := 0) rfl) 1) fun r226 cs227 H228 h229 q230 => ?_
          cases q230
          refine Sim.op (asB_p _) ?_
          exact Sim.ret rfl rfl
      subst h234
      refine Sim.op (asB_p _) ?_
      refine Sim.cd (fun hc => ?_) (fun hc => ?_)
      · exact hE1 false H217 (S218.wk2 all_nil all_nil)
      · have h235 : SlF (dI .u8) [120] (.fz [(.p (.int .u8 120))] 1 1 true) := SlF.lit (cs := [(.p (.int .u8 120))]) (RL.cons (show (dI .u8).R 120 [(.p (.int .u8 120))] from rfl) RL.nil) rfl rfl true
        refine Sim.op (bldS (pt_cons rfl pt_nil) (by kernel_rfl : _ = some (.fz [(.p (.int .u8 120))] 1 1 true))) ?_
        refine Sim.op (rfl) ?_
        refine Sim.op (bldV (pt_cons rfl (pt_cons h235.still.cells pt_nil)) (by kernel_rfl : _ = some (.agg [.p (.int .i64 1), .fz [(.p (.int .u8 120))] 1 1 true]))) ?_
        have h236 : SlF dT_api_Elem [((⟨1, ([120])⟩ : T_api_Elem))] (.fz [(.p (.int .i64 1)), (.fz [(.p (.int .u8 120))] 1 1 true)] 1 2 true) := SlF.lit (cs := [(.p (.int .i64 1)), (.fz [(.p (.int .u8 120))] 1 1 true)]) (RL.cons (show dT_api_Elem.R ((⟨1, ([120])⟩ : T_api_Elem)) [.p (.int .i64 1), .fz [(.p (.int .u8 120))] 1 1 true] from (dT_api_Elem.mk h235)) RL.nil) rfl rfl true
        refine Sim.op (bldS (pt_cons (c := [.p (.int .i64 1), .fz [(.p (.int .u8 120))] 1 1 true]) rfl pt_nil) (by kernel_rfl : _ = some (.fz [(.p (.int .i64 1)), (.fz [(.p (.int .u8 120))] 1 1 true)] 1 2 true))) ?_
        refine Sim.bd fun a237 h238 => ?_
        obtain ⟨v239, H240, e241, S242⟩ := S218.app (i := 0) (d := 129) (e := 2) (own := false) (σ := (5 :: 1 :: 0 :: 1 :: 0 :: σ)) rfl (h236.h H217).y h238 rfl (by decide) (by decide) rfl
        refine Sim.op (e241) ?_
        exact ih a237 (IntKind.wrap .i64 (x16 + 1)) v239 H240 (S242.wk2 all_nil (all_cons ⟨[129, 129], by simp, at_mem 0 rfl⟩ all_nil))
    · exact hE0 () H217 (S218.wk2 all_nil all_nil)
theorem limelightlaw4_ExtNumbers_l6_ok {h : H}  {β α : Type} {Q : β → α → Prop} {K : Exit × Env × H → Option α} {kE0 : Unit → Option β} {kE1 : Bool → Option β} (hE0 : ∀ (_u : Unit) (H280 : Go.Ev.H) (_ : Fm 160 h [] [] [] H280), Sim (kE0 ()) (K ((.exit 12), (envL []), H280)) Q) (hE1 : ∀ (q0 : Bool) (H282 : Go.Ev.H) (_ : Fm 160 h [] [] [] H282), Sim (kE1 q0) (K (.ret, (envL [(0, (.p (.bool q0)))]), H282)) Q) (k : Nat) : ∀ (x17 : Int) (H252 : Go.Ev.H) (_ : Fm 160 h [] [] [] H252) {σ : Stamp}, Sim (p_limelightlaw4_ExtNumbers_l6 k kE0 kE1 x17) ((cvL G X0 limelightlaw4_ExtNumbers_c6 limelightlaw4_ExtNumbers_l6 σ (envL [(17, (.p (.int .i64 x17)))]) H252).bind K) Q := by
  induction k with
  | zero => intros; exact Sim.no
  | succ k ih =>
    intro x17 H252 S253 σ
    rw [p_limelightlaw4_ExtNumbers_l6]
    refine Sim.round (Sim.ext (limelightlaw4_ExtNumbers_r6 _ _ _ _ _) ?_)
    refine Sim.cd (fun hc => ?_) (fun hc => ?_)
    · have h254 : SlF (dI .u8) [(IntKind.wrap .u8 x17), 97, 98, 0] (.fz [(.p (.int .u8 (IntKind.wrap .u8 x17))), (.p (.int .u8 97)), (.p (.int .u8 98)), (.p (.int .u8 0))] 4 1 true) := SlF.lit (cs := [(.p (.int .u8 (IntKind.wrap .u8 x17))), (.p (.int .u8 97)), (.p (.int .u8 98)), (.p (.int .u8 0))]) (RL.cons (show (dI .u8).R (IntKind.wrap .u8 x17) [(.p (.int .u8 (IntKind.wrap .u8 x17)))] from rfl) (RL.cons (show (dI .u8).R 97 [(.p (.int .u8 97))] from rfl) (RL.cons (show (dI .u8).R 98 [(.p (.int .u8 98))] from rfl) (RL.cons (show (dI .u8).R 0 [(.p (.int .u8 0))] from rfl) RL.nil)))) rfl rfl true
      refine Sim.op (bldS (pt_cons rfl (pt_cons rfl (pt_cons rfl (pt_cons rfl pt_nil)))) (by kernel_rfl : _ = some (.fz [(.p (.int .u8 (IntKind.wrap .u8 x17))), (.p (.int .u8 97)), (.p (.int .u8 98)), (.p (.int .u8 0))] 4 1 true))) ?_
      refine Sim.call (limelightlaw4_reads_ok k 48862 ([(IntKind.wrap .u8 x17), 97, 98, 0]) h254) fun r255 cs256 H257 h258 q259 => ?_
      cases q259
      refine Sim.op (asB_p _) ?_
      refine Sim.ch (P := fun r y => (.p (.bool r), H252) = y) ?_ (fun b266 y267 h268 h269 => ?_)
      · refine Sim.cd (fun hc => ?_) (fun hc => ?_)
        · exact Sim.ret rfl rfl
        · have h260 : SlF (dI .u8) [(IntKind.wrap .u8 x17), 2, 97, 98] (.fz [(.p (.int .u8 (IntKind.wrap .u8 x17))), (.p (.int .u8 2)), (.p (.int .u8 97)), (.p (.int .u8 98))] 4 1 true) := SlF.lit (cs := [(.p (.int .u8 (IntKind.wrap .u8 x17))), (.p (.int .u8 2)), (.p (.int .u8 97)), (.p (.int .u8 98))]) (RL.cons (show (dI .u8).R (IntKind.wrap .u8 x17) [(.p (.int .u8 (IntKind.wrap .u8 x17)))] from rfl) (RL.cons (show (dI .u8).R 2 [(.p (.int .u8 2))] from rfl) (RL.cons (show (dI .u8).R 97 [(.p (.int .u8 97))] from rfl) (RL.cons (show (dI .u8).R 98 [(.p (.int .u8 98))] from rfl) RL.nil)))) rfl rfl true
          refine Sim.op (bldS (pt_cons rfl (pt_cons rfl (pt_cons rfl (pt_cons rfl pt_nil)))) (by kernel_rfl : _ = some (.fz [(.p (.int .u8 (IntKind.wrap .u8 x17))), (.p (.int .u8 2)), (.p (.int .u8 97)), (.p (.int .u8 98))] 4 1 true))) ?_
          refine Sim.call (limelightlaw4_reads_ok k 4096 ([(IntKind.wrap .u8 x17), 2, 97, 98]) h260) fun r261 cs262 H263 h264 q265 => ?_
          cases q265
          refine Sim.op (asB_p _) ?_
          exact Sim.ret rfl rfl
      subst h269
      refine Sim.op (asB_p _) ?_
      refine Sim.ch (P := fun r y => (.p (.bool r), H252) = y) ?_ (fun b276 y277 h278 h279 => ?_)
      · refine Sim.cd (fun hc => ?_) (fun hc => ?_)
        · exact Sim.ret rfl rfl
        · have h270 : SlF (dI .u8) [17, 97, (IntKind.wrap .u8 x17), (IntKind.wrap .u8 x17)] (.fz [(.p (.int .u8 17)), (.p (.int .u8 97)), (.p (.int .u8 (IntKind.wrap .u8 x17))), (.p (.int .u8 (IntKind.wrap .u8 x17)))] 4 1 true) := SlF.lit (cs := [(.p (.int .u8 17)), (.p (.int .u8 97)), (.p (.int .u8 (IntKind.wrap .u8 x17))), (.p (.int .u8 (IntKind.wrap .u8 x17)))]) (RL.cons (show (dI .u8).R 17 [(.p (.int .u8 17))] from rfl) (RL.cons (show (dI .u8).R 97 [(.p (.int .u8 97))] from rfl) (RL.cons (show (dI .u8).R (IntKind.wrap .u8 x17) [(.p (.int .u8 (IntKind.wrap .u8 x17)))] from rfl) (RL.cons (show (dI .u8).R (IntKind.wrap .u8 x17) [(.p (.int .u8 (IntKind.wrap .u8 x17)))] from rfl) RL.nil)))) rfl rfl true
          refine Sim.op (bldS (pt_cons rfl (pt_cons rfl (pt_cons rfl (pt_cons rfl pt_nil)))) (by kernel_rfl : _ = some (.fz [(.p (.int .u8 17)), (.p (.int .u8 97)), (.p (.int .u8 (IntKind.wrap .u8 x17))), (.p (.int .u8 (IntKind.wrap .u8 x17)))] 4 1 true))) ?_
          refine Sim.call (limelightlaw4_reads_ok k 48862 ([17, 97, (IntKind.wrap .u8 x17), (IntKind.wrap .u8 x17)]) h270) fun r271 cs272 H273 h274 q275 => ?_
          cases q275
          refine Sim.op (asB_p _) ?_
          exact Sim.ret rfl rfl
      subst h279
      refine Sim.op (asB_p _) ?_
      refine Sim.cd (fun hc => ?_) (fun hc => ?_)
      · exact hE1 false H252 (S253.wk2 all_nil all_nil)
      · exact ih (IntKind.wrap .i64 (x17 + 1)) H252 (S253.wk2 all_nil all_nil)
    · exact hE0 () H252 (S253.wk2 all_nil all_nil)
theorem limelightlaw4_ExtNumbers_ok (k : Nat) {h : H} {σ : Stamp}  : Sim (p_limelightlaw4_ExtNumbers k ) (ev G X0 3 σ [] h) (fun r s => s = ([.v (.p (.bool r))], h)) := by
  refine Sim.ev rfl (Sim.ext (limelightlaw4_ExtNumbers_entry _ _ _ _) ?_)
  rw [p_limelightlaw4_ExtNumbers]
  have S0 : Fm 160 h [] [] [] (List.replicate 160 [] :: h) := Fm.start0
  refine Sim.as (limelightlaw4_ExtNumbers_l0_ok ?_ ?_ k 0 (List.replicate 160 [] :: h) (S0.wk2 all_nil all_nil)) 
  · intro _u H152 S153
    refine Sim.ext (limelightlaw4_ExtNumbers_a0_0 _ _ _ _) ?_
    have h154 : SlF (dI .i64) [(-1), 0, 1, 14, 15, 255, 256] (.fz [(.p (.int .i64 (-1))), (.p (.int .i64 0)), (.p (.int .i64 1)), (.p (.int .i64 14)), (.p (.int .i64 15)), (.p (.int .i64 255)), (.p (.int .i64 256))] 7 1 true) := SlF.lit (cs := [(.p (.int .i64 (-1))), (.p (.int .i64 0)), (.p (.int .i64 1)), (.p (.int .i64 14)), (.p (.int .i64 15)), (.p (.int .i64 255)), (.p (.int .i64 256))]) (RL.cons (show (dI .i64).R (-1) [(.p (.int .i64 (-1)))] from rfl) (RL.cons (show (dI .i64).R 0 [(.p (.int .i64 0))] from rfl) (RL.cons (show (dI .i64).R 1 [(.p (.int .i64 1))] from rfl) (RL.cons (show (dI .i64).R 14 [(.p (.int .i64 14))] from rfl) (RL.cons (show (dI .i64).R 15 [(.p (.int .i64 15))] from rfl) (RL.cons (show (dI .i64).R 255 [(.p (.int .i64 255))] from rfl) (RL.cons (show (dI .i64).R 256 [(.p (.int .i64 256))] from rfl) RL.nil))))))) rfl rfl true
    refine Sim.op (bldS (pt_cons rfl (pt_cons rfl (pt_cons rfl (pt_cons rfl (pt_cons rfl (pt_cons rfl (pt_cons rfl pt_nil))))))) (by kernel_rfl : _ = some (.fz [(.p (.int .i64 (-1))), (.p (.int .i64 0)), (.p (.int .i64 1)), (.p (.int .i64 14)), (.p (.int .i64 15)), (.p (.int .i64 255)), (.p (.int .i64 256))] 7 1 true))) ?_
    refine Sim.op ((h154.h H152).len) ?_
    refine Sim.op (castI_p _ _) ?_
    refine Sim.as (limelightlaw4_ExtNumbers_l2_ok ?_ ?_ k ([(-1), 0, 1, 14, 15, 255, 256]) ((([(-1), 0, 1, 14, 15, 255, 256]).length : Int)) 0 (.fz [(.p (.int .i64 (-1))), (.p (.int .i64 0)), (.p (.int .i64 1)), (.p (.int .i64 14)), (.p (.int .i64 15)), (.p (.int .i64 255)), (.p (.int .i64 256))] 7 1 true) h154 H152 (S153.wk2 all_nil all_nil)) 
    · intro _u H213 S214
      refine Sim.ext (limelightlaw4_ExtNumbers_a2_6 _ _ _ _) ?_
      have S248 := S214.nil dT_api_Elem []
      refine Sim.as (limelightlaw4_ExtNumbers_l5_ok ?_ ?_ k (([] : List T_api_Elem)) 0 (.p (.slice none 0 0)) H213 (S248.wk2 all_nil (all_cons ⟨[], by simp, at_mem 0 rfl⟩ all_nil))) 
      · intro _u H250 S251
        refine Sim.ext (limelightlaw4_ExtNumbers_a5_10 _ _ _ _) ?_
        refine Sim.as (limelightlaw4_ExtNumbers_l6_ok ?_ ?_ k 0 H250 (S251.wk2 all_nil all_nil)) 
        · intro _u H285 S286
          refine Sim.ext (limelightlaw4_ExtNumbers_a6_12 _ _ _ _) ?_
          have h287 : SlF (dI .u8) [0, 0, 7] (.fz [(.p (.int .u8 0)), (.p (.int .u8 0)), (.p (.int .u8 7))] 3 1 true) := SlF.lit (cs := [(.p (.int .u8 0)), (.p (.int .u8 0)), (.p (.int .u8 7))]) (RL.cons (show (dI .u8).R 0 [(.p (.int .u8 0))] from rfl) (RL.cons (show (dI .u8).R 0 [(.p (.int .u8 0))] from rfl) (RL.cons (show (dI .u8).R 7 [(.p (.int .u8 7))] from rfl) RL.nil))) rfl rfl true
          refine Sim.op (bldS (pt_cons rfl (pt_cons rfl (pt_cons rfl pt_nil))) (by kernel_rfl : _ = some (.fz [(.p (.int .u8 0)), (.p (.int .u8 0)), (.p (.int .u8 7))] 3 1 true))) ?_
          refine Sim.call (limelightlaw4_reads_ok k 4096 ([0, 0, 7]) h287) fun r288 cs289 H290 h291 q292 => ?_
          cases q292
          refine Sim.op (asB_p _) ?_
          refine Sim.ch (P := fun r y => (.p (.bool r), H285) = y) ?_ (fun b298 y299 h300 h301 => ?_)
          · refine Sim.cd (fun hc => ?_) (fun hc => ?_)
            · refine Sim.call (limelightlaw4_known_ok k ) fun r293 cs294 H295 h296 q297 => ?_
              cases q297
              refine Sim.op (asB_p _) ?_
              exact Sim.ret rfl rfl
            · exact Sim.ret rfl rfl
          subst h301
          refine Sim.op (asB_p _) ?_
          exact Sim.fin (S286.finN (lv_cons (still_bool _).lv lv_nil)) rfl
        · intro r302_0 H303 S304
          refine Sim.ext (limelightlaw4_ExtNumbers_a6_ret _ _ _ _ _) ?_
          exact Sim.fin (S304.finN (lv_cons (still_bool _).lv lv_nil)) rfl
      · intro r305_0 H306 S307
        refine Sim.ext (limelightlaw4_ExtNumbers_a5_ret _ _ _ _ _) ?_
        exact Sim.fin (S307.finN (lv_cons (still_bool _).lv lv_nil)) rfl
    · intro r308_0 H309 S310
      refine Sim.ext (limelightlaw4_ExtNumbers_a2_ret _ _ _ _ _) ?_
      exact Sim.fin (S310.finN (lv_cons (still_bool _).lv lv_nil)) rfl
  · intro r311_0 H312 S313
    refine Sim.ext (limelightlaw4_ExtNumbers_a0_ret _ _ _ _ _) ?_
    exact Sim.fin (S313.finN (lv_cons (still_bool _).lv lv_nil)) rfl
end Go.Ev
/- Words for plain proofs about the lifted functions: when they answer, and what. -/
namespace Go.Ev
theorem ix_at {α : Type} {xs : List α} {i : Nat} {x : α} (h : xs[i]? = some x) : ix xs (i : Int) = some x := by
  unfold ix; rw [if_pos (by omega)]; simpa using h
theorem ix_mid {α : Type} {xs ys : List α} {x : α} : ix (xs ++ x :: ys) (xs.length : Int) = some x := ix_at (by simp)
theorem ix_mid' {α : Type} {l xs ys : List α} {x : α} {i : Int} (hl : l = xs ++ x :: ys) (hi : i = xs.length) : ix l i = some x := by subst hl; subst hi; exact ix_mid
theorem ap_eq {α : Type} {b : Nat} {xs ys : List α} (hb : b ≤ 64) (h : xs.length + ys.length < 2 ^ 40) : ap b xs ys = some (xs ++ ys) := by
  unfold ap
  refine if_pos ⟨?_, by omega⟩
  have : (xs.length + ys.length) * b ≤ (xs.length + ys.length) * 64 := Nat.mul_le_mul_left _ hb
  omega
theorem clone_eq {α : Type} {b : Nat} {xs : List α} (hb : b ≤ 64) (h : xs.length < 2 ^ 40) : p_clone b xs = some xs := by
  unfold p_clone; rw [ap_eq hb (by simpa using h)]; rfl
theorem sub_eq {α : Type} {xs : List α} {a n : Nat} (h : a + n ≤ xs.length) : sub xs (a : Int) ((a + n : Nat) : Int) = some ((xs.drop a).take n) := by
  unfold sub
  rw [if_pos ⟨by omega, by omega, by omega⟩]
  congr 2
  omega
theorem wrap_i64 {n : Int} (h1 : -9223372036854775808 ≤ n) (h2 : n < 9223372036854775808) : IntKind.wrap .i64 n = n := wrap64 h1 h2
theorem wrap_u8 {n : Int} (h1 : 0 ≤ n) (h2 : n < 256) : IntKind.wrap .u8 n = n := by
  simp only [IntKind.wrap, IntKind.signed, IntKind.bits]
  simp
  omega
end Go.Ev
namespace Go.Ev
set_option maxRecDepth 100000
/-- A tape's numbers, one by one. -/
def tapeE (k x : Int) : Int := Int.tmod (IntKind.wrap .i64 ((IntKind.wrap .i64 ((IntKind.wrap .i64 ((IntKind.wrap .i64 (x * x)) * 7)) + (IntKind.wrap .i64 (k * 29)))) + (IntKind.wrap .i64 (x * k)))) 211
def tapeL (k : Int) : Nat → Int → List Int
  | 0, _ => []
  | n + 1, i => tapeE k i :: tapeL k n (i + 1)
theorem tape4_l0 {β : Type} (kE0 : List Int → Option β) (k : Int) : ∀ (m j : Nat) (pre : List Int), pre.length + m = 400 → p_limelightlaw4_tape_l0 (j + m + 1) kE0 k pre (pre.length : Int) = kE0 (pre ++ tapeL k m (pre.length : Int))
  | 0, j, pre, h => by
    rw [p_limelightlaw4_tape_l0]
    have : decide ((pre.length : Int) < 400) = false := decide_eq_false (by omega)
    rw [this, cond_false, tapeL, List.append_nil]
  | m + 1, j, pre, h => by
    rw [show j + (m + 1) + 1 = (j + m + 1) + 1 from rfl, p_limelightlaw4_tape_l0]
    have : decide ((pre.length : Int) < 400) = true := decide_eq_true (by omega)
    have e1 : IntKind.wrap .i64 ((pre.length : Int) + 1) = (((pre ++ [tapeE k pre.length]).length : Nat) : Int) := by rw [wrap_i64 (by omega) (by omega)]; simp
    rw [this, cond_true, ap_eq (by decide) (by simp only [List.length_cons, List.length_nil]; omega), Option.bind_some, e1]
    refine (tape4_l0 kE0 k m j (pre ++ [tapeE k pre.length]) (by rw [List.length_append]; simp only [List.length_cons, List.length_nil]; omega)).trans ?_
    rw [tapeL, List.append_assoc]
    congr 2
    simp
theorem tape4 (k : Int) (n : Nat) : p_limelightlaw4_tape (n + 401) k = some (tapeL k 400 0) := by
  unfold p_limelightlaw4_tape
  exact (tape4_l0 (fun r => some r) k 400 n [] rfl).trans (by simp)
def numB {β : Type} (k : Nat) (x1 : Int) (r3 : List Int) (kN : Int → Option β) (kE1 : Bool → Option β) : Option β :=
(p_limelightkeep_Tape_Elems k (⟨r3, 0⟩ : T_limelightkeep_Tape) false).bind fun r14 =>
(p_limelightkeep_Tape_Elems k (⟨r14.2.f_L, r14.2.f_At⟩ : T_limelightkeep_Tape) true).bind fun r31 =>
p_limelightlaw4_ExtNumbers_l1 k (fun r100_1 r100_4 =>
(p_limelightref3_Elems k 4096 r100_4).bind fun r105 =>
p_limelightlaw4_ExtNumbers_l3 k (fun r138_1 =>
kN (IntKind.wrap .i64 (r138_1 + 1))) (fun r141_0 =>
kE1 r141_0) r100_1 r105.1 0) (fun r144_0 =>
kE1 r144_0) x1 r14.1 r31.1 ([48862, 4096, 0, 1]) ((([48862, 4096, 0, 1]).length : Int)) 0
theorem num_step {β : Type} (n : Nat) (kE0 : Unit → Option β) (kE1 : Bool → Option β) (x1 : Int) (h : decide (x1 < 60) = true) : p_limelightlaw4_ExtNumbers_l0 (n + 401 + 1) kE0 kE1 x1 = numB (n + 401) x1 (tapeL x1 400 0) (p_limelightlaw4_ExtNumbers_l0 (n + 401) kE0 kE1) kE1 := by
  rw [p_limelightlaw4_ExtNumbers_l0, h, cond_true, tape4, Option.bind_some]
  rfl
end Go.Ev
namespace Go.Ev
set_option maxRecDepth 100000
theorem num0 {β : Type} (kN : Int → Option β) (kE1 : Bool → Option β) : numB 599 0 (tapeL 0 400 0) kN kE1 = kN 1 := by kernel_rfl
theorem num1 {β : Type} (kN : Int → Option β) (kE1 : Bool → Option β) : numB 598 1 (tapeL 1 400 0) kN kE1 = kN 2 := by kernel_rfl
theorem num2 {β : Type} (kN : Int → Option β) (kE1 : Bool → Option β) : numB 597 2 (tapeL 2 400 0) kN kE1 = kN 3 := by kernel_rfl
theorem num3 {β : Type} (kN : Int → Option β) (kE1 : Bool → Option β) : numB 596 3 (tapeL 3 400 0) kN kE1 = kN 4 := by kernel_rfl
theorem num4 {β : Type} (kN : Int → Option β) (kE1 : Bool → Option β) : numB 595 4 (tapeL 4 400 0) kN kE1 = kN 5 := by kernel_rfl
theorem num5 {β : Type} (kN : Int → Option β) (kE1 : Bool → Option β) : numB 594 5 (tapeL 5 400 0) kN kE1 = kN 6 := by kernel_rfl
theorem num6 {β : Type} (kN : Int → Option β) (kE1 : Bool → Option β) : numB 593 6 (tapeL 6 400 0) kN kE1 = kN 7 := by kernel_rfl
theorem num7 {β : Type} (kN : Int → Option β) (kE1 : Bool → Option β) : numB 592 7 (tapeL 7 400 0) kN kE1 = kN 8 := by kernel_rfl
theorem num8 {β : Type} (kN : Int → Option β) (kE1 : Bool → Option β) : numB 591 8 (tapeL 8 400 0) kN kE1 = kN 9 := by kernel_rfl
theorem num9 {β : Type} (kN : Int → Option β) (kE1 : Bool → Option β) : numB 590 9 (tapeL 9 400 0) kN kE1 = kN 10 := by kernel_rfl
theorem num10 {β : Type} (kN : Int → Option β) (kE1 : Bool → Option β) : numB 589 10 (tapeL 10 400 0) kN kE1 = kN 11 := by kernel_rfl
theorem num11 {β : Type} (kN : Int → Option β) (kE1 : Bool → Option β) : numB 588 11 (tapeL 11 400 0) kN kE1 = kN 12 := by kernel_rfl
theorem num12 {β : Type} (kN : Int → Option β) (kE1 : Bool → Option β) : numB 587 12 (tapeL 12 400 0) kN kE1 = kN 13 := by kernel_rfl
theorem num13 {β : Type} (kN : Int → Option β) (kE1 : Bool → Option β) : numB 586 13 (tapeL 13 400 0) kN kE1 = kN 14 := by kernel_rfl
theorem num14 {β : Type} (kN : Int → Option β) (kE1 : Bool → Option β) : numB 585 14 (tapeL 14 400 0) kN kE1 = kN 15 := by kernel_rfl
end Go.Ev
namespace Go.Ev
set_option maxRecDepth 100000
theorem num15 {β : Type} (kN : Int → Option β) (kE1 : Bool → Option β) : numB 584 15 (tapeL 15 400 0) kN kE1 = kN 16 := by kernel_rfl
theorem num16 {β : Type} (kN : Int → Option β) (kE1 : Bool → Option β) : numB 583 16 (tapeL 16 400 0) kN kE1 = kN 17 := by kernel_rfl
theorem num17 {β : Type} (kN : Int → Option β) (kE1 : Bool → Option β) : numB 582 17 (tapeL 17 400 0) kN kE1 = kN 18 := by kernel_rfl
theorem num18 {β : Type} (kN : Int → Option β) (kE1 : Bool → Option β) : numB 581 18 (tapeL 18 400 0) kN kE1 = kN 19 := by kernel_rfl
theorem num19 {β : Type} (kN : Int → Option β) (kE1 : Bool → Option β) : numB 580 19 (tapeL 19 400 0) kN kE1 = kN 20 := by kernel_rfl
theorem num20 {β : Type} (kN : Int → Option β) (kE1 : Bool → Option β) : numB 579 20 (tapeL 20 400 0) kN kE1 = kN 21 := by kernel_rfl
theorem num21 {β : Type} (kN : Int → Option β) (kE1 : Bool → Option β) : numB 578 21 (tapeL 21 400 0) kN kE1 = kN 22 := by kernel_rfl
theorem num22 {β : Type} (kN : Int → Option β) (kE1 : Bool → Option β) : numB 577 22 (tapeL 22 400 0) kN kE1 = kN 23 := by kernel_rfl
theorem num23 {β : Type} (kN : Int → Option β) (kE1 : Bool → Option β) : numB 576 23 (tapeL 23 400 0) kN kE1 = kN 24 := by kernel_rfl
theorem num24 {β : Type} (kN : Int → Option β) (kE1 : Bool → Option β) : numB 575 24 (tapeL 24 400 0) kN kE1 = kN 25 := by kernel_rfl
theorem num25 {β : Type} (kN : Int → Option β) (kE1 : Bool → Option β) : numB 574 25 (tapeL 25 400 0) kN kE1 = kN 26 := by kernel_rfl
theorem num26 {β : Type} (kN : Int → Option β) (kE1 : Bool → Option β) : numB 573 26 (tapeL 26 400 0) kN kE1 = kN 27 := by kernel_rfl
theorem num27 {β : Type} (kN : Int → Option β) (kE1 : Bool → Option β) : numB 572 27 (tapeL 27 400 0) kN kE1 = kN 28 := by kernel_rfl
theorem num28 {β : Type} (kN : Int → Option β) (kE1 : Bool → Option β) : numB 571 28 (tapeL 28 400 0) kN kE1 = kN 29 := by kernel_rfl
theorem num29 {β : Type} (kN : Int → Option β) (kE1 : Bool → Option β) : numB 570 29 (tapeL 29 400 0) kN kE1 = kN 30 := by kernel_rfl
end Go.Ev
namespace Go.Ev
set_option maxRecDepth 100000
theorem num30 {β : Type} (kN : Int → Option β) (kE1 : Bool → Option β) : numB 569 30 (tapeL 30 400 0) kN kE1 = kN 31 := by kernel_rfl
theorem num31 {β : Type} (kN : Int → Option β) (kE1 : Bool → Option β) : numB 568 31 (tapeL 31 400 0) kN kE1 = kN 32 := by kernel_rfl
theorem num32 {β : Type} (kN : Int → Option β) (kE1 : Bool → Option β) : numB 567 32 (tapeL 32 400 0) kN kE1 = kN 33 := by kernel_rfl
theorem num33 {β : Type} (kN : Int → Option β) (kE1 : Bool → Option β) : numB 566 33 (tapeL 33 400 0) kN kE1 = kN 34 := by kernel_rfl
theorem num34 {β : Type} (kN : Int → Option β) (kE1 : Bool → Option β) : numB 565 34 (tapeL 34 400 0) kN kE1 = kN 35 := by kernel_rfl
theorem num35 {β : Type} (kN : Int → Option β) (kE1 : Bool → Option β) : numB 564 35 (tapeL 35 400 0) kN kE1 = kN 36 := by kernel_rfl
theorem num36 {β : Type} (kN : Int → Option β) (kE1 : Bool → Option β) : numB 563 36 (tapeL 36 400 0) kN kE1 = kN 37 := by kernel_rfl
theorem num37 {β : Type} (kN : Int → Option β) (kE1 : Bool → Option β) : numB 562 37 (tapeL 37 400 0) kN kE1 = kN 38 := by kernel_rfl
theorem num38 {β : Type} (kN : Int → Option β) (kE1 : Bool → Option β) : numB 561 38 (tapeL 38 400 0) kN kE1 = kN 39 := by kernel_rfl
theorem num39 {β : Type} (kN : Int → Option β) (kE1 : Bool → Option β) : numB 560 39 (tapeL 39 400 0) kN kE1 = kN 40 := by kernel_rfl
theorem num40 {β : Type} (kN : Int → Option β) (kE1 : Bool → Option β) : numB 559 40 (tapeL 40 400 0) kN kE1 = kN 41 := by kernel_rfl
theorem num41 {β : Type} (kN : Int → Option β) (kE1 : Bool → Option β) : numB 558 41 (tapeL 41 400 0) kN kE1 = kN 42 := by kernel_rfl
theorem num42 {β : Type} (kN : Int → Option β) (kE1 : Bool → Option β) : numB 557 42 (tapeL 42 400 0) kN kE1 = kN 43 := by kernel_rfl
theorem num43 {β : Type} (kN : Int → Option β) (kE1 : Bool → Option β) : numB 556 43 (tapeL 43 400 0) kN kE1 = kN 44 := by kernel_rfl
theorem num44 {β : Type} (kN : Int → Option β) (kE1 : Bool → Option β) : numB 555 44 (tapeL 44 400 0) kN kE1 = kN 45 := by kernel_rfl
end Go.Ev
namespace Go.Ev
set_option maxRecDepth 100000
theorem num45 {β : Type} (kN : Int → Option β) (kE1 : Bool → Option β) : numB 554 45 (tapeL 45 400 0) kN kE1 = kN 46 := by kernel_rfl
theorem num46 {β : Type} (kN : Int → Option β) (kE1 : Bool → Option β) : numB 553 46 (tapeL 46 400 0) kN kE1 = kN 47 := by kernel_rfl
theorem num47 {β : Type} (kN : Int → Option β) (kE1 : Bool → Option β) : numB 552 47 (tapeL 47 400 0) kN kE1 = kN 48 := by kernel_rfl
theorem num48 {β : Type} (kN : Int → Option β) (kE1 : Bool → Option β) : numB 551 48 (tapeL 48 400 0) kN kE1 = kN 49 := by kernel_rfl
theorem num49 {β : Type} (kN : Int → Option β) (kE1 : Bool → Option β) : numB 550 49 (tapeL 49 400 0) kN kE1 = kN 50 := by kernel_rfl
theorem num50 {β : Type} (kN : Int → Option β) (kE1 : Bool → Option β) : numB 549 50 (tapeL 50 400 0) kN kE1 = kN 51 := by kernel_rfl
theorem num51 {β : Type} (kN : Int → Option β) (kE1 : Bool → Option β) : numB 548 51 (tapeL 51 400 0) kN kE1 = kN 52 := by kernel_rfl
theorem num52 {β : Type} (kN : Int → Option β) (kE1 : Bool → Option β) : numB 547 52 (tapeL 52 400 0) kN kE1 = kN 53 := by kernel_rfl
theorem num53 {β : Type} (kN : Int → Option β) (kE1 : Bool → Option β) : numB 546 53 (tapeL 53 400 0) kN kE1 = kN 54 := by kernel_rfl
theorem num54 {β : Type} (kN : Int → Option β) (kE1 : Bool → Option β) : numB 545 54 (tapeL 54 400 0) kN kE1 = kN 55 := by kernel_rfl
theorem num55 {β : Type} (kN : Int → Option β) (kE1 : Bool → Option β) : numB 544 55 (tapeL 55 400 0) kN kE1 = kN 56 := by kernel_rfl
theorem num56 {β : Type} (kN : Int → Option β) (kE1 : Bool → Option β) : numB 543 56 (tapeL 56 400 0) kN kE1 = kN 57 := by kernel_rfl
theorem num57 {β : Type} (kN : Int → Option β) (kE1 : Bool → Option β) : numB 542 57 (tapeL 57 400 0) kN kE1 = kN 58 := by kernel_rfl
theorem num58 {β : Type} (kN : Int → Option β) (kE1 : Bool → Option β) : numB 541 58 (tapeL 58 400 0) kN kE1 = kN 59 := by kernel_rfl
theorem num59 {β : Type} (kN : Int → Option β) (kE1 : Bool → Option β) : numB 540 59 (tapeL 59 400 0) kN kE1 = kN 60 := by kernel_rfl
end Go.Ev
namespace Go.Ev
set_option maxRecDepth 100000
theorem btl_loop (s : ByteArray) (i : Nat) (r : List UInt8) : ByteArray.toList.loop s i r = r.reverse ++ s.data.toList.drop i := by
  fun_induction ByteArray.toList.loop s i r with
  | case1 i r h ih =>
    rw [ih, List.reverse_cons, List.append_assoc]
    congr 1
    have h' : i < s.data.toList.length := by rw [Array.length_toList]; exact h
    rw [List.drop_eq_getElem_cons h']
    simp [ByteArray.get!]
    have : s.data.size = s.size := rfl
    rw [getElem!_pos s.data i (by rw [this]; exact h)]
  | case2 i r h =>
    rw [List.drop_of_length_le, List.append_nil]
    have : s.data.toList.length = s.size := by rw [Array.length_toList]; rfl
    omega
theorem btl (s : ByteArray) : s.toList = s.data.toList := by
  unfold ByteArray.toList
  rw [btl_loop]; simp
def f_elems_l0 {β : Type} (k : Nat) (kE0 : Unit → Option β) (kE1 : Bool → Option β) (x0 : (List T_api_Elem)) (x1 : (List T_api_Elem)) (x12 : Int) (x13 : Int) : Option β := match k with
| 0 => none
| k + 1 =>
bif decide (x13 < x12) then (
(ix x0 x13).bind fun a7 =>
(ix x1 x13).bind fun a19 =>
(bif a7.ID != a19.ID then (some true) else ((ix x0 x13).bind fun a31 =>
(ix x1 x13).bind fun a43 =>
some (!((strB a31.Data).data.toList == (strB a43.Data).data.toList)))).bind fun b55 =>
bif b55 then (
kE1 false)
else (
f_elems_l0 k kE0 kE1 x0 x1 x12 (IntKind.wrap .i64 (x13 + 1))))
else (
kE0 ())
def f_elems (k : Nat) (x0 : (List T_api_Elem)) (x1 : (List T_api_Elem)) : Option (Bool) :=
bif ((x0.length : Int)) != ((x1.length : Int)) then (
some (false))
else (
f_elems_l0 k (fun (_ : Unit) =>
some (true)) (fun r66_4 =>
some (r66_4)) x0 x1 ((x0.length : Int)) 0)
def f_reads (k : Nat) (x0 : Int) (x1 : (List Int)) : Option (Bool) :=
(p_ext_Read k x0 x1).bind fun r1 =>
(p_limelightref3_ReadElems k x0 x1).bind fun r8 =>
(p_ext_Rid k ((⟨false, 0, 0, 0, 0, (([] : List Int)), x0, x1, (([] : List Int))⟩ : T_api_Rtp))).bind fun r15 =>
(p_limelightref3_Rid k ((⟨false, 0, 0, 0, 0, (([] : List Int)), x0, x1, (([] : List Int))⟩ : T_api_Rtp))).bind fun r20 =>
(bif r1.2 == r8.2 then ((f_elems k r1.1 r8.1).bind fun r25 =>
some r25) else (some false)).bind fun b30 =>
(bif b30 then (some (r15.1.toList == r20.1.toList)) else (some false)).bind fun b34 =>
(bif b34 then (some (r15.2 == r20.2)) else (some false)).bind fun b38 =>
some (b38)
def f_same (k : Nat) (x0 : Int) (x1 : (List T_api_Elem)) (x2 : Int) : Option (Bool) :=
(p_ext_Bytes k x0 x1).bind fun r1 =>
(p_limelightref3_Elems k x0 x1).bind fun r8 =>
(p_ext_Find k x1 x2).bind fun r15 =>
(p_limelightref3_Find k x1 x2).bind fun r22 =>
(bif r1.2 == r8.2 then (some ((strB r1.1).data.toList == (strB r8.1).data.toList)) else (some false)).bind fun b29 =>
(bif b29 then (some ((strB r15.1).data.toList == (strB r22.1).data.toList)) else (some false)).bind fun b33 =>
(bif b33 then (some (r15.2 == r22.2)) else (some false)).bind fun b37 =>
(bif b37 then ((f_reads k x0 r8.1).bind fun r41 =>
some r41) else (some false)).bind fun b46 =>
some (b46)
def f_l4 {β : Type} (k : Nat) (kE0 : (List Int) → Int → Int → Option β) (kE1 : Bool → Option β) (x11 : Int) (x83 : (List Int)) (x84 : Int) (x85 : Int) (x89 : (List Int)) (x90 : Int) (x91 : Int) : Option β := match k with
| 0 => none
| k + 1 =>
bif decide (x91 < x90) then (
(ix x89 x91).bind fun a169 =>
(mk 1 0 a169).bind fun a172 =>
(f_same k 48862 ([((⟨x11, a172⟩ : T_api_Elem))]) x11).bind fun r180 =>
(bif !r180 then (some true) else ((f_same k 4096 ([((⟨x11, a172⟩ : T_api_Elem))]) x11).bind fun r185 =>
some (!r185))).bind fun b190 =>
bif b190 then (
kE1 false)
else (
f_l4 k kE0 kE1 x11 x83 x84 x85 x89 x90 (IntKind.wrap .i64 (x91 + 1))))
else (
kE0 x83 x84 x85)
def f_l2 {β : Type} (k : Nat) (kE0 : Unit → Option β) (kE1 : Bool → Option β) (x83 : (List Int)) (x84 : Int) (x85 : Int) : Option β := match k with
| 0 => none
| k + 1 =>
bif decide (x85 < x84) then (
(ix x83 x85).bind fun a159 =>
f_l4 k (fun r200_83 r200_84 r200_85 =>
f_l2 k kE0 kE1 r200_83 r200_84 (IntKind.wrap .i64 (r200_85 + 1))) (fun r205_0 =>
kE1 r205_0) a159 x83 x84 x85 ([0, 1, 16, 17, 255, 256]) ((([0, 1, 16, 17, 255, 256]).length : Int)) 0)
else (
kE0 ())
def f_l5 {β : Type} (k : Nat) (kE0 : Unit → Option β) (kE1 : Bool → Option β) (x15 : (List T_api_Elem)) (x16 : Int) : Option β := match k with
| 0 => none
| k + 1 =>
bif decide (x16 < 10) then (
(f_same k 48862 x15 1).bind fun r221 =>
(bif !r221 then (some true) else ((f_same k 4096 x15 1).bind fun r226 =>
some (!r226))).bind fun b231 =>
bif b231 then (
kE1 false)
else (
(ap 32 x15 ([((⟨1, ([120])⟩ : T_api_Elem))])).bind fun a237 =>
f_l5 k kE0 kE1 a237 (IntKind.wrap .i64 (x16 + 1))))
else (
kE0 ())
theorem f_elems_l0_eq {β : Type} (kE0 : Unit → Option β) (kE1 : Bool → Option β) (x0 x1 : List T_api_Elem) (x12 : Int) : ∀ (k : Nat) (x13 : Int), p_limelightlaw4_elems_l0 k kE0 kE1 x0 x1 x12 x13 = f_elems_l0 k kE0 kE1 x0 x1 x12 x13
  | 0, _ => rfl
  | k + 1, _ => by rw [p_limelightlaw4_elems_l0, f_elems_l0]; simp only [btl, f_elems_l0_eq kE0 kE1 x0 x1 x12 k]
theorem f_elems_eq (k : Nat) (a b : List T_api_Elem) : p_limelightlaw4_elems k a b = f_elems k a b := by unfold p_limelightlaw4_elems f_elems; simp only [f_elems_l0_eq]
theorem f_reads_eq (k : Nat) (p : Int) (b : List Int) : p_limelightlaw4_reads k p b = f_reads k p b := by unfold p_limelightlaw4_reads f_reads; simp only [f_elems_eq]
theorem f_same_eq (k : Nat) (p : Int) (l : List T_api_Elem) (i : Int) : p_limelightlaw4_same k p l i = f_same k p l i := by unfold p_limelightlaw4_same f_same; simp only [f_reads_eq, btl]
theorem f_l4_eq {β : Type} (kE0 : List Int → Int → Int → Option β) (kE1 : Bool → Option β) (x11 : Int) (x83 : List Int) (x84 x85 : Int) (x89 : List Int) (x90 : Int) : ∀ (k : Nat) (x91 : Int), p_limelightlaw4_ExtNumbers_l4 k kE0 kE1 x11 x83 x84 x85 x89 x90 x91 = f_l4 k kE0 kE1 x11 x83 x84 x85 x89 x90 x91
  | 0, _ => rfl
  | k + 1, _ => by rw [p_limelightlaw4_ExtNumbers_l4, f_l4]; simp only [f_same_eq, f_l4_eq kE0 kE1 x11 x83 x84 x85 x89 x90 k]
theorem f_l2_eq {β : Type} (kE0 : Unit → Option β) (kE1 : Bool → Option β) : ∀ (k : Nat) (x83 : List Int) (x84 x85 : Int), p_limelightlaw4_ExtNumbers_l2 k kE0 kE1 x83 x84 x85 = f_l2 k kE0 kE1 x83 x84 x85
  | 0, _, _, _ => rfl
  | k + 1, _, _, _ => by rw [p_limelightlaw4_ExtNumbers_l2, f_l2]; simp only [f_l4_eq, f_l2_eq kE0 kE1 k]
theorem f_l5_eq {β : Type} (kE0 : Unit → Option β) (kE1 : Bool → Option β) : ∀ (k : Nat) (x15 : List T_api_Elem) (x16 : Int), p_limelightlaw4_ExtNumbers_l5 k kE0 kE1 x15 x16 = f_l5 k kE0 kE1 x15 x16
  | 0, _, _ => rfl
  | k + 1, _, _ => by rw [p_limelightlaw4_ExtNumbers_l5, f_l5]; simp only [f_same_eq, f_l5_eq kE0 kE1 k]
end Go.Ev
namespace Go.Ev
set_option maxRecDepth 100000
theorem num_all {β : Type} (kE0 : Unit → Option β) (kE1 : Bool → Option β) : p_limelightlaw4_ExtNumbers_l0 600 kE0 kE1 0 = kE0 () := by
  refine (num_step 198 kE0 kE1 0 rfl).trans ?_
  refine (num0 _ _).trans ?_
  refine (num_step 197 kE0 kE1 1 rfl).trans ?_
  refine (num1 _ _).trans ?_
  refine (num_step 196 kE0 kE1 2 rfl).trans ?_
  refine (num2 _ _).trans ?_
  refine (num_step 195 kE0 kE1 3 rfl).trans ?_
  refine (num3 _ _).trans ?_
  refine (num_step 194 kE0 kE1 4 rfl).trans ?_
  refine (num4 _ _).trans ?_
  refine (num_step 193 kE0 kE1 5 rfl).trans ?_
  refine (num5 _ _).trans ?_
  refine (num_step 192 kE0 kE1 6 rfl).trans ?_
  refine (num6 _ _).trans ?_
  refine (num_step 191 kE0 kE1 7 rfl).trans ?_
  refine (num7 _ _).trans ?_
  refine (num_step 190 kE0 kE1 8 rfl).trans ?_
  refine (num8 _ _).trans ?_
  refine (num_step 189 kE0 kE1 9 rfl).trans ?_
  refine (num9 _ _).trans ?_
  refine (num_step 188 kE0 kE1 10 rfl).trans ?_
  refine (num10 _ _).trans ?_
  refine (num_step 187 kE0 kE1 11 rfl).trans ?_
  refine (num11 _ _).trans ?_
  refine (num_step 186 kE0 kE1 12 rfl).trans ?_
  refine (num12 _ _).trans ?_
  refine (num_step 185 kE0 kE1 13 rfl).trans ?_
  refine (num13 _ _).trans ?_
  refine (num_step 184 kE0 kE1 14 rfl).trans ?_
  refine (num14 _ _).trans ?_
  refine (num_step 183 kE0 kE1 15 rfl).trans ?_
  refine (num15 _ _).trans ?_
  refine (num_step 182 kE0 kE1 16 rfl).trans ?_
  refine (num16 _ _).trans ?_
  refine (num_step 181 kE0 kE1 17 rfl).trans ?_
  refine (num17 _ _).trans ?_
  refine (num_step 180 kE0 kE1 18 rfl).trans ?_
  refine (num18 _ _).trans ?_
  refine (num_step 179 kE0 kE1 19 rfl).trans ?_
  refine (num19 _ _).trans ?_
  refine (num_step 178 kE0 kE1 20 rfl).trans ?_
  refine (num20 _ _).trans ?_
  refine (num_step 177 kE0 kE1 21 rfl).trans ?_
  refine (num21 _ _).trans ?_
  refine (num_step 176 kE0 kE1 22 rfl).trans ?_
  refine (num22 _ _).trans ?_
  refine (num_step 175 kE0 kE1 23 rfl).trans ?_
  refine (num23 _ _).trans ?_
  refine (num_step 174 kE0 kE1 24 rfl).trans ?_
  refine (num24 _ _).trans ?_
  refine (num_step 173 kE0 kE1 25 rfl).trans ?_
  refine (num25 _ _).trans ?_
  refine (num_step 172 kE0 kE1 26 rfl).trans ?_
  refine (num26 _ _).trans ?_
  refine (num_step 171 kE0 kE1 27 rfl).trans ?_
  refine (num27 _ _).trans ?_
  refine (num_step 170 kE0 kE1 28 rfl).trans ?_
  refine (num28 _ _).trans ?_
  refine (num_step 169 kE0 kE1 29 rfl).trans ?_
  refine (num29 _ _).trans ?_
  refine (num_step 168 kE0 kE1 30 rfl).trans ?_
  refine (num30 _ _).trans ?_
  refine (num_step 167 kE0 kE1 31 rfl).trans ?_
  refine (num31 _ _).trans ?_
  refine (num_step 166 kE0 kE1 32 rfl).trans ?_
  refine (num32 _ _).trans ?_
  refine (num_step 165 kE0 kE1 33 rfl).trans ?_
  refine (num33 _ _).trans ?_
  refine (num_step 164 kE0 kE1 34 rfl).trans ?_
  refine (num34 _ _).trans ?_
  refine (num_step 163 kE0 kE1 35 rfl).trans ?_
  refine (num35 _ _).trans ?_
  refine (num_step 162 kE0 kE1 36 rfl).trans ?_
  refine (num36 _ _).trans ?_
  refine (num_step 161 kE0 kE1 37 rfl).trans ?_
  refine (num37 _ _).trans ?_
  refine (num_step 160 kE0 kE1 38 rfl).trans ?_
  refine (num38 _ _).trans ?_
  refine (num_step 159 kE0 kE1 39 rfl).trans ?_
  refine (num39 _ _).trans ?_
  refine (num_step 158 kE0 kE1 40 rfl).trans ?_
  refine (num40 _ _).trans ?_
  refine (num_step 157 kE0 kE1 41 rfl).trans ?_
  refine (num41 _ _).trans ?_
  refine (num_step 156 kE0 kE1 42 rfl).trans ?_
  refine (num42 _ _).trans ?_
  refine (num_step 155 kE0 kE1 43 rfl).trans ?_
  refine (num43 _ _).trans ?_
  refine (num_step 154 kE0 kE1 44 rfl).trans ?_
  refine (num44 _ _).trans ?_
  refine (num_step 153 kE0 kE1 45 rfl).trans ?_
  refine (num45 _ _).trans ?_
  refine (num_step 152 kE0 kE1 46 rfl).trans ?_
  refine (num46 _ _).trans ?_
  refine (num_step 151 kE0 kE1 47 rfl).trans ?_
  refine (num47 _ _).trans ?_
  refine (num_step 150 kE0 kE1 48 rfl).trans ?_
  refine (num48 _ _).trans ?_
  refine (num_step 149 kE0 kE1 49 rfl).trans ?_
  refine (num49 _ _).trans ?_
  refine (num_step 148 kE0 kE1 50 rfl).trans ?_
  refine (num50 _ _).trans ?_
  refine (num_step 147 kE0 kE1 51 rfl).trans ?_
  refine (num51 _ _).trans ?_
  refine (num_step 146 kE0 kE1 52 rfl).trans ?_
  refine (num52 _ _).trans ?_
  refine (num_step 145 kE0 kE1 53 rfl).trans ?_
  refine (num53 _ _).trans ?_
  refine (num_step 144 kE0 kE1 54 rfl).trans ?_
  refine (num54 _ _).trans ?_
  refine (num_step 143 kE0 kE1 55 rfl).trans ?_
  refine (num55 _ _).trans ?_
  refine (num_step 142 kE0 kE1 56 rfl).trans ?_
  refine (num56 _ _).trans ?_
  refine (num_step 141 kE0 kE1 57 rfl).trans ?_
  refine (num57 _ _).trans ?_
  refine (num_step 140 kE0 kE1 58 rfl).trans ?_
  refine (num58 _ _).trans ?_
  refine (num_step 139 kE0 kE1 59 rfl).trans ?_
  refine (num59 _ _).trans ?_
  rfl
theorem num_l2 {β : Type} (kE0 : Unit → Option β) (kE1 : Bool → Option β) : p_limelightlaw4_ExtNumbers_l2 600 kE0 kE1 [(-1), 0, 1, 14, 15, 255, 256] (([(-1), 0, 1, 14, 15, 255, 256] : List Int).length : Int) 0 = kE0 () := (f_l2_eq _ _ _ _ _ _).trans (by kernel_rfl)
theorem num_l5 {β : Type} (kE0 : Unit → Option β) (kE1 : Bool → Option β) : p_limelightlaw4_ExtNumbers_l5 600 kE0 kE1 ([] : List T_api_Elem) 0 = kE0 () := (f_l5_eq _ _ _ _ _).trans (by kernel_rfl)
theorem num_l6 {β : Type} (kE0 : Unit → Option β) (kE1 : Bool → Option β) : p_limelightlaw4_ExtNumbers_l6 600 kE0 kE1 0 = kE0 () := by kernel_rfl
theorem num_end : ((p_limelightlaw4_reads 600 4096 ([0, 0, 7])).bind fun r288 => (bif r288 then ((p_limelightlaw4_known 600).bind fun r293 => some r293) else (some false)).bind fun b298 => some b298) = some true := by kernel_rfl
theorem extNumbers_true : p_limelightlaw4_ExtNumbers 600 = some true := by
  unfold p_limelightlaw4_ExtNumbers
  refine (num_all _ _).trans ?_
  refine (num_l2 _ _).trans ?_
  refine (num_l5 _ _).trans ?_
  refine (num_l6 _ _).trans ?_
  exact num_end
theorem extNumbers_ev : ev G X0 3 [] [] [] = some ([.v (bV true)], []) := by
  obtain ⟨_, h1, rfl⟩ := limelightlaw4_ExtNumbers_ok 600 (h := []) (σ := []) _ extNumbers_true
  exact h1
end Go.Ev
