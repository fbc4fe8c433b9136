/- A part of the proof that follows: what is done to one layer turns no other one (limelightlaw20.WatchApart returns true for every input) -/
import Derived.Test.YtlceiaanagijjaaMWatchApart1
/- Equations, printed by tracer2.py. -/
namespace Go.Ev
open Go.Proofs
set_option linter.unusedVariables false
set_option maxRecDepth 100000
-- 9 limelight/limelightlaw20.WatchApart
noncomputable def limelightlaw20_WatchApart_c0 : Code := (codeAt (bodyOf Try.f9) [1, 1, 1, 1, 1, 0, 1, 0, 0])
def limelightlaw20_WatchApart_l0 : Lv := ⟨0, 16, [(0, 0)]⟩
noncomputable def limelightlaw20_WatchApart_k0 (rec : CallF) (loop : LoopV) (σ : Stamp) : Exit → Env → H → Option (List C × H) := (kBlock 0 (kSeq G rec loop (codeAt (bodyOf Try.f9) [1, 1, 1, 1, 1, 1]) ⟨16, 16, []⟩ (1 :: 1 :: 1 :: 1 :: 1 :: 0 :: σ) (finC G false Try.f9 (1 :: σ))))
noncomputable def limelightlaw20_WatchApart_c1 : Code := (codeAt (bodyOf Try.f9) [1, 1, 1, 1, 1, 0, 1, 0, 0, 1, 0, 0, 1, 1, 0, 1, 0, 0])
def limelightlaw20_WatchApart_l1 : Lv := ⟨993, 16, [(2, 993), (1, 993), (0, 0)]⟩
noncomputable def limelightlaw20_WatchApart_k1 (rec : CallF) (loop : LoopV) (σ : Stamp) : Exit → Env → H → Option (Exit × Env × H) := (kBlock 2 (kSeq G rec loop (codeAt (bodyOf Try.f9) [1, 1, 1, 1, 1, 0, 1, 0, 0, 1, 0, 0, 1, 1, 1]) ⟨993, 16, [(1, 993), (0, 0)]⟩ (1 :: 1 :: 0 :: 1 :: 0 :: σ) (kBlock 1 (kSeq G rec loop (codeAt (bodyOf Try.f9) [1, 1, 1, 1, 1, 0, 1, 0, 0, 1, 1]) ⟨993, 16, [(0, 0)]⟩ (1 :: 0 :: σ) (kRound loop (codeAt (bodyOf Try.f9) [1, 1, 1, 1, 1, 0, 1, 0, 0]) ⟨0, 16, [(0, 0)]⟩ σ)))))
noncomputable def limelightlaw20_WatchApart_c2 : Code := (codeAt (bodyOf Try.f9) [1, 1, 1, 1, 1, 0, 1, 0, 0, 1, 0, 0, 1, 1, 1, 1, 0, 1, 0, 0])
def limelightlaw20_WatchApart_l2 : Lv := ⟨25569, 16, [(5, 25569), (1, 993), (0, 0)]⟩
noncomputable def limelightlaw20_WatchApart_k2 (rec : CallF) (loop : LoopV) (σ : Stamp) : Exit → Env → H → Option (Exit × Env × H) := (kBlock 5 (kSeq G rec loop (codeAt (bodyOf Try.f9) [1, 1, 1, 1, 1, 0, 1, 0, 0, 1, 0, 0, 1, 1, 1, 1, 1]) ⟨993, 16, [(1, 993), (0, 0)]⟩ (1 :: 1 :: 1 :: 1 :: 0 :: 1 :: 0 :: σ) (kBlock 1 (kSeq G rec loop (codeAt (bodyOf Try.f9) [1, 1, 1, 1, 1, 0, 1, 0, 0, 1, 1]) ⟨993, 16, [(0, 0)]⟩ (1 :: 0 :: σ) (kRound loop (codeAt (bodyOf Try.f9) [1, 1, 1, 1, 1, 0, 1, 0, 0]) ⟨0, 16, [(0, 0)]⟩ σ)))))
noncomputable def limelightlaw20_WatchApart_c3 : Code := (codeAt (bodyOf Try.f9) [1, 1, 1, 1, 1, 0, 1, 0, 0, 1, 0, 0, 1, 1, 1, 1, 1, 0, 1, 0, 0])
def limelightlaw20_WatchApart_l3 : Lv := ⟨25569, 16, [(7, 25569), (1, 993), (0, 0)]⟩
noncomputable def limelightlaw20_WatchApart_k3 (rec : CallF) (loop : LoopV) (σ : Stamp) : Exit → Env → H → Option (Exit × Env × H) := (kBlock 7 (kSeq G rec loop (codeAt (bodyOf Try.f9) [1, 1, 1, 1, 1, 0, 1, 0, 0, 1, 0, 0, 1, 1, 1, 1, 1, 1]) ⟨993, 16, [(1, 993), (0, 0)]⟩ (1 :: 1 :: 1 :: 1 :: 1 :: 0 :: 1 :: 0 :: σ) (kBlock 1 (kSeq G rec loop (codeAt (bodyOf Try.f9) [1, 1, 1, 1, 1, 0, 1, 0, 0, 1, 1]) ⟨993, 16, [(0, 0)]⟩ (1 :: 0 :: σ) (kRound loop (codeAt (bodyOf Try.f9) [1, 1, 1, 1, 1, 0, 1, 0, 0]) ⟨0, 16, [(0, 0)]⟩ σ)))))
theorem limelightlaw20_WatchApart_entry (rec : CallF) (loop : LoopV) (σ : Stamp) (x0 : V) (x1 : Int) (h : H) : cvBody G rec loop 9 σ [x0, (.p (.int .i64 x1))] h =
 (callO rec 21 (0 :: 0 :: 1 :: 0 :: σ) [(.p (.int .i64 3))] (List.replicate 134 [] :: h) (some 19)).bind fun q1 =>
 (callO rec 21 (1 :: 0 :: 1 :: 0 :: σ) [(.p (.int .i64 3))] q1.2 (some 20)).bind fun q2 =>
 (callO rec 27 (1 :: 0 :: 1 :: 1 :: 0 :: σ) [(.p (.int .i64 x1)), (.p (.int .i64 0)), (.p (.int .i64 2))] q2.2 (some 22)).bind fun q3 =>
 (castI .i64 q3.1).bind fun n4 =>
 (binV Try.prog q3.2 .eql 39 q1.1 (.p (.pointer .none))).bind fun t5 =>
 (asB t5).bind fun b6 =>
 (bif b6 then (some true) else ((binV Try.prog q3.2 .eql 39 q2.1 (.p (.pointer .none))).bind fun t7 =>
 (asB t7).bind fun b8 =>
 some b8)).bind fun b9 =>
 bif b9 then (
 fin false σ q3.2 [(.p (.bool false))])
 else (
 (loop limelightlaw20_WatchApart_c0 limelightlaw20_WatchApart_l0 (1 :: 0 :: 1 :: 1 :: 1 :: 1 :: 1 :: 0 :: σ) (envL [(0, x0), (5, q1.1), (6, q2.1), (7, (.p (.int .i64 n4))), (8, (.p (.int .i64 0))), (9, (.p (.int .i64 0)))]) q3.2).bind fun r10 => limelightlaw20_WatchApart_k0 rec loop σ r10.1 r10.2.1 r10.2.2) := by kernel_rfl
theorem limelightlaw20_WatchApart_r0 (rec : CallF) (loop : LoopV) (σ : Stamp) (x0 : V) (x5 : V) (x6 : V) (x7 : Int) (x8 : Int) (x9 : Int) (h : H) : cvRound G rec loop limelightlaw20_WatchApart_c0 limelightlaw20_WatchApart_l0 σ (envL [(0, x0), (5, x5), (6, x6), (7, (.p (.int .i64 x7))), (8, (.p (.int .i64 x8))), (9, (.p (.int .i64 x9)))]) h =
 (lenO x0).bind fun t11 =>
 (castI .i64 t11).bind fun n12 =>
 (bif decide (x9 < n12) then (some (decide (x9 < 80))) else (some false)).bind fun b13 =>
 bif b13 then (
 (iS 3 x0 x9).bind fun t14 =>
 (fA t14 1).bind fun t15 =>
 (ldO false 1 h t15).bind fun t16 =>
 (castI .i64 t16).bind fun n17 =>
 (callO rec 27 (5 :: 0 :: 0 :: 1 :: 0 :: σ) [(.p (.int .i64 n17)), (.p (.int .i64 0)), (.p (.int .i64 2))] h (some 44)).bind fun q18 =>
 (castI .i64 q18.1).bind fun n19 =>
 (iS 3 x0 x9).bind fun t20 =>
 (fA t20 2).bind fun t21 =>
 (ldO false 1 q18.2 t21).bind fun t22 =>
 (castI .i64 t22).bind fun n23 =>
 (buildSliceV Try.prog 47 2 [(0, x5), (1, x6)]).bind fun t24 =>
 (lenO t24).bind fun t25 =>
 (castI .i64 t25).bind fun n26 =>
 (loop limelightlaw20_WatchApart_c1 limelightlaw20_WatchApart_l1 (1 :: 0 :: 1 :: 1 :: 0 :: 1 :: 0 :: σ) (envL [(0, x0), (5, x5), (6, x6), (7, (.p (.int .i64 x7))), (8, (.p (.int .i64 (IntKind.wrap .i64 (x8 + (intBits .and .i64 n23 262143)))))), (9, (.p (.int .i64 x9))), (10, (.p (.int .i64 n19))), (55, t24), (56, (.p (.int .i64 n26))), (57, (.p (.int .i64 0)))]) q18.2).bind fun r27 => limelightlaw20_WatchApart_k1 rec loop σ r27.1 r27.2.1 r27.2.2)
 else (
 some ((.exit 0), (envL []), h)) := by kernel_rfl
theorem limelightlaw20_WatchApart_a0_0 (rec : CallF) (loop : LoopV) (σ : Stamp)  (h : H) : limelightlaw20_WatchApart_k0 rec loop σ (.exit 0) (envL []) h =
 (callO rec 20 (0 :: 0 :: 1 :: 1 :: 1 :: 1 :: 1 :: 1 :: 0 :: σ) [] h (some 133)).bind fun q28 =>
 (asB q28.1).bind fun b29 =>
 fin false σ q28.2 [(.p (.bool b29))] := by kernel_rfl
theorem limelightlaw20_WatchApart_a0_ret (rec : CallF) (loop : LoopV) (σ : Stamp) (x4 : Bool) (h : H) : limelightlaw20_WatchApart_k0 rec loop σ .ret (envL [(4, (.p (.bool x4)))]) h =
 fin false σ h [(.p (.bool x4))] := by kernel_rfl
theorem limelightlaw20_WatchApart_r1 (rec : CallF) (loop : LoopV) (σ : Stamp) (x0 : V) (x5 : V) (x6 : V) (x7 : Int) (x8 : Int) (x9 : Int) (x10 : Int) (x55 : V) (x56 : Int) (x57 : Int) (h : H) : cvRound G rec loop limelightlaw20_WatchApart_c1 limelightlaw20_WatchApart_l1 σ (envL [(0, x0), (5, x5), (6, x6), (7, (.p (.int .i64 x7))), (8, (.p (.int .i64 x8))), (9, (.p (.int .i64 x9))), (10, (.p (.int .i64 x10))), (55, x55), (56, (.p (.int .i64 x56))), (57, (.p (.int .i64 x57)))]) h =
 bif decide (x57 < x56) then (
 (iS 1 x55 x57).bind fun t30 =>
 (ldO false 1 h t30).bind fun t31 =>
 (binV Try.prog h .eql 39 t31 x6).bind fun t32 =>
 (asB t32).bind fun b33 =>
 (bif b33 then (some (x10 != x7)) else (some false)).bind fun b34 =>
 bif b34 then (
 loop limelightlaw20_WatchApart_c1 limelightlaw20_WatchApart_l1 (1 :: σ) (envL [(0, x0), (5, x5), (6, x6), (7, (.p (.int .i64 x7))), (8, (.p (.int .i64 x8))), (9, (.p (.int .i64 x9))), (10, (.p (.int .i64 x10))), (55, x55), (56, (.p (.int .i64 x56))), (57, (.p (.int .i64 (IntKind.wrap .i64 (x57 + 1)))))]) h)
 else (
 (iS 3 x0 x9).bind fun t35 =>
 (fA t35 0).bind fun t36 =>
 (ldO false 1 h t36).bind fun t37 =>
 (castI .i64 t37).bind fun n38 =>
 (callO rec 27 (5 :: 0 :: 1 :: 1 :: 0 :: 1 :: 1 :: 0 :: σ) [(.p (.int .i64 n38)), (.p (.int .i64 0)), (.p (.int .i64 2))] h (some 74)).bind fun q39 =>
 (castI .i64 q39.1).bind fun n40 =>
 bif n40 == 0 then (
 (callO rec 22 (3 :: 1 :: 1 :: 1 :: 1 :: 0 :: 1 :: 1 :: 0 :: σ) [t31, (.p (.int .i64 x10)), (.p (.int .i64 x8))] q39.2 (some 84)).bind fun q41 =>
 loop limelightlaw20_WatchApart_c1 limelightlaw20_WatchApart_l1 (1 :: σ) (envL [(0, x0), (5, x5), (6, x6), (7, (.p (.int .i64 x7))), (8, (.p (.int .i64 x8))), (9, (.p (.int .i64 x9))), (10, (.p (.int .i64 x10))), (55, x55), (56, (.p (.int .i64 x56))), (57, (.p (.int .i64 (IntKind.wrap .i64 (x57 + 1)))))]) q41.2)
 else (
 bif n40 == 1 then (
 (callO rec 24 (2 :: 1 :: 1 :: 1 :: 1 :: 1 :: 0 :: 1 :: 1 :: 0 :: σ) [t31, (.p (.int .i64 x10))] q39.2 (some 89)).bind fun q42 =>
 (asB q42.1).bind fun b43 =>
 loop limelightlaw20_WatchApart_c1 limelightlaw20_WatchApart_l1 (1 :: σ) (envL [(0, x0), (5, x5), (6, x6), (7, (.p (.int .i64 x7))), (8, (.p (.int .i64 x8))), (9, (.p (.int .i64 x9))), (10, (.p (.int .i64 x10))), (55, x55), (56, (.p (.int .i64 x56))), (57, (.p (.int .i64 (IntKind.wrap .i64 (x57 + 1)))))]) q42.2)
 else (
 (callO rec 26 (3 :: 1 :: 1 :: 1 :: 1 :: 1 :: 0 :: 1 :: 1 :: 0 :: σ) [t31, (.p (.int .i64 x10)), (.p (.int .i64 x8))] q39.2 (some 78)).bind fun q44 =>
 (asB q44.1).bind fun b45 =>
 loop limelightlaw20_WatchApart_c1 limelightlaw20_WatchApart_l1 (1 :: σ) (envL [(0, x0), (5, x5), (6, x6), (7, (.p (.int .i64 x7))), (8, (.p (.int .i64 x8))), (9, (.p (.int .i64 x9))), (10, (.p (.int .i64 x10))), (55, x55), (56, (.p (.int .i64 x56))), (57, (.p (.int .i64 (IntKind.wrap .i64 (x57 + 1)))))]) q44.2))))
 else (
 some ((.exit 2), (envL [(0, x0), (5, x5), (6, x6), (7, (.p (.int .i64 x7))), (8, (.p (.int .i64 x8))), (9, (.p (.int .i64 x9)))]), h)) := by kernel_rfl
theorem limelightlaw20_WatchApart_a1_2 (rec : CallF) (loop : LoopV) (σ : Stamp) (x0 : V) (x5 : V) (x6 : V) (x7 : Int) (x8 : Int) (x9 : Int) (h : H) : limelightlaw20_WatchApart_k1 rec loop σ (.exit 2) (envL [(0, x0), (5, x5), (6, x6), (7, (.p (.int .i64 x7))), (8, (.p (.int .i64 x8))), (9, (.p (.int .i64 x9)))]) h =
 (callO rec 23 (2 :: 0 :: 0 :: 1 :: 1 :: 1 :: 1 :: 0 :: 1 :: 0 :: σ) [x5, (.p (.int .i64 x8))] h (some 93)).bind fun q46 =>
 (lenO q46.1).bind fun t47 =>
 (castI .i64 t47).bind fun n48 =>
 (loop limelightlaw20_WatchApart_c2 limelightlaw20_WatchApart_l2 (1 :: 0 :: 1 :: 1 :: 1 :: 1 :: 0 :: 1 :: 0 :: σ) (envL [(0, x0), (5, x5), (6, x6), (7, (.p (.int .i64 x7))), (8, (.p (.int .i64 x8))), (9, (.p (.int .i64 x9))), (13, (.p (.bool false))), (14, (.p (.bool false))), (93, q46.1), (94, (.p (.int .i64 n48))), (95, (.p (.int .i64 0)))]) q46.2).bind fun r49 => limelightlaw20_WatchApart_k2 rec loop σ r49.1 r49.2.1 r49.2.2 := by kernel_rfl
theorem limelightlaw20_WatchApart_r2 (rec : CallF) (loop : LoopV) (σ : Stamp) (x0 : V) (x5 : V) (x6 : V) (x7 : Int) (x8 : Int) (x9 : Int) (x13 : Bool) (x14 : Bool) (x93 : V) (x94 : Int) (x95 : Int) (h : H) : cvRound G rec loop limelightlaw20_WatchApart_c2 limelightlaw20_WatchApart_l2 σ (envL [(0, x0), (5, x5), (6, x6), (7, (.p (.int .i64 x7))), (8, (.p (.int .i64 x8))), (9, (.p (.int .i64 x9))), (13, (.p (.bool x13))), (14, (.p (.bool x14))), (93, x93), (94, (.p (.int .i64 x94))), (95, (.p (.int .i64 x95)))]) h =
 bif decide (x95 < x94) then (
 (iS 1 x93 x95).bind fun t50 =>
 (ldO false 1 h t50).bind fun t51 =>
 (castI .i64 t51).bind fun n52 =>
 (bif x13 then (some true) else (some (n52 == x7))).bind fun b53 =>
 loop limelightlaw20_WatchApart_c2 limelightlaw20_WatchApart_l2 (1 :: σ) (envL [(0, x0), (5, x5), (6, x6), (7, (.p (.int .i64 x7))), (8, (.p (.int .i64 x8))), (9, (.p (.int .i64 x9))), (13, (.p (.bool b53))), (14, (.p (.bool x14))), (93, x93), (94, (.p (.int .i64 x94))), (95, (.p (.int .i64 (IntKind.wrap .i64 (x95 + 1)))))]) h)
 else (
 some ((.exit 5), (envL [(0, x0), (5, x5), (6, x6), (7, (.p (.int .i64 x7))), (8, (.p (.int .i64 x8))), (9, (.p (.int .i64 x9))), (13, (.p (.bool x13))), (14, (.p (.bool x14)))]), h)) := by kernel_rfl
theorem limelightlaw20_WatchApart_a2_5 (rec : CallF) (loop : LoopV) (σ : Stamp) (x0 : V) (x5 : V) (x6 : V) (x7 : Int) (x8 : Int) (x9 : Int) (x13 : Bool) (x14 : Bool) (h : H) : limelightlaw20_WatchApart_k2 rec loop σ (.exit 5) (envL [(0, x0), (5, x5), (6, x6), (7, (.p (.int .i64 x7))), (8, (.p (.int .i64 x8))), (9, (.p (.int .i64 x9))), (13, (.p (.bool x13))), (14, (.p (.bool x14)))]) h =
 (callO rec 23 (2 :: 0 :: 0 :: 1 :: 1 :: 1 :: 1 :: 1 :: 0 :: 1 :: 0 :: σ) [x6, (.p (.int .i64 x8))] h (some 108)).bind fun q54 =>
 (lenO q54.1).bind fun t55 =>
 (castI .i64 t55).bind fun n56 =>
 (loop limelightlaw20_WatchApart_c3 limelightlaw20_WatchApart_l3 (1 :: 0 :: 1 :: 1 :: 1 :: 1 :: 1 :: 0 :: 1 :: 0 :: σ) (envL [(0, x0), (5, x5), (6, x6), (7, (.p (.int .i64 x7))), (8, (.p (.int .i64 x8))), (9, (.p (.int .i64 x9))), (13, (.p (.bool x13))), (14, (.p (.bool x14))), (108, q54.1), (109, (.p (.int .i64 n56))), (110, (.p (.int .i64 0)))]) q54.2).bind fun r57 => limelightlaw20_WatchApart_k3 rec loop σ r57.1 r57.2.1 r57.2.2 := by kernel_rfl
theorem limelightlaw20_WatchApart_r3 (rec : CallF) (loop : LoopV) (σ : Stamp) (x0 : V) (x5 : V) (x6 : V) (x7 : Int) (x8 : Int) (x9 : Int) (x13 : Bool) (x14 : Bool) (x108 : V) (x109 : Int) (x110 : Int) (h : H) : cvRound G rec loop limelightlaw20_WatchApart_c3 limelightlaw20_WatchApart_l3 σ (envL [(0, x0), (5, x5), (6, x6), (7, (.p (.int .i64 x7))), (8, (.p (.int .i64 x8))), (9, (.p (.int .i64 x9))), (13, (.p (.bool x13))), (14, (.p (.bool x14))), (108, x108), (109, (.p (.int .i64 x109))), (110, (.p (.int .i64 x110)))]) h =
 bif decide (x110 < x109) then (
 (iS 1 x108 x110).bind fun t58 =>
 (ldO false 1 h t58).bind fun t59 =>
 (castI .i64 t59).bind fun n60 =>
 (bif x14 then (some true) else (some (n60 == x7))).bind fun b61 =>
 loop limelightlaw20_WatchApart_c3 limelightlaw20_WatchApart_l3 (1 :: σ) (envL [(0, x0), (5, x5), (6, x6), (7, (.p (.int .i64 x7))), (8, (.p (.int .i64 x8))), (9, (.p (.int .i64 x9))), (13, (.p (.bool x13))), (14, (.p (.bool b61))), (108, x108), (109, (.p (.int .i64 x109))), (110, (.p (.int .i64 (IntKind.wrap .i64 (x110 + 1)))))]) h)
 else (
 some ((.exit 7), (envL [(0, x0), (5, x5), (6, x6), (7, (.p (.int .i64 x7))), (8, (.p (.int .i64 x8))), (9, (.p (.int .i64 x9))), (13, (.p (.bool x13))), (14, (.p (.bool x14)))]), h)) := by kernel_rfl
theorem limelightlaw20_WatchApart_a3_7 (rec : CallF) (loop : LoopV) (σ : Stamp) (x0 : V) (x5 : V) (x6 : V) (x7 : Int) (x8 : Int) (x9 : Int) (x13 : Bool) (x14 : Bool) (h : H) : limelightlaw20_WatchApart_k3 rec loop σ (.exit 7) (envL [(0, x0), (5, x5), (6, x6), (7, (.p (.int .i64 x7))), (8, (.p (.int .i64 x8))), (9, (.p (.int .i64 x9))), (13, (.p (.bool x13))), (14, (.p (.bool x14)))]) h =
 (bif !(x13 == x14) then (some ((.p (.bool true)), h)) else ((callO rec 25 (6 :: 0 :: 1 :: 1 :: 1 :: 1 :: 1 :: 1 :: 0 :: 1 :: 0 :: σ) [x5, (.p (.int .i64 x7))] h (some 127)).bind fun q62 =>
 (asB q62.1).bind fun b63 =>
 (callO rec 25 (9 :: 0 :: 1 :: 1 :: 1 :: 1 :: 1 :: 1 :: 0 :: 1 :: 0 :: σ) [x6, (.p (.int .i64 x7))] q62.2 (some 130)).bind fun q64 =>
 (asB q64.1).bind fun b65 =>
 some ((.p (.bool (!(b63 == b65)))), q64.2))).bind fun q66 =>
 (asB q66.1).bind fun b67 =>
 bif b67 then (
 some (.ret, (envL [(4, (.p (.bool false)))]), q66.2))
 else (
 loop limelightlaw20_WatchApart_c0 limelightlaw20_WatchApart_l0 (1 :: σ) (envL [(0, x0), (5, x5), (6, x6), (7, (.p (.int .i64 x7))), (8, (.p (.int .i64 x8))), (9, (.p (.int .i64 (IntKind.wrap .i64 (x9 + 1)))))]) q66.2) := by kernel_rfl
end Go.Ev
/- Equations, printed by tracer2.py. -/
namespace Go.Ev
open Go.Proofs
set_option linter.unusedVariables false
set_option maxRecDepth 100000
-- 20 limelight/limelightlaw20.known
theorem limelightlaw20_known_entry (rec : CallF) (loop : LoopV) (σ : Stamp)  (h : H) : cvBody G rec loop 20 σ [] h =
 (callO rec 21 (0 :: 0 :: 1 :: 0 :: σ) [(.p (.int .i64 2))] (List.replicate 84 [] :: h) (some 9)).bind fun q1 =>
 (binV Try.prog q1.2 .eql 39 q1.1 (.p (.pointer .none))).bind fun t2 =>
 (asB t2).bind fun b3 =>
 (bif b3 then (some ((.p (.bool true)), q1.2)) else ((callO rec 21 (3 :: 0 :: 0 :: 1 :: 1 :: 0 :: σ) [(.p (.int .i64 0))] q1.2 (some 13)).bind fun q4 =>
 (binV Try.prog q4.2 .neq 39 q4.1 (.p (.pointer .none))).bind fun t5 =>
 (asB t5).bind fun b6 =>
 some ((.p (.bool b6)), q4.2))).bind fun q7 =>
 (asB q7.1).bind fun b8 =>
 (bif b8 then (some ((.p (.bool true)), q7.2)) else ((callO rec 21 (7 :: 0 :: 0 :: 1 :: 1 :: 0 :: σ) [(.p (.int .i64 4))] q7.2 (some 17)).bind fun q9 =>
 (binV Try.prog q9.2 .neq 39 q9.1 (.p (.pointer .none))).bind fun t10 =>
 (asB t10).bind fun b11 =>
 some ((.p (.bool b11)), q9.2))).bind fun q12 =>
 (asB q12.1).bind fun b13 =>
 bif b13 then (
 fin false σ q12.2 [(.p (.bool false))])
 else (
 (callO rec 23 (1 :: 0 :: 1 :: 1 :: 1 :: 0 :: σ) [q1.1, (.p (.int .i64 500000))] q12.2 (some 21)).bind fun q14 =>
 (callO rec 22 (1 :: 0 :: 1 :: 1 :: 1 :: 1 :: 0 :: σ) [q1.1, (.p (.int .i64 1)), (.p (.int .i64 5))] q14.2 (some 23)).bind fun q15 =>
 (callO rec 23 (1 :: 0 :: 1 :: 1 :: 1 :: 1 :: 1 :: 0 :: σ) [q1.1, (.p (.int .i64 500000))] q15.2 (some 25)).bind fun q16 =>
 (callO rec 24 (1 :: 0 :: 1 :: 1 :: 1 :: 1 :: 1 :: 1 :: 0 :: σ) [q1.1, (.p (.int .i64 0))] q16.2 (some 27)).bind fun q17 =>
 (asB q17.1).bind fun b18 =>
 (callO rec 24 (3 :: 0 :: 1 :: 1 :: 1 :: 1 :: 1 :: 1 :: 0 :: σ) [q1.1, (.p (.int .i64 0))] q17.2 (some 29)).bind fun q19 =>
 (asB q19.1).bind fun b20 =>
 (callO rec 23 (1 :: 0 :: 1 :: 1 :: 1 :: 1 :: 1 :: 1 :: 1 :: 0 :: σ) [q1.1, (.p (.int .i64 500000))] q19.2 (some 31)).bind fun q21 =>
 (callO rec 26 (1 :: 0 :: 1 :: 1 :: 1 :: 1 :: 1 :: 1 :: 1 :: 1 :: 0 :: σ) [q1.1, (.p (.int .i64 0)), (.p (.int .i64 7))] q21.2 (some 33)).bind fun q22 =>
 (asB q22.1).bind fun b23 =>
 (callO rec 26 (3 :: 0 :: 1 :: 1 :: 1 :: 1 :: 1 :: 1 :: 1 :: 1 :: 0 :: σ) [q1.1, (.p (.int .i64 0)), (.p (.int .i64 8))] q22.2 (some 35)).bind fun q24 =>
 (asB q24.1).bind fun b25 =>
 (buildSliceV Try.prog 24 2 [(0, (.p (.int .i64 0))), (1, (.p (.int .i64 1)))]).bind fun t26 =>
 (callO rec 44 (2 :: 0 :: 1 :: 1 :: 1 :: 1 :: 1 :: 1 :: 1 :: 1 :: 1 :: 0 :: σ) [q14.1, t26] q24.2 (some 38)).bind fun q27 =>
 (asB q27.1).bind fun b28 =>
 (bif b28 then ((buildSliceV Try.prog 24 1 [(0, (.p (.int .i64 0)))]).bind fun t29 =>
 (callO rec 44 (6 :: 0 :: 1 :: 1 :: 1 :: 1 :: 1 :: 1 :: 1 :: 1 :: 1 :: 0 :: σ) [q16.1, t29] q27.2 (some 42)).bind fun q30 =>
 (asB q30.1).bind fun b31 =>
 some ((.p (.bool b31)), q30.2)) else (some ((.p (.bool false)), q27.2))).bind fun q32 =>
 (asB q32.1).bind fun b33 =>
 (bif b33 then (some b18) else (some false)).bind fun b34 =>
 (bif b34 then (some (!b20)) else (some false)).bind fun b35 =>
 (bif b35 then ((lenO q21.1).bind fun t36 =>
 (castI .i64 t36).bind fun n37 =>
 some (n37 == 0)) else (some false)).bind fun b38 =>
 (bif b38 then (some b23) else (some false)).bind fun b39 =>
 (bif b39 then (some (!b25)) else (some false)).bind fun b40 =>
 (bif b40 then ((callO rec 25 (29 :: 0 :: 1 :: 1 :: 1 :: 1 :: 1 :: 1 :: 1 :: 1 :: 1 :: 0 :: σ) [q1.1, (.p (.int .i64 0))] q32.2 (some 65)).bind fun q41 =>
 (asB q41.1).bind fun b42 =>
 some ((.p (.bool (!b42))), q41.2)) else (some ((.p (.bool false)), q32.2))).bind fun q43 =>
 (asB q43.1).bind fun b44 =>
 (bif b44 then ((callO rec 24 (34 :: 0 :: 1 :: 1 :: 1 :: 1 :: 1 :: 1 :: 1 :: 1 :: 1 :: 0 :: σ) [q1.1, (.p (.int .i64 5))] q43.2 (some 70)).bind fun q45 =>
 (asB q45.1).bind fun b46 =>
 some ((.p (.bool (!b46))), q45.2)) else (some ((.p (.bool false)), q43.2))).bind fun q47 =>
 (asB q47.1).bind fun b48 =>
 (bif b48 then ((callO rec 25 (39 :: 0 :: 1 :: 1 :: 1 :: 1 :: 1 :: 1 :: 1 :: 1 :: 1 :: 0 :: σ) [q1.1, (.p (.int .i64 (-1)))] q47.2 (some 75)).bind fun q49 =>
 (asB q49.1).bind fun b50 =>
 some ((.p (.bool (!b50))), q49.2)) else (some ((.p (.bool false)), q47.2))).bind fun q51 =>
 (asB q51.1).bind fun b52 =>
 (bif b52 then ((callO rec 23 (44 :: 0 :: 1 :: 1 :: 1 :: 1 :: 1 :: 1 :: 1 :: 1 :: 1 :: 0 :: σ) [q1.1, (.p (.int .i64 500006))] q51.2 (some 80)).bind fun q53 =>
 (buildSliceV Try.prog 24 1 [(0, (.p (.int .i64 1)))]).bind fun t54 =>
 (callO rec 44 (46 :: 0 :: 1 :: 1 :: 1 :: 1 :: 1 :: 1 :: 1 :: 1 :: 1 :: 0 :: σ) [q53.1, t54] q53.2 (some 82)).bind fun q55 =>
 (asB q55.1).bind fun b56 =>
 some ((.p (.bool b56)), q55.2)) else (some ((.p (.bool false)), q51.2))).bind fun q57 =>
 (asB q57.1).bind fun b58 =>
 fin false σ q57.2 [(.p (.bool b58))]) := by kernel_rfl
end Go.Ev
/- Equations, printed by tracer2.py. -/
namespace Go.Ev
open Go.Proofs
set_option linter.unusedVariables false
set_option maxRecDepth 100000
-- 23 (*limelight/watch.Watch).Idle
noncomputable def watch_Watch_Idle_c0 : Code := (codeAt (bodyOf Try.f23) [1, 1, 0, 1, 0, 0])
def watch_Watch_Idle_l0 : Lv := ⟨32, 16, [(0, 32)]⟩
noncomputable def watch_Watch_Idle_k0 (rec : CallF) (loop : LoopV) (σ : Stamp) : Exit → Env → H → Option (List C × H) := (kBlock 0 (kSeq G rec loop (codeAt (bodyOf Try.f23) [1, 1, 1]) ⟨16, 16, []⟩ (1 :: 1 :: 0 :: σ) (finC G true Try.f23 (1 :: σ))))
theorem watch_Watch_Idle_entry (rec : CallF) (loop : LoopV) (σ : Stamp) (x0 : V) (x1 : Int) (h : H) : cvBody G rec loop 23 σ [x0, (.p (.int .i64 x1))] h =
 (nilChk x0).bind fun t1 =>
 (fA t1 0).bind fun t2 =>
 (ldO false 1 (List.replicate 43 [] :: h) t2).bind fun t3 =>
 (lenO t3).bind fun t4 =>
 (castI .i64 t4).bind fun n5 =>
 (loop watch_Watch_Idle_c0 watch_Watch_Idle_l0 (1 :: 0 :: 1 :: 1 :: 0 :: σ) (envL [(1, (.p (.int .i64 x1))), (5, (.p (.slice .none 0 0))), (11, t3), (12, (.p (.int .i64 n5))), (13, (.p (.int .i64 0)))]) (List.replicate 43 [] :: h)).bind fun r6 => watch_Watch_Idle_k0 rec loop σ r6.1 r6.2.1 r6.2.2 := by kernel_rfl
theorem watch_Watch_Idle_r0 (rec : CallF) (loop : LoopV) (σ : Stamp) (x1 : Int) (x5 : V) (x11 : V) (x12 : Int) (x13 : Int) (h : H) : cvRound G rec loop watch_Watch_Idle_c0 watch_Watch_Idle_l0 σ (envL [(1, (.p (.int .i64 x1))), (5, x5), (11, x11), (12, (.p (.int .i64 x12))), (13, (.p (.int .i64 x13)))]) h =
 bif decide (x13 < x12) then (
 (iS 2 x11 x13).bind fun t7 =>
 (ldO true 2 h t7).bind fun t8 =>
 (some (alO [.p (.int .i64 0), .p (.bool false)] (3 :: 0 :: 0 :: 1 :: 1 :: 0 :: σ) 7 h)).bind fun q9 =>
 ((stO false 2 (5 :: 0 :: 0 :: 1 :: 1 :: 0 :: σ) q9.2 q9.1 t8).map fun h => (udf, h)).bind fun q10 =>
 (fA q9.1 1).bind fun t11 =>
 (ldO false 1 q10.2 t11).bind fun t12 =>
 (asB t12).bind fun b13 =>
 (bif !b13 then ((fA q9.1 0).bind fun t14 =>
 (ldO false 1 q10.2 t14).bind fun t15 =>
 (castI .i64 t15).bind fun n16 =>
 some (decide (n16 ≤ x1))) else (some false)).bind fun b17 =>
 (bif b17 then ((fA q9.1 0).bind fun t18 =>
 (ldO false 1 q10.2 t18).bind fun t19 =>
 (castI .i64 t19).bind fun n20 =>
 some (decide ((IntKind.wrap .u64 ((IntKind.wrap .u64 x1) - (IntKind.wrap .u64 n20))) ≥ 500000))) else (some false)).bind fun b21 =>
 bif b21 then (
 (buildSliceV Try.prog 24 1 [(0, (.p (.int .i64 x13)))]).bind fun t22 =>
 (apO true 1 8 (3 :: 1 :: 1 :: 0 :: 1 :: 1 :: 0 :: σ) 39 q10.2 x5 t22).bind fun q23 =>
 loop watch_Watch_Idle_c0 watch_Watch_Idle_l0 (1 :: σ) (envL [(1, (.p (.int .i64 x1))), (5, q23.1), (11, x11), (12, (.p (.int .i64 x12))), (13, (.p (.int .i64 (IntKind.wrap .i64 (x13 + 1)))))]) q23.2)
 else (
 loop watch_Watch_Idle_c0 watch_Watch_Idle_l0 (1 :: σ) (envL [(1, (.p (.int .i64 x1))), (5, x5), (11, x11), (12, (.p (.int .i64 x12))), (13, (.p (.int .i64 (IntKind.wrap .i64 (x13 + 1)))))]) q10.2))
 else (
 some ((.exit 0), (envL [(5, x5)]), h)) := by kernel_rfl
theorem watch_Watch_Idle_a0_0 (rec : CallF) (loop : LoopV) (σ : Stamp) (x5 : V) (h : H) : watch_Watch_Idle_k0 rec loop σ (.exit 0) (envL [(5, x5)]) h =
 (callO rec 47 (1 :: 0 :: 1 :: 1 :: 1 :: 0 :: σ) [x5] h (some 42)).bind fun q24 =>
 fin true σ q24.2 [q24.1] := by kernel_rfl
end Go.Ev
/- Equations, printed by tracer2.py. -/
namespace Go.Ev
open Go.Proofs
set_option linter.unusedVariables false
set_option maxRecDepth 100000
-- 46 (*limelight/watch.Watch).is
theorem watch_Watch_is_entry (rec : CallF) (loop : LoopV) (σ : Stamp) (x0 : V) (x1 : Int) (h : H) : cvBody G rec loop 46 σ [x0, (.p (.int .i64 x1))] h =
 (bif decide (x1 ≥ 0) then ((nilChk x0).bind fun t1 =>
 (fA t1 0).bind fun t2 =>
 (ldO false 1 (List.replicate 16 [] :: h) t2).bind fun t3 =>
 (lenO t3).bind fun t4 =>
 (castI .i64 t4).bind fun n5 =>
 some (decide (x1 < n5))) else (some false)).bind fun b6 =>
 fin false σ (List.replicate 16 [] :: h) [(.p (.bool b6))] := by kernel_rfl
end Go.Ev
/- Equations, printed by tracer2.py. -/
namespace Go.Ev
open Go.Proofs
set_option linter.unusedVariables false
set_option maxRecDepth 100000
-- 22 (*limelight/watch.Watch).Seen
theorem watch_Watch_Seen_entry (rec : CallF) (loop : LoopV) (σ : Stamp) (x0 : V) (x1 : Int) (x2 : Int) (h : H) : cvBody G rec loop 22 σ [x0, (.p (.int .i64 x1)), (.p (.int .i64 x2))] h =
 (callO rec 46 (2 :: 0 :: 0 :: σ) [x0, (.p (.int .i64 x1))] (List.replicate 26 [] :: h) (some 8)).bind fun q1 =>
 (asB q1.1).bind fun b2 =>
 bif b2 then (
 (nilChk x0).bind fun t3 =>
 (fA t3 0).bind fun t4 =>
 (ldO false 1 q1.2 t4).bind fun t5 =>
 (nilChk x0).bind fun t6 =>
 (fA t6 0).bind fun t7 =>
 (ldO false 1 q1.2 t7).bind fun t8 =>
 (iS 2 t8 x1).bind fun t9 =>
 (fA t9 0).bind fun t10 =>
 (ldO false 1 q1.2 t10).bind fun t11 =>
 (castI .i64 t11).bind fun n12 =>
 (iS 2 t5 x1).bind fun t13 =>
 (fA t13 0).bind fun t14 =>
 ((stO true 1 (17 :: 1 :: 0 :: σ) q1.2 t14 (.p (.int .i64 ((if x2 > n12 then x2 else n12))))).map fun h => (udf, h)).bind fun q15 =>
 fin false σ q15.2 [])
 else (
 fin false σ q1.2 []) := by kernel_rfl
end Go.Ev
/- Equations, printed by tracer2.py. -/
namespace Go.Ev
open Go.Proofs
set_option linter.unusedVariables false
set_option maxRecDepth 100000
-- 24 (*limelight/watch.Watch).Rest
theorem watch_Watch_Rest_entry (rec : CallF) (loop : LoopV) (σ : Stamp) (x0 : V) (x1 : Int) (h : H) : cvBody G rec loop 24 σ [x0, (.p (.int .i64 x1))] h =
 (callO rec 46 (2 :: 0 :: 0 :: 1 :: 0 :: σ) [x0, (.p (.int .i64 x1))] (List.replicate 26 [] :: h) (some 7)).bind fun q1 =>
 (asB q1.1).bind fun b2 =>
 (bif !b2 then (some true) else ((nilChk x0).bind fun t3 =>
 (fA t3 0).bind fun t4 =>
 (ldO false 1 q1.2 t4).bind fun t5 =>
 (iS 2 t5 x1).bind fun t6 =>
 (fA t6 1).bind fun t7 =>
 (ldO false 1 q1.2 t7).bind fun t8 =>
 (asB t8).bind fun b9 =>
 some b9)).bind fun b10 =>
 bif b10 then (
 fin false σ q1.2 [(.p (.bool false))])
 else (
 (nilChk x0).bind fun t11 =>
 (fA t11 0).bind fun t12 =>
 (ldO false 1 q1.2 t12).bind fun t13 =>
 (iS 2 t13 x1).bind fun t14 =>
 (fA t14 1).bind fun t15 =>
 ((stO true 1 (7 :: 0 :: 1 :: 1 :: 0 :: σ) q1.2 t15 (.p (.bool true))).map fun h => (udf, h)).bind fun q16 =>
 fin false σ q16.2 [(.p (.bool true))]) := by kernel_rfl
end Go.Ev
/- Equations, printed by tracer2.py. -/
namespace Go.Ev
open Go.Proofs
set_option linter.unusedVariables false
set_option maxRecDepth 100000
-- 25 (*limelight/watch.Watch).Resting
theorem watch_Watch_Resting_entry (rec : CallF) (loop : LoopV) (σ : Stamp) (x0 : V) (x1 : Int) (h : H) : cvBody G rec loop 25 σ [x0, (.p (.int .i64 x1))] h =
 (callO rec 46 (2 :: 0 :: 1 :: 0 :: σ) [x0, (.p (.int .i64 x1))] (List.replicate 18 [] :: h) (some 7)).bind fun q1 =>
 (asB q1.1).bind fun b2 =>
 (bif b2 then ((nilChk x0).bind fun t3 =>
 (fA t3 0).bind fun t4 =>
 (ldO false 1 q1.2 t4).bind fun t5 =>
 (iS 2 t5 x1).bind fun t6 =>
 (fA t6 1).bind fun t7 =>
 (ldO false 1 q1.2 t7).bind fun t8 =>
 (asB t8).bind fun b9 =>
 some b9) else (some false)).bind fun b10 =>
 fin false σ q1.2 [(.p (.bool b10))] := by kernel_rfl
end Go.Ev
/- Equations, printed by tracer2.py. -/
namespace Go.Ev
open Go.Proofs
set_option linter.unusedVariables false
set_option maxRecDepth 100000
-- 26 (*limelight/watch.Watch).Wake
theorem watch_Watch_Wake_entry (rec : CallF) (loop : LoopV) (σ : Stamp) (x0 : V) (x1 : Int) (x2 : Int) (h : H) : cvBody G rec loop 26 σ [x0, (.p (.int .i64 x1)), (.p (.int .i64 x2))] h =
 (callO rec 46 (2 :: 0 :: 0 :: 1 :: 0 :: σ) [x0, (.p (.int .i64 x1))] (List.replicate 33 [] :: h) (some 9)).bind fun q1 =>
 (asB q1.1).bind fun b2 =>
 (bif !b2 then (some true) else ((nilChk x0).bind fun t3 =>
 (fA t3 0).bind fun t4 =>
 (ldO false 1 q1.2 t4).bind fun t5 =>
 (iS 2 t5 x1).bind fun t6 =>
 (fA t6 1).bind fun t7 =>
 (ldO false 1 q1.2 t7).bind fun t8 =>
 (asB t8).bind fun b9 =>
 some (!b9))).bind fun b10 =>
 bif b10 then (
 fin false σ q1.2 [(.p (.bool false))])
 else (
 (nilChk x0).bind fun t11 =>
 (fA t11 0).bind fun t12 =>
 (ldO false 1 q1.2 t12).bind fun t13 =>
 (iS 2 t13 x1).bind fun t14 =>
 (fA t14 1).bind fun t15 =>
 ((stO true 1 (7 :: 0 :: 1 :: 1 :: 0 :: σ) q1.2 t15 (.p (.bool false))).map fun h => (udf, h)).bind fun q16 =>
 (callO rec 22 (3 :: 0 :: 1 :: 1 :: 1 :: 0 :: σ) [x0, (.p (.int .i64 x1)), (.p (.int .i64 x2))] q16.2 (some 32)).bind fun q17 =>
 fin false σ q17.2 [(.p (.bool true))]) := by kernel_rfl
end Go.Ev
/- Equations, printed by tracer2.py. -/
namespace Go.Ev
open Go.Proofs
set_option linter.unusedVariables false
set_option maxRecDepth 100000
-- 21 limelight/watch.New
theorem watch_New_entry (rec : CallF) (loop : LoopV) (σ : Stamp) (x0 : Int) (h : H) : cvBody G rec loop 21 σ [(.p (.int .i64 x0))] h =
 (bif decide (x0 < 1) then (some true) else (some (decide (x0 > 3)))).bind fun b1 =>
 bif b1 then (
 fin false σ (List.replicate 13 [] :: h) [(.p (.pointer .none))])
 else (
 (mkO 2 16 [.p (.int .i64 0), .p (.bool false)] (1 :: 0 :: 1 :: 1 :: 0 :: σ) 10 (List.replicate 13 [] :: h) x0 x0).bind fun q2 =>
 (buildV Try.prog 70 [(0, q2.1)]).bind fun t3 =>
 (boxO true (3 :: 0 :: 1 :: 1 :: 0 :: σ) 12 q2.2 t3).bind fun q4 =>
 fin false σ q4.2 [q4.1]) := by kernel_rfl
end Go.Ev
/- What watch.Watch's methods come to. -/
namespace Go.Ev.Watch
set_option linter.unusedSimpArgs false
set_option linter.unusedVariables false
open Go.Proofs
/-- A layer. -/
structure One where
  seen : Int
  rest : Bool
def oneV (o : One) : List V := [iV .i64 o.seen, bV o.rest]
def onesV (w : List One) : List V := w.flatMap oneV
theorem oneV_len (o : One) : (oneV o).length = 2 := rfl
theorem onesV_len (w : List One) : (onesV w).length = w.length * 2 := flat_length oneV_len w
def At (h : H) (l : Loc) (s : Stamp) (w : List One) : Prop := nd h l = some [.arr s w.length 2 ((onesV w).map .v)]
def put (h : H) (l : Loc) (s : Stamp) (w : List One) : H := setNd h l [.arr s w.length 2 ((onesV w).map .v)]
section
variable {h : H} {l : Loc} {s σ : Stamp} {w w' : List One} {L : Layer}
theorem At.ld (hw : At h l s w) : ldO false 1 (L :: h) (.ref l 0) = some (.sl (l.hop 0 s) 0 w.length w.length 2) := ldO_arr hw rfl
theorem At.sl (hw : At h l s w) : IsSl h (.sl (l.hop 0 s) 0 w.length w.length 2) 2 w.length (onesV w) := arr_sl hw rfl (onesV_len w)
theorem At.put (hw : At h l s w) (w' : List One) : At (put h l s w') l s w' := nd_setNd hw _
theorem At.put_put (hw : At h l s w) (a b : List One) : Watch.put (Watch.put h l s a) l s b = Watch.put h l s b := setNd_setNd hw _ _
theorem At.same (hw : At h l s w) : Watch.put h l s w = h := setNd_same hw
theorem At.up (hw : At h l s w) (L : Layer) : At (L :: h) l s w := nd_up hw L
theorem At.put_up (hw : At h l s w) (L : Layer) (w' : List One) : Watch.put (L :: h) l s w' = L :: Watch.put h l s w' := setNd_up hw L _
theorem At.rd (hw : At h l s w) {i j : Nat} {x : V} (hi : i < w.length) (hj : j < 2) (hx : (oneV w[i])[j]? = some x) : ldO false 1 (L :: h) (adr (.sl (l.hop 0 s) 0 w.length w.length 2) (i * 2 + j)) = some x :=
  (hw.sl.up L).ld1 (by rw [← hx]; exact flat_get oneV_len hi hj)
theorem At.st (hw : At h l s w) {own : Bool} {i j : Nat} {x : V} {y : One} (hi : i < w.length) (hj : j < 2) (hx : Still x) (hy : oneV y = (oneV w[i]).set j x) :
    stO own 1 σ (L :: h) (adr (.sl (l.hop 0 s) 0 w.length w.length 2) (i * 2 + j)) x = some (L :: Watch.put h l s (w.set i y)) := by
  have h1 : i * 2 + j < (onesV w).length := by rw [onesV_len]; omega
  simp only [adr, Nat.zero_add]
  rw [stO_elem hw (F := onesV w) rfl h1 hx]
  have h2 : (onesV w).set (i * 2 + j) x = onesV (w.set i y) := flat_set oneV_len hi hj hy
  rw [h2]
  simp [Watch.put]
/-! ### The methods -/
theorem is_ok (hw : At h l s w) (i : Int) : ev G X0 46 σ [.ref l 0, .p (.int .i64 i)] h = some ([.v (bV (decide (0 ≤ i ∧ i < w.length)))], h) := by
  refine ev_cv rfl ?_
  rw [watch_Watch_is_entry]
  by_cases h0 : 0 ≤ i
  · simp [h0, hw.ld, hw.sl.lenO, fin_1]
  · simp [h0, fin_1]
def isB (w : List One) (i : Int) : Bool := decide (0 ≤ i ∧ i < w.length)
def seen (w : List One) (i now : Int) : List One := if h : 0 ≤ i ∧ i < w.length then w.set i.toNat { w[i.toNat] with seen := max w[i.toNat].seen now } else w
theorem At.idx (hw : At h l s w) {i : Int} (h0 : 0 ≤ i) (hi : i < w.length) : iS 2 (.sl (l.hop 0 s) 0 w.length w.length 2) i = some (adr (.sl (l.hop 0 s) 0 w.length w.length 2) (i.toNat * 2)) := hw.sl.iS h0 hi
theorem At.fA (hw : At h l s w) {i j : Nat} (hi : i < w.length) (hj : j < 2) : Ev.fA (adr (.sl (l.hop 0 s) 0 w.length w.length 2) (i * 2)) j = some (adr (.sl (l.hop 0 s) 0 w.length w.length 2) (i * 2 + j)) :=
  hw.sl.fA (by omega) (by rw [onesV_len]; omega)
theorem max_eq (a b : Int) : (if a > b then a else b) = max b a := by omega
theorem seen_ok (hw : At h l s w) (i now : Int) : ev G X0 22 σ [.ref l 0, .p (.int .i64 i), .p (.int .i64 now)] h = some ([], Watch.put h l s (seen w i now)) := by
  refine ev_cv rfl ?_
  rw [watch_Watch_Seen_entry]
  simp only [callO_1 (is_ok (hw.up _) i), Option.bind_some, asB_p, nilChk_ref, fA_ref, hw.ld]
  by_cases h0 : 0 ≤ i ∧ i < w.length
  · have hi : i.toNat < w.length := by omega
    simp only [h0, and_self, decide_true, cond_true, hw.idx h0.1 h0.2, hw.fA hi (j := 0) (by omega), Option.bind_some, hw.rd hi (j := 0) (by omega) (x := iV .i64 w[i.toNat].seen) rfl, castI_p]
    rw [hw.st hi (by omega) (still_int _ _) (y := { w[i.toNat] with seen := max w[i.toNat].seen now }) (by rw [max_eq]; rfl)]
    simp [seen, h0]
  · simp [h0, hw.same, seen]
def rest (w : List One) (i : Int) : Bool := if h : 0 ≤ i ∧ i < w.length then w[i.toNat].rest else false
def setRest (w : List One) (i : Int) (b : Bool) : List One := if h : 0 ≤ i ∧ i < w.length then w.set i.toNat { w[i.toNat] with rest := b } else w
theorem resting_ok (hw : At h l s w) (i : Int) : ev G X0 25 σ [.ref l 0, .p (.int .i64 i)] h = some ([.v (bV (rest w i))], h) := by
  refine ev_cv rfl ?_
  rw [watch_Watch_Resting_entry]
  simp only [callO_1 (is_ok (hw.up _) i), Option.bind_some, asB_p, nilChk_ref, fA_ref, hw.ld]
  by_cases h0 : 0 ≤ i ∧ i < w.length
  · have hi : i.toNat < w.length := by omega
    simp only [h0, and_self, decide_true, cond_true, hw.idx h0.1 h0.2, hw.fA hi (j := 1) (by omega), Option.bind_some, hw.rd hi (j := 1) (by omega) (x := bV w[i.toNat].rest) rfl, asB_p]
    rw [fin_1 (still_bool _)]
    simp [rest, h0]
  · simp [h0, rest, fin_1]
theorem rest_ok (hw : At h l s w) (i : Int) : ev G X0 24 σ [.ref l 0, .p (.int .i64 i)] h = some ([.v (bV (isB w i && !rest w i))], if isB w i && !rest w i then Watch.put h l s (setRest w i true) else h) := by
  refine ev_cv rfl ?_
  rw [watch_Watch_Rest_entry]
  simp only [callO_1 (is_ok (hw.up _) i), Option.bind_some, asB_p, nilChk_ref, fA_ref, hw.ld]
  by_cases h0 : 0 ≤ i ∧ i < w.length
  · have hi : i.toNat < w.length := by omega
    simp only [h0, and_self, decide_true, cond_true, cond_false, Bool.not_true, hw.idx h0.1 h0.2, hw.fA hi (j := 1) (by omega), Option.bind_some, hw.rd hi (j := 1) (by omega) (x := bV w[i.toNat].rest) rfl, asB_p]
    rw [hw.st hi (by omega) (still_bool _) (y := { w[i.toNat] with rest := true }) rfl]
    cases hr : w[i.toNat].rest <;> simp [rest, isB, setRest, h0, hr, fin_1]
  · simp [h0, rest, isB, fin_1]
def wake (w : List One) (i now : Int) : List One := seen (setRest w i false) i now
theorem setRest_len (w : List One) (i : Int) (b : Bool) : (setRest w i b).length = w.length := by unfold setRest; split <;> simp
theorem wake_ok (hw : At h l s w) (i now : Int) : ev G X0 26 σ [.ref l 0, .p (.int .i64 i), .p (.int .i64 now)] h = some ([.v (bV (rest w i))], if rest w i then Watch.put h l s (wake w i now) else h) := by
  refine ev_cv rfl ?_
  rw [watch_Watch_Wake_entry]
  simp only [callO_1 (is_ok (hw.up _) i), Option.bind_some, asB_p, nilChk_ref, fA_ref, hw.ld]
  by_cases h0 : 0 ≤ i ∧ i < w.length
  · have hi : i.toNat < w.length := by omega
    simp only [h0, and_self, decide_true, cond_true, cond_false, Bool.not_true, hw.idx h0.1 h0.2, hw.fA hi (j := 1) (by omega), Option.bind_some, hw.rd hi (j := 1) (by omega) (x := bV w[i.toNat].rest) rfl, asB_p]
    rw [hw.st hi (by omega) (still_bool _) (y := { w[i.toNat] with rest := false }) rfl]
    cases hr : w[i.toNat].rest
    · simp [rest, h0, hr, fin_1]
    · simp only [Bool.not_true, cond_false, Option.map_some, Option.bind_some]
      have h1 : w.set i.toNat { w[i.toNat] with rest := false } = setRest w i false := by simp [setRest, h0]
      rw [h1]
      rw [callO_0 (seen_ok ((hw.put _).up _) i now)]
      rw [(hw.put _).put_up, hw.put_put]
      simp [rest, h0, hr, fin_1, wake]
  · simp [h0, rest, fin_1]
theorem rept_ones (n : Nat) (o : One) : rept n (oneV o) = onesV (List.replicate n o) := by
  induction n with
  | zero => rfl
  | succ n ih => rw [rept, ih, List.replicate_succ]; rfl
def new (n : Int) : List One := List.replicate n.toNat ⟨0, false⟩
theorem new_ok (n : Int) (h1 : 1 ≤ n) (h3 : n ≤ 3) : ev G X0 21 σ [.p (.int .i64 n)] h = some ([.own (3 :: 0 :: 1 :: 1 :: 0 :: σ) [.arr (1 :: 0 :: 1 :: 1 :: 0 :: σ) (new n).length 2 ((onesV (new n)).map .v)]], h) := by
  refine ev_cv rfl ?_
  rw [watch_New_entry]
  have e1 : decide (n < 1) = false := by simp; omega
  have e2 : decide (n > 3) = false := by simp; omega
  simp only [e1, e2, cond_false, Option.bind_some]
  rw [mkO_ok (e := 2) (z := [.p (.int .i64 0), .p (.bool false)]) (by omega) (by omega) (by omega) rfl (by omega)]
  have hb : ∀ x : Loc, buildV Try.prog 70 [(0, .sl x 0 n.toNat n.toNat 2)] = some (.agg [.sl x 0 n.toNat n.toNat 2]) := fun x => by kernel_rfl
  simp only [Option.bind_some, hb]
  have hd : ((List.replicate 13 ([] : List C)).set 10 [.arr (1 :: 0 :: 1 :: 1 :: 0 :: σ) n.toNat 2 ((rept n.toNat [.p (.int .i64 0), .p (.bool false)]).map .v)])[10]? = some [.arr (1 :: 0 :: 1 :: 1 :: 0 :: σ) n.toNat 2 ((rept n.toNat [.p (.int .i64 0), .p (.bool false)]).map .v)] := by simp
  have hc : ∀ x, (V.agg [x]).cells = [x] := fun _ => rfl
  simp only [boxO, hc, layCs, layC_arr hd, Option.bind_some, setSlot_cons, newLoc_cons]
  rw [fin_own (by rw [List.getElem?_set_self (by simp)])]
  have hr : rept n.toNat [.p (.int .i64 0), .p (.bool false)] = onesV (new n) := rept_ones _ ⟨0, false⟩
  have hl : (new n).length = n.toNat := by simp [new]
  rw [hr, hl]
theorem new_none (n : Int) (hn : n < 1 ∨ 3 < n) : ev G X0 21 σ [.p (.int .i64 n)] h = some ([.v (.p (.pointer none))], h) := by
  refine ev_cv rfl ?_
  rw [watch_New_entry]
  by_cases h1 : n < 1
  · simp [h1, fin_1]
  · have h3 : 3 < n := by omega
    simp [h1, h3, fin_1]
end
end Go.Ev.Watch
/- Equations, printed by tracer2.py. -/
namespace Go.Ev
open Go.Proofs
set_option linter.unusedVariables false
set_option maxRecDepth 100000
-- 47 slices.Clip[[]int,int]
theorem slices_Clip_Lint_int_entry (rec : CallF) (loop : LoopV) (σ : Stamp) (x0 : V) (h : H) : cvBody G rec loop 47 σ [x0] h =
 (lenO x0).bind fun t1 =>
 (castI .i64 t1).bind fun n2 =>
 (lenO x0).bind fun t3 =>
 (castI .i64 t3).bind fun n4 =>
 (slS 1 x0 none (some n2) (some n4)).bind fun t5 =>
 fin false σ (List.replicate 9 [] :: h) [t5] := by kernel_rfl
end Go.Ev
/- slices.Clip of a slice that is as long as its room. -/
namespace Go.Ev
set_option linter.unusedSimpArgs false
set_option linter.unusedVariables false
theorem clip_acc {D : List Nat} {L : Layer} {h : H} {v : V} {n : Nat} {xs : List V} (ha : Grow D L h.length v 1 n xs) (σ : Stamp) : ev G X0 47 σ [v] (L :: h) = some ([.v v], L :: h) := by
  refine ev_cv rfl ?_
  rw [slices_Clip_Lint_int_entry]
  have hl := ha.sl.lenO
  simp only [hl, Option.bind_some, castI_p]
  rcases ha with ⟨rfl, rfl, rfl⟩ | ⟨h1, h2, d', hd', s, rfl, h3⟩
  · simp [slS, bI, fin_1]
  · simp [slS, bI]
    rw [if_neg h1]
    simp [fin_low]
end Go.Ev
/- What watch.Watch.Idle comes to. -/
namespace Go.Ev.Watch
set_option linter.unusedSimpArgs false
set_option linter.unusedVariables false
open Go.Proofs
/-- Whether a layer is idle. -/
def isIdle (o : One) (now : Int) : Bool := !o.rest && (decide (o.seen ≤ now) && decide (500000 ≤ (now % 18446744073709551616 - o.seen % 18446744073709551616) % 18446744073709551616))
/-- Those of the first k that are idle. -/
def idleTo (w : List One) (now : Int) : Nat → List Int
  | 0 => []
  | k + 1 => idleTo w now k ++ (if h : k < w.length then (if isIdle w[k] now then [(k : Int)] else []) else [])
def idle (w : List One) (now : Int) : List Int := idleTo w now w.length
theorem idleTo_len (w : List One) (now : Int) : ∀ k, (idleTo w now k).length ≤ k
  | 0 => by simp [idleTo]
  | k + 1 => by
    have := idleTo_len w now k
    simp only [idleTo, List.length_append]
    split
    · split <;> simp <;> omega
    · simp; omega
section
variable {h : H} {l : Loc} {s : Stamp} {w : List One}
theorem idle_loop (hw : At h l s w) (hn : w.length ≤ 1000) (now : Int) : ∀ (d k : Nat) (σ : Stamp) (L : Layer) (v : V), k + d = w.length → L.length = 43 → Grow [39] L h.length v 1 (idleTo w now k).length (ints (idleTo w now k)) →
    ∃ v' L', cvL G X0 watch_Watch_Idle_c0 watch_Watch_Idle_l0 σ (envL [(1, .p (.int .i64 now)), (5, v), (11, .sl (l.hop 0 s) 0 w.length w.length 2), (12, .p (.int .i64 w.length)), (13, .p (.int .i64 k))]) (L :: h) = some (.exit 0, envL [(5, v')], L' :: h) ∧
      Grow [39] L' h.length v' 1 (idle w now).length (ints (idle w now)) := by
  intro d
  induction d with
  | zero =>
    intro k σ L v hk hL hg
    refine ⟨v, L, cvL_round ?_, ?_⟩
    · rw [watch_Watch_Idle_r0]
      have : decide ((k : Int) < w.length) = false := by simp; omega
      simp only [this, cond_false]
    · have : k = w.length := by omega
      subst this; exact hg
  | succ d ih =>
    intro k σ L v hk hL hg
    have hlt : k < w.length := by omega
    have hd7 : (L.set 7 [.own (3 :: 0 :: 0 :: 1 :: 1 :: 0 :: σ) ((oneV w[k]).map .v)])[7]? = some [.own (3 :: 0 :: 0 :: 1 :: 1 :: 0 :: σ) ((oneV w[k]).map .v)] := by simp [hL]
    have e1 : decide ((k : Int) < w.length) = true := by simp; omega
    have hld : ldO true 2 (L :: h) (adr (.sl (l.hop 0 s) 0 w.length w.length 2) (k * 2)) = some (.agg (oneV w[k])) := by
      rw [(hw.sl.up L).ld (by rw [onesV_len]; omega) (by omega), onesV, flat_at oneV_len hlt]; rfl
    have hst : Stills (oneV w[k]) := stills_cons (still_int _ _) (stills_cons (still_bool _) stills_nil)
    have round : ∀ r, (bif isIdle w[k] now then (
        (apO true 1 8 (3 :: 1 :: 1 :: 0 :: 1 :: 1 :: 0 :: σ) 39 (L.set 7 [.own (3 :: 0 :: 0 :: 1 :: 1 :: 0 :: σ) ((oneV w[k]).map .v)] :: h) v (.fz [.p (.int .i64 k)] 1 1 true)).bind fun q => cvL G X0 watch_Watch_Idle_c0 watch_Watch_Idle_l0 (1 :: σ) (envL [(1, .p (.int .i64 now)), (5, q.1), (11, .sl (l.hop 0 s) 0 w.length w.length 2), (12, .p (.int .i64 w.length)), (13, .p (.int .i64 (k + 1 : Nat)))]) q.2)
        else cvL G X0 watch_Watch_Idle_c0 watch_Watch_Idle_l0 (1 :: σ) (envL [(1, .p (.int .i64 now)), (5, v), (11, .sl (l.hop 0 s) 0 w.length w.length 2), (12, .p (.int .i64 w.length)), (13, .p (.int .i64 (k + 1 : Nat)))]) (L.set 7 [.own (3 :: 0 :: 0 :: 1 :: 1 :: 0 :: σ) ((oneV w[k]).map .v)] :: h)) = some r →
        cvL G X0 watch_Watch_Idle_c0 watch_Watch_Idle_l0 σ (envL [(1, .p (.int .i64 now)), (5, v), (11, .sl (l.hop 0 s) 0 w.length w.length 2), (12, .p (.int .i64 w.length)), (13, .p (.int .i64 k))]) (L :: h) = some r := fun r hr => by
      refine cvL_round ?_
      rw [watch_Watch_Idle_r0, e1]
      have hw1 : IntKind.wrap .i64 ((k : Int) + 1) = ((k + 1 : Nat) : Int) := by rw [wrap64 (by omega) (by omega)]; omega
      have hb : buildSliceV Try.prog 24 1 [(0, .p (.int .i64 k))] = some (.fz [.p (.int .i64 k)] 1 1 true) := by kernel_rfl
      simp only [cond_true, hw.sl.iSn hlt, Option.bind_some, hld, alO_1]
      rw [alO_st (n := 2) (z := [.p (.int .i64 0), .p (.bool false)]) (vs := oneV w[k]) (by omega) rfl hst rfl]
      simp only [Option.map_some, Option.bind_some, fA_ref, Nat.zero_add, var_ld hd7 (o := 1) (x := bV w[k].rest) rfl, var_ld hd7 (o := 0) (x := iV .i64 w[k].seen) rfl, asB_p, castI_p, hb, hw1, wrapU64_eq]
      rw [← hr]
      unfold isIdle
      cases w[k].rest
      · by_cases h1 : w[k].seen ≤ now
        · by_cases h2 : 500000 ≤ (now % 18446744073709551616 - w[k].seen % 18446744073709551616) % 18446744073709551616
          · simp [h1, h2]
          · simp [h1, h2]
        · simp [h1]
      · simp
    have hnext : idleTo w now (k + 1) = idleTo w now k ++ if isIdle w[k] now then [(k : Int)] else [] := by rw [idleTo, dif_pos hlt]
    have hg7 : Grow [39] (L.set 7 [.own (3 :: 0 :: 0 :: 1 :: 1 :: 0 :: σ) ((oneV w[k]).map .v)]) h.length v 1 (idleTo w now k).length (ints (idleTo w now k)) := hg.frame fun d hd => by
      simp only [List.mem_singleton] at hd; subst hd; rw [List.getElem?_set_ne (by omega)]
    cases hi : isIdle w[k] now with
    | true =>
      rw [hi, if_pos rfl] at hnext
      have hlen := idleTo_len w now k
      obtain ⟨v', L', q1, q2, q3, _⟩ := hg7.app (own := true) (b := 8) (σ := 3 :: 1 :: 1 :: 0 :: 1 :: 1 :: 0 :: σ) (d := 39) (by simp) (by simp [hL]) (fz_lit [.p (.int .i64 k)] 1 1 rfl _) (stills_cons (still_int _ _) stills_nil) (by omega) (by omega) (by omega) (by omega)
      have q4 : Grow [39] L' h.length v' 1 (idleTo w now (k + 1)).length (ints (idleTo w now (k + 1))) := by
        rw [hnext]; simpa [ints] using q2
      obtain ⟨v2, L2, r1, r2⟩ := ih (k + 1) (1 :: σ) L' v' (by omega) (by rw [q3]; simp [hL]) q4
      refine ⟨v2, L2, round _ ?_, r2⟩
      rw [hi, cond_true, q1]
      exact r1
    | false =>
      rw [hi] at hnext
      have q4 : Grow [39] (L.set 7 [.own (3 :: 0 :: 0 :: 1 :: 1 :: 0 :: σ) ((oneV w[k]).map .v)]) h.length v 1 (idleTo w now (k + 1)).length (ints (idleTo w now (k + 1))) := by
        rw [hnext]; simpa using hg7
      obtain ⟨v2, L2, r1, r2⟩ := ih (k + 1) (1 :: σ) _ v (by omega) (by simp [hL]) q4
      refine ⟨v2, L2, round _ ?_, r2⟩
      rw [hi, cond_false]
      exact r1
theorem idle_ok (hw : At h l s w) (hn : w.length ≤ 1000) (now : Int) {σ : Stamp} : ev G X0 23 σ [.ref l 0, .p (.int .i64 now)] h = some ([.v (intsV (idle w now))], h) := by
  obtain ⟨v, L, q1, q2⟩ := idle_loop hw hn now w.length 0 (1 :: 0 :: 1 :: 1 :: 0 :: σ) (List.replicate 43 []) (.p (.slice none 0 0)) (by omega) rfl (Grow.nil _ _ _ _)
  refine ev_cv rfl ?_
  rw [watch_Watch_Idle_entry]
  simp only [nilChk_ref, fA_ref, Option.bind_some, hw.ld, hw.sl.lenO, castI_p]
  rw [show ((0 : Nat) : Int) = 0 from rfl] at q1
  rw [q1]
  simp only [Option.bind_some]
  rw [watch_Watch_Idle_a0_0]
  rw [callO_1 (clip_acc q2 _)]
  exact q2.frz σ
end
end Go.Ev.Watch
/- Equations, printed by tracer2.py. -/
namespace Go.Ev
open Go.Proofs
set_option linter.unusedVariables false
set_option maxRecDepth 100000
-- 44 limelight/limelightref18.Ints
noncomputable def limelightref18_Ints_c0 : Code := (codeAt (bodyOf Try.f44) [1, 1, 0, 1, 0, 0])
def limelightref18_Ints_l0 : Lv := ⟨0, 16, [(0, 0)]⟩
noncomputable def limelightref18_Ints_k0 (rec : CallF) (loop : LoopV) (σ : Stamp) : Exit → Env → H → Option (List C × H) := (kBlock 0 (kSeq G rec loop (codeAt (bodyOf Try.f44) [1, 1, 1]) ⟨16, 16, []⟩ (1 :: 1 :: 0 :: σ) (finC G false Try.f44 (1 :: σ))))
theorem limelightref18_Ints_entry (rec : CallF) (loop : LoopV) (σ : Stamp) (x0 : V) (x1 : V) (h : H) : cvBody G rec loop 44 σ [x0, x1] h =
 (lenO x0).bind fun t1 =>
 (castI .i64 t1).bind fun n2 =>
 (lenO x1).bind fun t3 =>
 (castI .i64 t3).bind fun n4 =>
 bif n2 != n4 then (
 fin false σ (List.replicate 26 [] :: h) [(.p (.bool false))])
 else (
 (lenO x0).bind fun t5 =>
 (castI .i64 t5).bind fun n6 =>
 (loop limelightref18_Ints_c0 limelightref18_Ints_l0 (1 :: 0 :: 1 :: 1 :: 0 :: σ) (envL [(0, x0), (1, x1), (12, (.p (.int .i64 n6))), (13, (.p (.int .i64 0)))]) (List.replicate 26 [] :: h)).bind fun r7 => limelightref18_Ints_k0 rec loop σ r7.1 r7.2.1 r7.2.2) := by kernel_rfl
theorem limelightref18_Ints_r0 (rec : CallF) (loop : LoopV) (σ : Stamp) (x0 : V) (x1 : V) (x12 : Int) (x13 : Int) (h : H) : cvRound G rec loop limelightref18_Ints_c0 limelightref18_Ints_l0 σ (envL [(0, x0), (1, x1), (12, (.p (.int .i64 x12))), (13, (.p (.int .i64 x13)))]) h =
 bif decide (x13 < x12) then (
 (iS 1 x0 x13).bind fun t8 =>
 (ldO false 1 h t8).bind fun t9 =>
 (castI .i64 t9).bind fun n10 =>
 (iS 1 x1 x13).bind fun t11 =>
 (ldO false 1 h t11).bind fun t12 =>
 (castI .i64 t12).bind fun n13 =>
 bif n10 != n13 then (
 some (.ret, (envL [(4, (.p (.bool false)))]), h))
 else (
 loop limelightref18_Ints_c0 limelightref18_Ints_l0 (1 :: σ) (envL [(0, x0), (1, x1), (12, (.p (.int .i64 x12))), (13, (.p (.int .i64 (IntKind.wrap .i64 (x13 + 1)))))]) h))
 else (
 some ((.exit 0), (envL []), h)) := by kernel_rfl
theorem limelightref18_Ints_a0_0 (rec : CallF) (loop : LoopV) (σ : Stamp)  (h : H) : limelightref18_Ints_k0 rec loop σ (.exit 0) (envL []) h =
 fin false σ h [(.p (.bool true))] := by kernel_rfl
theorem limelightref18_Ints_a0_ret (rec : CallF) (loop : LoopV) (σ : Stamp) (x4 : Bool) (h : H) : limelightref18_Ints_k0 rec loop σ .ret (envL [(4, (.p (.bool x4)))]) h =
 fin false σ h [(.p (.bool x4))] := by kernel_rfl
end Go.Ev
/- limelightref18.Ints: are two lists of numbers the same? -/
namespace Go.Ev
set_option linter.unusedSimpArgs false
set_option linter.unusedVariables false
open Go.Proofs
theorem ints_loop {h : H} {a b : V} {xs ys : List Int} (ha : IsInts h a xs) (hb : IsInts h b ys) (hl : xs.length = ys.length) (hn : xs.length < 2 ^ 62) (L : Layer) : ∀ (d k : Nat) (σ : Stamp), k + d = xs.length →
    (xs.drop k = ys.drop k → cvL G X0 limelightref18_Ints_c0 limelightref18_Ints_l0 σ (envL [(0, a), (1, b), (12, .p (.int .i64 xs.length)), (13, .p (.int .i64 k))]) (L :: h) = some (.exit 0, envL [], L :: h)) ∧
    (xs.drop k ≠ ys.drop k → cvL G X0 limelightref18_Ints_c0 limelightref18_Ints_l0 σ (envL [(0, a), (1, b), (12, .p (.int .i64 xs.length)), (13, .p (.int .i64 k))]) (L :: h) = some (.ret, envL [(4, .p (.bool false))], L :: h)) := by
  intro d
  induction d with
  | zero =>
    intro k σ hk
    have : decide ((k : Int) < xs.length) = false := by simp; omega
    refine ⟨fun _ => cvL_round (by rw [limelightref18_Ints_r0]; simp only [this, cond_false]), fun hne => absurd ?_ hne⟩
    rw [List.drop_eq_nil_of_le (by omega), List.drop_eq_nil_of_le (by omega)]
  | succ d ih =>
    intro k σ hk
    have hx : k < xs.length := by omega
    have hy : k < ys.length := by omega
    have e1 : decide ((k : Int) < xs.length) = true := by simp; omega
    have hw1 : IntKind.wrap .i64 ((k : Int) + 1) = ((k + 1 : Nat) : Int) := by rw [wrap64 (by omega) (by omega)]; omega
    obtain ⟨i1, i2⟩ := ih (k + 1) (1 :: σ) (by omega)
    rw [List.drop_eq_getElem_cons hx, List.drop_eq_getElem_cons hy]
    have step : cvRound G (ev G X0) (cvL G X0) limelightref18_Ints_c0 limelightref18_Ints_l0 σ (envL [(0, a), (1, b), (12, .p (.int .i64 xs.length)), (13, .p (.int .i64 k))]) (L :: h) =
        bif xs[k] != ys[k] then some (.ret, envL [(4, .p (.bool false))], L :: h) else cvL G X0 limelightref18_Ints_c0 limelightref18_Ints_l0 (1 :: σ) (envL [(0, a), (1, b), (12, .p (.int .i64 xs.length)), (13, .p (.int .i64 (k + 1 : Nat)))]) (L :: h) := by
      rw [limelightref18_Ints_r0, e1]
      simp only [cond_true, ha.idx hx, hb.idx hy, Option.bind_some, ha.rd hx L, hb.rd hy L, castI_p, hw1]
    by_cases he : xs[k] = ys[k]
    · have h1 : (xs[k] != ys[k]) = false := by simp [he]
      rw [h1, cond_false] at step
      exact ⟨fun hc => cvL_round (by rw [step]; exact i1 (List.cons.inj hc).2), fun hc => cvL_round (by rw [step]; exact i2 fun h => hc (by rw [he, h]))⟩
    · have h1 : (xs[k] != ys[k]) = true := by simp [he]
      rw [h1, cond_true] at step
      exact ⟨fun hc => absurd (List.cons.inj hc).1 he, fun _ => cvL_round step⟩
theorem ints_ok {h : H} {a b : V} {xs ys : List Int} (ha : IsInts h a xs) (hb : IsInts h b ys) (hn : xs.length < 2 ^ 62) {σ : Stamp} : ev G X0 44 σ [a, b] h = some ([.v (bV (decide (xs = ys)))], h) := by
  refine ev_cv rfl ?_
  rw [limelightref18_Ints_entry]
  have la := ha.lenO
  have lb := hb.lenO
  simp only [la, lb, Option.bind_some, castI_p]
  by_cases hl : xs.length = ys.length
  · have e1 : ((xs.length : Int) != (ys.length : Int)) = false := by simp [hl]
    simp only [e1, cond_false]
    obtain ⟨i1, i2⟩ := ints_loop ha hb hl hn (List.replicate 26 []) xs.length 0 (1 :: 0 :: 1 :: 1 :: 0 :: σ) (by omega)
    simp only [List.drop_zero] at i1 i2
    rw [show ((0 : Nat) : Int) = 0 from rfl] at i1 i2
    by_cases he : xs = ys
    · rw [i1 he]
      simp only [Option.bind_some, limelightref18_Ints_a0_0, fin_1 (still_bool _), he, decide_true]
    · rw [i2 he]
      simp only [Option.bind_some, limelightref18_Ints_a0_ret, fin_1 (still_bool _), he, decide_false]
  · have e1 : ((xs.length : Int) != (ys.length : Int)) = true := by simp; omega
    have he : xs ≠ ys := fun h => hl (by rw [h])
    simp only [e1, cond_true, fin_1 (still_bool _), he, decide_false]
end Go.Ev
/- limelightlaw20.known is true. -/
namespace Go.Ev.Watch
set_option linter.unusedSimpArgs false
set_option linter.unusedVariables false
open Go.Proofs
theorem nil_eq (h : H) : binV Try.prog h .eql 39 (.p (.pointer none)) (.p (.pointer none)) = some (bV true) := by kernel_rfl
theorem nil_ne (h : H) : binV Try.prog h .neq 39 (.p (.pointer none)) (.p (.pointer none)) = some (bV false) := by kernel_rfl
theorem ref_eq (h : H) (l : Loc) (o : Nat) : binV Try.prog h .eql 39 (.ref l o) (.p (.pointer none)) = some (bV false) := by kernel_rfl
theorem lit2 (a b : Int) : buildSliceV Try.prog 24 2 [(0, .p (.int .i64 a)), (1, .p (.int .i64 b))] = some (.fz (ints [a, b]) 2 1 true) := by kernel_rfl
theorem lit1 (a : Int) : buildSliceV Try.prog 24 1 [(0, .p (.int .i64 a))] = some (.fz (ints [a]) 1 1 true) := by kernel_rfl
theorem put_own {L : Layer} {h : H} {d : Nat} {s s2 : Stamp} {cs : List C} (hd : L[d]? = some [.own s cs]) (w : List One) : Watch.put (L :: h) ⟨h.length, d, 0, s, []⟩ s2 w = L.set d [.own s [.arr s2 w.length 2 ((onesV w).map .v)]] :: h := setNd_own hd _
theorem known_ok (h : H) {σ : Stamp} : ev G X0 20 σ [] h = some ([.v (bV true)], h) := by
  refine ev_cv rfl ?_
  rw [limelightlaw20_known_entry]
  rw [callO_own (new_ok 2 (by omega) (by omega))]
  simp only [Option.bind_some, ref_eq, asB_p, cond_false]
  rw [callO_1 (new_none 0 (by omega))]
  simp only [Option.bind_some, nil_ne, asB_p, cond_false]
  rw [callO_1 (new_none 4 (by omega))]
  simp only [Option.bind_some, nil_ne, asB_p, cond_false]
  generalize hL : (List.replicate 84 ([] : List C)).set 9 _ = L
  have hd : L[9]? = some [.own (3 :: 0 :: 1 :: 1 :: 0 :: 0 :: 0 :: 1 :: 0 :: σ) [.arr (1 :: 0 :: 1 :: 1 :: 0 :: 0 :: 0 :: 1 :: 0 :: σ) (new 2).length 2 ((onesV (new 2)).map .v)]] := by rw [← hL]; simp
  have hw : At (L :: h) ⟨h.length, 9, 0, 3 :: 0 :: 1 :: 1 :: 0 :: 0 :: 0 :: 1 :: 0 :: σ, []⟩ (1 :: 0 :: 1 :: 1 :: 0 :: 0 :: 0 :: 1 :: 0 :: σ) (new 2) := nd_own hd
  generalize 3 :: 0 :: 1 :: 1 :: 0 :: 0 :: 0 :: 1 :: 0 :: σ = s1 at hd hw ⊢
  generalize 1 :: 0 :: 1 :: 1 :: 0 :: 0 :: 0 :: 1 :: 0 :: σ = s2 at hd hw ⊢
  have hp := put_own (h := h) (s2 := s2) hd
  generalize (⟨h.length, 9, 0, s1, []⟩ : Loc) = l at hw hp ⊢
  have w1 := hw.put [⟨0, false⟩, ⟨5, false⟩]
  have w2 := hw.put [⟨0, true⟩, ⟨5, false⟩]
  have w3 := hw.put [⟨7, false⟩, ⟨5, false⟩]
  rw [callO_1 (idle_ok hw (by decide) 500000)]
  simp only [Option.bind_some]
  rw [callO_0 (seen_ok hw 1 5), show seen (new 2) 1 5 = [⟨0, false⟩, ⟨5, false⟩] from rfl]
  simp only [Option.bind_some]
  rw [callO_1 (idle_ok w1 (by decide) 500000)]
  simp only [Option.bind_some]
  rw [callO_1 (rest_ok w1 0), show (isB [⟨0, false⟩, ⟨5, false⟩] 0 && !rest [⟨0, false⟩, ⟨5, false⟩] 0) = true from rfl, if_pos rfl, hw.put_put, show setRest [⟨0, false⟩, ⟨5, false⟩] 0 true = [⟨0, true⟩, ⟨5, false⟩] from rfl]
  simp only [Option.bind_some, asB_p]
  rw [callO_1 (rest_ok w2 0), show (isB [⟨0, true⟩, ⟨5, false⟩] 0 && !rest [⟨0, true⟩, ⟨5, false⟩] 0) = false from rfl, if_neg (by decide)]
  simp only [Option.bind_some, asB_p]
  rw [callO_1 (idle_ok w2 (by decide) 500000)]
  simp only [Option.bind_some]
  rw [callO_1 (wake_ok w2 0 7), show rest [⟨0, true⟩, ⟨5, false⟩] 0 = true from rfl, if_pos rfl, hw.put_put, show wake [⟨0, true⟩, ⟨5, false⟩] 0 7 = [⟨7, false⟩, ⟨5, false⟩] from rfl]
  simp only [Option.bind_some, asB_p]
  rw [callO_1 (wake_ok w3 0 8), show rest [⟨7, false⟩, ⟨5, false⟩] 0 = false from rfl, if_neg (by decide)]
  simp only [Option.bind_some, asB_p, lit2, lit1]
  rw [callO_1 (ints_ok (intsV_ok _ _) (lit_n [0, 1] 2 rfl _) (by decide)), show decide (idle (new 2) 500000 = [0, 1]) = true from by decide +kernel]
  simp only [Option.bind_some, asB_p, cond_true]
  rw [callO_1 (ints_ok (intsV_ok _ _) (lit_n [0] 1 rfl _) (by decide)), show decide (idle [⟨0, false⟩, ⟨5, false⟩] 500000 = [0]) = true from by decide +kernel]
  simp only [Option.bind_some, asB_p, cond_true, Bool.not_false]
  rw [(intsV_ok (idle [⟨0, true⟩, ⟨5, false⟩] 500000) []).lenO, show (idle [⟨0, true⟩, ⟨5, false⟩] 500000).length = 0 from by decide +kernel]
  simp only [Option.bind_some, castI_p, cond_true, show (((0 : Nat) : Int) == 0) = true from rfl]
  rw [callO_1 (resting_ok w3 0), show rest [⟨7, false⟩, ⟨5, false⟩] 0 = false from rfl]
  simp only [Option.bind_some, asB_p, cond_true, Bool.not_false]
  rw [callO_1 (rest_ok w3 5), show (isB [⟨7, false⟩, ⟨5, false⟩] 5 && !rest [⟨7, false⟩, ⟨5, false⟩] 5) = false from rfl, if_neg (by decide)]
  simp only [Option.bind_some, asB_p, cond_true, Bool.not_false]
  rw [callO_1 (resting_ok w3 (-1)), show rest [⟨7, false⟩, ⟨5, false⟩] (-1) = false from rfl]
  simp only [Option.bind_some, asB_p, cond_true, Bool.not_false]
  rw [callO_1 (idle_ok w3 (by decide) 500006)]
  simp only [Option.bind_some, lit1]
  rw [callO_1 (ints_ok (intsV_ok _ _) (lit_n [1] 1 rfl _) (by decide)), show decide (idle [⟨7, false⟩, ⟨5, false⟩] 500006 = [1]) = true from by decide +kernel]
  simp only [Option.bind_some, asB_p]
  rw [hp, fin_1 (still_bool _)]
end Go.Ev.Watch
/- Equations, printed by tracer2.py. -/
namespace Go.Ev
open Go.Proofs
set_option linter.unusedVariables false
set_option maxRecDepth 100000
-- 27 limelight/limelightbook.Within
theorem limelightbook_Within_entry (rec : CallF) (loop : LoopV) (σ : Stamp) (x0 : Int) (x1 : Int) (x2 : Int) (h : H) : cvBody G rec loop 27 σ [(.p (.int .i64 x0)), (.p (.int .i64 x1)), (.p (.int .i64 x2))] h =
 (bif decide (x0 ≥ x1) then (some (decide (x0 ≤ x2))) else (some false)).bind fun b1 =>
 bif b1 then (
 fin false σ (List.replicate 33 [] :: h) [(.p (.int .i64 x0))])
 else (
 (remI .i64 x0 (IntKind.wrap .i64 ((IntKind.wrap .i64 (x2 - x1)) + 1))).bind fun t2 =>
 (castI .i64 t2).bind fun n3 =>
 bif decide (n3 < 0) then (
 fin false σ (List.replicate 33 [] :: h) [(.p (.int .i64 (IntKind.wrap .i64 (x1 + (IntKind.wrap .i64 ((IntKind.wrap .i64 ((IntKind.wrap .i64 (n3 + x2)) - x1)) + 1))))))])
 else (
 fin false σ (List.replicate 33 [] :: h) [(.p (.int .i64 (IntKind.wrap .i64 (x1 + n3))))])) := by kernel_rfl
end Go.Ev
/- limelightbook.Within. -/
namespace Go.Ev
set_option linter.unusedSimpArgs false
set_option linter.unusedVariables false
open Go.Proofs
def within (n lo hi : Int) : Int := if lo ≤ n ∧ n ≤ hi then n else lo + n % (hi - lo + 1)
theorem within_in (n : Int) {lo hi : Int} (h : lo ≤ hi) : lo ≤ within n lo hi ∧ within n lo hi ≤ hi := by
  unfold within
  split
  · assumption
  · have h1 := Int.emod_nonneg n (show hi - lo + 1 ≠ 0 by omega)
    have h2 := Int.emod_lt_of_pos n (show 0 < hi - lo + 1 by omega)
    omega
theorem tmod_cases (n : Int) {m : Int} (hm : 0 < m) : (0 ≤ n.tmod m ∧ n.tmod m = n % m) ∨ (n.tmod m < 0 ∧ n.tmod m + m = n % m) := by
  have h1 := Int.emod_nonneg n (show m ≠ 0 by omega)
  have h2 := Int.emod_lt_of_pos n hm
  rw [Int.tmod_eq_emod]
  split
  · left; omega
  · rename_i h
    right
    have : n % m ≠ 0 := fun e => h (.inr (Int.dvd_of_emod_eq_zero e))
    omega
theorem within_ok (n lo hi : Int) (h1 : -4294967296 ≤ lo) (h2 : lo ≤ hi) (h3 : hi ≤ 4294967296) (h : H) {σ : Stamp} : ev G X0 27 σ [.p (.int .i64 n), .p (.int .i64 lo), .p (.int .i64 hi)] h = some ([.v (.p (.int .i64 (within n lo hi)))], h) := by
  refine ev_cv rfl ?_
  rw [limelightbook_Within_entry]
  by_cases hin : lo ≤ n ∧ n ≤ hi
  · have e1 : decide (n ≥ lo) = true := by simp; omega
    have e2 : decide (n ≤ hi) = true := by simp; omega
    simp only [e1, e2, cond_true, Option.bind_some]
    rw [fin_1 (still_int _ _), within, if_pos hin]
  · have e : (bif decide (n ≥ lo) then some (decide (n ≤ hi)) else some false) = some false := by
      by_cases h : lo ≤ n
      · have : ¬ n ≤ hi := fun h' => hin ⟨h, h'⟩
        simp [h, this]
      · simp [h]
    rw [e]
    simp only [Option.bind_some, cond_false]
    rw [wrap64 (x := hi - lo) (by omega) (by omega), wrap64 (x := hi - lo + 1) (by omega) (by omega)]
    have hr : remI .i64 n (hi - lo + 1) = some (.p (.int .i64 (n.tmod (hi - lo + 1)))) := by
      unfold remI; rw [if_neg (by omega)]
    rw [hr]
    simp only [Option.bind_some, castI_p]
    have e1 := Int.emod_nonneg n (show hi - lo + 1 ≠ 0 by omega)
    have e2 := Int.emod_lt_of_pos n (show 0 < hi - lo + 1 by omega)
    rcases tmod_cases n (show 0 < hi - lo + 1 by omega) with ⟨q1, q2⟩ | ⟨q1, q2⟩
    · have : decide (n.tmod (hi - lo + 1) < 0) = false := by simp; omega
      rw [this, cond_false, fin_1 (still_int _ _), wrap64 (by omega) (by omega), q2, within, if_neg hin]
    · have : decide (n.tmod (hi - lo + 1) < 0) = true := by simp; omega
      rw [this, cond_true, fin_1 (still_int _ _), wrap64 (x := n.tmod (hi - lo + 1) + hi) (by omega) (by omega), wrap64 (x := n.tmod (hi - lo + 1) + hi - lo) (by omega) (by omega), wrap64 (x := n.tmod (hi - lo + 1) + hi - lo + 1) (by omega) (by omega), wrap64 (by omega) (by omega), within, if_neg hin]
      have : n.tmod (hi - lo + 1) + hi - lo + 1 = n % (hi - lo + 1) := by omega
      rw [this]
end Go.Ev
/- limelightlaw20.WatchApart is true. -/
namespace Go.Ev.Watch
set_option linter.unusedSimpArgs false
set_option linter.unusedVariables false
open Go.Proofs
abbrev Ask := Int × Int × Int × Unit
abbrev askT : DT := .strct (.pair (.int .i64) (.pair (.int .i64) (.pair (.int .i64) .unit)))
theorem ask_len (a : Ask) : (askT.cells a).length = 3 := rfl
/-- What is done to one layer. -/
def act (w : List One) (kd n now : Int) : List One :=
  if kd = 0 then seen w n now else if kd = 1 then (if isB w n && !rest w n then setRest w n true else w) else (if rest w n then wake w n now else w)
theorem act_ok {h : H} {l : Loc} {s : Stamp} {w : List One} (hw : At h l s w) (kd n now : Int) {α : Type} (tail : H → Option α) {σ1 σ2 σ3 : Stamp} {d1 d2 d3 : Nat} :
    (bif kd == 0 then (callO (ev G X0) 22 σ1 [.ref l 0, .p (.int .i64 n), .p (.int .i64 now)] h (some d1)).bind fun q => tail q.2
     else bif kd == 1 then (callO (ev G X0) 24 σ2 [.ref l 0, .p (.int .i64 n)] h (some d2)).bind fun q => (asB q.1).bind fun b => tail q.2
     else (callO (ev G X0) 26 σ3 [.ref l 0, .p (.int .i64 n), .p (.int .i64 now)] h (some d3)).bind fun q => (asB q.1).bind fun b => tail q.2) = tail (Watch.put h l s (act w kd n now)) := by
  by_cases h0 : kd = 0
  · subst h0
    rw [show ((0 : Int) == 0) = true from rfl, cond_true, callO_0 (seen_ok hw n now)]
    simp [act]
  · by_cases h1 : kd = 1
    · subst h1
      rw [show ((1 : Int) == 0) = false from rfl, cond_false, show ((1 : Int) == 1) = true from rfl, cond_true, callO_1 (rest_ok hw n)]
      simp only [Option.bind_some, asB_p, act]
      by_cases hb : (isB w n && !rest w n) = true
      · simp [hb]
      · simp [hb, hw.same]
    · have e0 : (kd == 0) = false := by simp [h0]
      have e1 : (kd == 1) = false := by simp [h1]
      rw [e0, cond_false, e1, cond_false, callO_1 (wake_ok hw n now)]
      simp only [Option.bind_some, asB_p, act, h0, h1, if_false]
      by_cases hb : rest w n = true
      · simp [hb]
      · simp [hb, hw.same]
/-- What is done to one layer leaves each other one. -/
theorem seen_len (w : List One) (n now : Int) : (seen w n now).length = w.length := by unfold seen; split <;> simp
theorem act_len (w : List One) (kd n now : Int) : (act w kd n now).length = w.length := by
  unfold act
  split
  · exact seen_len w n now
  · split
    · split
      · exact setRest_len w n true
      · rfl
    · split
      · exact (seen_len _ n now).trans (setRest_len w n false)
      · rfl
theorem seen_ne (w : List One) (n now : Int) (k : Nat) (h : n ≠ k) : (seen w n now)[k]? = w[k]? := by
  unfold seen; split
  · rw [List.getElem?_set_ne (by omega)]
  · rfl
theorem setRest_ne (w : List One) (n : Int) (b : Bool) (k : Nat) (h : n ≠ k) : (setRest w n b)[k]? = w[k]? := by
  unfold setRest; split
  · rw [List.getElem?_set_ne (by omega)]
  · rfl
theorem act_ne (w : List One) (kd n now : Int) (k : Nat) (h : n ≠ k) : (act w kd n now)[k]? = w[k]? := by
  unfold act
  split
  · exact seen_ne w n now k h
  · split
    · split
      · exact setRest_ne w n true k h
      · rfl
    · split
      · exact (seen_ne _ n now k h).trans (setRest_ne w n false k h)
      · rfl
/-- The same is done to layers that are the same. -/
theorem act_eq {w x : List One} (hl : w.length = x.length) (kd now : Int) (k : Nat) (h : w[k]? = x[k]?) : (act w kd k now)[k]? = (act x kd k now)[k]? := by
  by_cases hk : k < w.length
  · have hx : k < x.length := by omega
    rw [List.getElem?_eq_getElem hk, List.getElem?_eq_getElem hx] at h
    have h := Option.some.inj h
    have r : rest w k = rest x k := by simp [rest, hk, hx, h]
    have b : isB w k = isB x k := by simp [isB, hk, hx]
    have s : (seen w k now)[k]? = (seen x k now)[k]? := by simp [seen, hk, hx, h]
    have t : (setRest w k true)[k]? = (setRest x k true)[k]? := by simp [setRest, hk, hx, h]
    have u : (wake w k now)[k]? = (wake x k now)[k]? := by simp [wake, seen, setRest, hk, hx, h]
    have o : w[k]? = x[k]? := by rw [List.getElem?_eq_getElem hk, List.getElem?_eq_getElem hx, h]
    unfold act
    rw [r, b]
    split
    · exact s
    · split
      · split
        · exact t
        · exact o
      · split
        · exact u
        · exact o
  · rw [List.getElem?_eq_none (by rw [act_len]; omega), List.getElem?_eq_none (by rw [act_len]; omega)]
theorem idle_any (w : List One) (now : Int) (k : Nat) : ∀ m, (idleTo w now m).any (fun n => n == (k : Int)) = (decide (k < m) && (w[k]?.any fun o => isIdle o now))
  | 0 => by simp [idleTo]
  | m + 1 => by
    simp only [idleTo, List.any_append, idle_any w now k m]
    by_cases hkm : k = m
    · subst hkm
      by_cases hk : k < w.length
      · simp only [hk, dif_pos, List.getElem?_eq_getElem hk]
        cases hi : isIdle w[k] now <;> simp [hi]
      · simp [hk]
    · have e : ((if h : m < w.length then (if isIdle w[m] now then [(m : Int)] else []) else []) : List Int).any (fun n => n == (k : Int)) = false := by
        split
        · split
          · simp; omega
          · rfl
        · rfl
      rw [e, Bool.or_false]
      congr 1
      simp; omega
theorem apart_in0 {h : H} {v v5 v6 : V} {xs : List Int} (hv : IsInts h v xs) (hn : xs.length < 1000) (L : Layer) (x0 : V) (k now i : Int) (b2 : Bool) : ∀ (d j : Nat) (σ : Stamp) (b : Bool), j + d = xs.length →
    cvL G X0 limelightlaw20_WatchApart_c2 limelightlaw20_WatchApart_l2 σ (envL [(0, x0), (5, v5), (6, v6), (7, .p (.int .i64 k)), (8, .p (.int .i64 now)), (9, .p (.int .i64 i)), (13, .p (.bool b)), (14, .p (.bool b2)), (93, v), (94, .p (.int .i64 xs.length)), (95, .p (.int .i64 j))]) (L :: h) =
      some (.exit 5, envL [(0, x0), (5, v5), (6, v6), (7, .p (.int .i64 k)), (8, .p (.int .i64 now)), (9, .p (.int .i64 i)), (13, .p (.bool (b || (xs.drop j).any fun n => n == k))), (14, .p (.bool b2))], L :: h) := by
  intro d
  induction d with
  | zero =>
    intro j σ b hj
    refine cvL_round ?_
    rw [limelightlaw20_WatchApart_r2]
    have : decide ((j : Int) < xs.length) = false := by simp; omega
    simp only [this, cond_false]
    rw [List.drop_eq_nil_of_le (by omega)]
    simp
  | succ d ih =>
    intro j σ b hj
    have hx : j < xs.length := by omega
    have e1 : decide ((j : Int) < xs.length) = true := by simp; omega
    have hw1 : IntKind.wrap .i64 ((j : Int) + 1) = ((j + 1 : Nat) : Int) := by rw [wrap64 (by omega) (by omega)]; omega
    refine cvL_round ?_
    rw [limelightlaw20_WatchApart_r2, e1]
    simp only [cond_true, hv.idx hx, Option.bind_some, hv.rd hx L, castI_p, hw1]
    have hb : (bif b then some true else some (xs[j] == k)) = some (b || xs[j] == k) := by cases b <;> rfl
    rw [hb, Option.bind_some, ih (j + 1) (1 :: σ) _ (by omega), List.drop_eq_getElem_cons hx, List.any_cons, Bool.or_assoc]
theorem apart_in1 {h : H} {v v5 v6 : V} {xs : List Int} (hv : IsInts h v xs) (hn : xs.length < 1000) (L : Layer) (x0 : V) (k now i : Int) (b2 : Bool) : ∀ (d j : Nat) (σ : Stamp) (b : Bool), j + d = xs.length →
    cvL G X0 limelightlaw20_WatchApart_c3 limelightlaw20_WatchApart_l3 σ (envL [(0, x0), (5, v5), (6, v6), (7, .p (.int .i64 k)), (8, .p (.int .i64 now)), (9, .p (.int .i64 i)), (13, .p (.bool b2)), (14, .p (.bool b)), (108, v), (109, .p (.int .i64 xs.length)), (110, .p (.int .i64 j))]) (L :: h) =
      some (.exit 7, envL [(0, x0), (5, v5), (6, v6), (7, .p (.int .i64 k)), (8, .p (.int .i64 now)), (9, .p (.int .i64 i)), (13, .p (.bool b2)), (14, .p (.bool (b || (xs.drop j).any fun n => n == k)))], L :: h) := by
  intro d
  induction d with
  | zero =>
    intro j σ b hj
    refine cvL_round ?_
    rw [limelightlaw20_WatchApart_r3]
    have : decide ((j : Int) < xs.length) = false := by simp; omega
    simp only [this, cond_false]
    rw [List.drop_eq_nil_of_le (by omega)]
    simp
  | succ d ih =>
    intro j σ b hj
    have hx : j < xs.length := by omega
    have e1 : decide ((j : Int) < xs.length) = true := by simp; omega
    have hw1 : IntKind.wrap .i64 ((j : Int) + 1) = ((j + 1 : Nat) : Int) := by rw [wrap64 (by omega) (by omega)]; omega
    refine cvL_round ?_
    rw [limelightlaw20_WatchApart_r3, e1]
    simp only [cond_true, hv.idx hx, Option.bind_some, hv.rd hx L, castI_p, hw1]
    have hb : (bif b then some true else some (xs[j] == k)) = some (b || xs[j] == k) := by cases b <;> rfl
    rw [hb, Option.bind_some, ih (j + 1) (1 :: σ) _ (by omega), List.drop_eq_getElem_cons hx, List.any_cons, Bool.or_assoc]
def ownC (s t : Stamp) (w : List One) : List C := [.own s [.arr t w.length 2 ((onesV w).map .v)]]
theorem own_at {L : Layer} {h : H} {d : Nat} {s t : Stamp} {w : List One} (hd : L[d]? = some (ownC s t w)) : At (L :: h) ⟨h.length, d, 0, s, []⟩ t w := nd_own hd
theorem own_put {L : Layer} {h : H} {d : Nat} {s t : Stamp} {w : List One} (hd : L[d]? = some (ownC s t w)) (w' : List One) : Watch.put (L :: h) ⟨h.length, d, 0, s, []⟩ t w' = L.set d (ownC s t w') :: h := put_own hd w'
theorem two_lit (a b : Loc) : buildSliceV Try.prog 47 2 [(0, .ref a 0), (1, .ref b 0)] = some (.fz [.ref a 0, .ref b 0] 2 1 true) := by kernel_rfl
theorem two_sl (a b : Loc) (h : H) : IsSl h (.fz [.ref a 0, .ref b 0] 2 1 true) 1 2 [.ref a 0, .ref b 0] := Fz.fz rfl _ h
theorem ask_rd {x0 : V} {l : List Ask} (hf : ∀ h, IsSl h x0 3 l.length (l.flatMap askT.cells)) {i : Nat} (hi : i < l.length) {j : Nat} (hj : j < 3) (h : H) : (iS 3 x0 (i : Int)).bind (fun t => (fA t j).bind fun t => ldO false 1 h t) = (askT.cells l[i])[j]? := by
  have hc := flat_length ask_len l
  rw [(hf h).iSn hi, Option.bind_some, (hf h).fA (by omega) (by omega), Option.bind_some]
  have hj' : j < (askT.cells l[i]).length := by rw [ask_len]; exact hj
  rw [List.getElem?_eq_getElem hj']
  exact (hf h).ld1 (by rw [flat_get ask_len hi hj, List.getElem?_eq_getElem hj'])
section
variable {h : H} {L : Layer} {s1 t1 s2 t2 : Stamp} {w x : List One} {x0 : V} {l : List Ask}
theorem ref_ne (H0 : H) {a b : Loc} (ha : (nd H0 a).isSome) (hb : (nd H0 b).isSome) (hn : a.last ≠ b.last) : binV Try.prog H0 .eql 39 (.ref a 0) (.ref b 0) = some (bV false) := by
  have hk : (!known Try.prog 70 || tsize Try.prog 70 == 0) = false := by kernel_rfl
  show (eqlV Try.prog H0 39 (.ref a 0) (.ref b 0)).map (fun b => V.p (.bool b)) = _
  have hu : Try.prog.underlying 39 = some (.pointer 70) := by kernel_rfl
  simp only [eqlV, hu, hk, ha, hb, Bool.and_self, if_true, Bool.false_eq_true, if_false, Option.map_some]
  simp [hn]
theorem ref_same (H0 : H) {a : Loc} (ha : (nd H0 a).isSome) : binV Try.prog H0 .eql 39 (.ref a 0) (.ref a 0) = some (bV true) := by
  have hk : (!known Try.prog 70 || tsize Try.prog 70 == 0) = false := by kernel_rfl
  show (eqlV Try.prog H0 39 (.ref a 0) (.ref a 0)).map (fun b => V.p (.bool b)) = _
  have hu : Try.prog.underlying 39 = some (.pointer 70) := by kernel_rfl
  simp only [eqlV, hu, hk, ha, Bool.and_self, if_true, Bool.false_eq_true, if_false, Option.map_some]
  simp
theorem apart_acts (hf : ∀ h, IsSl h x0 3 l.length (l.flatMap askT.cells)) {i : Nat} (hi : i < l.length) (h1 : L[19]? = some (ownC s1 t1 w)) (h2 : L[20]? = some (ownC s2 t2 x)) (hs : s1 ≠ s2) (k now n : Int) (σ : Stamp) :
    cvL G X0 limelightlaw20_WatchApart_c1 limelightlaw20_WatchApart_l1 σ (envL [(0, x0), (5, .ref ⟨h.length, 19, 0, s1, []⟩ 0), (6, .ref ⟨h.length, 20, 0, s2, []⟩ 0), (7, .p (.int .i64 k)), (8, .p (.int .i64 now)), (9, .p (.int .i64 i)), (10, .p (.int .i64 n)), (55, .fz [.ref ⟨h.length, 19, 0, s1, []⟩ 0, .ref ⟨h.length, 20, 0, s2, []⟩ 0] 2 1 true), (56, .p (.int .i64 2)), (57, .p (.int .i64 0))]) (L :: h) =
      some (.exit 2, envL [(0, x0), (5, .ref ⟨h.length, 19, 0, s1, []⟩ 0), (6, .ref ⟨h.length, 20, 0, s2, []⟩ 0), (7, .p (.int .i64 k)), (8, .p (.int .i64 now)), (9, .p (.int .i64 i))],
        (L.set 19 (ownC s1 t1 (act w (within l[i].1 0 2) n now))).set 20 (ownC s2 t2 (if n = k then act x (within l[i].1 0 2) n now else x)) :: h) := by
  have lt19 : 19 < L.length := (List.getElem?_eq_some_iff.1 h1).1
  have lt20 : 20 < L.length := (List.getElem?_eq_some_iff.1 h2).1
  have n1 : (nd (L :: h) ⟨h.length, 19, 0, s1, []⟩).isSome := by rw [own_at h1]; rfl
  have n2 : (nd (L :: h) ⟨h.length, 20, 0, s2, []⟩).isSome := by rw [own_at h2]; rfl
  have rd := fun H0 => ask_rd hf hi (j := 0) (by omega) H0
  have rd0 : (askT.cells l[i])[0]? = some (.p (.int .i64 l[i].1)) := rfl
  have w1 : IntKind.wrap .i64 ((0 : Int) + 1) = 1 := by decide
  have w2 : IntKind.wrap .i64 ((1 : Int) + 1) = 2 := by decide
  refine cvL_round ?_
  rw [limelightlaw20_WatchApart_r1]
  have t0 := two_sl ⟨h.length, 19, 0, s1, []⟩ ⟨h.length, 20, 0, s2, []⟩
  have i0 := (t0 (L :: h)).iSn (i := 0) (by omega)
  have g0 := (t0 (L :: h)).ld1 (o := 0) rfl
  rw [show ((0 : Nat) : Int) = 0 from rfl] at i0
  simp only [show decide ((0 : Int) < 2) = true from rfl, cond_true, i0, Option.bind_some, Nat.zero_mul, g0, ref_ne (L :: h) n1 n2 hs, asB_p, cond_false]
  have rdi := rd (L :: h)
  rw [rd0] at rdi
  obtain ⟨a1, ha1, rdi⟩ := Option.bind_eq_some_iff.1 rdi
  obtain ⟨a2, ha2, rdi⟩ := Option.bind_eq_some_iff.1 rdi
  simp only [ha1, ha2, rdi, Option.bind_some, castI_p]
  rw [callO_1 (within_ok l[i].1 0 2 (by omega) (by omega) (by omega) _)]
  simp only [Option.bind_some, castI_p]
  rw [act_ok (own_at h1) (within l[i].1 0 2) n now (tail := fun H => cvL G X0 limelightlaw20_WatchApart_c1 limelightlaw20_WatchApart_l1 (1 :: σ) _ H)]
  rw [own_put h1, w1]
  have h1' : (L.set 19 (ownC s1 t1 (act w (within l[i].1 0 2) n now)))[19]? = some (ownC s1 t1 (act w (within l[i].1 0 2) n now)) := by rw [List.getElem?_set_self lt19]
  have h2' : (L.set 19 (ownC s1 t1 (act w (within l[i].1 0 2) n now)))[20]? = some (ownC s2 t2 x) := by rw [List.getElem?_set_ne (by omega), h2]
  generalize hM : L.set 19 (ownC s1 t1 (act w (within l[i].1 0 2) n now)) = M at h1' h2' ⊢
  have n2' : (nd (M :: h) ⟨h.length, 20, 0, s2, []⟩).isSome := by rw [own_at h2']; rfl
  refine cvL_round ?_
  rw [limelightlaw20_WatchApart_r1]
  have i1 := (t0 (M :: h)).iSn (i := 1) (by omega)
  have g1 := (t0 (M :: h)).ld1 (o := 1) rfl
  rw [show ((1 : Nat) : Int) = 1 from rfl] at i1
  simp only [show decide ((1 : Int) < 2) = true from rfl, cond_true, i1, Option.bind_some, Nat.mul_one, g1, ref_same (M :: h) n2', asB_p]
  have last : ∀ M' : Layer, ∀ σ' : Stamp, cvL G X0 limelightlaw20_WatchApart_c1 limelightlaw20_WatchApart_l1 σ' (envL [(0, x0), (5, .ref ⟨h.length, 19, 0, s1, []⟩ 0), (6, .ref ⟨h.length, 20, 0, s2, []⟩ 0), (7, .p (.int .i64 k)), (8, .p (.int .i64 now)), (9, .p (.int .i64 i)), (10, .p (.int .i64 n)), (55, .fz [.ref ⟨h.length, 19, 0, s1, []⟩ 0, .ref ⟨h.length, 20, 0, s2, []⟩ 0] 2 1 true), (56, .p (.int .i64 2)), (57, .p (.int .i64 2))]) (M' :: h) =
      some (.exit 2, envL [(0, x0), (5, .ref ⟨h.length, 19, 0, s1, []⟩ 0), (6, .ref ⟨h.length, 20, 0, s2, []⟩ 0), (7, .p (.int .i64 k)), (8, .p (.int .i64 now)), (9, .p (.int .i64 i))], M' :: h) := fun M' σ' => by
    refine cvL_round ?_
    rw [limelightlaw20_WatchApart_r1]
    simp only [show decide ((2 : Int) < 2) = false from rfl, cond_false]
  by_cases hnk : n = k
  · subst hnk
    rw [show (n != n) = false from by simp, cond_false, if_pos rfl]
    have rdi := rd (M :: h)
    rw [rd0] at rdi
    obtain ⟨a1, ha1, rdi⟩ := Option.bind_eq_some_iff.1 rdi
    obtain ⟨a2, ha2, rdi⟩ := Option.bind_eq_some_iff.1 rdi
    simp only [ha1, ha2, rdi, Option.bind_some, castI_p]
    rw [callO_1 (within_ok l[i].1 0 2 (by omega) (by omega) (by omega) _)]
    simp only [Option.bind_some, castI_p]
    rw [act_ok (own_at h2') (within l[i].1 0 2) n now (tail := fun H => cvL G X0 limelightlaw20_WatchApart_c1 limelightlaw20_WatchApart_l1 (1 :: 1 :: σ) _ H), own_put h2', w2]
    exact last _ _
  · have : (n != k) = true := by simp [hnk]
    rw [this, cond_true, w2, last, if_neg hnk]
    have : M.set 20 (ownC s2 t2 x) = M := by
      apply List.ext_getElem?
      intro j
      by_cases hj : 20 = j
      · subst hj
        rw [List.getElem?_set_self (List.getElem?_eq_some_iff.1 h2').1, h2']
      · rw [List.getElem?_set_ne hj]
    rw [this]
theorem apart_loop (hf : ∀ h, IsSl h x0 3 l.length (l.flatMap askT.cells)) (hl : l.length < 2 ^ 62) (hs : s1 ≠ s2) (k : Nat) (hk : k < 3) (h : H) : ∀ (c i : Nat) (σ : Stamp) (L : Layer) (w x : List One) (now : Int), i + c = min l.length 80 →
    L[19]? = some (ownC s1 t1 w) → L[20]? = some (ownC s2 t2 x) → w.length = 3 → x.length = 3 → w[k]? = x[k]? →
    ∃ L', cvL G X0 limelightlaw20_WatchApart_c0 limelightlaw20_WatchApart_l0 σ (envL [(0, x0), (5, .ref ⟨h.length, 19, 0, s1, []⟩ 0), (6, .ref ⟨h.length, 20, 0, s2, []⟩ 0), (7, .p (.int .i64 k)), (8, .p (.int .i64 now)), (9, .p (.int .i64 i))]) (L :: h) = some (.exit 0, envL [], L' :: h) := by
  intro c
  induction c with
  | zero =>
    intro i σ L w x now hi h1 h2 hw hx he
    refine ⟨L, cvL_round ?_⟩
    rw [limelightlaw20_WatchApart_r0]
    have : (bif decide ((i : Int) < l.length) then some (decide ((i : Int) < 80)) else some false) = some false := by
      by_cases h : i < l.length
      · have : ¬ i < 80 := by omega
        simp [h]; omega
      · simp [h]
    simp only [(hf (L :: h)).lenO, Option.bind_some, castI_p, this, cond_false]
  | succ c ih =>
    intro i σ L w x now hi h1 h2 hw hx he
    have hil : i < l.length := by omega
    have hi80 : i < 80 := by omega
    have lt19 : 19 < L.length := (List.getElem?_eq_some_iff.1 h1).1
    have lt20 : 20 < L.length := (List.getElem?_eq_some_iff.1 h2).1
    have hb : (bif decide ((i : Int) < l.length) then some (decide ((i : Int) < 80)) else some false) = some true := by
      simp [hil]; omega
    obtain ⟨r1, hr1, rdi⟩ := Option.bind_eq_some_iff.1 ((ask_rd hf hil (j := 1) (by omega) (L :: h)).trans (show _ = some (.p (.int .i64 l[i].2.1)) from rfl))
    obtain ⟨r2, hr2, rdi⟩ := Option.bind_eq_some_iff.1 rdi
    obtain ⟨q1, hq1, rdj⟩ := Option.bind_eq_some_iff.1 ((ask_rd hf hil (j := 2) (by omega) (L :: h)).trans (show _ = some (.p (.int .i64 l[i].2.2.1)) from rfl))
    obtain ⟨q2, hq2, rdj⟩ := Option.bind_eq_some_iff.1 rdj
    have rd1 : ldO false 1 (L :: h) r2 = some (.p (.int .i64 l[i].2.1)) := rdi
    have rd2 : ldO false 1 (L :: h) q2 = some (.p (.int .i64 l[i].2.2.1)) := rdj
    have hr2 : fA r1 1 = some r2 := hr2
    have hq2 : fA q1 2 = some q2 := hq2
    have e : q1 = r1 := Option.some.inj (hq1.symm.trans hr1)
    subst e
    obtain ⟨n, hn⟩ : ∃ n : Int, n = within l[i].2.1 0 2 := ⟨_, rfl⟩
    have hnb := within_in l[i].2.1 (lo := 0) (hi := 2) (by omega)
    rw [← hn] at hnb
    obtain ⟨nw, hnw⟩ : ∃ nw : Int, nw = IntKind.wrap .i64 (now + intBits .and .i64 l[i].2.2.1 262143) := ⟨_, rfl⟩
    obtain ⟨w', hw'⟩ : ∃ w', w' = act w (within l[i].1 0 2) n nw := ⟨_, rfl⟩
    obtain ⟨x', hx'⟩ : ∃ x', x' = if n = k then act x (within l[i].1 0 2) n nw else x := ⟨_, rfl⟩
    have lw : w'.length = 3 := by rw [hw', act_len, hw]
    have lx : x'.length = 3 := by rw [hx']; split <;> simp [act_len, hx]
    have same : w'[k]? = x'[k]? := by
      rw [hw', hx']
      split
      · rename_i e; rw [e]; exact act_eq (hw.trans hx.symm) _ _ k he
      · rename_i e; rw [act_ne _ _ _ _ k e, he]
    obtain ⟨M, hM⟩ : ∃ M, M = (L.set 19 (ownC s1 t1 w')).set 20 (ownC s2 t2 x') := ⟨_, rfl⟩
    have m1 : M[19]? = some (ownC s1 t1 w') := by rw [hM, List.getElem?_set_ne (by omega), List.getElem?_set_self lt19]
    have m2 : M[20]? = some (ownC s2 t2 x') := by rw [hM, List.getElem?_set_self (by simpa using lt20)]
    have iw := intsV_ok (idle w' nw) h
    have ix := intsV_ok (idle x' nw) h
    have bw : (idle w' nw).length < 1000 := by have := idleTo_len w' nw w'.length; rw [idle]; omega
    have bx : (idle x' nw).length < 1000 := by have := idleTo_len x' nw x'.length; rw [idle]; omega
    have fs : ((idle w' nw).any fun n => n == (k : Int)) = ((idle x' nw).any fun n => n == (k : Int)) := by
      rw [idle, idle, idle_any, idle_any, same, lw, lx]
    have rs : rest w' k = rest x' k := by
      have hkw : k < w'.length := by omega
      have hkx : k < x'.length := by omega
      have s := same
      rw [List.getElem?_eq_getElem hkw, List.getElem?_eq_getElem hkx] at s
      simp [rest, hkw, hkx, Option.some.inj s]
    have hw1 : IntKind.wrap .i64 ((i : Int) + 1) = ((i + 1 : Nat) : Int) := by rw [wrap64 (by omega) (by omega)]; omega
    obtain ⟨L', hL'⟩ := ih (i + 1) (1 :: σ) M w' x' nw (by omega) m1 m2 lw lx same
    refine ⟨L', cvL_round ?_⟩
    rw [limelightlaw20_WatchApart_r0]
    simp only [(hf (L :: h)).lenO, Option.bind_some, castI_p, hb, cond_true, hr1, hr2]
    rw [rd1]
    simp only [Option.bind_some, castI_p]
    rw [callO_1 (within_ok l[i].2.1 0 2 (by omega) (by omega) (by omega) _), ← hn]
    simp only [Option.bind_some, castI_p, hr1, hq2]
    rw [rd2]
    simp only [Option.bind_some, castI_p, two_lit]
    rw [(two_sl _ _ (L :: h)).lenO]
    simp only [Option.bind_some, castI_p]
    have acts := apart_acts (h := h) hf hil h1 h2 hs k nw n (1 :: 0 :: 1 :: 1 :: 0 :: 1 :: 0 :: σ)
    rw [← hw', ← hx', ← hM] at acts
    rw [← hnw, show ((2 : Nat) : Int) = 2 from rfl, acts]
    rw [Option.bind_some]
    rw [limelightlaw20_WatchApart_a1_2]
    rw [callO_1 (idle_ok (own_at m1) (by omega) nw)]
    simp only [Option.bind_some, iw.lenO, castI_p]
    have j0 := apart_in0 (v5 := .ref ⟨h.length, 19, 0, s1, []⟩ 0) (v6 := .ref ⟨h.length, 20, 0, s2, []⟩ 0) iw bw M x0 k nw i false (idle w' nw).length 0 (1 :: 0 :: 1 :: 1 :: 1 :: 1 :: 0 :: 1 :: 0 :: σ) false (by omega)
    rw [show ((0 : Nat) : Int) = 0 from rfl] at j0
    rw [j0]
    rw [Option.bind_some]
    rw [limelightlaw20_WatchApart_a2_5]
    rw [callO_1 (idle_ok (own_at m2) (by omega) nw)]
    simp only [Option.bind_some, ix.lenO, castI_p]
    have j1 := apart_in1 (v5 := .ref ⟨h.length, 19, 0, s1, []⟩ 0) (v6 := .ref ⟨h.length, 20, 0, s2, []⟩ 0) ix bx M x0 k nw i (false || ((idle w' nw).drop 0).any fun n => n == (k : Int)) (idle x' nw).length 0 (1 :: 0 :: 1 :: 1 :: 1 :: 1 :: 1 :: 0 :: 1 :: 0 :: σ) false (by omega)
    rw [show ((0 : Nat) : Int) = 0 from rfl] at j1
    rw [j1]
    rw [Option.bind_some]
    rw [limelightlaw20_WatchApart_a3_7]
    rw [callO_1 (resting_ok (own_at m1) k)]
    simp only [Option.bind_some, asB_p]
    rw [callO_1 (resting_ok (own_at m2) k)]
    simp only [Option.bind_some, asB_p, List.drop_zero, Bool.false_or, fs, rs, beq_self_eq_true, Bool.not_true, cond_false, hw1]
    exact hL'
end
theorem apart_ok (lo : Option (List Ask)) (which : Int) (hlo : (DT.slice 24 askT).ok lo) (hwh : (DT.int .i64).ok which) :
    ev G X0 9 [] [(DT.slice 24 askT).val lo, (DT.int .i64).val which] [] = some ([.v (bV true)], []) := by
  have hf : ∀ h, IsSl h ((DT.slice 24 askT).val lo) 3 (lo.getD []).length ((lo.getD []).flatMap askT.cells) := fun h => isSl_val (b := 24) (t := askT) lo h
  have hl : (lo.getD []).length < 2 ^ 62 := by
    cases lo with
    | none => simp
    | some l =>
      have := hlo.1
      simp only [Option.getD_some]
      simp only [reachBytes] at this
      omega
  generalize (DT.slice 24 askT).val lo = x0 at hf ⊢
  generalize lo.getD [] = l at hf hl
  refine ev_cv rfl ?_
  show cvBody G (ev G X0) (cvL G X0) _ [] [x0, .p (.int .i64 which)] [] = _
  rw [limelightlaw20_WatchApart_entry]
  rw [callO_own (new_ok 3 (by omega) (by omega))]
  simp only [Option.bind_some]
  rw [callO_own (new_ok 3 (by omega) (by omega))]
  simp only [Option.bind_some]
  rw [callO_1 (within_ok which 0 2 (by omega) (by omega) (by omega) _)]
  have hkb := within_in which (lo := 0) (hi := 2) (by omega)
  simp only [Option.bind_some, castI_p, ref_eq, asB_p, cond_false]
  generalize within which 0 2 = kk at hkb ⊢
  obtain ⟨k, rfl⟩ : ∃ k : Nat, kk = k := ⟨kk.toNat, by omega⟩
  have hn : (new 3).length = 3 := rfl
  generalize hL : List.set (List.set (List.replicate 134 ([] : List C)) 19 _) 20 _ = L
  have h1 : L[19]? = some (ownC (3 :: 0 :: 1 :: 1 :: 0 :: 0 :: 0 :: 1 :: 0 :: []) (1 :: 0 :: 1 :: 1 :: 0 :: 0 :: 0 :: 1 :: 0 :: []) (new 3)) := by rw [← hL]; simp [ownC]
  have h2 : L[20]? = some (ownC (3 :: 0 :: 1 :: 1 :: 0 :: 1 :: 0 :: 1 :: 0 :: []) (1 :: 0 :: 1 :: 1 :: 0 :: 1 :: 0 :: 1 :: 0 :: []) (new 3)) := by rw [← hL]; simp [ownC]
  obtain ⟨L', hL'⟩ := apart_loop hf hl (by decide) k (by omega) [] (min l.length 80) 0 (1 :: 0 :: 1 :: 1 :: 1 :: 1 :: 1 :: 0 :: []) L (new 3) (new 3) 0 (by omega) h1 h2 hn hn rfl
  rw [show ((0 : Nat) : Int) = 0 from rfl] at hL'
  rw [hL']
  simp only [Option.bind_some]
  rw [limelightlaw20_WatchApart_a0_0, callO_1 (known_ok _)]
  simp only [Option.bind_some, asB_p]
  exact fin_1 (still_bool _)
end Go.Ev.Watch
