/- A part of the proof that follows: A rate that is not written in its shortest form is read as it is. -/
import Derived.Test.YtocbjhoaamkonaaMRtcpRates4
import Derived.KernelRfl
/- Equations, printed by tracer2.py. -/
namespace Go.Ev
open Go.Proofs
set_option linter.unusedVariables false
set_option maxRecDepth 100000
-- 54 slices.Equal[[]byte,byte]
noncomputable def slices_Equal_Lbyte_byte_c0 : Code := (codeAt (bodyOf Try.f54) [1, 1, 0, 1, 0, 0])
def slices_Equal_Lbyte_byte_l0 : Lv := ⟨0, 16, [(0, 0)]⟩
noncomputable def slices_Equal_Lbyte_byte_k0 (rec : CallF) (loop : LoopV) (σ : Stamp) : Exit → Env → H → Option (List C × H) := (kBlock 0 (kSeq G rec loop (codeAt (bodyOf Try.f54) [1, 1, 1]) ⟨16, 16, []⟩ (1 :: 1 :: 0 :: σ) (finC G false Try.f54 (1 :: σ))))
theorem slices_Equal_Lbyte_byte_entry (rec : CallF) (loop : LoopV) (σ : Stamp) (x0 : V) (x1 : V) (h : H) : cvBody G rec loop 54 σ [x0, x1] h =
 (lenO x0).bind fun t1 =>
 (castI .i64 t1).bind fun n2 =>
 (lenO x1).bind fun t3 =>
 (castI .i64 t3).bind fun n4 =>
 bif n2 != n4 then (
 fin false σ (List.replicate 26 [] :: h) [(.p (.bool false))])
 else (
 (lenO x0).bind fun t5 =>
 (castI .i64 t5).bind fun n6 =>
 (loop slices_Equal_Lbyte_byte_c0 slices_Equal_Lbyte_byte_l0 (1 :: 0 :: 1 :: 1 :: 0 :: σ) (envL [(0, x0), (1, x1), (12, (.p (.int .i64 n6))), (13, (.p (.int .i64 0)))]) (List.replicate 26 [] :: h)).bind fun r7 => slices_Equal_Lbyte_byte_k0 rec loop σ r7.1 r7.2.1 r7.2.2) := by kernel_rfl
theorem slices_Equal_Lbyte_byte_r0 (rec : CallF) (loop : LoopV) (σ : Stamp) (x0 : V) (x1 : V) (x12 : Int) (x13 : Int) (h : H) : cvRound G rec loop slices_Equal_Lbyte_byte_c0 slices_Equal_Lbyte_byte_l0 σ (envL [(0, x0), (1, x1), (12, (.p (.int .i64 x12))), (13, (.p (.int .i64 x13)))]) h =
 bif decide (x13 < x12) then (
 (iS 1 x0 x13).bind fun t8 =>
 (ldO false 1 h t8).bind fun t9 =>
 (castI .u8 t9).bind fun n10 =>
 (iS 1 x1 x13).bind fun t11 =>
 (ldO false 1 h t11).bind fun t12 =>
 (castI .u8 t12).bind fun n13 =>
 bif n10 != n13 then (
 some (.ret, (envL [(4, (.p (.bool false)))]), h))
 else (
 loop slices_Equal_Lbyte_byte_c0 slices_Equal_Lbyte_byte_l0 (1 :: σ) (envL [(0, x0), (1, x1), (12, (.p (.int .i64 x12))), (13, (.p (.int .i64 (IntKind.wrap .i64 (x13 + 1)))))]) h))
 else (
 some ((.exit 0), (envL []), h)) := by kernel_rfl
theorem slices_Equal_Lbyte_byte_a0_0 (rec : CallF) (loop : LoopV) (σ : Stamp)  (h : H) : slices_Equal_Lbyte_byte_k0 rec loop σ (.exit 0) (envL []) h =
 fin false σ h [(.p (.bool true))] := by kernel_rfl
theorem slices_Equal_Lbyte_byte_a0_ret (rec : CallF) (loop : LoopV) (σ : Stamp) (x4 : Bool) (h : H) : slices_Equal_Lbyte_byte_k0 rec loop σ .ret (envL [(4, (.p (.bool x4)))]) h =
 fin false σ h [(.p (.bool x4))] := by kernel_rfl
end Go.Ev
/- Lifted by lift.py: slices_Equal_Lbyte_byte as a plain function. -/
namespace Go.Ev
open Go.Proofs
set_option linter.unusedVariables false
set_option linter.unusedSimpArgs false
set_option maxRecDepth 100000
def p_slices_Equal_Lbyte_byte_l0 {β : Type} (k : Nat) (kE0 : Unit → Option β) (kE1 : Bool → Option β) (x0 : (List Int)) (x1 : (List Int)) (x12 : Int) (x13 : Int) : Option β := match k with
| 0 => none
| k + 1 =>
bif decide (x13 < x12) then (
(ix x0 x13).bind fun a7 =>
(ix x1 x13).bind fun a10 =>
bif a7 != a10 then (
kE1 false)
else (
p_slices_Equal_Lbyte_byte_l0 k kE0 kE1 x0 x1 x12 (IntKind.wrap .i64 (x13 + 1))))
else (
kE0 ())
def p_slices_Equal_Lbyte_byte (k : Nat) (x0 : (List Int)) (x1 : (List Int)) : Option (Bool) :=
bif ((x0.length : Int)) != ((x1.length : Int)) then (
some (false))
else (
p_slices_Equal_Lbyte_byte_l0 k (fun (_ : Unit) =>
some (true)) (fun r20_4 =>
some (r20_4)) x0 x1 ((x0.length : Int)) 0)
theorem slices_Equal_Lbyte_byte_l0_ok {h : H}  {β α : Type} {Q : β → α → Prop} {K : Exit × Env × H → Option α} {kE0 : Unit → Option β} {kE1 : Bool → Option β} (hE0 : ∀ (_u : Unit) (H13 : Go.Ev.H) (_ : Fm 26 h [] [] [] H13), Sim (kE0 ()) (K ((.exit 0), (envL []), H13)) Q) (hE1 : ∀ (q4 : Bool) (H15 : Go.Ev.H) (_ : Fm 26 h [] [] [] H15), Sim (kE1 q4) (K (.ret, (envL [(4, (.p (.bool q4)))]), H15)) Q) (k : Nat) : ∀ (x0 : (List Int)) (x1 : (List Int)) (x12 : Int) (x13 : Int) (v3 : V) (h4 : SlH h (dI .u8) x0 v3) (v5 : V) (h6 : SlH h (dI .u8) x1 v5) (H1 : Go.Ev.H) (_ : Fm 26 h [] [] [] H1) {σ : Stamp}, Sim (p_slices_Equal_Lbyte_byte_l0 k kE0 kE1 x0 x1 x12 x13) ((cvL G X0 slices_Equal_Lbyte_byte_c0 slices_Equal_Lbyte_byte_l0 σ (envL [(0, v3), (1, v5), (12, (.p (.int .i64 x12))), (13, (.p (.int .i64 x13)))]) H1).bind K) Q := by
  induction k with
  | zero => intros; exact Sim.no
  | succ k ih =>
    intro x0 x1 x12 x13 v3 h4 v5 h6 H1 S2 σ
    rw [p_slices_Equal_Lbyte_byte_l0]
    refine Sim.round (Sim.ext (slices_Equal_Lbyte_byte_r0 _ _ _ _ _ _ _ _) ?_)
    refine Sim.cd (fun hc => ?_) (fun hc => ?_)
    · refine Sim.bd fun a7 h8 => ?_
      refine Sim.op ((S2.low h4).iS h8 rfl) ?_
      obtain ⟨_, rfl, hE9⟩ := (S2.low h4).el h8 rfl
      refine Sim.op (hE9.ld (j := 0) rfl) ?_
      refine Sim.op (castI_p _ _) ?_
      refine Sim.bd fun a10 h11 => ?_
      refine Sim.op ((S2.low h6).iS h11 rfl) ?_
      obtain ⟨_, rfl, hE12⟩ := (S2.low h6).el h11 rfl
      refine Sim.op (hE12.ld (j := 0) rfl) ?_
      refine Sim.op (castI_p _ _) ?_
      refine Sim.cd (fun hc => ?_) (fun hc => ?_)
      · exact hE1 false H1 (S2.wk2 all_nil all_nil)
      · exact ih x0 x1 x12 (IntKind.wrap .i64 (x13 + 1)) v3 h4 v5 h6 H1 (S2.wk2 all_nil all_nil)
    · exact hE0 () H1 (S2.wk2 all_nil all_nil)
theorem slices_Equal_Lbyte_byte_ok (k : Nat) {h : H} {σ : Stamp} (x0 : List Int) {u0 : V} (hu0 : SlH h (dI .u8) x0 u0) (x1 : List Int) {u1 : V} (hu1 : SlH h (dI .u8) x1 u1) : Sim (p_slices_Equal_Lbyte_byte k x0 x1) (ev G X0 54 σ [u0, u1] h) (fun r s => s = ([.v (.p (.bool r))], h)) := by
  refine Sim.ev rfl (Sim.ext (slices_Equal_Lbyte_byte_entry _ _ _ _ _ _) ?_)
  rw [p_slices_Equal_Lbyte_byte]
  have S0 : Fm 26 h [] [] [] (List.replicate 26 [] :: h) := Fm.start0
  refine Sim.op ((S0.low hu0).len) ?_
  refine Sim.op (castI_p _ _) ?_
  refine Sim.op ((S0.low hu1).len) ?_
  refine Sim.op (castI_p _ _) ?_
  refine Sim.cd (fun hc => ?_) (fun hc => ?_)
  · exact Sim.fin (S0.finN (lv_cons (still_bool _).lv lv_nil)) rfl
  · refine Sim.op ((S0.low hu0).len) ?_
    refine Sim.op (castI_p _ _) ?_
    refine Sim.as (slices_Equal_Lbyte_byte_l0_ok ?_ ?_ k x0 x1 ((x0.length : Int)) 0 u0 hu0 u1 hu1 (List.replicate 26 [] :: h) (S0.wk2 all_nil all_nil)) 
    · intro _u H18 S19
      refine Sim.ext (slices_Equal_Lbyte_byte_a0_0 _ _ _ _) ?_
      exact Sim.fin (S19.finN (lv_cons (still_bool _).lv lv_nil)) rfl
    · intro r20_4 H21 S22
      refine Sim.ext (slices_Equal_Lbyte_byte_a0_ret _ _ _ _ _) ?_
      exact Sim.fin (S22.finN (lv_cons (still_bool _).lv lv_nil)) rfl
end Go.Ev
/- Equations, printed by tracer2.py. -/
namespace Go.Ev
open Go.Proofs
set_option linter.unusedVariables false
set_option maxRecDepth 100000
-- 53 slices.Equal[[]int,int]
noncomputable def slices_Equal_Lint_int_c0 : Code := (codeAt (bodyOf Try.f53) [1, 1, 0, 1, 0, 0])
def slices_Equal_Lint_int_l0 : Lv := ⟨0, 16, [(0, 0)]⟩
noncomputable def slices_Equal_Lint_int_k0 (rec : CallF) (loop : LoopV) (σ : Stamp) : Exit → Env → H → Option (List C × H) := (kBlock 0 (kSeq G rec loop (codeAt (bodyOf Try.f53) [1, 1, 1]) ⟨16, 16, []⟩ (1 :: 1 :: 0 :: σ) (finC G false Try.f53 (1 :: σ))))
theorem slices_Equal_Lint_int_entry (rec : CallF) (loop : LoopV) (σ : Stamp) (x0 : V) (x1 : V) (h : H) : cvBody G rec loop 53 σ [x0, x1] h =
 (lenO x0).bind fun t1 =>
 (castI .i64 t1).bind fun n2 =>
 (lenO x1).bind fun t3 =>
 (castI .i64 t3).bind fun n4 =>
 bif n2 != n4 then (
 fin false σ (List.replicate 26 [] :: h) [(.p (.bool false))])
 else (
 (lenO x0).bind fun t5 =>
 (castI .i64 t5).bind fun n6 =>
 (loop slices_Equal_Lint_int_c0 slices_Equal_Lint_int_l0 (1 :: 0 :: 1 :: 1 :: 0 :: σ) (envL [(0, x0), (1, x1), (12, (.p (.int .i64 n6))), (13, (.p (.int .i64 0)))]) (List.replicate 26 [] :: h)).bind fun r7 => slices_Equal_Lint_int_k0 rec loop σ r7.1 r7.2.1 r7.2.2) := by kernel_rfl
theorem slices_Equal_Lint_int_r0 (rec : CallF) (loop : LoopV) (σ : Stamp) (x0 : V) (x1 : V) (x12 : Int) (x13 : Int) (h : H) : cvRound G rec loop slices_Equal_Lint_int_c0 slices_Equal_Lint_int_l0 σ (envL [(0, x0), (1, x1), (12, (.p (.int .i64 x12))), (13, (.p (.int .i64 x13)))]) h =
 bif decide (x13 < x12) then (
 (iS 1 x0 x13).bind fun t8 =>
 (ldO false 1 h t8).bind fun t9 =>
 (castI .i64 t9).bind fun n10 =>
 (iS 1 x1 x13).bind fun t11 =>
 (ldO false 1 h t11).bind fun t12 =>
 (castI .i64 t12).bind fun n13 =>
 bif n10 != n13 then (
 some (.ret, (envL [(4, (.p (.bool false)))]), h))
 else (
 loop slices_Equal_Lint_int_c0 slices_Equal_Lint_int_l0 (1 :: σ) (envL [(0, x0), (1, x1), (12, (.p (.int .i64 x12))), (13, (.p (.int .i64 (IntKind.wrap .i64 (x13 + 1)))))]) h))
 else (
 some ((.exit 0), (envL []), h)) := by kernel_rfl
theorem slices_Equal_Lint_int_a0_0 (rec : CallF) (loop : LoopV) (σ : Stamp)  (h : H) : slices_Equal_Lint_int_k0 rec loop σ (.exit 0) (envL []) h =
 fin false σ h [(.p (.bool true))] := by kernel_rfl
theorem slices_Equal_Lint_int_a0_ret (rec : CallF) (loop : LoopV) (σ : Stamp) (x4 : Bool) (h : H) : slices_Equal_Lint_int_k0 rec loop σ .ret (envL [(4, (.p (.bool x4)))]) h =
 fin false σ h [(.p (.bool x4))] := by kernel_rfl
end Go.Ev
/- Lifted by lift.py: slices_Equal_Lint_int as a plain function. -/
namespace Go.Ev
open Go.Proofs
set_option linter.unusedVariables false
set_option linter.unusedSimpArgs false
set_option maxRecDepth 100000
def p_slices_Equal_Lint_int_l0 {β : Type} (k : Nat) (kE0 : Unit → Option β) (kE1 : Bool → Option β) (x0 : (List Int)) (x1 : (List Int)) (x12 : Int) (x13 : Int) : Option β := match k with
| 0 => none
| k + 1 =>
bif decide (x13 < x12) then (
(ix x0 x13).bind fun a7 =>
(ix x1 x13).bind fun a10 =>
bif a7 != a10 then (
kE1 false)
else (
p_slices_Equal_Lint_int_l0 k kE0 kE1 x0 x1 x12 (IntKind.wrap .i64 (x13 + 1))))
else (
kE0 ())
def p_slices_Equal_Lint_int (k : Nat) (x0 : (List Int)) (x1 : (List Int)) : Option (Bool) :=
bif ((x0.length : Int)) != ((x1.length : Int)) then (
some (false))
else (
p_slices_Equal_Lint_int_l0 k (fun (_ : Unit) =>
some (true)) (fun r20_4 =>
some (r20_4)) x0 x1 ((x0.length : Int)) 0)
theorem slices_Equal_Lint_int_l0_ok {h : H}  {β α : Type} {Q : β → α → Prop} {K : Exit × Env × H → Option α} {kE0 : Unit → Option β} {kE1 : Bool → Option β} (hE0 : ∀ (_u : Unit) (H13 : Go.Ev.H) (_ : Fm 26 h [] [] [] H13), Sim (kE0 ()) (K ((.exit 0), (envL []), H13)) Q) (hE1 : ∀ (q4 : Bool) (H15 : Go.Ev.H) (_ : Fm 26 h [] [] [] H15), Sim (kE1 q4) (K (.ret, (envL [(4, (.p (.bool q4)))]), H15)) Q) (k : Nat) : ∀ (x0 : (List Int)) (x1 : (List Int)) (x12 : Int) (x13 : Int) (v3 : V) (h4 : SlH h (dI .i64) x0 v3) (v5 : V) (h6 : SlH h (dI .i64) x1 v5) (H1 : Go.Ev.H) (_ : Fm 26 h [] [] [] H1) {σ : Stamp}, Sim (p_slices_Equal_Lint_int_l0 k kE0 kE1 x0 x1 x12 x13) ((cvL G X0 slices_Equal_Lint_int_c0 slices_Equal_Lint_int_l0 σ (envL [(0, v3), (1, v5), (12, (.p (.int .i64 x12))), (13, (.p (.int .i64 x13)))]) H1).bind K) Q := by
  induction k with
  | zero => intros; exact Sim.no
  | succ k ih =>
    intro x0 x1 x12 x13 v3 h4 v5 h6 H1 S2 σ
    rw [p_slices_Equal_Lint_int_l0]
    refine Sim.round (Sim.ext (slices_Equal_Lint_int_r0 _ _ _ _ _ _ _ _) ?_)
    refine Sim.cd (fun hc => ?_) (fun hc => ?_)
    · refine Sim.bd fun a7 h8 => ?_
      refine Sim.op ((S2.low h4).iS h8 rfl) ?_
      obtain ⟨_, rfl, hE9⟩ := (S2.low h4).el h8 rfl
      refine Sim.op (hE9.ld (j := 0) rfl) ?_
      refine Sim.op (castI_p _ _) ?_
      refine Sim.bd fun a10 h11 => ?_
      refine Sim.op ((S2.low h6).iS h11 rfl) ?_
      obtain ⟨_, rfl, hE12⟩ := (S2.low h6).el h11 rfl
      refine Sim.op (hE12.ld (j := 0) rfl) ?_
      refine Sim.op (castI_p _ _) ?_
      refine Sim.cd (fun hc => ?_) (fun hc => ?_)
      · exact hE1 false H1 (S2.wk2 all_nil all_nil)
      · exact ih x0 x1 x12 (IntKind.wrap .i64 (x13 + 1)) v3 h4 v5 h6 H1 (S2.wk2 all_nil all_nil)
    · exact hE0 () H1 (S2.wk2 all_nil all_nil)
theorem slices_Equal_Lint_int_ok (k : Nat) {h : H} {σ : Stamp} (x0 : List Int) {u0 : V} (hu0 : SlH h (dI .i64) x0 u0) (x1 : List Int) {u1 : V} (hu1 : SlH h (dI .i64) x1 u1) : Sim (p_slices_Equal_Lint_int k x0 x1) (ev G X0 53 σ [u0, u1] h) (fun r s => s = ([.v (.p (.bool r))], h)) := by
  refine Sim.ev rfl (Sim.ext (slices_Equal_Lint_int_entry _ _ _ _ _ _) ?_)
  rw [p_slices_Equal_Lint_int]
  have S0 : Fm 26 h [] [] [] (List.replicate 26 [] :: h) := Fm.start0
  refine Sim.op ((S0.low hu0).len) ?_
  refine Sim.op (castI_p _ _) ?_
  refine Sim.op ((S0.low hu1).len) ?_
  refine Sim.op (castI_p _ _) ?_
  refine Sim.cd (fun hc => ?_) (fun hc => ?_)
  · exact Sim.fin (S0.finN (lv_cons (still_bool _).lv lv_nil)) rfl
  · refine Sim.op ((S0.low hu0).len) ?_
    refine Sim.op (castI_p _ _) ?_
    refine Sim.as (slices_Equal_Lint_int_l0_ok ?_ ?_ k x0 x1 ((x0.length : Int)) 0 u0 hu0 u1 hu1 (List.replicate 26 [] :: h) (S0.wk2 all_nil all_nil)) 
    · intro _u H18 S19
      refine Sim.ext (slices_Equal_Lint_int_a0_0 _ _ _ _) ?_
      exact Sim.fin (S19.finN (lv_cons (still_bool _).lv lv_nil)) rfl
    · intro r20_4 H21 S22
      refine Sim.ext (slices_Equal_Lint_int_a0_ret _ _ _ _ _) ?_
      exact Sim.fin (S22.finN (lv_cons (still_bool _).lv lv_nil)) rfl
end Go.Ev
/- Equations, printed by tracer2.py. -/
namespace Go.Ev
open Go.Proofs
set_option linter.unusedVariables false
set_option maxRecDepth 100000
-- 52 slices.Equal[[]uint32,uint32]
noncomputable def slices_Equal_Luint32_uint32_c0 : Code := (codeAt (bodyOf Try.f52) [1, 1, 0, 1, 0, 0])
def slices_Equal_Luint32_uint32_l0 : Lv := ⟨0, 16, [(0, 0)]⟩
noncomputable def slices_Equal_Luint32_uint32_k0 (rec : CallF) (loop : LoopV) (σ : Stamp) : Exit → Env → H → Option (List C × H) := (kBlock 0 (kSeq G rec loop (codeAt (bodyOf Try.f52) [1, 1, 1]) ⟨16, 16, []⟩ (1 :: 1 :: 0 :: σ) (finC G false Try.f52 (1 :: σ))))
theorem slices_Equal_Luint32_uint32_entry (rec : CallF) (loop : LoopV) (σ : Stamp) (x0 : V) (x1 : V) (h : H) : cvBody G rec loop 52 σ [x0, x1] h =
 (lenO x0).bind fun t1 =>
 (castI .i64 t1).bind fun n2 =>
 (lenO x1).bind fun t3 =>
 (castI .i64 t3).bind fun n4 =>
 bif n2 != n4 then (
 fin false σ (List.replicate 26 [] :: h) [(.p (.bool false))])
 else (
 (lenO x0).bind fun t5 =>
 (castI .i64 t5).bind fun n6 =>
 (loop slices_Equal_Luint32_uint32_c0 slices_Equal_Luint32_uint32_l0 (1 :: 0 :: 1 :: 1 :: 0 :: σ) (envL [(0, x0), (1, x1), (12, (.p (.int .i64 n6))), (13, (.p (.int .i64 0)))]) (List.replicate 26 [] :: h)).bind fun r7 => slices_Equal_Luint32_uint32_k0 rec loop σ r7.1 r7.2.1 r7.2.2) := by kernel_rfl
theorem slices_Equal_Luint32_uint32_r0 (rec : CallF) (loop : LoopV) (σ : Stamp) (x0 : V) (x1 : V) (x12 : Int) (x13 : Int) (h : H) : cvRound G rec loop slices_Equal_Luint32_uint32_c0 slices_Equal_Luint32_uint32_l0 σ (envL [(0, x0), (1, x1), (12, (.p (.int .i64 x12))), (13, (.p (.int .i64 x13)))]) h =
 bif decide (x13 < x12) then (
 (iS 1 x0 x13).bind fun t8 =>
 (ldO false 1 h t8).bind fun t9 =>
 (castI .u32 t9).bind fun n10 =>
 (iS 1 x1 x13).bind fun t11 =>
 (ldO false 1 h t11).bind fun t12 =>
 (castI .u32 t12).bind fun n13 =>
 bif n10 != n13 then (
 some (.ret, (envL [(4, (.p (.bool false)))]), h))
 else (
 loop slices_Equal_Luint32_uint32_c0 slices_Equal_Luint32_uint32_l0 (1 :: σ) (envL [(0, x0), (1, x1), (12, (.p (.int .i64 x12))), (13, (.p (.int .i64 (IntKind.wrap .i64 (x13 + 1)))))]) h))
 else (
 some ((.exit 0), (envL []), h)) := by kernel_rfl
theorem slices_Equal_Luint32_uint32_a0_0 (rec : CallF) (loop : LoopV) (σ : Stamp)  (h : H) : slices_Equal_Luint32_uint32_k0 rec loop σ (.exit 0) (envL []) h =
 fin false σ h [(.p (.bool true))] := by kernel_rfl
theorem slices_Equal_Luint32_uint32_a0_ret (rec : CallF) (loop : LoopV) (σ : Stamp) (x4 : Bool) (h : H) : slices_Equal_Luint32_uint32_k0 rec loop σ .ret (envL [(4, (.p (.bool x4)))]) h =
 fin false σ h [(.p (.bool x4))] := by kernel_rfl
end Go.Ev
/- Lifted by lift.py: slices_Equal_Luint32_uint32 as a plain function. -/
namespace Go.Ev
open Go.Proofs
set_option linter.unusedVariables false
set_option linter.unusedSimpArgs false
set_option maxRecDepth 100000
def p_slices_Equal_Luint32_uint32_l0 {β : Type} (k : Nat) (kE0 : Unit → Option β) (kE1 : Bool → Option β) (x0 : (List Int)) (x1 : (List Int)) (x12 : Int) (x13 : Int) : Option β := match k with
| 0 => none
| k + 1 =>
bif decide (x13 < x12) then (
(ix x0 x13).bind fun a7 =>
(ix x1 x13).bind fun a10 =>
bif a7 != a10 then (
kE1 false)
else (
p_slices_Equal_Luint32_uint32_l0 k kE0 kE1 x0 x1 x12 (IntKind.wrap .i64 (x13 + 1))))
else (
kE0 ())
def p_slices_Equal_Luint32_uint32 (k : Nat) (x0 : (List Int)) (x1 : (List Int)) : Option (Bool) :=
bif ((x0.length : Int)) != ((x1.length : Int)) then (
some (false))
else (
p_slices_Equal_Luint32_uint32_l0 k (fun (_ : Unit) =>
some (true)) (fun r20_4 =>
some (r20_4)) x0 x1 ((x0.length : Int)) 0)
theorem slices_Equal_Luint32_uint32_l0_ok {h : H}  {β α : Type} {Q : β → α → Prop} {K : Exit × Env × H → Option α} {kE0 : Unit → Option β} {kE1 : Bool → Option β} (hE0 : ∀ (_u : Unit) (H13 : Go.Ev.H) (_ : Fm 26 h [] [] [] H13), Sim (kE0 ()) (K ((.exit 0), (envL []), H13)) Q) (hE1 : ∀ (q4 : Bool) (H15 : Go.Ev.H) (_ : Fm 26 h [] [] [] H15), Sim (kE1 q4) (K (.ret, (envL [(4, (.p (.bool q4)))]), H15)) Q) (k : Nat) : ∀ (x0 : (List Int)) (x1 : (List Int)) (x12 : Int) (x13 : Int) (v3 : V) (h4 : SlH h (dI .u32) x0 v3) (v5 : V) (h6 : SlH h (dI .u32) x1 v5) (H1 : Go.Ev.H) (_ : Fm 26 h [] [] [] H1) {σ : Stamp}, Sim (p_slices_Equal_Luint32_uint32_l0 k kE0 kE1 x0 x1 x12 x13) ((cvL G X0 slices_Equal_Luint32_uint32_c0 slices_Equal_Luint32_uint32_l0 σ (envL [(0, v3), (1, v5), (12, (.p (.int .i64 x12))), (13, (.p (.int .i64 x13)))]) H1).bind K) Q := by
  induction k with
  | zero => intros; exact Sim.no
  | succ k ih =>
    intro x0 x1 x12 x13 v3 h4 v5 h6 H1 S2 σ
    rw [p_slices_Equal_Luint32_uint32_l0]
    refine Sim.round (Sim.ext (slices_Equal_Luint32_uint32_r0 _ _ _ _ _ _ _ _) ?_)
    refine Sim.cd (fun hc => ?_) (fun hc => ?_)
    · refine Sim.bd fun a7 h8 => ?_
      refine Sim.op ((S2.low h4).iS h8 rfl) ?_
      obtain ⟨_, rfl, hE9⟩ := (S2.low h4).el h8 rfl
      refine Sim.op (hE9.ld (j := 0) rfl) ?_
      refine Sim.op (castI_p _ _) ?_
      refine Sim.bd fun a10 h11 => ?_
      refine Sim.op ((S2.low h6).iS h11 rfl) ?_
      obtain ⟨_, rfl, hE12⟩ := (S2.low h6).el h11 rfl
      refine Sim.op (hE12.ld (j := 0) rfl) ?_
      refine Sim.op (castI_p _ _) ?_
      refine Sim.cd (fun hc => ?_) (fun hc => ?_)
      · exact hE1 false H1 (S2.wk2 all_nil all_nil)
      · exact ih x0 x1 x12 (IntKind.wrap .i64 (x13 + 1)) v3 h4 v5 h6 H1 (S2.wk2 all_nil all_nil)
    · exact hE0 () H1 (S2.wk2 all_nil all_nil)
theorem slices_Equal_Luint32_uint32_ok (k : Nat) {h : H} {σ : Stamp} (x0 : List Int) {u0 : V} (hu0 : SlH h (dI .u32) x0 u0) (x1 : List Int) {u1 : V} (hu1 : SlH h (dI .u32) x1 u1) : Sim (p_slices_Equal_Luint32_uint32 k x0 x1) (ev G X0 52 σ [u0, u1] h) (fun r s => s = ([.v (.p (.bool r))], h)) := by
  refine Sim.ev rfl (Sim.ext (slices_Equal_Luint32_uint32_entry _ _ _ _ _ _) ?_)
  rw [p_slices_Equal_Luint32_uint32]
  have S0 : Fm 26 h [] [] [] (List.replicate 26 [] :: h) := Fm.start0
  refine Sim.op ((S0.low hu0).len) ?_
  refine Sim.op (castI_p _ _) ?_
  refine Sim.op ((S0.low hu1).len) ?_
  refine Sim.op (castI_p _ _) ?_
  refine Sim.cd (fun hc => ?_) (fun hc => ?_)
  · exact Sim.fin (S0.finN (lv_cons (still_bool _).lv lv_nil)) rfl
  · refine Sim.op ((S0.low hu0).len) ?_
    refine Sim.op (castI_p _ _) ?_
    refine Sim.as (slices_Equal_Luint32_uint32_l0_ok ?_ ?_ k x0 x1 ((x0.length : Int)) 0 u0 hu0 u1 hu1 (List.replicate 26 [] :: h) (S0.wk2 all_nil all_nil)) 
    · intro _u H18 S19
      refine Sim.ext (slices_Equal_Luint32_uint32_a0_0 _ _ _ _) ?_
      exact Sim.fin (S19.finN (lv_cons (still_bool _).lv lv_nil)) rfl
    · intro r20_4 H21 S22
      refine Sim.ext (slices_Equal_Luint32_uint32_a0_ret _ _ _ _ _) ?_
      exact Sim.fin (S22.finN (lv_cons (still_bool _).lv lv_nil)) rfl
end Go.Ev
/- Lifted by lift.py: rtcp_Same as a plain function. -/
namespace Go.Ev
open Go.Proofs
set_option linter.unusedVariables false
set_option linter.unusedSimpArgs false
set_option maxRecDepth 100000
def p_rtcp_Same (k : Nat) (x0 : T_api_Report) (x1 : T_api_Report) : Option (Bool) :=
(bif x0.Kind == x1.Kind then (some (x0.From == x1.From)) else (some false)).bind fun b25 =>
(bif b25 then (some (x0.About == x1.About)) else (some false)).bind fun b29 =>
(bif b29 then ((p_slices_Equal_Lapi_Tuple_api_Tuple k x0.Tuples x1.Tuples).bind fun r33 =>
some r33) else (some false)).bind fun b38 =>
(bif b38 then ((p_slices_Equal_Luint32_uint32 k x0.Abouts x1.Abouts).bind fun r42 =>
some r42) else (some false)).bind fun b47 =>
(bif b47 then ((p_slices_Equal_Lint_int k x0.Numbers x1.Numbers).bind fun r51 =>
some r51) else (some false)).bind fun b56 =>
(bif b56 then (some (x0.Rate == x1.Rate)) else (some false)).bind fun b60 =>
(bif b60 then (some (x0.f_Type == x1.f_Type)) else (some false)).bind fun b64 =>
(bif b64 then (some (x0.Count == x1.Count)) else (some false)).bind fun b68 =>
(bif b68 then ((p_slices_Equal_Lbyte_byte k x0.Body x1.Body).bind fun r72 =>
some r72) else (some false)).bind fun b77 =>
some (b77)
theorem rtcp_Same_ok (k : Nat) {h : H} {σ : Stamp} (x0 : T_api_Report) {u0 : List V} (hu0 : dT_api_Report.R x0 u0) (x1 : T_api_Report) {u1 : List V} (hu1 : dT_api_Report.R x1 u1) : Sim (p_rtcp_Same k x0 x1) (ev G X0 22 σ [(.agg u0), (.agg u1)] h) (fun r s => s = ([.v (.p (.bool r))], h)) := by
  refine Sim.ev rfl (Sim.ext (rtcp_Same_entry _ _ _ _ _ _) ?_)
  rw [p_rtcp_Same]
  obtain ⟨v1, v3, v5, v7, rfl, h2, h4, h6, h8⟩ := dT_api_Report.inv hu0
  obtain ⟨v9, v11, v13, v15, rfl, h10, h12, h14, h16⟩ := dT_api_Report.inv hu1
  have S0 : Fm 73 h [] [] [] (List.replicate 73 [] :: h) := Fm.start0
  obtain ⟨H17, e18, S19⟩ := S0.box (own := false) (d := 2) (s := (0 :: 0 :: 0 :: σ)) (xs := [(.p (.int .i64 x0.Kind)), (.p (.int .u32 x0.From)), (.p (.int .u32 x0.About)), v1, v3, v5, (.p (.int .u64 x0.Rate)), (.p (.int .i64 x0.f_Type)), (.p (.int .i64 x0.Count)), v7]) (stills_cons (still_int _ _) (stills_cons (still_int _ _) (stills_cons (still_int _ _) (stills_cons h2.still (stills_cons h4.still (stills_cons h6.still (stills_cons (still_int _ _) (stills_cons (still_int _ _) (stills_cons (still_int _ _) (stills_cons h8.still stills_nil)))))))))) (by decide) rfl
  refine Sim.op (e18) ?_
  obtain ⟨H21, e22, S23⟩ := S19.box (own := false) (d := 3) (s := (1 :: 0 :: 0 :: σ)) (xs := [(.p (.int .i64 x1.Kind)), (.p (.int .u32 x1.From)), (.p (.int .u32 x1.About)), v9, v11, v13, (.p (.int .u64 x1.Rate)), (.p (.int .i64 x1.f_Type)), (.p (.int .i64 x1.Count)), v15]) (stills_cons (still_int _ _) (stills_cons (still_int _ _) (stills_cons (still_int _ _) (stills_cons h10.still (stills_cons h12.still (stills_cons h14.still (stills_cons (still_int _ _) (stills_cons (still_int _ _) (stills_cons (still_int _ _) (stills_cons h16.still stills_nil)))))))))) (by decide) rfl
  refine Sim.op (e22) ?_
  refine Sim.op (fA_ref _ _ _) ?_
  refine Sim.op ((S23.atG (i := 1) rfl).ld (j := 0) rfl) ?_
  refine Sim.op (castI_p _ _) ?_
  refine Sim.op (fA_ref _ _ _) ?_
  refine Sim.op ((S23.atG (i := 0) rfl).ld (j := 0) rfl) ?_
  refine Sim.op (castI_p _ _) ?_
  refine Sim.ch (P := fun r y => r = y) ?_ (fun b25 y26 h27 h28 => ?_)
  · refine Sim.cd (fun hc => ?_) (fun hc => ?_)
    · refine Sim.op (fA_ref _ _ _) ?_
      refine Sim.op ((S23.atG (i := 1) rfl).ld (j := 1) rfl) ?_
      refine Sim.op (castI_p _ _) ?_
      refine Sim.op (fA_ref _ _ _) ?_
      refine Sim.op ((S23.atG (i := 0) rfl).ld (j := 1) rfl) ?_
      refine Sim.op (castI_p _ _) ?_
      exact Sim.ret rfl rfl
    · exact Sim.ret rfl rfl
  subst h28
  refine Sim.ch (P := fun r y => r = y) ?_ (fun b29 y30 h31 h32 => ?_)
  · refine Sim.cd (fun hc => ?_) (fun hc => ?_)
    · refine Sim.op (fA_ref _ _ _) ?_
      refine Sim.op ((S23.atG (i := 1) rfl).ld (j := 2) rfl) ?_
      refine Sim.op (castI_p _ _) ?_
      refine Sim.op (fA_ref _ _ _) ?_
      refine Sim.op ((S23.atG (i := 0) rfl).ld (j := 2) rfl) ?_
      refine Sim.op (castI_p _ _) ?_
      exact Sim.ret rfl rfl
    · exact Sim.ret rfl rfl
  subst h32
  refine Sim.ch (P := fun r y => (.p (.bool r), H21) = y) ?_ (fun b38 y39 h40 h41 => ?_)
  · refine Sim.cd (fun hc => ?_) (fun hc => ?_)
    · refine Sim.op (fA_ref _ _ _) ?_
      refine Sim.op ((S23.atG (i := 1) rfl).ld (j := 3) rfl) ?_
      refine Sim.op (fA_ref _ _ _) ?_
      refine Sim.op ((S23.atG (i := 0) rfl).ld (j := 3) rfl) ?_
      refine Sim.call (slices_Equal_Lapi_Tuple_api_Tuple_ok k x0.Tuples (h2.h H21) x1.Tuples (h10.h H21)) fun r33 cs34 H35 h36 q37 => ?_
      cases q37
      refine Sim.op (asB_p _) ?_
      exact Sim.ret rfl rfl
    · exact Sim.ret rfl rfl
  subst h41
  refine Sim.op (asB_p _) ?_
  refine Sim.ch (P := fun r y => (.p (.bool r), H21) = y) ?_ (fun b47 y48 h49 h50 => ?_)
  · refine Sim.cd (fun hc => ?_) (fun hc => ?_)
    · refine Sim.op (fA_ref _ _ _) ?_
      refine Sim.op ((S23.atG (i := 1) rfl).ld (j := 4) rfl) ?_
      refine Sim.op (fA_ref _ _ _) ?_
      refine Sim.op ((S23.atG (i := 0) rfl).ld (j := 4) rfl) ?_
      refine Sim.call (slices_Equal_Luint32_uint32_ok k x0.Abouts (h4.h H21) x1.Abouts (h12.h H21)) fun r42 cs43 H44 h45 q46 => ?_
      cases q46
      refine Sim.op (asB_p _) ?_
      exact Sim.ret rfl rfl
    · exact Sim.ret rfl rfl
  subst h50
  refine Sim.op (asB_p _) ?_
  refine Sim.ch (P := fun r y => (.p (.bool r), H21) = y) ?_ (fun b56 y57 h58 h59 => ?_)
  · refine Sim.cd (fun hc => ?_) (fun hc => ?_)
    · refine Sim.op (fA_ref _ _ _) ?_
      refine Sim.op ((S23.atG (i := 1) rfl).ld (j := 5) rfl) ?_
      refine Sim.op (fA_ref _ _ _) ?_
      refine Sim.op ((S23.atG (i := 0) rfl).ld (j := 5) rfl) ?_
      refine Sim.call (slices_Equal_Lint_int_ok k x0.Numbers (h6.h H21) x1.Numbers (h14.h H21)) fun r51 cs52 H53 h54 q55 => ?_
      cases q55
      refine Sim.op (asB_p _) ?_
      exact Sim.ret rfl rfl
    · exact Sim.ret rfl rfl
  subst h59
  refine Sim.op (asB_p _) ?_
  refine Sim.ch (P := fun r y => r = y) ?_ (fun b60 y61 h62 h63 => ?_)
  · refine Sim.cd (fun hc => ?_) (fun hc => ?_)
    · refine Sim.op (fA_ref _ _ _) ?_
      refine Sim.op ((S23.atG (i := 1) rfl).ld (j := 6) rfl) ?_
      refine Sim.op (castI_p _ _) ?_
      refine Sim.op (fA_ref _ _ _) ?_
      refine Sim.op ((S23.atG (i := 0) rfl).ld (j := 6) rfl) ?_
      refine Sim.op (castI_p _ _) ?_
      exact Sim.ret rfl rfl
    · exact Sim.ret rfl rfl
  subst h63
  refine Sim.ch (P := fun r y => r = y) ?_ (fun b64 y65 h66 h67 => ?_)
  · refine Sim.cd (fun hc => ?_) (fun hc => ?_)
    · refine Sim.op (fA_ref _ _ _) ?_
      refine Sim.op ((S23.atG (i := 1) rfl).ld (j := 7) rfl) ?_
      refine Sim.op (castI_p _ _) ?_
      refine Sim.op (fA_ref _ _ _) ?_
      refine Sim.op ((S23.atG (i := 0) rfl).ld (j := 7) rfl) ?_
      refine Sim.op (castI_p _ _) ?_
      exact Sim.ret rfl rfl
    · exact Sim.ret rfl rfl
  subst h67
  refine Sim.ch (P := fun r y => r = y) ?_ (fun b68 y69 h70 h71 => ?_)
  · refine Sim.cd (fun hc => ?_) (fun hc => ?_)
    · refine Sim.op (fA_ref _ _ _) ?_
      refine Sim.op ((S23.atG (i := 1) rfl).ld (j := 8) rfl) ?_
      refine Sim.op (castI_p _ _) ?_
      refine Sim.op (fA_ref _ _ _) ?_
      refine Sim.op ((S23.atG (i := 0) rfl).ld (j := 8) rfl) ?_
      refine Sim.op (castI_p _ _) ?_
      exact Sim.ret rfl rfl
    · exact Sim.ret rfl rfl
  subst h71
  refine Sim.ch (P := fun r y => (.p (.bool r), H21) = y) ?_ (fun b77 y78 h79 h80 => ?_)
  · refine Sim.cd (fun hc => ?_) (fun hc => ?_)
    · refine Sim.op (fA_ref _ _ _) ?_
      refine Sim.op ((S23.atG (i := 1) rfl).ld (j := 9) rfl) ?_
      refine Sim.op (fA_ref _ _ _) ?_
      refine Sim.op ((S23.atG (i := 0) rfl).ld (j := 9) rfl) ?_
      refine Sim.call (slices_Equal_Lbyte_byte_ok k x0.Body (h8.h H21) x1.Body (h16.h H21)) fun r72 cs73 H74 h75 q76 => ?_
      cases q76
      refine Sim.op (asB_p _) ?_
      exact Sim.ret rfl rfl
    · exact Sim.ret rfl rfl
  subst h80
  refine Sim.op (asB_p _) ?_
  exact Sim.fin (S23.finN (lv_cons (still_bool _).lv lv_nil)) rfl
end Go.Ev
/- Lifted by lift.py: limelightlaw6_known as a plain function. -/
namespace Go.Ev
open Go.Proofs
set_option linter.unusedVariables false
set_option linter.unusedSimpArgs false
set_option maxRecDepth 100000
def p_limelightlaw6_known (k : Nat)  : Option (Bool) :=
(p_rtcp_Bytes k ([((⟨3, 1, 2, (([] : List T_api_Tuple)), (([] : List Int)), (([] : List Int)), 0, 0, 0, (([] : List Int))⟩ : T_api_Report)), ((⟨5, 0, 0, (([] : List T_api_Tuple)), ([5]), (([] : List Int)), 8000, 0, 0, (([] : List Int))⟩ : T_api_Report))])).bind fun r10 =>
(p_rtcp_Read k r10.1).bind fun r17 =>
(p_rtcp_Read k (([] : List Int))).bind fun r24 =>
(p_rtcp_Bytes k (([] : List T_api_Report))).bind fun r31 =>
(p_rtcp_Read k ([161, 206, 0, 0])).bind fun r39 =>
(bif r10.2 == 0 then (some (((r10.1.length : Int)) == 36)) else (some false)).bind fun b46 =>
(bif b46 then ((sub r10.1 0 4).bind fun a50 =>
some ((strB a50).toList == ((⟨#[129, 206, 0, 2]⟩ : ByteArray)).toList)) else (some false)).bind fun b52 =>
(bif b52 then (some (r17.2 == 0)) else (some false)).bind fun b56 =>
(bif b56 then (some (((r17.1.length : Int)) == 2)) else (some false)).bind fun b60 =>
(bif b60 then ((ix r17.1 0).bind fun a64 =>
(p_rtcp_Same k a64 ((⟨3, 1, 2, (([] : List T_api_Tuple)), (([] : List Int)), (([] : List Int)), 0, 0, 0, (([] : List Int))⟩ : T_api_Report))).bind fun r77 =>
some r77) else (some false)).bind fun b82 =>
(bif b82 then ((ix r17.1 1).bind fun a86 =>
some (a86.Rate == 8000)) else (some false)).bind fun b110 =>
(bif b110 then (some (r24.2 == 13)) else (some false)).bind fun b114 =>
(bif b114 then (some (r31.2 == 1)) else (some false)).bind fun b118 =>
(bif b118 then (some (r39.2 == 12)) else (some false)).bind fun b122 =>
(bif b122 then ((p_rtcp_Is r10.1).bind fun r126 =>
some r126) else (some false)).bind fun b131 =>
(bif b131 then ((p_rtcp_Is (([] : List Int))).bind fun r135 =>
some (!r135)) else (some false)).bind fun b140 =>
(bif b140 then ((p_rtcp_Is ([128, 96])).bind fun r145 =>
some (!r145)) else (some false)).bind fun b150 =>
(bif b150 then ((p_rtcp_Right k ((⟨0, 0, 0, (([] : List T_api_Tuple)), (([] : List Int)), (([] : List Int)), 0, 0, 0, (([] : List Int))⟩ : T_api_Report))).bind fun r154 =>
some (r154 == 12)) else (some false)).bind fun b159 =>
some (b159)
theorem limelightlaw6_known_ok (k : Nat) {h : H} {σ : Stamp}  : Sim (p_limelightlaw6_known k ) (ev G X0 20 σ [] h) (fun r s => s = ([.v (.p (.bool r))], h)) := by
  refine Sim.ev rfl (Sim.ext (limelightlaw6_known_entry _ _ _ _) ?_)
  rw [p_limelightlaw6_known]
  have S0 : Fm 105 h [] [] [] (List.replicate 105 [] :: h) := Fm.start0
  refine Sim.op (bldV (pt_cons rfl (pt_cons rfl (pt_cons rfl pt_nil))) (by kernel_rfl : _ = some (.agg [.p (.int .i64 3), .p (.int .u32 1), .p (.int .u32 2), .p (.slice none 0 0), .p (.slice none 0 0), .p (.slice none 0 0), .p (.int .u64 0), .p (.int .i64 0), .p (.int .i64 0), .p (.slice none 0 0)]))) ?_
  obtain ⟨H1, e2, S3⟩ := S0.al (d := 1) (s := (1 :: 0 :: 1 :: 0 :: σ)) (z := [(.p (.int .i64 0)), (.p (.int .u32 0)), (.p (.int .u32 0)), (.p (.slice none 0 0)), (.p (.slice none 0 0)), (.p (.slice none 0 0)), (.p (.int .u64 0)), (.p (.int .i64 0)), (.p (.int .i64 0)), (.p (.slice none 0 0))]) (by decide) rfl
  refine Sim.op (congrArg some e2) ?_
  obtain ⟨H5, e6, S7⟩ := S3.stGv (i := 0) (j := 0) (own := false) (σ := (2 :: 0 :: 1 :: 0 :: σ)) (xs := [.p (.int .i64 3), .p (.int .u32 1), .p (.int .u32 2), .p (.slice none 0 0), .p (.slice none 0 0), .p (.slice none 0 0), .p (.int .u64 0), .p (.int .i64 0), .p (.int .i64 0), .p (.slice none 0 0)]) rfl rfl (stills_cons (still_int _ _) (stills_cons (still_int _ _) (stills_cons (still_int _ _) (stills_cons (SlF.nil dT_api_Tuple).still (stills_cons (SlF.nil (dI .u32)).still (stills_cons (SlF.nil (dI .i64)).still (stills_cons (still_int _ _) (stills_cons (still_int _ _) (stills_cons (still_int _ _) (stills_cons (SlF.nil (dI .u8)).still stills_nil)))))))))) rfl rfl
  refine Sim.op (st_map e6) ?_
  refine Sim.op ((S7.atG (i := 0) rfl).ldVs (j := 0) (xs := [.p (.int .i64 3), .p (.int .u32 1), .p (.int .u32 2), .p (.slice none 0 0), .p (.slice none 0 0), .p (.slice none 0 0), .p (.int .u64 0), .p (.int .i64 0), .p (.int .i64 0), .p (.slice none 0 0)]) rfl rfl (by decide)) ?_
  have h8 : SlF (dI .u32) [5] (.fz [(.p (.int .u32 5))] 1 1 true) := SlF.lit (cs := [(.p (.int .u32 5))]) (RL.cons (show (dI .u32).R 5 [(.p (.int .u32 5))] from rfl) RL.nil) rfl rfl true
  refine Sim.op (bldS (pt_cons rfl pt_nil) (by kernel_rfl : _ = some (.fz [(.p (.int .u32 5))] 1 1 true))) ?_
  refine Sim.op (bldV (pt_cons rfl (pt_cons rfl (pt_cons h8.still.cells pt_nil))) (by kernel_rfl : _ = some (.agg [.p (.int .i64 5), .p (.int .u32 0), .p (.int .u32 0), .p (.slice none 0 0), .fz [(.p (.int .u32 5))] 1 1 true, .p (.slice none 0 0), .p (.int .u64 8000), .p (.int .i64 0), .p (.int .i64 0), .p (.slice none 0 0)]))) ?_
  have h9 : SlF dT_api_Report [((⟨3, 1, 2, (([] : List T_api_Tuple)), (([] : List Int)), (([] : List Int)), 0, 0, 0, (([] : List Int))⟩ : T_api_Report)), ((⟨5, 0, 0, (([] : List T_api_Tuple)), ([5]), (([] : List Int)), 8000, 0, 0, (([] : List Int))⟩ : T_api_Report))] (.fz [(.p (.int .i64 3)), (.p (.int .u32 1)), (.p (.int .u32 2)), (.p (.slice none 0 0)), (.p (.slice none 0 0)), (.p (.slice none 0 0)), (.p (.int .u64 0)), (.p (.int .i64 0)), (.p (.int .i64 0)), (.p (.slice none 0 0)), (.p (.int .i64 5)), (.p (.int .u32 0)), (.p (.int .u32 0)), (.p (.slice none 0 0)), (.fz [(.p (.int .u32 5))] 1 1 true), (.p (.slice none 0 0)), (.p (.int .u64 8000)), (.p (.int .i64 0)), (.p (.int .i64 0)), (.p (.slice none 0 0))] 2 10 true) := SlF.lit (cs := [(.p (.int .i64 3)), (.p (.int .u32 1)), (.p (.int .u32 2)), (.p (.slice none 0 0)), (.p (.slice none 0 0)), (.p (.slice none 0 0)), (.p (.int .u64 0)), (.p (.int .i64 0)), (.p (.int .i64 0)), (.p (.slice none 0 0)), (.p (.int .i64 5)), (.p (.int .u32 0)), (.p (.int .u32 0)), (.p (.slice none 0 0)), (.fz [(.p (.int .u32 5))] 1 1 true), (.p (.slice none 0 0)), (.p (.int .u64 8000)), (.p (.int .i64 0)), (.p (.int .i64 0)), (.p (.slice none 0 0))]) (RL.cons (show dT_api_Report.R ((⟨3, 1, 2, (([] : List T_api_Tuple)), (([] : List Int)), (([] : List Int)), 0, 0, 0, (([] : List Int))⟩ : T_api_Report)) [.p (.int .i64 3), .p (.int .u32 1), .p (.int .u32 2), .p (.slice none 0 0), .p (.slice none 0 0), .p (.slice none 0 0), .p (.int .u64 0), .p (.int .i64 0), .p (.int .i64 0), .p (.slice none 0 0)] from (dT_api_Report.mk (SlF.nil dT_api_Tuple) (SlF.nil (dI .u32)) (SlF.nil (dI .i64)) (SlF.nil (dI .u8)))) (RL.cons (show dT_api_Report.R ((⟨5, 0, 0, (([] : List T_api_Tuple)), ([5]), (([] : List Int)), 8000, 0, 0, (([] : List Int))⟩ : T_api_Report)) [.p (.int .i64 5), .p (.int .u32 0), .p (.int .u32 0), .p (.slice none 0 0), .fz [(.p (.int .u32 5))] 1 1 true, .p (.slice none 0 0), .p (.int .u64 8000), .p (.int .i64 0), .p (.int .i64 0), .p (.slice none 0 0)] from (dT_api_Report.mk (SlF.nil dT_api_Tuple) h8 (SlF.nil (dI .i64)) (SlF.nil (dI .u8)))) RL.nil)) rfl rfl true
  refine Sim.op (bldS (pt_cons (c := [.p (.int .i64 3), .p (.int .u32 1), .p (.int .u32 2), .p (.slice none 0 0), .p (.slice none 0 0), .p (.slice none 0 0), .p (.int .u64 0), .p (.int .i64 0), .p (.int .i64 0), .p (.slice none 0 0)]) rfl (pt_cons (c := [.p (.int .i64 5), .p (.int .u32 0), .p (.int .u32 0), .p (.slice none 0 0), .fz [(.p (.int .u32 5))] 1 1 true, .p (.slice none 0 0), .p (.int .u64 8000), .p (.int .i64 0), .p (.int .i64 0), .p (.slice none 0 0)]) rfl pt_nil)) (by kernel_rfl : _ = some (.fz [(.p (.int .i64 3)), (.p (.int .u32 1)), (.p (.int .u32 2)), (.p (.slice none 0 0)), (.p (.slice none 0 0)), (.p (.slice none 0 0)), (.p (.int .u64 0)), (.p (.int .i64 0)), (.p (.int .i64 0)), (.p (.slice none 0 0)), (.p (.int .i64 5)), (.p (.int .u32 0)), (.p (.int .u32 0)), (.p (.slice none 0 0)), (.fz [(.p (.int .u32 5))] 1 1 true), (.p (.slice none 0 0)), (.p (.int .u64 8000)), (.p (.int .i64 0)), (.p (.int .i64 0)), (.p (.slice none 0 0))] 2 10 true))) ?_
  erw [callFO_eq (frzAs_cons (frzA_F h9) frzAs_nil)]
  refine Sim.call (rtcp_Bytes_ok k ([((⟨3, 1, 2, (([] : List T_api_Tuple)), (([] : List Int)), (([] : List Int)), 0, 0, 0, (([] : List Int))⟩ : T_api_Report)), ((⟨5, 0, 0, (([] : List T_api_Tuple)), ([5]), (([] : List Int)), 8000, 0, 0, (([] : List Int))⟩ : T_api_Report))]) (h9.h H5)) fun r10 cs11 H12 h13 q14 => ?_
  obtain ⟨v15, h16, q14⟩ := q14
  cases q14
  refine Sim.op (rfl) ?_
  refine Sim.op (rfl) ?_
  refine Sim.op (castI_p _ _) ?_
  erw [callFO_eq (frzAs_cons (frzA_F h16) frzAs_nil)]
  refine Sim.call (rtcp_Read_ok k r10.1 h16) fun r17 cs18 H19 h20 q21 => ?_
  obtain ⟨v22, h23, q21⟩ := q21
  cases q21
  refine Sim.op (rfl) ?_
  refine Sim.op (rfl) ?_
  refine Sim.op (castI_p _ _) ?_
  erw [callFO_eq (frzAs_cons (frzA_F (SlF.nil (dI .u8))) frzAs_nil)]
  refine Sim.call (rtcp_Read_ok k (([] : List Int)) (SlF.nil (dI .u8))) fun r24 cs25 H26 h27 q28 => ?_
  obtain ⟨v29, h30, q28⟩ := q28
  cases q28
  refine Sim.op (rfl) ?_
  refine Sim.op (rfl) ?_
  refine Sim.op (castI_p _ _) ?_
  erw [callFO_eq (frzAs_cons (frzA_F (SlF.nil dT_api_Report)) frzAs_nil)]
  refine Sim.call (rtcp_Bytes_ok k (([] : List T_api_Report)) ((SlF.nil dT_api_Report).h H5)) fun r31 cs32 H33 h34 q35 => ?_
  obtain ⟨v36, h37, q35⟩ := q35
  cases q35
  refine Sim.op (rfl) ?_
  refine Sim.op (rfl) ?_
  refine Sim.op (castI_p _ _) ?_
  have h38 : SlF (dI .u8) [161, 206, 0, 0] (.fz [(.p (.int .u8 161)), (.p (.int .u8 206)), (.p (.int .u8 0)), (.p (.int .u8 0))] 4 1 true) := SlF.lit (cs := [(.p (.int .u8 161)), (.p (.int .u8 206)), (.p (.int .u8 0)), (.p (.int .u8 0))]) (RL.cons (show (dI .u8).R 161 [(.p (.int .u8 161))] from rfl) (RL.cons (show (dI .u8).R 206 [(.p (.int .u8 206))] from rfl) (RL.cons (show (dI .u8).R 0 [(.p (.int .u8 0))] from rfl) (RL.cons (show (dI .u8).R 0 [(.p (.int .u8 0))] from rfl) RL.nil)))) rfl rfl true
  refine Sim.op (bldS (pt_cons rfl (pt_cons rfl (pt_cons rfl (pt_cons rfl pt_nil)))) (by kernel_rfl : _ = some (.fz [(.p (.int .u8 161)), (.p (.int .u8 206)), (.p (.int .u8 0)), (.p (.int .u8 0))] 4 1 true))) ?_
  erw [callFO_eq (frzAs_cons (frzA_F h38) frzAs_nil)]
  refine Sim.call (rtcp_Read_ok k ([161, 206, 0, 0]) h38) fun r39 cs40 H41 h42 q43 => ?_
  obtain ⟨v44, h45, q43⟩ := q43
  cases q43
  refine Sim.op (rfl) ?_
  refine Sim.op (rfl) ?_
  refine Sim.op (castI_p _ _) ?_
  refine Sim.ch (P := fun r y => r = y) ?_ (fun b46 y47 h48 h49 => ?_)
  · refine Sim.cd (fun hc => ?_) (fun hc => ?_)
    · refine Sim.op ((h16.h H5).len) ?_
      refine Sim.op (castI_p _ _) ?_
      exact Sim.ret rfl rfl
    · exact Sim.ret rfl rfl
  subst h49
  refine Sim.ch (P := fun r y => r = y) ?_ (fun b52 y53 h54 h55 => ?_)
  · refine Sim.cd (fun hc => ?_) (fun hc => ?_)
    · refine Sim.bd fun a50 h51 => ?_
      refine Sim.op ((h16.h H5).slS h51 rfl rfl rfl) ?_
      refine Sim.op (((h16.h H5).sub h51 (e := 1) rfl).str) ?_
      refine Sim.op (castS_p _) ?_
      exact Sim.ret rfl rfl
    · exact Sim.ret rfl rfl
  subst h55
  refine Sim.ch (P := fun r y => r = y) ?_ (fun b56 y57 h58 h59 => ?_)
  · refine Sim.cd (fun hc => ?_) (fun hc => ?_)
    · exact Sim.ret rfl rfl
    · exact Sim.ret rfl rfl
  subst h59
  refine Sim.ch (P := fun r y => r = y) ?_ (fun b60 y61 h62 h63 => ?_)
  · refine Sim.cd (fun hc => ?_) (fun hc => ?_)
    · refine Sim.op ((h23.h H5).len) ?_
      refine Sim.op (castI_p _ _) ?_
      exact Sim.ret rfl rfl
    · exact Sim.ret rfl rfl
  subst h63
  refine Sim.ch (P := fun r y => (.p (.bool r), H5) = y) ?_ (fun b82 y83 h84 h85 => ?_)
  · refine Sim.cd (fun hc => ?_) (fun hc => ?_)
    · refine Sim.bd fun a64 h65 => ?_
      refine Sim.op ((h23.h H5).iS h65 rfl) ?_
      obtain ⟨w67, h68, hE66⟩ := (h23.h H5).el h65 rfl
      obtain ⟨v69, v71, v73, v75, rfl, h70, h72, h74, h76⟩ := dT_api_Report.inv h68
      refine Sim.op (hE66.all (by simp)) ?_
      refine Sim.op ((S7.atG (i := 0) rfl).ldVs (j := 0) (xs := [.p (.int .i64 3), .p (.int .u32 1), .p (.int .u32 2), .p (.slice none 0 0), .p (.slice none 0 0), .p (.slice none 0 0), .p (.int .u64 0), .p (.int .i64 0), .p (.int .i64 0), .p (.slice none 0 0)]) rfl rfl (by decide)) ?_
      refine Sim.call (rtcp_Same_ok k a64 (show dT_api_Report.R a64 [.p (.int .i64 a64.Kind), .p (.int .u32 a64.From), .p (.int .u32 a64.About), v69, v71, v73, .p (.int .u64 a64.Rate), .p (.int .i64 a64.f_Type), .p (.int .i64 a64.Count), v75] from (dT_api_Report.mk h70 h72 h74 h76)) ((⟨3, 1, 2, (([] : List T_api_Tuple)), (([] : List Int)), (([] : List Int)), 0, 0, 0, (([] : List Int))⟩ : T_api_Report)) (show dT_api_Report.R ((⟨3, 1, 2, (([] : List T_api_Tuple)), (([] : List Int)), (([] : List Int)), 0, 0, 0, (([] : List Int))⟩ : T_api_Report)) [.p (.int .i64 3), .p (.int .u32 1), .p (.int .u32 2), .p (.slice none 0 0), .p (.slice none 0 0), .p (.slice none 0 0), .p (.int .u64 0), .p (.int .i64 0), .p (.int .i64 0), .p (.slice none 0 0)] from (dT_api_Report.mk (SlF.nil dT_api_Tuple) (SlF.nil (dI .u32)) (SlF.nil (dI .i64)) (SlF.nil (dI .u8))))) fun r77 cs78 H79 h80 q81 => ?_
      cases q81
      refine Sim.op (asB_p _) ?_
      exact Sim.ret rfl rfl
    · exact Sim.ret rfl rfl
  subst h85
  refine Sim.op (asB_p _) ?_
  refine Sim.ch (P := fun r y => r = y) ?_ (fun b110 y111 h112 h113 => ?_)
  · refine Sim.cd (fun hc => ?_) (fun hc => ?_)
    · refine Sim.bd fun a86 h87 => ?_
      refine Sim.op ((h23.h H5).iS h87 rfl) ?_
      obtain ⟨w89, h90, hE88⟩ := (h23.h H5).el h87 rfl
      obtain ⟨v91, v93, v95, v97, rfl, h92, h94, h96, h98⟩ := dT_api_Report.inv h90
      refine Sim.op (hE88.fa (j := 6) (by simp)) ?_
      obtain ⟨w100, h101, hE99⟩ := (h23.h H5).el h87 rfl
      obtain ⟨v102, v104, v106, v108, rfl, h103, h105, h107, h109⟩ := dT_api_Report.inv h101
      refine Sim.op (hE99.ld (j := 6) rfl) ?_
      refine Sim.op (castI_p _ _) ?_
      exact Sim.ret rfl rfl
    · exact Sim.ret rfl rfl
  subst h113
  refine Sim.ch (P := fun r y => r = y) ?_ (fun b114 y115 h116 h117 => ?_)
  · refine Sim.cd (fun hc => ?_) (fun hc => ?_)
    · exact Sim.ret rfl rfl
    · exact Sim.ret rfl rfl
  subst h117
  refine Sim.ch (P := fun r y => r = y) ?_ (fun b118 y119 h120 h121 => ?_)
  · refine Sim.cd (fun hc => ?_) (fun hc => ?_)
    · exact Sim.ret rfl rfl
    · exact Sim.ret rfl rfl
  subst h121
  refine Sim.ch (P := fun r y => r = y) ?_ (fun b122 y123 h124 h125 => ?_)
  · refine Sim.cd (fun hc => ?_) (fun hc => ?_)
    · exact Sim.ret rfl rfl
    · exact Sim.ret rfl rfl
  subst h125
  refine Sim.ch (P := fun r y => (.p (.bool r), H5) = y) ?_ (fun b131 y132 h133 h134 => ?_)
  · refine Sim.cd (fun hc => ?_) (fun hc => ?_)
    · refine Sim.call (rtcp_Is_ok r10.1 (h16.h H5)) fun r126 cs127 H128 h129 q130 => ?_
      cases q130
      refine Sim.op (asB_p _) ?_
      exact Sim.ret rfl rfl
    · exact Sim.ret rfl rfl
  subst h134
  refine Sim.op (asB_p _) ?_
  refine Sim.ch (P := fun r y => (.p (.bool r), H5) = y) ?_ (fun b140 y141 h142 h143 => ?_)
  · refine Sim.cd (fun hc => ?_) (fun hc => ?_)
    · refine Sim.call (rtcp_Is_ok (([] : List Int)) ((SlF.nil (dI .u8)).h H5)) fun r135 cs136 H137 h138 q139 => ?_
      cases q139
      refine Sim.op (asB_p _) ?_
      exact Sim.ret rfl rfl
    · exact Sim.ret rfl rfl
  subst h143
  refine Sim.op (asB_p _) ?_
  refine Sim.ch (P := fun r y => (.p (.bool r), H5) = y) ?_ (fun b150 y151 h152 h153 => ?_)
  · refine Sim.cd (fun hc => ?_) (fun hc => ?_)
    · have h144 : SlF (dI .u8) [128, 96] (.fz [(.p (.int .u8 128)), (.p (.int .u8 96))] 2 1 true) := SlF.lit (cs := [(.p (.int .u8 128)), (.p (.int .u8 96))]) (RL.cons (show (dI .u8).R 128 [(.p (.int .u8 128))] from rfl) (RL.cons (show (dI .u8).R 96 [(.p (.int .u8 96))] from rfl) RL.nil)) rfl rfl true
      refine Sim.op (bldS (pt_cons rfl (pt_cons rfl pt_nil)) (by kernel_rfl : _ = some (.fz [(.p (.int .u8 128)), (.p (.int .u8 96))] 2 1 true))) ?_
      refine Sim.call (rtcp_Is_ok ([128, 96]) (h144.h H5)) fun r145 cs146 H147 h148 q149 => ?_
      cases q149
      refine Sim.op (asB_p _) ?_
      exact Sim.ret rfl rfl
    · exact Sim.ret rfl rfl
  subst h153
  refine Sim.op (asB_p _) ?_
  refine Sim.ch (P := fun r y => (.p (.bool r), H5) = y) ?_ (fun b159 y160 h161 h162 => ?_)
  · refine Sim.cd (fun hc => ?_) (fun hc => ?_)
    · refine Sim.op (bldV pt_nil (by kernel_rfl : _ = some (.agg [.p (.int .i64 0), .p (.int .u32 0), .p (.int .u32 0), .p (.slice none 0 0), .p (.slice none 0 0), .p (.slice none 0 0), .p (.int .u64 0), .p (.int .i64 0), .p (.int .i64 0), .p (.slice none 0 0)]))) ?_
      refine Sim.call (rtcp_Right_ok k ((⟨0, 0, 0, (([] : List T_api_Tuple)), (([] : List Int)), (([] : List Int)), 0, 0, 0, (([] : List Int))⟩ : T_api_Report)) (show dT_api_Report.R ((⟨0, 0, 0, (([] : List T_api_Tuple)), (([] : List Int)), (([] : List Int)), 0, 0, 0, (([] : List Int))⟩ : T_api_Report)) [.p (.int .i64 0), .p (.int .u32 0), .p (.int .u32 0), .p (.slice none 0 0), .p (.slice none 0 0), .p (.slice none 0 0), .p (.int .u64 0), .p (.int .i64 0), .p (.int .i64 0), .p (.slice none 0 0)] from (dT_api_Report.mk (SlF.nil dT_api_Tuple) (SlF.nil (dI .u32)) (SlF.nil (dI .i64)) (SlF.nil (dI .u8))))) fun r154 cs155 H156 h157 q158 => ?_
      cases q158
      refine Sim.op (castI_p _ _) ?_
      exact Sim.ret rfl rfl
    · exact Sim.ret rfl rfl
  subst h162
  refine Sim.op (asB_p _) ?_
  exact Sim.fin (S7.finN (lv_cons (still_bool _).lv lv_nil)) rfl
end Go.Ev
/- Lifted by lift.py: limelightlaw6_RtcpRates as a plain function. -/
namespace Go.Ev
open Go.Proofs
set_option linter.unusedVariables false
set_option linter.unusedSimpArgs false
set_option maxRecDepth 100000
def p_limelightlaw6_RtcpRates (k : Nat) (x0 : Int) (x1 : Int) (x2 : Int) : Option (Bool) :=
(p_limelightref1_Open (intBits .and .i64 x1 31) (intBits .and .u32 x0 1023) 18).bind fun r1 =>
(zB 8).bind fun a9 =>
(ap 1 ([143, 206, 0, 4]) a9).bind fun a11 =>
bif decide ((IntKind.wrap .u64 (intBits .and .u8 x2 7)) ≤ (IntKind.wrap .u64 (intBits .and .i64 x1 31))) then (
(shP .shl .u32 (intBits .and .u32 x0 1023) (IntKind.wrap .u64 (intBits .and .u8 x2 7))).bind fun n17 =>
(ap 1 a11 (bytesS ((⟨#[82, 69, 77, 66]⟩ : ByteArray)))).bind fun a19 =>
(ap 1 a19 ([(IntKind.wrap .u8 (Int.fdiv (intBits .or .u32 (IntKind.wrap .u32 ((IntKind.wrap .u32 (IntKind.wrap .i64 ((intBits .and .i64 x1 31) - (IntKind.wrap .i64 (IntKind.wrap .u64 (intBits .and .u8 x2 7)))))) * 2 ^ 18)) n17) (2 ^ 24))), (IntKind.wrap .u8 (Int.fdiv (intBits .or .u32 (IntKind.wrap .u32 ((IntKind.wrap .u32 (IntKind.wrap .i64 ((intBits .and .i64 x1 31) - (IntKind.wrap .i64 (IntKind.wrap .u64 (intBits .and .u8 x2 7)))))) * 2 ^ 18)) n17) (2 ^ 16))), (IntKind.wrap .u8 (Int.fdiv (intBits .or .u32 (IntKind.wrap .u32 ((IntKind.wrap .u32 (IntKind.wrap .i64 ((intBits .and .i64 x1 31) - (IntKind.wrap .i64 (IntKind.wrap .u64 (intBits .and .u8 x2 7)))))) * 2 ^ 18)) n17) (2 ^ 8))), (IntKind.wrap .u8 (intBits .or .u32 (IntKind.wrap .u32 ((IntKind.wrap .u32 (IntKind.wrap .i64 ((intBits .and .i64 x1 31) - (IntKind.wrap .i64 (IntKind.wrap .u64 (intBits .and .u8 x2 7)))))) * 2 ^ 18)) n17))])).bind fun a26 =>
(p_rtcp_Read k a26).bind fun r37 =>
(bif r37.2 == 0 then (some (((r37.1.length : Int)) == 1)) else (some false)).bind fun b44 =>
(bif b44 then ((ix r37.1 0).bind fun a48 =>
some (a48.Kind == 5)) else (some false)).bind fun b72 =>
(bif b72 then ((ix r37.1 0).bind fun a76 =>
some (a76.Rate == r1)) else (some false)).bind fun b100 =>
(bif b100 then ((ix r37.1 0).bind fun a104 =>
some (((a104.Abouts.length : Int)) == 0)) else (some false)).bind fun b128 =>
(bif b128 then ((p_limelightlaw6_known k).bind fun r132 =>
some r132) else (some false)).bind fun b137 =>
some (b137))
else (
(ap 1 a11 (bytesS ((⟨#[82, 69, 77, 66]⟩ : ByteArray)))).bind fun a141 =>
(ap 1 a141 ([(IntKind.wrap .u8 (Int.fdiv (intBits .or .u32 (IntKind.wrap .u32 ((IntKind.wrap .u32 (intBits .and .i64 x1 31)) * 2 ^ 18)) (intBits .and .u32 x0 1023)) (2 ^ 24))), (IntKind.wrap .u8 (Int.fdiv (intBits .or .u32 (IntKind.wrap .u32 ((IntKind.wrap .u32 (intBits .and .i64 x1 31)) * 2 ^ 18)) (intBits .and .u32 x0 1023)) (2 ^ 16))), (IntKind.wrap .u8 (Int.fdiv (intBits .or .u32 (IntKind.wrap .u32 ((IntKind.wrap .u32 (intBits .and .i64 x1 31)) * 2 ^ 18)) (intBits .and .u32 x0 1023)) (2 ^ 8))), (IntKind.wrap .u8 (intBits .or .u32 (IntKind.wrap .u32 ((IntKind.wrap .u32 (intBits .and .i64 x1 31)) * 2 ^ 18)) (intBits .and .u32 x0 1023)))])).bind fun a148 =>
(p_rtcp_Read k a148).bind fun r159 =>
(bif r159.2 == 0 then (some (((r159.1.length : Int)) == 1)) else (some false)).bind fun b166 =>
(bif b166 then ((ix r159.1 0).bind fun a170 =>
some (a170.Kind == 5)) else (some false)).bind fun b194 =>
(bif b194 then ((ix r159.1 0).bind fun a198 =>
some (a198.Rate == r1)) else (some false)).bind fun b222 =>
(bif b222 then ((ix r159.1 0).bind fun a226 =>
some (((a226.Abouts.length : Int)) == 0)) else (some false)).bind fun b250 =>
(bif b250 then ((p_limelightlaw6_known k).bind fun r254 =>
some r254) else (some false)).bind fun b259 =>
some (b259))
theorem limelightlaw6_RtcpRates_ok (k : Nat) {h : H} {σ : Stamp} (x0 : Int) (x1 : Int) (x2 : Int) : Sim (p_limelightlaw6_RtcpRates k x0 x1 x2) (ev G X0 6 σ [(.p (.int .u32 x0)), (.p (.int .i64 x1)), (.p (.int .u8 x2))] h) (fun r s => s = ([.v (.p (.bool r))], h)) := by
  refine Sim.ev rfl (Sim.ext (limelightlaw6_RtcpRates_entry _ _ _ _ _ _ _) ?_)
  rw [p_limelightlaw6_RtcpRates]
  have S0 : Fm 99 h [] [] [] (List.replicate 99 [] :: h) := Fm.start0
  refine Sim.call (limelightref1_Open_ok (intBits .and .i64 x1 31) (intBits .and .u32 x0 1023) 18) fun r1 cs2 H3 h4 q5 => ?_
  cases q5
  refine Sim.op (castI_p _ _) ?_
  have h6 : SlF (dI .u8) [143, 206, 0, 4] (.fz [(.p (.int .u8 143)), (.p (.int .u8 206)), (.p (.int .u8 0)), (.p (.int .u8 4))] 4 1 true) := SlF.lit (cs := [(.p (.int .u8 143)), (.p (.int .u8 206)), (.p (.int .u8 0)), (.p (.int .u8 4))]) (RL.cons (show (dI .u8).R 143 [(.p (.int .u8 143))] from rfl) (RL.cons (show (dI .u8).R 206 [(.p (.int .u8 206))] from rfl) (RL.cons (show (dI .u8).R 0 [(.p (.int .u8 0))] from rfl) (RL.cons (show (dI .u8).R 4 [(.p (.int .u8 4))] from rfl) RL.nil)))) rfl rfl true
  refine Sim.op (bldS (pt_cons rfl (pt_cons rfl (pt_cons rfl (pt_cons rfl pt_nil)))) (by kernel_rfl : _ = some (.fz [(.p (.int .u8 143)), (.p (.int .u8 206)), (.p (.int .u8 0)), (.p (.int .u8 4))] 4 1 true))) ?_
  have S8 := S0.lit (d := (dI .u8)) (xs := [143, 206, 0, 4]) (cs := [(.p (.int .u8 143)), (.p (.int .u8 206)), (.p (.int .u8 0)), (.p (.int .u8 4))]) (n := 4) (e := 1) (m := 1000001) (RL.cons (show (dI .u8).R 143 [(.p (.int .u8 143))] from rfl) (RL.cons (show (dI .u8).R 206 [(.p (.int .u8 206))] from rfl) (RL.cons (show (dI .u8).R 0 [(.p (.int .u8 0))] from rfl) (RL.cons (show (dI .u8).R 4 [(.p (.int .u8 4))] from rfl) RL.nil)))) rfl rfl (by decide)
  refine Sim.bd fun a9 h10 => ?_
  refine Sim.bd fun a11 h12 => ?_
  obtain ⟨v13, H14, e15, S16⟩ := S8.appZ (i := 0) (d := 26) (own := true) (σ := (1 :: 0 :: 1 :: 1 :: 1 :: 1 :: 0 :: σ)) rfl h10 h12 (by decide) rfl
  refine Sim.op (e15) ?_
  refine Sim.cd (fun hc => ?_) (fun hc => ?_)
  · refine Sim.bd fun n17 h18 => ?_
    refine Sim.op (shP_ok h18) ?_
    refine Sim.op (castI_p _ _) ?_
    refine Sim.bd fun a19 h20 => ?_
    obtain ⟨v21, H22, e23, S24⟩ := S16.app (i := 0) (d := 47) (e := 1) (own := true) (σ := (1 :: 0 :: 1 :: 1 :: 1 :: 1 :: 1 :: 1 :: 1 :: 0 :: σ)) rfl (ysS H14 ((⟨#[82, 69, 77, 66]⟩ : ByteArray))) h20 rfl (by decide) (by decide) rfl
    refine Sim.op (e23) ?_
    have h25 : SlF (dI .u8) [(IntKind.wrap .u8 (Int.fdiv (intBits .or .u32 (IntKind.wrap .u32 ((IntKind.wrap .u32 (IntKind.wrap .i64 ((intBits .and .i64 x1 31) - (IntKind.wrap .i64 (IntKind.wrap .u64 (intBits .and .u8 x2 7)))))) * 2 ^ 18)) n17) (2 ^ 24))), (IntKind.wrap .u8 (Int.fdiv (intBits .or .u32 (IntKind.wrap .u32 ((IntKind.wrap .u32 (IntKind.wrap .i64 ((intBits .and .i64 x1 31) - (IntKind.wrap .i64 (IntKind.wrap .u64 (intBits .and .u8 x2 7)))))) * 2 ^ 18)) n17) (2 ^ 16))), (IntKind.wrap .u8 (Int.fdiv (intBits .or .u32 (IntKind.wrap .u32 ((IntKind.wrap .u32 (IntKind.wrap .i64 ((intBits .and .i64 x1 31) - (IntKind.wrap .i64 (IntKind.wrap .u64 (intBits .and .u8 x2 7)))))) * 2 ^ 18)) n17) (2 ^ 8))), (IntKind.wrap .u8 (intBits .or .u32 (IntKind.wrap .u32 ((IntKind.wrap .u32 (IntKind.wrap .i64 ((intBits .and .i64 x1 31) - (IntKind.wrap .i64 (IntKind.wrap .u64 (intBits .and .u8 x2 7)))))) * 2 ^ 18)) n17))] (.fz [(.p (.int .u8 (IntKind.wrap .u8 (Int.fdiv (intBits .or .u32 (IntKind.wrap .u32 ((IntKind.wrap .u32 (IntKind.wrap .i64 ((intBits .and .i64 x1 31) - (IntKind.wrap .i64 (IntKind.wrap .u64 (intBits .and .u8 x2 7)))))) * 2 ^ 18)) n17) (2 ^ 24))))), (.p (.int .u8 (IntKind.wrap .u8 (Int.fdiv (intBits .or .u32 (IntKind.wrap .u32 ((IntKind.wrap .u32 (IntKind.wrap .i64 ((intBits .and .i64 x1 31) - (IntKind.wrap .i64 (IntKind.wrap .u64 (intBits .and .u8 x2 7)))))) * 2 ^ 18)) n17) (2 ^ 16))))), (.p (.int .u8 (IntKind.wrap .u8 (Int.fdiv (intBits .or .u32 (IntKind.wrap .u32 ((IntKind.wrap .u32 (IntKind.wrap .i64 ((intBits .and .i64 x1 31) - (IntKind.wrap .i64 (IntKind.wrap .u64 (intBits .and .u8 x2 7)))))) * 2 ^ 18)) n17) (2 ^ 8))))), (.p (.int .u8 (IntKind.wrap .u8 (intBits .or .u32 (IntKind.wrap .u32 ((IntKind.wrap .u32 (IntKind.wrap .i64 ((intBits .and .i64 x1 31) - (IntKind.wrap .i64 (IntKind.wrap .u64 (intBits .and .u8 x2 7)))))) * 2 ^ 18)) n17))))] 4 1 true) := SlF.lit (cs := [(.p (.int .u8 (IntKind.wrap .u8 (Int.fdiv (intBits .or .u32 (IntKind.wrap .u32 ((IntKind.wrap .u32 (IntKind.wrap .i64 ((intBits .and .i64 x1 31) - (IntKind.wrap .i64 (IntKind.wrap .u64 (intBits .and .u8 x2 7)))))) * 2 ^ 18)) n17) (2 ^ 24))))), (.p (.int .u8 (IntKind.wrap .u8 (Int.fdiv (intBits .or .u32 (IntKind.wrap .u32 ((IntKind.wrap .u32 (IntKind.wrap .i64 ((intBits .and .i64 x1 31) - (IntKind.wrap .i64 (IntKind.wrap .u64 (intBits .and .u8 x2 7)))))) * 2 ^ 18)) n17) (2 ^ 16))))), (.p (.int .u8 (IntKind.wrap .u8 (Int.fdiv (intBits .or .u32 (IntKind.wrap .u32 ((IntKind.wrap .u32 (IntKind.wrap .i64 ((intBits .and .i64 x1 31) - (IntKind.wrap .i64 (IntKind.wrap .u64 (intBits .and .u8 x2 7)))))) * 2 ^ 18)) n17) (2 ^ 8))))), (.p (.int .u8 (IntKind.wrap .u8 (intBits .or .u32 (IntKind.wrap .u32 ((IntKind.wrap .u32 (IntKind.wrap .i64 ((intBits .and .i64 x1 31) - (IntKind.wrap .i64 (IntKind.wrap .u64 (intBits .and .u8 x2 7)))))) * 2 ^ 18)) n17))))]) (RL.cons (show (dI .u8).R (IntKind.wrap .u8 (Int.fdiv (intBits .or .u32 (IntKind.wrap .u32 ((IntKind.wrap .u32 (IntKind.wrap .i64 ((intBits .and .i64 x1 31) - (IntKind.wrap .i64 (IntKind.wrap .u64 (intBits .and .u8 x2 7)))))) * 2 ^ 18)) n17) (2 ^ 24))) [(.p (.int .u8 (IntKind.wrap .u8 (Int.fdiv (intBits .or .u32 (IntKind.wrap .u32 ((IntKind.wrap .u32 (IntKind.wrap .i64 ((intBits .and .i64 x1 31) - (IntKind.wrap .i64 (IntKind.wrap .u64 (intBits .and .u8 x2 7)))))) * 2 ^ 18)) n17) (2 ^ 24)))))] from rfl) (RL.cons (show (dI .u8).R (IntKind.wrap .u8 (Int.fdiv (intBits .or .u32 (IntKind.wrap .u32 ((IntKind.wrap .u32 (IntKind.wrap .i64 ((intBits .and .i64 x1 31) - (IntKind.wrap .i64 (IntKind.wrap .u64 (intBits .and .u8 x2 7)))))) * 2 ^ 18)) n17) (2 ^ 16))) [(.p (.int .u8 (IntKind.wrap .u8 (Int.fdiv (intBits .or .u32 (IntKind.wrap .u32 ((IntKind.wrap .u32 (IntKind.wrap .i64 ((intBits .and .i64 x1 31) - (IntKind.wrap .i64 (IntKind.wrap .u64 (intBits .and .u8 x2 7)))))) * 2 ^ 18)) n17) (2 ^ 16)))))] from rfl) (RL.cons (show (dI .u8).R (IntKind.wrap .u8 (Int.fdiv (intBits .or .u32 (IntKind.wrap .u32 ((IntKind.wrap .u32 (IntKind.wrap .i64 ((intBits .and .i64 x1 31) - (IntKind.wrap .i64 (IntKind.wrap .u64 (intBits .and .u8 x2 7)))))) * 2 ^ 18)) n17) (2 ^ 8))) [(.p (.int .u8 (IntKind.wrap .u8 (Int.fdiv (intBits .or .u32 (IntKind.wrap .u32 ((IntKind.wrap .u32 (IntKind.wrap .i64 ((intBits .and .i64 x1 31) - (IntKind.wrap .i64 (IntKind.wrap .u64 (intBits .and .u8 x2 7)))))) * 2 ^ 18)) n17) (2 ^ 8)))))] from rfl) (RL.cons (show (dI .u8).R (IntKind.wrap .u8 (intBits .or .u32 (IntKind.wrap .u32 ((IntKind.wrap .u32 (IntKind.wrap .i64 ((intBits .and .i64 x1 31) - (IntKind.wrap .i64 (IntKind.wrap .u64 (intBits .and .u8 x2 7)))))) * 2 ^ 18)) n17)) [(.p (.int .u8 (IntKind.wrap .u8 (intBits .or .u32 (IntKind.wrap .u32 ((IntKind.wrap .u32 (IntKind.wrap .i64 ((intBits .and .i64 x1 31) - (IntKind.wrap .i64 (IntKind.wrap .u64 (intBits .and .u8 x2 7)))))) * 2 ^ 18)) n17))))] from rfl) RL.nil)))) rfl rfl true
    refine Sim.op (bldS (pt_cons rfl (pt_cons rfl (pt_cons rfl (pt_cons rfl pt_nil)))) (by kernel_rfl : _ = some (.fz [(.p (.int .u8 (IntKind.wrap .u8 (Int.fdiv (intBits .or .u32 (IntKind.wrap .u32 ((IntKind.wrap .u32 (IntKind.wrap .i64 ((intBits .and .i64 x1 31) - (IntKind.wrap .i64 (IntKind.wrap .u64 (intBits .and .u8 x2 7)))))) * 2 ^ 18)) n17) (2 ^ 24))))), (.p (.int .u8 (IntKind.wrap .u8 (Int.fdiv (intBits .or .u32 (IntKind.wrap .u32 ((IntKind.wrap .u32 (IntKind.wrap .i64 ((intBits .and .i64 x1 31) - (IntKind.wrap .i64 (IntKind.wrap .u64 (intBits .and .u8 x2 7)))))) * 2 ^ 18)) n17) (2 ^ 16))))), (.p (.int .u8 (IntKind.wrap .u8 (Int.fdiv (intBits .or .u32 (IntKind.wrap .u32 ((IntKind.wrap .u32 (IntKind.wrap .i64 ((intBits .and .i64 x1 31) - (IntKind.wrap .i64 (IntKind.wrap .u64 (intBits .and .u8 x2 7)))))) * 2 ^ 18)) n17) (2 ^ 8))))), (.p (.int .u8 (IntKind.wrap .u8 (intBits .or .u32 (IntKind.wrap .u32 ((IntKind.wrap .u32 (IntKind.wrap .i64 ((intBits .and .i64 x1 31) - (IntKind.wrap .i64 (IntKind.wrap .u64 (intBits .and .u8 x2 7)))))) * 2 ^ 18)) n17))))] 4 1 true))) ?_
    refine Sim.bd fun a26 h27 => ?_
    obtain ⟨v28, H29, e30, S31⟩ := S24.app (i := 0) (d := 60) (e := 1) (own := true) (σ := (14 :: 0 :: 1 :: 1 :: 1 :: 1 :: 1 :: 1 :: 1 :: 0 :: σ)) rfl (h25.h H22).y h27 rfl (by decide) (by decide) rfl
    refine Sim.op (e30) ?_
    obtain ⟨v32, H33, e34, h35, S36⟩ := S31.layF (i := 0) rfl rfl
    erw [callFO_eq (frzAs_cons e34 frzAs_nil)]
    refine Sim.call (rtcp_Read_ok k a26 h35) fun r37 cs38 H39 h40 q41 => ?_
    obtain ⟨v42, h43, q41⟩ := q41
    cases q41
    refine Sim.op (rfl) ?_
    refine Sim.op (rfl) ?_
    refine Sim.op (castI_p _ _) ?_
    refine Sim.ch (P := fun r y => r = y) ?_ (fun b44 y45 h46 h47 => ?_)
    · refine Sim.cd (fun hc => ?_) (fun hc => ?_)
      · refine Sim.op ((h43.h H33).len) ?_
        refine Sim.op (castI_p _ _) ?_
        exact Sim.ret rfl rfl
      · exact Sim.ret rfl rfl
    subst h47
    refine Sim.ch (P := fun r y => r = y) ?_ (fun b72 y73 h74 h75 => ?_)
    · refine Sim.cd (fun hc => ?_) (fun hc => ?_)
      · refine Sim.bd fun a48 h49 => ?_
        refine Sim.op ((h43.h H33).iS h49 rfl) ?_
        obtain ⟨w51, h52, hE50⟩ := (h43.h H33).el h49 rfl
        obtain ⟨v53, v55, v57, v59, rfl, h54, h56, h58, h60⟩ := dT_api_Report.inv h52
        refine Sim.op (hE50.fa (j := 0) (by simp)) ?_
        obtain ⟨w62, h63, hE61⟩ := (h43.h H33).el h49 rfl
        obtain ⟨v64, v66, v68, v70, rfl, h65, h67, h69, h71⟩ := dT_api_Report.inv h63
        refine Sim.op (hE61.ld (j := 0) rfl) ?_
        refine Sim.op (castI_p _ _) ?_
        exact Sim.ret rfl rfl
      · exact Sim.ret rfl rfl
    subst h75
    refine Sim.ch (P := fun r y => r = y) ?_ (fun b100 y101 h102 h103 => ?_)
    · refine Sim.cd (fun hc => ?_) (fun hc => ?_)
      · refine Sim.bd fun a76 h77 => ?_
        refine Sim.op ((h43.h H33).iS h77 rfl) ?_
        obtain ⟨w79, h80, hE78⟩ := (h43.h H33).el h77 rfl
        obtain ⟨v81, v83, v85, v87, rfl, h82, h84, h86, h88⟩ := dT_api_Report.inv h80
        refine Sim.op (hE78.fa (j := 6) (by simp)) ?_
        obtain ⟨w90, h91, hE89⟩ := (h43.h H33).el h77 rfl
        obtain ⟨v92, v94, v96, v98, rfl, h93, h95, h97, h99⟩ := dT_api_Report.inv h91
        refine Sim.op (hE89.ld (j := 6) rfl) ?_
        refine Sim.op (castI_p _ _) ?_
        exact Sim.ret rfl rfl
      · exact Sim.ret rfl rfl
    subst h103
    refine Sim.ch (P := fun r y => r = y) ?_ (fun b128 y129 h130 h131 => ?_)
    · refine Sim.cd (fun hc => ?_) (fun hc => ?_)
      · refine Sim.bd fun a104 h105 => ?_
        refine Sim.op ((h43.h H33).iS h105 rfl) ?_
        obtain ⟨w107, h108, hE106⟩ := (h43.h H33).el h105 rfl
        obtain ⟨v109, v111, v113, v115, rfl, h110, h112, h114, h116⟩ := dT_api_Report.inv h108
        refine Sim.op (hE106.fa (j := 4) (by simp)) ?_
        obtain ⟨w118, h119, hE117⟩ := (h43.h H33).el h105 rfl
        obtain ⟨v120, v122, v124, v126, rfl, h121, h123, h125, h127⟩ := dT_api_Report.inv h119
        refine Sim.op (hE117.ld (j := 4) rfl) ?_
        refine Sim.op ((h123.h H33).len) ?_
        refine Sim.op (castI_p _ _) ?_
        exact Sim.ret rfl rfl
      · exact Sim.ret rfl rfl
    subst h131
    refine Sim.ch (P := fun r y => (.p (.bool r), H33) = y) ?_ (fun b137 y138 h139 h140 => ?_)
    · refine Sim.cd (fun hc => ?_) (fun hc => ?_)
      · refine Sim.call (limelightlaw6_known_ok k ) fun r132 cs133 H134 h135 q136 => ?_
        cases q136
        refine Sim.op (asB_p _) ?_
        exact Sim.ret rfl rfl
      · exact Sim.ret rfl rfl
    subst h140
    refine Sim.op (asB_p _) ?_
    exact Sim.fin (S36.finN (lv_cons (still_bool _).lv lv_nil)) rfl
  · refine Sim.bd fun a141 h142 => ?_
    obtain ⟨v143, H144, e145, S146⟩ := S16.app (i := 0) (d := 47) (e := 1) (own := true) (σ := (1 :: 0 :: 1 :: 1 :: 1 :: 1 :: 1 :: 1 :: 1 :: 0 :: σ)) rfl (ysS H14 ((⟨#[82, 69, 77, 66]⟩ : ByteArray))) h142 rfl (by decide) (by decide) rfl
    refine Sim.op (e145) ?_
    have h147 : SlF (dI .u8) [(IntKind.wrap .u8 (Int.fdiv (intBits .or .u32 (IntKind.wrap .u32 ((IntKind.wrap .u32 (intBits .and .i64 x1 31)) * 2 ^ 18)) (intBits .and .u32 x0 1023)) (2 ^ 24))), (IntKind.wrap .u8 (Int.fdiv (intBits .or .u32 (IntKind.wrap .u32 ((IntKind.wrap .u32 (intBits .and .i64 x1 31)) * 2 ^ 18)) (intBits .and .u32 x0 1023)) (2 ^ 16))), (IntKind.wrap .u8 (Int.fdiv (intBits .or .u32 (IntKind.wrap .u32 ((IntKind.wrap .u32 (intBits .and .i64 x1 31)) * 2 ^ 18)) (intBits .and .u32 x0 1023)) (2 ^ 8))), (IntKind.wrap .u8 (intBits .or .u32 (IntKind.wrap .u32 ((IntKind.wrap .u32 (intBits .and .i64 x1 31)) * 2 ^ 18)) (intBits .and .u32 x0 1023)))] (.fz [(.p (.int .u8 (IntKind.wrap .u8 (Int.fdiv (intBits .or .u32 (IntKind.wrap .u32 ((IntKind.wrap .u32 (intBits .and .i64 x1 31)) * 2 ^ 18)) (intBits .and .u32 x0 1023)) (2 ^ 24))))), (.p (.int .u8 (IntKind.wrap .u8 (Int.fdiv (intBits .or .u32 (IntKind.wrap .u32 ((IntKind.wrap .u32 (intBits .and .i64 x1 31)) * 2 ^ 18)) (intBits .and .u32 x0 1023)) (2 ^ 16))))), (.p (.int .u8 (IntKind.wrap .u8 (Int.fdiv (intBits .or .u32 (IntKind.wrap .u32 ((IntKind.wrap .u32 (intBits .and .i64 x1 31)) * 2 ^ 18)) (intBits .and .u32 x0 1023)) (2 ^ 8))))), (.p (.int .u8 (IntKind.wrap .u8 (intBits .or .u32 (IntKind.wrap .u32 ((IntKind.wrap .u32 (intBits .and .i64 x1 31)) * 2 ^ 18)) (intBits .and .u32 x0 1023)))))] 4 1 true) := SlF.lit (cs := [(.p (.int .u8 (IntKind.wrap .u8 (Int.fdiv (intBits .or .u32 (IntKind.wrap .u32 ((IntKind.wrap .u32 (intBits .and .i64 x1 31)) * 2 ^ 18)) (intBits .and .u32 x0 1023)) (2 ^ 24))))), (.p (.int .u8 (IntKind.wrap .u8 (Int.fdiv (intBits .or .u32 (IntKind.wrap .u32 ((IntKind.wrap .u32 (intBits .and .i64 x1 31)) * 2 ^ 18)) (intBits .and .u32 x0 1023)) (2 ^ 16))))), (.p (.int .u8 (IntKind.wrap .u8 (Int.fdiv (intBits .or .u32 (IntKind.wrap .u32 ((IntKind.wrap .u32 (intBits .and .i64 x1 31)) * 2 ^ 18)) (intBits .and .u32 x0 1023)) (2 ^ 8))))), (.p (.int .u8 (IntKind.wrap .u8 (intBits .or .u32 (IntKind.wrap .u32 ((IntKind.wrap .u32 (intBits .and .i64 x1 31)) * 2 ^ 18)) (intBits .and .u32 x0 1023)))))]) (RL.cons (show (dI .u8).R (IntKind.wrap .u8 (Int.fdiv (intBits .or .u32 (IntKind.wrap .u32 ((IntKind.wrap .u32 (intBits .and .i64 x1 31)) * 2 ^ 18)) (intBits .and .u32 x0 1023)) (2 ^ 24))) [(.p (.int .u8 (IntKind.wrap .u8 (Int.fdiv (intBits .or .u32 (IntKind.wrap .u32 ((IntKind.wrap .u32 (intBits .and .i64 x1 31)) * 2 ^ 18)) (intBits .and .u32 x0 1023)) (2 ^ 24)))))] from rfl) (RL.cons (show (dI .u8).R (IntKind.wrap .u8 (Int.fdiv (intBits .or .u32 (IntKind.wrap .u32 ((IntKind.wrap .u32 (intBits .and .i64 x1 31)) * 2 ^ 18)) (intBits .and .u32 x0 1023)) (2 ^ 16))) [(.p (.int .u8 (IntKind.wrap .u8 (Int.fdiv (intBits .or .u32 (IntKind.wrap .u32 ((IntKind.wrap .u32 (intBits .and .i64 x1 31)) * 2 ^ 18)) (intBits .and .u32 x0 1023)) (2 ^ 16)))))] from rfl) (RL.cons (show (dI .u8).R (IntKind.wrap .u8 (Int.fdiv (intBits .or .u32 (IntKind.wrap .u32 ((IntKind.wrap .u32 (intBits .and .i64 x1 31)) * 2 ^ 18)) (intBits .and .u32 x0 1023)) (2 ^ 8))) [(.p (.int .u8 (IntKind.wrap .u8 (Int.fdiv (intBits .or .u32 (IntKind.wrap .u32 ((IntKind.wrap .u32 (intBits .and .i64 x1 31)) * 2 ^ 18)) (intBits .and .u32 x0 1023)) (2 ^ 8)))))] from rfl) (RL.cons (show (dI .u8).R (IntKind.wrap .u8 (intBits .or .u32 (IntKind.wrap .u32 ((IntKind.wrap .u32 (intBits .and .i64 x1 31)) * 2 ^ 18)) (intBits .and .u32 x0 1023))) [(.p (.int .u8 (IntKind.wrap .u8 (intBits .or .u32 (IntKind.wrap .u32 ((IntKind.wrap .u32 (intBits .and .i64 x1 31)) * 2 ^ 18)) (intBits .and .u32 x0 1023)))))] from rfl) RL.nil)))) rfl rfl true
    refine Sim.op (bldS (pt_cons rfl (pt_cons rfl (pt_cons rfl (pt_cons rfl pt_nil)))) (by kernel_rfl : _ = some (.fz [(.p (.int .u8 (IntKind.wrap .u8 (Int.fdiv (intBits .or .u32 (IntKind.wrap .u32 ((IntKind.wrap .u32 (intBits .and .i64 x1 31)) * 2 ^ 18)) (intBits .and .u32 x0 1023)) (2 ^ 24))))), (.p (.int .u8 (IntKind.wrap .u8 (Int.fdiv (intBits .or .u32 (IntKind.wrap .u32 ((IntKind.wrap .u32 (intBits .and .i64 x1 31)) * 2 ^ 18)) (intBits .and .u32 x0 1023)) (2 ^ 16))))), (.p (.int .u8 (IntKind.wrap .u8 (Int.fdiv (intBits .or .u32 (IntKind.wrap .u32 ((IntKind.wrap .u32 (intBits .and .i64 x1 31)) * 2 ^ 18)) (intBits .and .u32 x0 1023)) (2 ^ 8))))), (.p (.int .u8 (IntKind.wrap .u8 (intBits .or .u32 (IntKind.wrap .u32 ((IntKind.wrap .u32 (intBits .and .i64 x1 31)) * 2 ^ 18)) (intBits .and .u32 x0 1023)))))] 4 1 true))) ?_
    refine Sim.bd fun a148 h149 => ?_
    obtain ⟨v150, H151, e152, S153⟩ := S146.app (i := 0) (d := 60) (e := 1) (own := true) (σ := (14 :: 0 :: 1 :: 1 :: 1 :: 1 :: 1 :: 1 :: 1 :: 0 :: σ)) rfl (h147.h H144).y h149 rfl (by decide) (by decide) rfl
    refine Sim.op (e152) ?_
    obtain ⟨v154, H155, e156, h157, S158⟩ := S153.layF (i := 0) rfl rfl
    erw [callFO_eq (frzAs_cons e156 frzAs_nil)]
    refine Sim.call (rtcp_Read_ok k a148 h157) fun r159 cs160 H161 h162 q163 => ?_
    obtain ⟨v164, h165, q163⟩ := q163
    cases q163
    refine Sim.op (rfl) ?_
    refine Sim.op (rfl) ?_
    refine Sim.op (castI_p _ _) ?_
    refine Sim.ch (P := fun r y => r = y) ?_ (fun b166 y167 h168 h169 => ?_)
    · refine Sim.cd (fun hc => ?_) (fun hc => ?_)
      · refine Sim.op ((h165.h H155).len) ?_
        refine Sim.op (castI_p _ _) ?_
        exact Sim.ret rfl rfl
      · exact Sim.ret rfl rfl
    subst h169
    refine Sim.ch (P := fun r y => r = y) ?_ (fun b194 y195 h196 h197 => ?_)
    · refine Sim.cd (fun hc => ?_) (fun hc => ?_)
      · refine Sim.bd fun a170 h171 => ?_
        refine Sim.op ((h165.h H155).iS h171 rfl) ?_
        obtain ⟨w173, h174, hE172⟩ := (h165.h H155).el h171 rfl
        obtain ⟨v175, v177, v179, v181, rfl, h176, h178, h180, h182⟩ := dT_api_Report.inv h174
        refine Sim.op (hE172.fa (j := 0) (by simp)) ?_
        obtain ⟨w184, h185, hE183⟩ := (h165.h H155).el h171 rfl
        obtain ⟨v186, v188, v190, v192, rfl, h187, h189, h191, h193⟩ := dT_api_Report.inv h185
        refine Sim.op (hE183.ld (j := 0) rfl) ?_
        refine Sim.op (castI_p _ _) ?_
        exact Sim.ret rfl rfl
      · exact Sim.ret rfl rfl
    subst h197
    refine Sim.ch (P := fun r y => r = y) ?_ (fun b222 y223 h224 h225 => ?_)
    · refine Sim.cd (fun hc => ?_) (fun hc => ?_)
      · refine Sim.bd fun a198 h199 => ?_
        refine Sim.op ((h165.h H155).iS h199 rfl) ?_
        obtain ⟨w201, h202, hE200⟩ := (h165.h H155).el h199 rfl
        obtain ⟨v203, v205, v207, v209, rfl, h204, h206, h208, h210⟩ := dT_api_Report.inv h202
        refine Sim.op (hE200.fa (j := 6) (by simp)) ?_
        obtain ⟨w212, h213, hE211⟩ := (h165.h H155).el h199 rfl
        obtain ⟨v214, v216, v218, v220, rfl, h215, h217, h219, h221⟩ := dT_api_Report.inv h213
        refine Sim.op (hE211.ld (j := 6) rfl) ?_
        refine Sim.op (castI_p _ _) ?_
        exact Sim.ret rfl rfl
      · exact Sim.ret rfl rfl
    subst h225
    refine Sim.ch (P := fun r y => r = y) ?_ (fun b250 y251 h252 h253 => ?_)
    · refine Sim.cd (fun hc => ?_) (fun hc => ?_)
      · refine Sim.bd fun a226 h227 => ?_
        refine Sim.op ((h165.h H155).iS h227 rfl) ?_
        obtain ⟨w229, h230, hE228⟩ := (h165.h H155).el h227 rfl
        obtain ⟨v231, v233, v235, v237, rfl, h232, h234, h236, h238⟩ := dT_api_Report.inv h230
        refine Sim.op (hE228.fa (j := 4) (by simp)) ?_
        obtain ⟨w240, h241, hE239⟩ := (h165.h H155).el h227 rfl
        obtain ⟨v242, v244, v246, v248, rfl, h243, h245, h247, h249⟩ := dT_api_Report.inv h241
        refine Sim.op (hE239.ld (j := 4) rfl) ?_
        refine Sim.op ((h245.h H155).len) ?_
        refine Sim.op (castI_p _ _) ?_
        exact Sim.ret rfl rfl
      · exact Sim.ret rfl rfl
    subst h253
    refine Sim.ch (P := fun r y => (.p (.bool r), H155) = y) ?_ (fun b259 y260 h261 h262 => ?_)
    · refine Sim.cd (fun hc => ?_) (fun hc => ?_)
      · refine Sim.call (limelightlaw6_known_ok k ) fun r254 cs255 H256 h257 q258 => ?_
        cases q258
        refine Sim.op (asB_p _) ?_
        exact Sim.ret rfl rfl
      · exact Sim.ret rfl rfl
    subst h262
    refine Sim.op (asB_p _) ?_
    exact Sim.fin (S158.finN (lv_cons (still_bool _).lv lv_nil)) rfl
end Go.Ev
namespace Go.Ev
set_option maxRecDepth 100000
theorem known6 : p_limelightlaw6_known 120 = some true := by kernel_rfl
end Go.Ev
namespace Go.Ev
set_option maxRecDepth 100000
set_option linter.unusedSimpArgs false
theorem word_bytes {w : Nat} (h : w < 2 ^ 24) : [IntKind.wrap .u8 (Int.fdiv (w : Int) (2 ^ 24)), IntKind.wrap .u8 (Int.fdiv (w : Int) (2 ^ 16)), IntKind.wrap .u8 (Int.fdiv (w : Int) (2 ^ 8)), IntKind.wrap .u8 (w : Int)] = putB 0 1 ++ putB (w : Int) 3 := by
  have e1 : IntKind.wrap .u8 (Int.fdiv (w : Int) (2 ^ 24)) = 0 := by rw [fdiv_nat, wrapU8_eq]; omega
  have e2 : IntKind.wrap .u8 (Int.fdiv (w : Int) (2 ^ 16)) = (w : Int) / 256 ^ 2 % 256 := by rw [fdiv_nat, wrapU8_eq]; omega
  have e3 : IntKind.wrap .u8 (Int.fdiv (w : Int) (2 ^ 8)) = (w : Int) / 256 ^ 1 % 256 := by rw [fdiv_nat, wrapU8_eq]; omega
  have e4 : IntKind.wrap .u8 (w : Int) = (w : Int) / 256 ^ 0 % 256 := by rw [wrapU8_eq]; omega
  rw [e1, e2, e3, e4]
  rfl
theorem or18 {e m : Nat} (h : FR 18 e m) : intBits .or .u32 (IntKind.wrap .u32 ((IntKind.wrap .u32 (e : Int)) * 2 ^ 18)) (m : Int) = ((e * 2 ^ 18 + m : Nat) : Int) := by
  have h1 := h.he
  have h2 := h.hm
  have w1 : IntKind.wrap .u32 (e : Int) = (e : Int) := wrap_u32 (by omega) (by omega)
  have w2 : IntKind.wrap .u32 ((e : Int) * 2 ^ 18) = (e : Int) * 2 ^ 18 := wrap_u32 (by omega) (by omega)
  rw [w1, w2]
  have := or_add .u32 (j := 18) (a := (e : Int)) (b := (m : Int)) (by omega) (by omega) (by omega) (by show (e : Int) * 2 ^ 18 + m < 2 ^ 32; omega) (wrap_u32 (by omega) (by omega))
  rw [this]
  omega
theorem rates_bytes {e m : Nat} : bytS (.remb 0 e m []) = [143, 206, 0, 4] ++ List.replicate 8 0 ++ mark ++ (putB 0 1 ++ putB ((e * 2 ^ 18 + m : Nat) : Int) 3) := by
  have hl : (bodyS (.remb 0 e m [])).length / 4 = 4 := by
    rw [bodyS]
    simp only [List.length_append, putB_len, List.flatMap_nil, List.length_nil, mark, List.length_cons]
  rw [bytS, hl, bodyS, List.flatMap_nil, List.append_nil]
  generalize putB ((e * 2 ^ 18 + m : Nat) : Int) 3 = z
  have h0 : putB 0 4 = [0, 0, 0, 0] := by decide
  have h4 : putB ((4 : Nat) : Int) 2 = [0, 4] := by decide
  have hc : ((128 + cnt (.remb 0 e m []) : Nat) : Int) = 143 := rfl
  have ht : ((typ (.remb 0 e m []) : Nat) : Int) = 206 := rfl
  have hp : putB ((([] : List Nat).length : Nat) : Int) 1 = putB 0 1 := rfl
  have hr : List.replicate 8 (0 : Int) = [0, 0, 0, 0, 0, 0, 0, 0] := rfl
  have h00 : putB ((0 : Nat) : Int) 4 = [0, 0, 0, 0] := by decide
  rw [h0, h00, h4, hc, ht, hp, hr]
  simp only [List.append_assoc, List.cons_append, List.nil_append]
theorem rtcpRates_true (x0 x1 x2 : Int) : p_limelightlaw6_RtcpRates 120 x0 x1 x2 = some true := by
  unfold p_limelightlaw6_RtcpRates
  have a1 : intBits .and .i64 x1 31 = x1 % 2 ^ 5 := and_mask (n := 5) (m := 31) _ rfl (by decide)
  have a0 : intBits .and .u32 x0 1023 = x0 % 2 ^ 10 := and_mask (n := 10) (m := 1023) _ rfl (by decide)
  have a2 : intBits .and .u8 x2 7 = x2 % 2 ^ 3 := and_mask (n := 3) (m := 7) _ rfl (by decide)
  obtain ⟨e, he⟩ : ∃ e : Nat, x1 % 2 ^ 5 = e := ⟨(x1 % 2 ^ 5).toNat, by omega⟩
  obtain ⟨m, hm⟩ : ∃ m : Nat, x0 % 2 ^ 10 = m := ⟨(x0 % 2 ^ 10).toNat, by omega⟩
  obtain ⟨q, hq⟩ : ∃ q : Nat, x2 % 2 ^ 3 = q := ⟨(x2 % 2 ^ 3).toNat, by omega⟩
  rw [a1, a0, a2, he, hm, hq]
  have le : e < 32 := by omega
  have lm : m < 1024 := by omega
  have lq : q < 8 := by omega
  have pe : 2 ^ e ≤ 2 ^ 31 := Nat.pow_le_pow_right (by omega) (by omega)
  have hme : m * 2 ^ e ≤ 1023 * 2 ^ 31 := Nat.mul_le_mul (by omega) pe
  have F0 : FR 18 e m := ⟨by omega, by omega, by omega⟩
  have z8 : zB 8 = some (List.replicate 8 0) := rfl
  have p1 : ap 1 [143, 206, 0, 4] (List.replicate 8 (0 : Int)) = some ([143, 206, 0, 4] ++ List.replicate 8 0) := ap_eq2 (by decide) (by decide)
  have p2 : ap 1 ([143, 206, 0, 4] ++ List.replicate 8 (0 : Int)) (bytesS (⟨#[82, 69, 77, 66]⟩ : ByteArray)) = some ([143, 206, 0, 4] ++ List.replicate 8 0 ++ mark) := ap_eq2 (by decide) (by decide)
  have p3 : ∀ e' m' : Nat, FR 18 e' m' → ap 1 ([143, 206, 0, 4] ++ List.replicate 8 (0 : Int) ++ mark) [IntKind.wrap .u8 (Int.fdiv ((e' * 2 ^ 18 + m' : Nat) : Int) (2 ^ 24)), IntKind.wrap .u8 (Int.fdiv ((e' * 2 ^ 18 + m' : Nat) : Int) (2 ^ 16)), IntKind.wrap .u8 (Int.fdiv ((e' * 2 ^ 18 + m' : Nat) : Int) (2 ^ 8)), IntKind.wrap .u8 ((e' * 2 ^ 18 + m' : Nat) : Int)] = some (bytS (.remb 0 e' m' [])) := fun e' m' h' => by
    have h1 := h'.he
    have h2 := h'.hm
    rw [word_bytes (by omega), rates_bytes]
    exact ap_eq2 (by decide) (by simp only [List.length_append, putB_len]; decide)
  have rd : ∀ e' m' : Nat, FR 18 e' m' → p_rtcp_Read 120 (bytS (.remb 0 e' m' [])) = some ([rep (.remb 0 e' m' [])], 0) := fun e' m' h' => by
    have := read_all (k := 120) (by decide) (L := [.remb 0 e' m' []]) (fun s hs => by
      rw [List.mem_singleton] at hs
      subst hs
      exact ⟨by omega, h', by simp, by simp⟩) (by simp) (by simp)
    simpa using this
  have fin1 : ∀ e' m' : Nat, FR 18 e' m' → ∃ B r, ap 1 ([143, 206, 0, 4] ++ List.replicate 8 (0 : Int) ++ mark) [IntKind.wrap .u8 (Int.fdiv ((e' * 2 ^ 18 + m' : Nat) : Int) (2 ^ 24)), IntKind.wrap .u8 (Int.fdiv ((e' * 2 ^ 18 + m' : Nat) : Int) (2 ^ 16)), IntKind.wrap .u8 (Int.fdiv ((e' * 2 ^ 18 + m' : Nat) : Int) (2 ^ 8)), IntKind.wrap .u8 ((e' * 2 ^ 18 + m' : Nat) : Int)] = some B ∧ p_rtcp_Read 120 B = some ([r], 0) ∧ r.Kind = 5 ∧ r.Rate = ((m' * 2 ^ e' : Nat) : Int) ∧ r.Abouts.length = 0 := fun e' m' h' => ⟨_, _, p3 e' m' h', rd e' m' h', rfl, rfl, rfl⟩
  have i0 : ∀ r : T_api_Report, ix [r] 0 = some r := fun r => rfl
  have op : p_limelightref1_Open (e : Int) (m : Int) 18 = some ((m * 2 ^ e : Nat) : Int) := refOpenF (b := 18) (by decide) (by decide) F0
  rw [op, Option.bind_some, z8, Option.bind_some, p1, Option.bind_some]
  have w1 : IntKind.wrap .u64 (q : Int) = (q : Int) := wrap_u64 (by omega) (by omega)
  have w2 : IntKind.wrap .u64 (e : Int) = (e : Int) := wrap_u64 (by omega) (by omega)
  have w3 : IntKind.wrap .i64 (q : Int) = (q : Int) := wrap_i64 (by omega) (by omega)
  rw [w1, w2, w3, p2]
  by_cases hc : q ≤ e
  · have d : decide ((q : Int) ≤ (e : Int)) = true := decide_eq_true (by omega)
    have hq2 : 2 ^ q ≤ 2 ^ 7 := Nat.pow_le_pow_right (by omega) (by omega)
    have hmq : m * 2 ^ q ≤ 1023 * 2 ^ 7 := Nat.mul_le_mul (by omega) hq2
    have hN : m * 2 ^ q * 2 ^ (e - q) = m * 2 ^ e := by rw [Nat.mul_assoc, ← Nat.pow_add]; congr 2; omega
    have F1 : FR 18 (e - q) (m * 2 ^ q) := ⟨by omega, by omega, by rw [hN]; omega⟩
    have w4 : IntKind.wrap .i64 ((e : Int) - (q : Int)) = ((e - q : Nat) : Int) := by rw [wrap_i64 (by omega) (by omega)]; omega
    have s1 := shl_p32 m q (by omega)
    rw [Nat.mod_eq_of_lt (by omega)] at s1
    obtain ⟨B, r, hB, hR, r1, r2, r3⟩ := fin1 _ _ F1
    rw [hN] at r2
    rw [d, cond_true, s1, Option.bind_some, Option.bind_some, w4, or18 F1, hB, Option.bind_some, hR, Option.bind_some]
    simp only [cond_true, Option.bind_some, i0, r1, r2, r3, List.length_singleton, known6, beq_self_eq_true, Int.natCast_one, Int.natCast_zero]
  · have d : decide ((q : Int) ≤ (e : Int)) = false := decide_eq_false (by omega)
    obtain ⟨B, r, hB, hR, r1, r2, r3⟩ := fin1 _ _ F0
    rw [d, cond_false, Option.bind_some, or18 F0, hB, Option.bind_some, hR, Option.bind_some]
    simp only [cond_true, Option.bind_some, i0, r1, r2, r3, List.length_singleton, known6, beq_self_eq_true, Int.natCast_one, Int.natCast_zero]
theorem rtcpRates_ev (a0 a1 a2 : Int) : ev G X0 6 [] [.p (.int .u32 a0), .p (.int .i64 a1), .p (.int .u8 a2)] [] = some ([.v (bV true)], []) := by
  obtain ⟨_, h1, rfl⟩ := limelightlaw6_RtcpRates_ok 120 (h := []) (σ := []) a0 a1 a2 _ (rtcpRates_true a0 a1 a2)
  exact h1
end Go.Ev
