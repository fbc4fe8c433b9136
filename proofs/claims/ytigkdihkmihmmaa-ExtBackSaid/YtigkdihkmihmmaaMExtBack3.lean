/- A part of the proof that follows: Elements of extensions are read as they were written, the first of an ID is found, and a layer's name is told: for every tape, every name, and both forms. -/
import Derived.Test.YtigkdihkmihmmaaMExtBack2
import Derived.KernelRfl
/- Lifted by lift.py: ext_Rid as a plain function. -/
namespace Go.Ev
open Go.Proofs
set_option linter.unusedVariables false
set_option linter.unusedSimpArgs false
set_option maxRecDepth 100000
def p_ext_Rid (k : Nat) (x0 : T_api_Rtp) : Option (ByteArray × Bool) :=
(p_ext_Read k x0.Profile x0.Ext).bind fun r11 =>
bif r11.2 != 0 then (
some (((⟨#[]⟩ : ByteArray)), false))
else (
(p_ext_Find k r11.1 1).bind fun r18 =>
(bif !r18.2 then (some true) else ((p_rid_Right (strB r18.1)).bind fun r25 =>
some (!r25))).bind fun b30 =>
bif b30 then (
some (((⟨#[]⟩ : ByteArray)), false))
else (
some ((strB r18.1), true)))
theorem ext_Rid_ok (k : Nat) {h : H} {σ : Stamp} (x0 : T_api_Rtp) {u0 : List V} (hu0 : dT_api_Rtp.R x0 u0) : Sim (p_ext_Rid k x0) (ev G X0 26 σ [(.agg u0)] h) (fun r s => s = ([.v (.p (.string r.1)), .v (.p (.bool r.2))], h)) := by
  refine Sim.ev rfl (Sim.ext (ext_Rid_entry _ _ _ _ _) ?_)
  rw [p_ext_Rid]
  obtain ⟨v1, v3, v5, rfl, h2, h4, h6⟩ := dT_api_Rtp.inv hu0
  have S0 : Fm 33 h [] [] [] (List.replicate 33 [] :: h) := Fm.start0
  obtain ⟨H7, e8, S9⟩ := S0.box (own := false) (d := 1) (s := (0 :: 0 :: 0 :: σ)) (xs := [(.p (.bool x0.Marker)), (.p (.int .i64 x0.f_Type)), (.p (.int .u16 x0.Seq)), (.p (.int .u32 x0.Time)), (.p (.int .u32 x0.Ssrc)), v1, (.p (.int .u16 x0.Profile)), v3, v5]) (stills_cons (still_bool _) (stills_cons (still_int _ _) (stills_cons (still_int _ _) (stills_cons (still_int _ _) (stills_cons (still_int _ _) (stills_cons h2.still (stills_cons (still_int _ _) (stills_cons h4.still (stills_cons h6.still stills_nil))))))))) (by decide) rfl
  refine Sim.op (e8) ?_
  refine Sim.op (fA_ref _ _ _) ?_
  refine Sim.op ((S9.atG (i := 0) rfl).ld (j := 6) rfl) ?_
  refine Sim.op (castI_p _ _) ?_
  refine Sim.op (fA_ref _ _ _) ?_
  refine Sim.op ((S9.atG (i := 0) rfl).ld (j := 7) rfl) ?_
  refine Sim.call (ext_Read_ok k x0.Profile x0.Ext (h4.h H7)) fun r11 cs12 H13 h14 q15 => ?_
  obtain ⟨v16, h17, q15⟩ := q15
  cases q15
  refine Sim.op (rfl) ?_
  refine Sim.op (rfl) ?_
  refine Sim.op (castI_p _ _) ?_
  refine Sim.cd (fun hc => ?_) (fun hc => ?_)
  · exact Sim.fin (S9.finN (lv_cons (still_str _).lv (lv_cons (still_bool _).lv lv_nil))) rfl
  · refine Sim.call (ext_Find_ok k r11.1 (h17.h H7) 1) fun r18 cs19 H20 h21 q22 => ?_
    obtain ⟨v23, h24, q22⟩ := q22
    cases q22
    refine Sim.op (rfl) ?_
    refine Sim.op (rfl) ?_
    refine Sim.op (asB_p _) ?_
    refine Sim.ch (P := fun r y => (.p (.bool r), H7) = y) ?_ (fun b30 y31 h32 h33 => ?_)
    · refine Sim.cd (fun hc => ?_) (fun hc => ?_)
      · exact Sim.ret rfl rfl
      · refine Sim.op ((h24.h H7).str) ?_
        refine Sim.op (castS_p _) ?_
        refine Sim.call (rid_Right_ok (strB r18.1)) fun r25 cs26 H27 h28 q29 => ?_
        cases q29
        refine Sim.op (asB_p _) ?_
        exact Sim.ret rfl rfl
    subst h33
    refine Sim.op (asB_p _) ?_
    refine Sim.cd (fun hc => ?_) (fun hc => ?_)
    · exact Sim.fin (S9.finN (lv_cons (still_str _).lv (lv_cons (still_bool _).lv lv_nil))) rfl
    · refine Sim.op ((h24.h H7).str) ?_
      refine Sim.op (castS_p _) ?_
      exact Sim.fin (S9.finN (lv_cons (still_str _).lv (lv_cons (still_bool _).lv lv_nil))) rfl
end Go.Ev
namespace Go.Ev
def ok1 (e : T_api_Elem) : Prop := (1 ≤ e.ID ∧ e.ID ≤ 14) ∧ 1 ≤ e.Data.length ∧ e.Data.length ≤ 16
def ok2 (e : T_api_Elem) : Prop := (1 ≤ e.ID ∧ e.ID ≤ 255) ∧ e.Data.length ≤ 255
theorem ok1.ok2 {e : T_api_Elem} (h : ok1 e) : ok2 e := by unfold Go.Ev.ok2; unfold ok1 at h; omega
theorem right_one {e : T_api_Elem} (h : ok1 e) : goodE 48862 e := by
  obtain ⟨⟨h1, h2⟩, h3, h4⟩ := h
  unfold goodE p_ext_right
  have e1 : decide (e.ID ≥ 1) = true := by simp; omega
  have e2 : decide (e.ID ≤ 14) = true := by simp; omega
  have e3 : decide ((e.Data.length : Int) ≥ 1) = true := by simp; omega
  have e4 : decide ((e.Data.length : Int) ≤ 16) = true := by simp; omega
  simp only [e1, e2, e3, e4, show ((48862 : Int) == 48862) = true from rfl, cond_true, Option.bind_some]
theorem right_two {e : T_api_Elem} (h : ok2 e) : goodE 4096 e := by
  obtain ⟨⟨h1, h2⟩, h4⟩ := h
  unfold goodE p_ext_right
  have e1 : decide (e.ID ≥ 1) = true := by simp; omega
  have e2 : decide (e.ID ≤ 255) = true := by simp; omega
  have e4 : decide ((e.Data.length : Int) ≤ 255) = true := by simp; omega
  simp only [e1, e2, e4, show ((4096 : Int) == 48862) = false from rfl, cond_false, cond_true, Option.bind_some]
theorem encE_one {e : T_api_Elem} (h : ok1 e) : encE 48862 e = enc1 e := by
  obtain ⟨⟨h1, h2⟩, h3, h4⟩ := h
  obtain ⟨a, ha⟩ : ∃ a : Fin 15, (a.1 : Int) = e.ID := ⟨⟨e.ID.toNat, by omega⟩, by simp; omega⟩
  obtain ⟨b, hb⟩ : ∃ b : Fin 16, b.1 + 1 = e.Data.length := ⟨⟨e.Data.length - 1, by omega⟩, by simp; omega⟩
  have hb' : (e.Data.length : Int) - 1 = (b.1 : Int) := by omega
  unfold encE enc1
  rw [show ((48862 : Int) == 48862) = true from rfl, cond_true, ← ha, hb', wrap_i64 (n := (b.1 : Int)) (by omega) (by omega), nib_or]
  rfl
theorem encE_two {e : T_api_Elem} (h : ok2 e) : encE 4096 e = enc2 e := by
  obtain ⟨⟨h1, h2⟩, h4⟩ := h
  unfold encE enc2
  rw [show ((4096 : Int) == 48862) = false from rfl, cond_false, wrap_u8 (by omega) (by omega), wrap_u8 (by omega) (by omega)]
  rfl
theorem flat_eq {α β : Type} {f g : α → List β} : ∀ {l : List α}, (∀ e ∈ l, f e = g e) → l.flatMap f = l.flatMap g
  | [], _ => rfl
  | e :: l, h => by rw [List.flatMap_cons, List.flatMap_cons, h e (List.mem_cons_self ..), flat_eq fun x hx => h x (List.mem_cons_of_mem _ hx)]
theorem bytes1 {l : List T_api_Elem} {k : Nat} (hk : 9 ≤ k) (hl : l.length ≤ 8) (hg : ∀ e ∈ l, ok1 e) : p_ext_Bytes k 48862 l = some (padB (l.flatMap enc1), 0) := by
  obtain ⟨j, rfl⟩ : ∃ j, k = j + 9 := ⟨k - 9, by omega⟩
  rw [bytes_ok (.inl rfl) hl (fun e he => ⟨right_one (hg e he), (hg e he).ok2.2⟩), flat_eq fun e he => encE_one (hg e he)]
theorem bytes2 {l : List T_api_Elem} {k : Nat} (hk : 9 ≤ k) (hl : l.length ≤ 8) (hg : ∀ e ∈ l, ok2 e) : p_ext_Bytes k 4096 l = some (padB (l.flatMap enc2), 0) := by
  obtain ⟨j, rfl⟩ : ∃ j, k = j + 9 := ⟨k - 9, by omega⟩
  rw [bytes_ok (.inr rfl) hl (fun e he => ⟨right_two (hg e he), (hg e he).2⟩), flat_eq fun e he => encE_two (hg e he)]
theorem flat1_len : ∀ {l : List T_api_Elem}, (∀ e ∈ l, ok2 e) → (l.flatMap enc1).length ≤ 256 * l.length
  | [], _ => by simp
  | e :: l, h => by
    have := flat1_len (l := l) fun x hx => h x (List.mem_cons_of_mem _ hx)
    have := (h e (List.mem_cons_self ..)).2
    rw [List.flatMap_cons, List.length_append, enc1, List.length_cons, List.length_cons]
    omega
theorem flat2_len : ∀ {l : List T_api_Elem}, (∀ e ∈ l, ok2 e) → (l.flatMap enc2).length ≤ 257 * l.length
  | [], _ => by simp
  | e :: l, h => by
    have := flat2_len (l := l) fun x hx => h x (List.mem_cons_of_mem _ hx)
    have := (h e (List.mem_cons_self ..)).2
    rw [List.flatMap_cons, List.length_append, enc2, List.length_cons, List.length_cons, List.length_cons]
    omega
theorem padB_len (xs : List Int) : (padB xs).length = xs.length + (4 - xs.length % 4) % 4 := by simp [padB]
theorem padB_mod (xs : List Int) : (Int.tmod (((padB xs).length : Int)) 4 != 0) = false := by
  rw [padB_len, Int.tmod_eq_emod_of_nonneg (by omega)]
  have : (((xs.length + (4 - xs.length % 4) % 4 : Nat) : Int) % 4) = 0 := by omega
  rw [this]; rfl
theorem read1 {l : List T_api_Elem} {k : Nat} (hk : 20 ≤ k) (hl : l.length ≤ 8) (hg : ∀ e ∈ l, ok1 e) : p_ext_Read k 48862 (padB (l.flatMap enc1)) = some (l, 0) := by
  have hlen := flat1_len fun e he => (hg e he).ok2
  have h3 : decide ((l.length : Int) > 8) = false := by simp; omega
  have := padB_len (l.flatMap enc1)
  unfold p_ext_Read
  simp only [show ((48862 : Int) != 48862) = false from rfl, cond_false, Option.bind_some]
  generalize hz : (4 - (l.flatMap enc1).length % 4) % 4 = z
  have hz3 : z ≤ 3 := by omega
  have hr := fun (kE0 : List T_api_Elem → Option ((List T_api_Elem) × Int)) kE1 => read_all1 kE0 kE1 (k - z - l.length - 1) z (padB (l.flatMap enc1)) (by omega) l [] [] (by rw [padB, hz]; simp) hg (by simp; omega)
  simp only [show k - z - l.length - 1 + z + l.length + 1 = k by omega] at hr
  refine (hr _ _).trans ?_
  rw [List.nil_append, h3, cond_false]
theorem read2 {l : List T_api_Elem} {k : Nat} (hk : 20 ≤ k) (hl : l.length ≤ 8) (hg : ∀ e ∈ l, ok2 e) : p_ext_Read k 4096 (padB (l.flatMap enc2)) = some (l, 0) := by
  have hlen := flat2_len fun e he => hg e he
  have h3 : decide ((l.length : Int) > 8) = false := by simp; omega
  have := padB_len (l.flatMap enc2)
  unfold p_ext_Read
  simp only [show ((4096 : Int) != 48862) = true from rfl, show ((4096 : Int) != 4096) = false from rfl, cond_true, cond_false, Option.bind_some]
  generalize hz : (4 - (l.flatMap enc2).length % 4) % 4 = z
  have hz3 : z ≤ 3 := by omega
  have hr := fun (kE0 : List T_api_Elem → Option ((List T_api_Elem) × Int)) kE1 => read_all2 kE0 kE1 (k - z - l.length - 1) z (padB (l.flatMap enc2)) (by omega) l [] [] (by rw [padB, hz]; simp) hg (by simp; omega)
  simp only [show k - z - l.length - 1 + z + l.length + 1 = k by omega] at hr
  refine (hr _ _).trans ?_
  rw [List.nil_append, h3, cond_false]
/-- IndexFunc and Find. -/
theorem find_l0 {β : Type} (kE0 : Unit → Option β) (kE1 : Int → Option β) (l : List T_api_Elem) (hl : l.length < 2 ^ 30) (id : Int) (e : T_api_Elem) (suf : List T_api_Elem) (he : e.ID = id) : ∀ (mid pre : List T_api_Elem) (j : Nat), l = pre ++ mid ++ e :: suf → (∀ x ∈ mid, x.ID ≠ id) →
    p_slices_IndexFunc_Lapi_Elem_api_Elem_ext_Find_1_l0 (j + mid.length + 1) kE0 kE1 l id (l.length : Int) (pre.length : Int) = kE1 ((pre.length + mid.length : Nat) : Int)
  | [], pre, j, h, _ => by
    rw [p_slices_IndexFunc_Lapi_Elem_api_Elem_ext_Find_1_l0]
    have h1 : decide ((pre.length : Int) < (l.length : Int)) = true := by subst h; simp; omega
    have h2 : ix l (pre.length : Int) = some e := ix_mid' (by simpa using h) rfl
    have h3 : p_ext_Find_1 e id = some true := by simp [p_ext_Find_1, he]
    rw [h1, cond_true, h2, Option.bind_some, h3, Option.bind_some, cond_true]; rfl
  | x :: mid, pre, j, h, hn => by
    rw [List.length_cons, show j + (mid.length + 1) + 1 = (j + mid.length + 1) + 1 from rfl, p_slices_IndexFunc_Lapi_Elem_api_Elem_ext_Find_1_l0]
    have h1 : decide ((pre.length : Int) < (l.length : Int)) = true := by subst h; simp; omega
    have h2 : ix l (pre.length : Int) = some x := ix_mid' (by simpa using h) rfl
    have h3 : p_ext_Find_1 x id = some false := by simpa [p_ext_Find_1] using hn x (List.mem_cons_self ..)
    have h4 : IntKind.wrap .i64 ((pre.length : Int) + 1) = (((pre ++ [x]).length : Nat) : Int) := by
      rw [wrap_i64 (by omega) (by have : pre.length ≤ l.length := by subst h; simp
                                  omega)]
      simp
    rw [h1, cond_true, h2, Option.bind_some, h3, Option.bind_some, cond_false, h4, find_l0 kE0 kE1 l hl id e suf he mid (pre ++ [x]) j (by rw [h]; simp) fun y hy => hn y (List.mem_cons_of_mem _ hy)]
    congr 1
    simp
    omega
theorem find_mid {l pre suf : List T_api_Elem} {e : T_api_Elem} {id : Int} {k : Nat} (h : l = pre ++ e :: suf) (hn : ∀ x ∈ pre, x.ID ≠ id) (he : e.ID = id) (hl : l.length < k) (hk : l.length < 2 ^ 30) (hd : e.Data.length < 2 ^ 30) : p_ext_Find k l id = some (e.Data, true) := by
  unfold p_ext_Find p_slices_IndexFunc_Lapi_Elem_api_Elem_ext_Find_1
  have hlen : pre.length < l.length := by subst h; simp
  have := fun kE0 (kE1 : Int → Option Int) => find_l0 kE0 kE1 l hk id e suf he pre [] (k - pre.length - 1) (by simpa using h) hn
  simp only [show k - pre.length - 1 + pre.length + 1 = k by omega, List.length_nil] at this
  rw [show ((0 : Nat) : Int) = 0 from rfl] at this
  rw [this, Option.bind_some, Nat.zero_add]
  have h0 : decide (((pre.length : Nat) : Int) < 0) = false := by simp
  rw [h0, cond_false, ix_mid' h rfl, Option.bind_some, clone_eq (by decide) (by omega)]
  rfl
/-- The name of a packet. -/
theorem rid_ok {k : Nat} {p : T_api_Rtp} {l : List T_api_Elem} {d : List Int} (hr : p_ext_Read k p.Profile p.Ext = some (l, 0)) (hf : p_ext_Find k l 1 = some (d, true)) : p_ext_Rid k p = some (bif RidX.rightB (strB d) then (strB d, true) else (⟨#[]⟩, false)) := by
  unfold p_ext_Rid
  rw [hr, Option.bind_some]
  simp only [show ((0 : Int) != 0) = false from rfl, cond_false]
  rw [hf, Option.bind_some]
  simp only [Bool.not_true, cond_false, p_rid_Right, Option.bind_some]
  cases RidX.rightB (strB d) <;> rfl
end Go.Ev
/- Equations, printed by tracer2.py. -/
namespace Go.Ev
open Go.Proofs
set_option linter.unusedVariables false
set_option maxRecDepth 100000
-- 27 limelight/limelightref3.Rid
theorem limelightref3_Rid_entry (rec : CallF) (loop : LoopV) (σ : Stamp) (x0 : V) (h : H) : cvBody G rec loop 27 σ [x0] h =
 (boxO false (0 :: 0 :: 0 :: σ) 1 (List.replicate 33 [] :: h) x0).bind fun q1 =>
 (fA q1.1 6).bind fun t2 =>
 (ldO false 1 q1.2 t2).bind fun t3 =>
 (castI .u16 t3).bind fun n4 =>
 (fA q1.1 7).bind fun t5 =>
 (ldO false 1 q1.2 t5).bind fun t6 =>
 (callO rec 55 (4 :: 0 :: 1 :: 0 :: σ) [(.p (.int .u16 n4)), t6] q1.2 (some 13)).bind fun q7 =>
 (extV q7.1 0).bind fun t8 =>
 (extV q7.1 1).bind fun t9 =>
 (castI .i64 t9).bind fun n10 =>
 bif n10 != 0 then (
 fin false σ q7.2 [(.p (.string ((⟨#[]⟩ : ByteArray)))), (.p (.bool false))])
 else (
 (callO rec 53 (1 :: 0 :: 1 :: 1 :: 1 :: 0 :: σ) [t8, (.p (.int .i64 1))] q7.2 (some 20)).bind fun q11 =>
 (extV q11.1 0).bind fun t12 =>
 (extV q11.1 1).bind fun t13 =>
 (asB t13).bind fun b14 =>
 (bif !b14 then (some ((.p (.bool true)), q11.2)) else ((strO q11.2 t12).bind fun t15 =>
 (castS t15).bind fun s16 =>
 (callO rec 65 (5 :: 0 :: 0 :: 1 :: 1 :: 1 :: 1 :: 0 :: σ) [(.p (.string s16))] q11.2 (some 28)).bind fun q17 =>
 (asB q17.1).bind fun b18 =>
 some ((.p (.bool (!b18))), q17.2))).bind fun q19 =>
 (asB q19.1).bind fun b20 =>
 bif b20 then (
 fin false σ q19.2 [(.p (.string ((⟨#[]⟩ : ByteArray)))), (.p (.bool false))])
 else (
 (strO q19.2 t12).bind fun t21 =>
 (castS t21).bind fun s22 =>
 fin false σ q19.2 [(.p (.string s22)), (.p (.bool true))])) := by kernel_rfl
end Go.Ev
/- Told from outside: limelightref1_Rid. -/
namespace Go.Ev
open Go.Proofs
def p_limelightref1_Rid (x0 : ByteArray) : Option Bool := some (RidX.rightB x0)
theorem limelightref1_Rid_ok {h : H} {σ : Stamp} (x0 : ByteArray) : Sim (p_limelightref1_Rid x0) (ev G X0 65 σ [(.p (.string x0))] h) (fun r s => s = ([.v (.p (.bool r))], h)) := Sim.told (ev_ext rfl)
end Go.Ev
/- Equations, printed by tracer2.py. -/
namespace Go.Ev
open Go.Proofs
set_option linter.unusedVariables false
set_option maxRecDepth 100000
-- 53 limelight/limelightref3.Find
noncomputable def limelightref3_Find_c0 : Code := (codeAt (bodyOf Try.f53) [1, 0, 1, 0, 0])
def limelightref3_Find_l0 : Lv := ⟨0, 48, [(0, 0)]⟩
noncomputable def limelightref3_Find_k0 (rec : CallF) (loop : LoopV) (σ : Stamp) : Exit → Env → H → Option (List C × H) := (kBlock 0 (kSeq G rec loop (codeAt (bodyOf Try.f53) [1, 1]) ⟨48, 48, []⟩ (1 :: 0 :: σ) (finC G true Try.f53 (1 :: σ))))
theorem limelightref3_Find_entry (rec : CallF) (loop : LoopV) (σ : Stamp) (x0 : V) (x1 : Int) (h : H) : cvBody G rec loop 53 σ [x0, (.p (.int .i64 x1))] h =
 (lenO x0).bind fun t1 =>
 (castI .i64 t1).bind fun n2 =>
 (loop limelightref3_Find_c0 limelightref3_Find_l0 (1 :: 0 :: 1 :: 0 :: σ) (envL [(1, (.p (.int .i64 x1))), (8, x0), (9, (.p (.int .i64 n2))), (10, (.p (.int .i64 0)))]) (List.replicate 23 [] :: h)).bind fun r3 => limelightref3_Find_k0 rec loop σ r3.1 r3.2.1 r3.2.2 := by kernel_rfl
theorem limelightref3_Find_r0 (rec : CallF) (loop : LoopV) (σ : Stamp) (x1 : Int) (x8 : V) (x9 : Int) (x10 : Int) (h : H) : cvRound G rec loop limelightref3_Find_c0 limelightref3_Find_l0 σ (envL [(1, (.p (.int .i64 x1))), (8, x8), (9, (.p (.int .i64 x9))), (10, (.p (.int .i64 x10)))]) h =
 bif decide (x10 < x9) then (
 (iS 2 x8 x10).bind fun t4 =>
 (ldO true 2 h t4).bind fun t5 =>
 (some (alO [.p (.int .i64 0), .p (.slice none 0 0)] (2 :: 0 :: 0 :: 1 :: 1 :: 0 :: σ) 7 h)).bind fun q6 =>
 ((stO false 2 (3 :: 0 :: 0 :: 1 :: 1 :: 0 :: σ) q6.2 q6.1 t5).map fun h => (udf, h)).bind fun q7 =>
 (fA q6.1 0).bind fun t8 =>
 (ldO false 1 q7.2 t8).bind fun t9 =>
 (castI .i64 t9).bind fun n10 =>
 bif n10 == x1 then (
 (buildSliceV Try.prog 32 0 []).bind fun t11 =>
 (fA q6.1 1).bind fun t12 =>
 (ldO false 1 q7.2 t12).bind fun t13 =>
 (apO true 1 1 (3 :: 0 :: 1 :: 1 :: 0 :: 1 :: 1 :: 0 :: σ) 21 q7.2 t11 t13).bind fun q14 =>
 some (.ret, (envL [(4, q14.1), (5, (.p (.bool true)))]), q14.2))
 else (
 loop limelightref3_Find_c0 limelightref3_Find_l0 (1 :: σ) (envL [(1, (.p (.int .i64 x1))), (8, x8), (9, (.p (.int .i64 x9))), (10, (.p (.int .i64 (IntKind.wrap .i64 (x10 + 1)))))]) q7.2))
 else (
 some ((.exit 0), (envL []), h)) := by kernel_rfl
theorem limelightref3_Find_a0_0 (rec : CallF) (loop : LoopV) (σ : Stamp)  (h : H) : limelightref3_Find_k0 rec loop σ (.exit 0) (envL []) h =
 fin true σ h [(.p (.slice .none 0 0)), (.p (.bool false))] := by kernel_rfl
theorem limelightref3_Find_a0_ret (rec : CallF) (loop : LoopV) (σ : Stamp) (x4 : V) (x5 : Bool) (h : H) : limelightref3_Find_k0 rec loop σ .ret (envL [(4, x4), (5, (.p (.bool x5)))]) h =
 fin true σ h [x4, (.p (.bool x5))] := by kernel_rfl
end Go.Ev
/- Lifted by lift.py: limelightref3_Find as a plain function. -/
namespace Go.Ev
open Go.Proofs
set_option linter.unusedVariables false
set_option linter.unusedSimpArgs false
set_option maxRecDepth 100000
def p_limelightref3_Find_l0 {β : Type} (k : Nat) (kE0 : Unit → Option β) (kE1 : (List Int) → Bool → Option β) (x1 : Int) (x8 : (List T_api_Elem)) (x9 : Int) (x10 : Int) : Option β := match k with
| 0 => none
| k + 1 =>
bif decide (x10 < x9) then (
(ix x8 x10).bind fun a5 =>
bif a5.ID == x1 then (
(ap 1 (([] : List Int)) a5.Data).bind fun a22 =>
kE1 a22 true)
else (
p_limelightref3_Find_l0 k kE0 kE1 x1 x8 x9 (IntKind.wrap .i64 (x10 + 1))))
else (
kE0 ())
def p_limelightref3_Find (k : Nat) (x0 : (List T_api_Elem)) (x1 : Int) : Option ((List Int) × Bool) :=
p_limelightref3_Find_l0 k (fun (_ : Unit) =>
some ((([] : List Int)), false)) (fun r37_4 r37_5 =>
some (r37_4, r37_5)) x1 x0 ((x0.length : Int)) 0
theorem limelightref3_Find_l0_ok {h : H}  {β α : Type} {Q : β → α → Prop} {K : Exit × Env × H → Option α} {kE0 : Unit → Option β} {kE1 : (List Int) → Bool → Option β} (hE0 : ∀ (_u : Unit) (H28 : Go.Ev.H) (_ : Fm 23 h [] [] [] H28), Sim (kE0 ()) (K ((.exit 0), (envL []), H28)) Q) (hE1 : ∀ (q4 : (List Int)) (q5 : Bool) (v32 : V) (H30 : Go.Ev.H) (_ : Fm 23 h [] [] [⟨[21], v32, (dI .u8), q4⟩] H30), Sim (kE1 q4 q5) (K (.ret, (envL [(4, v32), (5, (.p (.bool q5)))]), H30)) Q) (k : Nat) : ∀ (x1 : Int) (x8 : (List T_api_Elem)) (x9 : Int) (x10 : Int) (v3 : V) (h4 : SlH h dT_api_Elem x8 v3) (H1 : Go.Ev.H) (_ : Fm 23 h [] [] [] H1) {σ : Stamp}, Sim (p_limelightref3_Find_l0 k kE0 kE1 x1 x8 x9 x10) ((cvL G X0 limelightref3_Find_c0 limelightref3_Find_l0 σ (envL [(1, (.p (.int .i64 x1))), (8, v3), (9, (.p (.int .i64 x9))), (10, (.p (.int .i64 x10)))]) H1).bind K) Q := by
  induction k with
  | zero => intros; exact Sim.no
  | succ k ih =>
    intro x1 x8 x9 x10 v3 h4 H1 S2 σ
    rw [p_limelightref3_Find_l0]
    refine Sim.round (Sim.ext (limelightref3_Find_r0 _ _ _ _ _ _ _ _) ?_)
    refine Sim.cd (fun hc => ?_) (fun hc => ?_)
    · refine Sim.bd fun a5 h6 => ?_
      refine Sim.op ((S2.low h4).iS h6 rfl) ?_
      obtain ⟨w8, h9, hE7⟩ := (S2.low h4).el h6 rfl
      obtain ⟨v10, rfl, h11⟩ := dT_api_Elem.inv h9
      refine Sim.op (hE7.all (by simp)) ?_
      obtain ⟨H12, e13, S14⟩ := S2.al (d := 7) (s := (2 :: 0 :: 0 :: 1 :: 1 :: 0 :: σ)) (z := [(.p (.int .i64 0)), (.p (.slice none 0 0))]) (by decide) rfl
      refine Sim.op (congrArg some e13) ?_
      obtain ⟨H16, e17, S18⟩ := S14.stGv (i := 0) (j := 0) (own := false) (σ := (3 :: 0 :: 0 :: 1 :: 1 :: 0 :: σ)) (xs := [.p (.int .i64 a5.ID), v10]) rfl rfl (stills_cons (still_int _ _) (stills_cons h11.still stills_nil)) rfl rfl
      refine Sim.op (st_map e17) ?_
      refine Sim.op (fA_ref _ _ _) ?_
      refine Sim.op ((S18.atG (i := 0) rfl).ld (j := 0) rfl) ?_
      refine Sim.op (castI_p _ _) ?_
      refine Sim.cd (fun hc => ?_) (fun hc => ?_)
      · have h19 : SlF (dI .u8) ([] : List Int) (.fz [] 0 1 true) := SlF.lit (cs := []) RL.nil rfl rfl true
        refine Sim.op (bldS pt_nil (by kernel_rfl : _ = some (.fz [] 0 1 true))) ?_
        refine Sim.op (fA_ref _ _ _) ?_
        refine Sim.op ((S18.atG (i := 0) rfl).ld (j := 1) rfl) ?_
        have S21 := S18.nil' (dI .u8) [] (e := 1) rfl
        refine Sim.bd fun a22 h23 => ?_
        obtain ⟨v24, H25, e26, S27⟩ := S21.app (i := 0) (d := 21) (e := 1) (own := true) (σ := (3 :: 0 :: 1 :: 1 :: 0 :: 1 :: 1 :: 0 :: σ)) rfl (h11.h H16).y h23 rfl (by decide) (by decide) rfl
        refine Sim.op (e26) ?_
        exact hE1 a22 true v24 H25 (S27.wk2 all_nil (all_cons ⟨[21], by simp, at_mem 0 rfl⟩ all_nil))
      · exact ih x1 x8 x9 (IntKind.wrap .i64 (x10 + 1)) v3 h4 H16 (S18.wk2 all_nil all_nil)
    · exact hE0 () H1 (S2.wk2 all_nil all_nil)
theorem limelightref3_Find_ok (k : Nat) {h : H} {σ : Stamp} (x0 : List T_api_Elem) {u0 : V} (hu0 : SlH h dT_api_Elem x0 u0) (x1 : Int) : Sim (p_limelightref3_Find k x0 x1) (ev G X0 53 σ [u0, (.p (.int .i64 x1))] h) (fun r s => ∃ (v0 : V), SlF (dI .u8) r.1 v0 ∧ s = ([.v v0, .v (.p (.bool r.2))], h)) := by
  refine Sim.ev rfl (Sim.ext (limelightref3_Find_entry _ _ _ _ _ _) ?_)
  rw [p_limelightref3_Find]
  have S0 : Fm 23 h [] [] [] (List.replicate 23 [] :: h) := Fm.start0
  refine Sim.op ((S0.low hu0).len) ?_
  refine Sim.op (castI_p _ _) ?_
  refine Sim.as (limelightref3_Find_l0_ok ?_ ?_ k x1 x0 ((x0.length : Int)) 0 u0 hu0 (List.replicate 23 [] :: h) (S0.wk2 all_nil all_nil)) 
  · intro _u H35 S36
    refine Sim.ext (limelightref3_Find_a0_0 _ _ _ _) ?_
    exact Sim.fin (S36.finN (lv_cons (SlF.nil (dI .u8)).still.lv (lv_cons (still_bool _).lv lv_nil))) ⟨(.p (.slice none 0 0)), (SlF.nil (dI .u8)), rfl⟩
  · intro r37_4 r37_5 v40 H38 S39
    refine Sim.ext (limelightref3_Find_a0_ret _ _ _ _ _ _) ?_
    obtain ⟨v47, H42, e43, h45, S44⟩ := S39.expFrz (i := 0) (τ := 0 :: 1 :: σ) rfl rfl
    exact Sim.fin (S44.finE (Ex.st e43 (Ex.pl (still_bool _).lv Ex.nil))) ⟨v47, h45, rfl⟩
end Go.Ev
/- Equations, printed by tracer2.py. -/
namespace Go.Ev
open Go.Proofs
set_option linter.unusedVariables false
set_option maxRecDepth 100000
-- 55 limelight/limelightref3.ReadElems
noncomputable def limelightref3_ReadElems_c0 : Code := (codeAt (bodyOf Try.f55) [1, 1, 1, 0, 1, 0, 0])
def limelightref3_ReadElems_l0 : Lv := ⟨64, 48, [(0, 64)]⟩
noncomputable def limelightref3_ReadElems_k0 (rec : CallF) (loop : LoopV) (σ : Stamp) : Exit → Env → H → Option (List C × H) := (kBlock 0 (kSeq G rec loop (codeAt (bodyOf Try.f55) [1, 1, 1, 1]) ⟨48, 48, []⟩ (1 :: 1 :: 1 :: 0 :: σ) (finC G true Try.f55 (1 :: σ))))
theorem limelightref3_ReadElems_entry (rec : CallF) (loop : LoopV) (σ : Stamp) (x0 : Int) (x1 : V) (h : H) : cvBody G rec loop 55 σ [(.p (.int .u16 x0)), x1] h =
 (bif x0 != 48862 then (some (x0 != 4096)) else (some false)).bind fun b1 =>
 bif b1 then (
 fin true σ (List.replicate 97 [] :: h) [(.p (.slice .none 0 0)), (.p (.int .i64 1))])
 else (
 (loop limelightref3_ReadElems_c0 limelightref3_ReadElems_l0 (1 :: 0 :: 1 :: 1 :: 1 :: 0 :: σ) (envL [(0, (.p (.int .u16 x0))), (1, x1), (6, (.p (.slice .none 0 0))), (7, (.p (.int .i64 0)))]) (List.replicate 97 [] :: h)).bind fun r2 => limelightref3_ReadElems_k0 rec loop σ r2.1 r2.2.1 r2.2.2) := by kernel_rfl
theorem limelightref3_ReadElems_r0 (rec : CallF) (loop : LoopV) (σ : Stamp) (x0 : Int) (x1 : V) (x6 : V) (x7 : Int) (h : H) : cvRound G rec loop limelightref3_ReadElems_c0 limelightref3_ReadElems_l0 σ (envL [(0, (.p (.int .u16 x0))), (1, x1), (6, x6), (7, (.p (.int .i64 x7)))]) h =
 (lenO x1).bind fun t3 =>
 (castI .i64 t3).bind fun n4 =>
 bif decide (x7 < n4) then (
 (iS 1 x1 x7).bind fun t5 =>
 (ldO false 1 h t5).bind fun t6 =>
 (castI .u8 t6).bind fun n7 =>
 bif n7 == 0 then (
 loop limelightref3_ReadElems_c0 limelightref3_ReadElems_l0 (1 :: σ) (envL [(0, (.p (.int .u16 x0))), (1, x1), (6, x6), (7, (.p (.int .i64 (IntKind.wrap .i64 (x7 + 1)))))]) h)
 else (
 (iS 1 x1 x7).bind fun t8 =>
 (ldO false 1 h t8).bind fun t9 =>
 (castI .u8 t9).bind fun n10 =>
 (iS 1 x1 x7).bind fun t11 =>
 (ldO false 1 h t11).bind fun t12 =>
 (castI .u8 t12).bind fun n13 =>
 (bif x0 == 48862 then ((bif (IntKind.wrap .i64 (Int.fdiv n10 (2 ^ 4))) == 15 then (some true) else (some ((IntKind.wrap .i64 (Int.fdiv n10 (2 ^ 4))) == 0))).bind fun b14 =>
 some b14) else (some false)).bind fun b15 =>
 bif b15 then (
 some ((.exit 0), (envL [(6, x6)]), h))
 else (
 bif x0 == 4096 then (
 (lenO x1).bind fun t16 =>
 (castI .i64 t16).bind fun n17 =>
 bif decide ((IntKind.wrap .i64 (x7 + 1)) ≥ n17) then (
 some (.ret, (envL [(4, (.p (.slice .none 0 0))), (5, (.p (.int .i64 13)))]), h))
 else (
 (iS 1 x1 x7).bind fun t18 =>
 (ldO false 1 h t18).bind fun t19 =>
 (castI .u8 t19).bind fun n20 =>
 (iS 1 x1 (IntKind.wrap .i64 (x7 + 1))).bind fun t21 =>
 (ldO false 1 h t21).bind fun t22 =>
 (castI .u8 t22).bind fun n23 =>
 (callO rec 90 (3 :: 0 :: 1 :: 1 :: 1 :: 1 :: 1 :: 0 :: σ) [x1, (.p (.int .i64 (IntKind.wrap .i64 (x7 + 2)))), (.p (.int .i64 (IntKind.wrap .i64 n23)))] h (some 79)).bind fun q24 =>
 (extV q24.1 0).bind fun t25 =>
 (extV q24.1 1).bind fun t26 =>
 (asB t26).bind fun b27 =>
 bif !b27 then (
 some (.ret, (envL [(4, (.p (.slice .none 0 0))), (5, (.p (.int .i64 13)))]), q24.2))
 else (
 (buildV Try.prog 38 [(0, (.p (.int .i64 (IntKind.wrap .i64 n20)))), (1, t25)]).bind fun t28 =>
 (buildSliceV Try.prog 27 1 [(0, t28)]).bind fun t29 =>
 (apO false 2 32 (5 :: 0 :: 1 :: 1 :: 1 :: 1 :: 1 :: 1 :: 1 :: 0 :: σ) 89 q24.2 x6 t29).bind fun q30 =>
 loop limelightref3_ReadElems_c0 limelightref3_ReadElems_l0 (1 :: σ) (envL [(0, (.p (.int .u16 x0))), (1, x1), (6, q30.1), (7, (.p (.int .i64 (IntKind.wrap .i64 ((IntKind.wrap .i64 (x7 + 2)) + (IntKind.wrap .i64 n23))))))]) q30.2)))
 else (
 (callO rec 90 (3 :: 0 :: 1 :: 1 :: 1 :: 1 :: 1 :: 0 :: σ) [x1, (.p (.int .i64 (IntKind.wrap .i64 (x7 + 1)))), (.p (.int .i64 (IntKind.wrap .i64 ((IntKind.wrap .i64 (intBits .and .u8 n13 15)) + 1))))] h (some 79)).bind fun q31 =>
 (extV q31.1 0).bind fun t32 =>
 (extV q31.1 1).bind fun t33 =>
 (asB t33).bind fun b34 =>
 bif !b34 then (
 some (.ret, (envL [(4, (.p (.slice .none 0 0))), (5, (.p (.int .i64 13)))]), q31.2))
 else (
 (buildV Try.prog 38 [(0, (.p (.int .i64 (IntKind.wrap .i64 (Int.fdiv n10 (2 ^ 4)))))), (1, t32)]).bind fun t35 =>
 (buildSliceV Try.prog 27 1 [(0, t35)]).bind fun t36 =>
 (apO false 2 32 (5 :: 0 :: 1 :: 1 :: 1 :: 1 :: 1 :: 1 :: 1 :: 0 :: σ) 89 q31.2 x6 t36).bind fun q37 =>
 loop limelightref3_ReadElems_c0 limelightref3_ReadElems_l0 (1 :: σ) (envL [(0, (.p (.int .u16 x0))), (1, x1), (6, q37.1), (7, (.p (.int .i64 (IntKind.wrap .i64 ((IntKind.wrap .i64 (x7 + 1)) + (IntKind.wrap .i64 ((IntKind.wrap .i64 (intBits .and .u8 n13 15)) + 1)))))))]) q37.2)))))
 else (
 some ((.exit 0), (envL [(6, x6)]), h)) := by kernel_rfl
theorem limelightref3_ReadElems_a0_0 (rec : CallF) (loop : LoopV) (σ : Stamp) (x6 : V) (h : H) : limelightref3_ReadElems_k0 rec loop σ (.exit 0) (envL [(6, x6)]) h =
 (lenO x6).bind fun t38 =>
 (castI .i64 t38).bind fun n39 =>
 bif decide (n39 > 8) then (
 fin true σ h [(.p (.slice .none 0 0)), (.p (.int .i64 3))])
 else (
 fin true σ h [x6, (.p (.int .i64 0))]) := by kernel_rfl
theorem limelightref3_ReadElems_a0_ret (rec : CallF) (loop : LoopV) (σ : Stamp) (x4 : V) (x5 : Int) (h : H) : limelightref3_ReadElems_k0 rec loop σ .ret (envL [(4, x4), (5, (.p (.int .i64 x5)))]) h =
 fin true σ h [x4, (.p (.int .i64 x5))] := by kernel_rfl
end Go.Ev
/- Equations, printed by tracer2.py. -/
namespace Go.Ev
open Go.Proofs
set_option linter.unusedVariables false
set_option maxRecDepth 100000
-- 90 limelight/limelightref1.Cut
theorem limelightref1_Cut_entry (rec : CallF) (loop : LoopV) (σ : Stamp) (x0 : V) (x1 : Int) (x2 : Int) (h : H) : cvBody G rec loop 90 σ [x0, (.p (.int .i64 x1)), (.p (.int .i64 x2))] h =
 (bif decide (x1 < 0) then (some true) else (some (decide (x2 < 0)))).bind fun b1 =>
 (bif b1 then (some true) else ((lenO x0).bind fun t2 =>
 (castI .i64 t2).bind fun n3 =>
 some (decide (x1 > n3)))).bind fun b4 =>
 (bif b4 then (some true) else ((lenO x0).bind fun t5 =>
 (castI .i64 t5).bind fun n6 =>
 some (decide (x2 > (IntKind.wrap .i64 (n6 - x1)))))).bind fun b7 =>
 bif b7 then (
 fin true σ (List.replicate 36 [] :: h) [(.p (.slice .none 0 0)), (.p (.bool false))])
 else (
 (buildSliceV Try.prog 32 0 []).bind fun t8 =>
 (slS 1 x0 (some x1) (some (IntKind.wrap .i64 (x1 + x2))) none).bind fun t9 =>
 (apO true 1 1 (7 :: 0 :: 1 :: 1 :: 0 :: σ) 35 (List.replicate 36 [] :: h) t8 t9).bind fun q10 =>
 fin true σ q10.2 [q10.1, (.p (.bool true))]) := by kernel_rfl
end Go.Ev
/- Lifted by lift.py: limelightref1_Cut as a plain function. -/
namespace Go.Ev
open Go.Proofs
set_option linter.unusedVariables false
set_option linter.unusedSimpArgs false
set_option maxRecDepth 100000
def p_limelightref1_Cut (x0 : (List Int)) (x1 : Int) (x2 : Int) : Option ((List Int) × Bool) :=
(bif decide (x1 < 0) then (some true) else (some (decide (x2 < 0)))).bind fun b1 =>
(bif b1 then (some true) else (some (decide (x1 > ((x0.length : Int)))))).bind fun b5 =>
(bif b5 then (some true) else (some (decide (x2 > (IntKind.wrap .i64 (((x0.length : Int)) - x1)))))).bind fun b9 =>
bif b9 then (
some ((([] : List Int)), false))
else (
(sub x0 x1 (IntKind.wrap .i64 (x1 + x2))).bind fun a14 =>
(ap 1 (([] : List Int)) a14).bind fun a18 =>
some (a18, true))
theorem limelightref1_Cut_ok {h : H} {σ : Stamp} (x0 : List Int) {u0 : V} (hu0 : SlH h (dI .u8) x0 u0) (x1 : Int) (x2 : Int) : Sim (p_limelightref1_Cut x0 x1 x2) (ev G X0 90 σ [u0, (.p (.int .i64 x1)), (.p (.int .i64 x2))] h) (fun r s => ∃ (v0 : V), SlF (dI .u8) r.1 v0 ∧ s = ([.v v0, .v (.p (.bool r.2))], h)) := by
  refine Sim.ev rfl (Sim.ext (limelightref1_Cut_entry _ _ _ _ _ _ _) ?_)
  rw [p_limelightref1_Cut]
  have S0 : Fm 36 h [] [] [] (List.replicate 36 [] :: h) := Fm.start0
  refine Sim.ch (P := fun r y => r = y) ?_ (fun b1 y2 h3 h4 => ?_)
  · refine Sim.cd (fun hc => ?_) (fun hc => ?_)
    · exact Sim.ret rfl rfl
    · exact Sim.ret rfl rfl
  subst h4
  refine Sim.ch (P := fun r y => r = y) ?_ (fun b5 y6 h7 h8 => ?_)
  · refine Sim.cd (fun hc => ?_) (fun hc => ?_)
    · exact Sim.ret rfl rfl
    · refine Sim.op ((S0.low hu0).len) ?_
      refine Sim.op (castI_p _ _) ?_
      exact Sim.ret rfl rfl
  subst h8
  refine Sim.ch (P := fun r y => r = y) ?_ (fun b9 y10 h11 h12 => ?_)
  · refine Sim.cd (fun hc => ?_) (fun hc => ?_)
    · exact Sim.ret rfl rfl
    · refine Sim.op ((S0.low hu0).len) ?_
      refine Sim.op (castI_p _ _) ?_
      exact Sim.ret rfl rfl
  subst h12
  refine Sim.cd (fun hc => ?_) (fun hc => ?_)
  · exact Sim.fin (S0.finN (lv_cons (SlF.nil (dI .u8)).still.lv (lv_cons (still_bool _).lv lv_nil))) ⟨(.p (.slice none 0 0)), (SlF.nil (dI .u8)), rfl⟩
  · have h13 : SlF (dI .u8) ([] : List Int) (.fz [] 0 1 true) := SlF.lit (cs := []) RL.nil rfl rfl true
    refine Sim.op (bldS pt_nil (by kernel_rfl : _ = some (.fz [] 0 1 true))) ?_
    refine Sim.bd fun a14 h15 => ?_
    refine Sim.op ((S0.low hu0).slS h15 rfl rfl rfl) ?_
    have S17 := S0.nil' (dI .u8) [] (e := 1) rfl
    refine Sim.bd fun a18 h19 => ?_
    obtain ⟨v20, H21, e22, S23⟩ := S17.app (i := 0) (d := 35) (e := 1) (own := true) (σ := (7 :: 0 :: 1 :: 1 :: 0 :: σ)) rfl ((S17.low hu0).sub h15 (e := 1) rfl).y h19 rfl (by decide) (by decide) rfl
    refine Sim.op (e22) ?_
    obtain ⟨v29, H24, e25, h27, S26⟩ := S23.expFrz (i := 0) (τ := 0 :: 1 :: σ) rfl rfl
    exact Sim.fin (S26.finE (Ex.st e25 (Ex.pl (still_bool _).lv Ex.nil))) ⟨v29, h27, rfl⟩
end Go.Ev
/- Lifted by lift.py: limelightref3_ReadElems as a plain function. -/
namespace Go.Ev
open Go.Proofs
set_option linter.unusedVariables false
set_option linter.unusedSimpArgs false
set_option maxRecDepth 100000
def p_limelightref3_ReadElems_l0 {β : Type} (k : Nat) (kE0 : (List T_api_Elem) → Option β) (kE1 : Int → Option β) (x0 : Int) (x1 : (List Int)) (x6 : (List T_api_Elem)) (x7 : Int) : Option β := match k with
| 0 => none
| k + 1 =>
bif decide (x7 < ((x1.length : Int))) then (
(ix x1 x7).bind fun a13 =>
bif a13 == 0 then (
p_limelightref3_ReadElems_l0 k kE0 kE1 x0 x1 x6 (IntKind.wrap .i64 (x7 + 1)))
else (
(ix x1 x7).bind fun a16 =>
(ix x1 x7).bind fun a19 =>
(bif x0 == 48862 then ((bif (IntKind.wrap .i64 (Int.fdiv a16 (2 ^ 4))) == 15 then (some true) else (some ((IntKind.wrap .i64 (Int.fdiv a16 (2 ^ 4))) == 0))).bind fun b22 =>
some b22) else (some false)).bind fun b26 =>
bif b26 then (
kE0 x6)
else (
bif x0 == 4096 then (
bif decide ((IntKind.wrap .i64 (x7 + 1)) ≥ ((x1.length : Int))) then (
kE1 13)
else (
(ix x1 x7).bind fun a30 =>
(ix x1 (IntKind.wrap .i64 (x7 + 1))).bind fun a33 =>
(p_limelightref1_Cut x1 (IntKind.wrap .i64 (x7 + 2)) (IntKind.wrap .i64 a33)).bind fun r36 =>
bif !r36.2 then (
kE1 13)
else (
(ap 32 x6 ([((⟨(IntKind.wrap .i64 a30), r36.1⟩ : T_api_Elem))])).bind fun a44 =>
p_limelightref3_ReadElems_l0 k kE0 kE1 x0 x1 a44 (IntKind.wrap .i64 ((IntKind.wrap .i64 (x7 + 2)) + (IntKind.wrap .i64 a33))))))
else (
(p_limelightref1_Cut x1 (IntKind.wrap .i64 (x7 + 1)) (IntKind.wrap .i64 ((IntKind.wrap .i64 (intBits .and .u8 a19 15)) + 1))).bind fun r50 =>
bif !r50.2 then (
kE1 13)
else (
(ap 32 x6 ([((⟨(IntKind.wrap .i64 (Int.fdiv a16 (2 ^ 4))), r50.1⟩ : T_api_Elem))])).bind fun a58 =>
p_limelightref3_ReadElems_l0 k kE0 kE1 x0 x1 a58 (IntKind.wrap .i64 ((IntKind.wrap .i64 (x7 + 1)) + (IntKind.wrap .i64 ((IntKind.wrap .i64 (intBits .and .u8 a19 15)) + 1)))))))))
else (
kE0 x6)
def p_limelightref3_ReadElems (k : Nat) (x0 : Int) (x1 : (List Int)) : Option ((List T_api_Elem) × Int) :=
(bif x0 != 48862 then (some (x0 != 4096)) else (some false)).bind fun b1 =>
bif b1 then (
some ((([] : List T_api_Elem)), 1))
else (
p_limelightref3_ReadElems_l0 k (fun r72_6 =>
bif decide (((r72_6.length : Int)) > 8) then (
some ((([] : List T_api_Elem)), 3))
else (
some (r72_6, 0))) (fun r83_5 =>
some ((([] : List T_api_Elem)), r83_5)) x0 x1 (([] : List T_api_Elem)) 0)
theorem limelightref3_ReadElems_l0_ok {h : H}  {β α : Type} {Q : β → α → Prop} {K : Exit × Env × H → Option α} {kE0 : (List T_api_Elem) → Option β} {kE1 : Int → Option β} (hE0 : ∀ (q6 : (List T_api_Elem)) (v66 : V) (H64 : Go.Ev.H) (_ : Fm 97 h [] [] [⟨[89], v66, dT_api_Elem, q6⟩] H64), Sim (kE0 q6) (K ((.exit 0), (envL [(6, v66)]), H64)) Q) (hE1 : ∀ (q5 : Int) (H68 : Go.Ev.H) (_ : Fm 97 h [] [] [] H68), Sim (kE1 q5) (K (.ret, (envL [(4, (.p (.slice none 0 0))), (5, (.p (.int .i64 q5)))]), H68)) Q) (k : Nat) : ∀ (x0 : Int) (x1 : (List Int)) (x6 : (List T_api_Elem)) (x7 : Int) (v9 : V) (h10 : SlH h (dI .u8) x1 v9) (v11 : V) (H7 : Go.Ev.H) (_ : Fm 97 h [] [] [⟨[89], v11, dT_api_Elem, x6⟩] H7) {σ : Stamp}, Sim (p_limelightref3_ReadElems_l0 k kE0 kE1 x0 x1 x6 x7) ((cvL G X0 limelightref3_ReadElems_c0 limelightref3_ReadElems_l0 σ (envL [(0, (.p (.int .u16 x0))), (1, v9), (6, v11), (7, (.p (.int .i64 x7)))]) H7).bind K) Q := by
  induction k with
  | zero => intros; exact Sim.no
  | succ k ih =>
    intro x0 x1 x6 x7 v9 h10 v11 H7 S8 σ
    rw [p_limelightref3_ReadElems_l0]
    refine Sim.round (Sim.ext (limelightref3_ReadElems_r0 _ _ _ _ _ _ _ _) ?_)
    refine Sim.op ((S8.low h10).len) ?_
    refine Sim.op (castI_p _ _) ?_
    refine Sim.cd (fun hc => ?_) (fun hc => ?_)
    · refine Sim.bd fun a13 h14 => ?_
      refine Sim.op ((S8.low h10).iS h14 rfl) ?_
      obtain ⟨_, rfl, hE15⟩ := (S8.low h10).el h14 rfl
      refine Sim.op (hE15.ld (j := 0) rfl) ?_
      refine Sim.op (castI_p _ _) ?_
      refine Sim.cd (fun hc => ?_) (fun hc => ?_)
      · exact ih x0 x1 x6 (IntKind.wrap .i64 (x7 + 1)) v9 h10 v11 H7 (S8.wk2 all_nil (all_cons ⟨[89], by simp, at_mem 0 rfl⟩ all_nil))
      · refine Sim.bd fun a16 h17 => ?_
        refine Sim.op ((S8.low h10).iS h17 rfl) ?_
        obtain ⟨_, rfl, hE18⟩ := (S8.low h10).el h17 rfl
        refine Sim.op (hE18.ld (j := 0) rfl) ?_
        refine Sim.op (castI_p _ _) ?_
        refine Sim.bd fun a19 h20 => ?_
        refine Sim.op ((S8.low h10).iS h20 rfl) ?_
        obtain ⟨_, rfl, hE21⟩ := (S8.low h10).el h20 rfl
        refine Sim.op (hE21.ld (j := 0) rfl) ?_
        refine Sim.op (castI_p _ _) ?_
        refine Sim.ch (P := fun r y => r = y) ?_ (fun b26 y27 h28 h29 => ?_)
        · refine Sim.cd (fun hc => ?_) (fun hc => ?_)
          · refine Sim.ch (P := fun r y => r = y) ?_ (fun b22 y23 h24 h25 => ?_)
            · refine Sim.cd (fun hc => ?_) (fun hc => ?_)
              · exact Sim.ret rfl rfl
              · exact Sim.ret rfl rfl
            subst h25
            exact Sim.ret rfl rfl
          · exact Sim.ret rfl rfl
        subst h29
        refine Sim.cd (fun hc => ?_) (fun hc => ?_)
        · exact hE0 x6 v11 H7 (S8.wk2 all_nil (all_cons ⟨[89], by simp, at_mem 0 rfl⟩ all_nil))
        · refine Sim.cd (fun hc => ?_) (fun hc => ?_)
          · refine Sim.op ((S8.low h10).len) ?_
            refine Sim.op (castI_p _ _) ?_
            refine Sim.cd (fun hc => ?_) (fun hc => ?_)
            · exact hE1 13 H7 (S8.wk2 all_nil all_nil)
            · refine Sim.bd fun a30 h31 => ?_
              refine Sim.op ((S8.low h10).iS h31 rfl) ?_
              obtain ⟨_, rfl, hE32⟩ := (S8.low h10).el h31 rfl
              refine Sim.op (hE32.ld (j := 0) rfl) ?_
              refine Sim.op (castI_p _ _) ?_
              refine Sim.bd fun a33 h34 => ?_
              refine Sim.op ((S8.low h10).iS h34 rfl) ?_
              obtain ⟨_, rfl, hE35⟩ := (S8.low h10).el h34 rfl
              refine Sim.op (hE35.ld (j := 0) rfl) ?_
              refine Sim.op (castI_p _ _) ?_
              refine Sim.call (limelightref1_Cut_ok x1 (S8.low h10) (IntKind.wrap .i64 (x7 + 2)) (IntKind.wrap .i64 a33)) fun r36 cs37 H38 h39 q40 => ?_
              obtain ⟨v41, h42, q40⟩ := q40
              cases q40
              refine Sim.op (rfl) ?_
              refine Sim.op (rfl) ?_
              refine Sim.op (asB_p _) ?_
              refine Sim.cd (fun hc => ?_) (fun hc => ?_)
              · exact hE1 13 H7 (S8.wk2 all_nil all_nil)
              · refine Sim.op (bldV (pt_cons rfl (pt_cons h42.still.cells pt_nil)) (by kernel_rfl : _ = some (.agg [.p (.int .i64 (IntKind.wrap .i64 a30)), v41]))) ?_
                have h43 : SlF dT_api_Elem [((⟨(IntKind.wrap .i64 a30), r36.1⟩ : T_api_Elem))] (.fz [(.p (.int .i64 (IntKind.wrap .i64 a30))), v41] 1 2 true) := SlF.lit (cs := [(.p (.int .i64 (IntKind.wrap .i64 a30))), v41]) (RL.cons (show dT_api_Elem.R ((⟨(IntKind.wrap .i64 a30), r36.1⟩ : T_api_Elem)) [.p (.int .i64 (IntKind.wrap .i64 a30)), v41] from (dT_api_Elem.mk h42)) RL.nil) rfl rfl true
                refine Sim.op (bldS (pt_cons (c := [.p (.int .i64 (IntKind.wrap .i64 a30)), v41]) rfl pt_nil) (by kernel_rfl : _ = some (.fz [(.p (.int .i64 (IntKind.wrap .i64 a30))), v41] 1 2 true))) ?_
                refine Sim.bd fun a44 h45 => ?_
                obtain ⟨v46, H47, e48, S49⟩ := S8.app (i := 0) (d := 89) (e := 2) (own := false) (σ := (5 :: 0 :: 1 :: 1 :: 1 :: 1 :: 1 :: 1 :: 1 :: 0 :: σ)) rfl (h43.h H7).y h45 rfl (by decide) (by decide) rfl
                refine Sim.op (e48) ?_
                exact ih x0 x1 a44 (IntKind.wrap .i64 ((IntKind.wrap .i64 (x7 + 2)) + (IntKind.wrap .i64 a33))) v9 h10 v46 H47 (S49.wk2 all_nil (all_cons ⟨[89, 89], by simp, at_mem 0 rfl⟩ all_nil))
          · refine Sim.call (limelightref1_Cut_ok x1 (S8.low h10) (IntKind.wrap .i64 (x7 + 1)) (IntKind.wrap .i64 ((IntKind.wrap .i64 (intBits .and .u8 a19 15)) + 1))) fun r50 cs51 H52 h53 q54 => ?_
            obtain ⟨v55, h56, q54⟩ := q54
            cases q54
            refine Sim.op (rfl) ?_
            refine Sim.op (rfl) ?_
            refine Sim.op (asB_p _) ?_
            refine Sim.cd (fun hc => ?_) (fun hc => ?_)
            · exact hE1 13 H7 (S8.wk2 all_nil all_nil)
            · refine Sim.op (bldV (pt_cons rfl (pt_cons h56.still.cells pt_nil)) (by kernel_rfl : _ = some (.agg [.p (.int .i64 (IntKind.wrap .i64 (Int.fdiv a16 (2 ^ 4)))), v55]))) ?_
              have h57 : SlF dT_api_Elem [((⟨(IntKind.wrap .i64 (Int.fdiv a16 (2 ^ 4))), r50.1⟩ : T_api_Elem))] (.fz [(.p (.int .i64 (IntKind.wrap .i64 (Int.fdiv a16 (2 ^ 4))))), v55] 1 2 true) := SlF.lit (cs := [(.p (.int .i64 (IntKind.wrap .i64 (Int.fdiv a16 (2 ^ 4))))), v55]) (RL.cons (show dT_api_Elem.R ((⟨(IntKind.wrap .i64 (Int.fdiv a16 (2 ^ 4))), r50.1⟩ : T_api_Elem)) [.p (.int .i64 (IntKind.wrap .i64 (Int.fdiv a16 (2 ^ 4)))), v55] from (dT_api_Elem.mk h56)) RL.nil) rfl rfl true
              refine Sim.op (bldS (pt_cons (c := [.p (.int .i64 (IntKind.wrap .i64 (Int.fdiv a16 (2 ^ 4)))), v55]) rfl pt_nil) (by kernel_rfl : _ = some (.fz [(.p (.int .i64 (IntKind.wrap .i64 (Int.fdiv a16 (2 ^ 4))))), v55] 1 2 true))) ?_
              refine Sim.bd fun a58 h59 => ?_
              obtain ⟨v60, H61, e62, S63⟩ := S8.app (i := 0) (d := 89) (e := 2) (own := false) (σ := (5 :: 0 :: 1 :: 1 :: 1 :: 1 :: 1 :: 1 :: 1 :: 0 :: σ)) rfl (h57.h H7).y h59 rfl (by decide) (by decide) rfl
              refine Sim.op (e62) ?_
              exact ih x0 x1 a58 (IntKind.wrap .i64 ((IntKind.wrap .i64 (x7 + 1)) + (IntKind.wrap .i64 ((IntKind.wrap .i64 (intBits .and .u8 a19 15)) + 1)))) v9 h10 v60 H61 (S63.wk2 all_nil (all_cons ⟨[89, 89], by simp, at_mem 0 rfl⟩ all_nil))
    · exact hE0 x6 v11 H7 (S8.wk2 all_nil (all_cons ⟨[89], by simp, at_mem 0 rfl⟩ all_nil))
theorem limelightref3_ReadElems_ok (k : Nat) {h : H} {σ : Stamp} (x0 : Int) (x1 : List Int) {u1 : V} (hu1 : SlH h (dI .u8) x1 u1) : Sim (p_limelightref3_ReadElems k x0 x1) (ev G X0 55 σ [(.p (.int .u16 x0)), u1] h) (fun r s => ∃ (v0 : V), SlF dT_api_Elem r.1 v0 ∧ s = ([.v v0, .v (.p (.int .i64 r.2))], h)) := by
  refine Sim.ev rfl (Sim.ext (limelightref3_ReadElems_entry _ _ _ _ _ _) ?_)
  rw [p_limelightref3_ReadElems]
  have S0 : Fm 97 h [] [] [] (List.replicate 97 [] :: h) := Fm.start0
  refine Sim.ch (P := fun r y => r = y) ?_ (fun b1 y2 h3 h4 => ?_)
  · refine Sim.cd (fun hc => ?_) (fun hc => ?_)
    · exact Sim.ret rfl rfl
    · exact Sim.ret rfl rfl
  subst h4
  refine Sim.cd (fun hc => ?_) (fun hc => ?_)
  · exact Sim.fin (S0.finN (lv_cons (SlF.nil dT_api_Elem).still.lv (lv_cons (still_int _ _).lv lv_nil))) ⟨(.p (.slice none 0 0)), (SlF.nil dT_api_Elem), rfl⟩
  · have S71 := S0.nil dT_api_Elem []
    refine Sim.as (limelightref3_ReadElems_l0_ok ?_ ?_ k x0 x1 (([] : List T_api_Elem)) 0 u1 hu1 (.p (.slice none 0 0)) (List.replicate 97 [] :: h) (S71.wk2 all_nil (all_cons ⟨[], by simp, at_mem 0 rfl⟩ all_nil))) 
    · intro r72_6 v75 H73 S74
      refine Sim.ext (limelightref3_ReadElems_a0_0 _ _ _ _ _) ?_
      refine Sim.op ((S74.sl (i := 0) rfl).len) ?_
      refine Sim.op (castI_p _ _) ?_
      refine Sim.cd (fun hc => ?_) (fun hc => ?_)
      · exact Sim.fin (S74.finN (lv_cons (SlF.nil dT_api_Elem).still.lv (lv_cons (still_int _ _).lv lv_nil))) ⟨(.p (.slice none 0 0)), (SlF.nil dT_api_Elem), rfl⟩
      · obtain ⟨v82, H77, e78, h80, S79⟩ := S74.expFrz (i := 0) (τ := 0 :: 1 :: σ) rfl rfl
        exact Sim.fin (S79.finE (Ex.st e78 (Ex.pl (still_int _ _).lv Ex.nil))) ⟨v82, h80, rfl⟩
    · intro r83_5 H84 S85
      refine Sim.ext (limelightref3_ReadElems_a0_ret _ _ _ _ _ _) ?_
      exact Sim.fin (S85.finN (lv_cons (SlF.nil dT_api_Elem).still.lv (lv_cons (still_int _ _).lv lv_nil))) ⟨(.p (.slice none 0 0)), (SlF.nil dT_api_Elem), rfl⟩
end Go.Ev
/- Lifted by lift.py: limelightref3_Rid as a plain function. -/
namespace Go.Ev
open Go.Proofs
set_option linter.unusedVariables false
set_option linter.unusedSimpArgs false
set_option maxRecDepth 100000
def p_limelightref3_Rid (k : Nat) (x0 : T_api_Rtp) : Option (ByteArray × Bool) :=
(p_limelightref3_ReadElems k x0.Profile x0.Ext).bind fun r11 =>
bif r11.2 != 0 then (
some (((⟨#[]⟩ : ByteArray)), false))
else (
(p_limelightref3_Find k r11.1 1).bind fun r18 =>
(bif !r18.2 then (some true) else ((p_limelightref1_Rid (strB r18.1)).bind fun r25 =>
some (!r25))).bind fun b30 =>
bif b30 then (
some (((⟨#[]⟩ : ByteArray)), false))
else (
some ((strB r18.1), true)))
theorem limelightref3_Rid_ok (k : Nat) {h : H} {σ : Stamp} (x0 : T_api_Rtp) {u0 : List V} (hu0 : dT_api_Rtp.R x0 u0) : Sim (p_limelightref3_Rid k x0) (ev G X0 27 σ [(.agg u0)] h) (fun r s => s = ([.v (.p (.string r.1)), .v (.p (.bool r.2))], h)) := by
  refine Sim.ev rfl (Sim.ext (limelightref3_Rid_entry _ _ _ _ _) ?_)
  rw [p_limelightref3_Rid]
  obtain ⟨v1, v3, v5, rfl, h2, h4, h6⟩ := dT_api_Rtp.inv hu0
  have S0 : Fm 33 h [] [] [] (List.replicate 33 [] :: h) := Fm.start0
  obtain ⟨H7, e8, S9⟩ := S0.box (own := false) (d := 1) (s := (0 :: 0 :: 0 :: σ)) (xs := [(.p (.bool x0.Marker)), (.p (.int .i64 x0.f_Type)), (.p (.int .u16 x0.Seq)), (.p (.int .u32 x0.Time)), (.p (.int .u32 x0.Ssrc)), v1, (.p (.int .u16 x0.Profile)), v3, v5]) (stills_cons (still_bool _) (stills_cons (still_int _ _) (stills_cons (still_int _ _) (stills_cons (still_int _ _) (stills_cons (still_int _ _) (stills_cons h2.still (stills_cons (still_int _ _) (stills_cons h4.still (stills_cons h6.still stills_nil))))))))) (by decide) rfl
  refine Sim.op (e8) ?_
  refine Sim.op (fA_ref _ _ _) ?_
  refine Sim.op ((S9.atG (i := 0) rfl).ld (j := 6) rfl) ?_
  refine Sim.op (castI_p _ _) ?_
  refine Sim.op (fA_ref _ _ _) ?_
  refine Sim.op ((S9.atG (i := 0) rfl).ld (j := 7) rfl) ?_
  refine Sim.call (limelightref3_ReadElems_ok k x0.Profile x0.Ext (h4.h H7)) fun r11 cs12 H13 h14 q15 => ?_
  obtain ⟨v16, h17, q15⟩ := q15
  cases q15
  refine Sim.op (rfl) ?_
  refine Sim.op (rfl) ?_
  refine Sim.op (castI_p _ _) ?_
  refine Sim.cd (fun hc => ?_) (fun hc => ?_)
  · exact Sim.fin (S9.finN (lv_cons (still_str _).lv (lv_cons (still_bool _).lv lv_nil))) rfl
  · refine Sim.call (limelightref3_Find_ok k r11.1 (h17.h H7) 1) fun r18 cs19 H20 h21 q22 => ?_
    obtain ⟨v23, h24, q22⟩ := q22
    cases q22
    refine Sim.op (rfl) ?_
    refine Sim.op (rfl) ?_
    refine Sim.op (asB_p _) ?_
    refine Sim.ch (P := fun r y => (.p (.bool r), H7) = y) ?_ (fun b30 y31 h32 h33 => ?_)
    · refine Sim.cd (fun hc => ?_) (fun hc => ?_)
      · exact Sim.ret rfl rfl
      · refine Sim.op ((h24.h H7).str) ?_
        refine Sim.op (castS_p _) ?_
        refine Sim.call (limelightref1_Rid_ok (strB r18.1)) fun r25 cs26 H27 h28 q29 => ?_
        cases q29
        refine Sim.op (asB_p _) ?_
        exact Sim.ret rfl rfl
    subst h33
    refine Sim.op (asB_p _) ?_
    refine Sim.cd (fun hc => ?_) (fun hc => ?_)
    · exact Sim.fin (S9.finN (lv_cons (still_str _).lv (lv_cons (still_bool _).lv lv_nil))) rfl
    · refine Sim.op ((h24.h H7).str) ?_
      refine Sim.op (castS_p _) ?_
      exact Sim.fin (S9.finN (lv_cons (still_str _).lv (lv_cons (still_bool _).lv lv_nil))) rfl
end Go.Ev
namespace Go.Ev
/-- The document's reading is the program's, of any bytes. -/
def isB (xs : List Int) : Prop := ∀ x ∈ xs, 0 ≤ x ∧ x < 256
theorem cut_same (xs : List Int) (a n : Int) : p_limelightref1_Cut xs a n = p_octet_Cut xs a n := rfl
theorem cut_cases {xs : List Int} {a n : Nat} (hl : xs.length < 2 ^ 39) : (p_octet_Cut xs (a : Int) (n : Int) = some ((xs.drop a).take n, true) ∧ a + n ≤ xs.length) ∨ p_octet_Cut xs (a : Int) (n : Int) = some ([], false) := by
  by_cases h : a + n ≤ xs.length
  · exact .inl ⟨cut_ok h hl, h⟩
  · exact .inr (cut_no (by omega) hl)
theorem read_same {β : Type} (kE0 : List T_api_Elem → Option β) (kE1 : Int → Option β) (p : Int) (hp : p = 48862 ∨ p = 4096) (xs : List Int) (hx : isB xs) (hl : xs.length < 2 ^ 39) : ∀ (k : Nat) (out : List T_api_Elem) (i : Nat), i ≤ xs.length → p_limelightref3_ReadElems_l0 k kE0 kE1 p xs out (i : Int) = p_ext_Read_l0 k kE0 kE1 p xs out (i : Int)
  | 0, _, _, _ => by rw [p_limelightref3_ReadElems_l0, p_ext_Read_l0]
  | k + 1, out, i, hi => by
    have ih := read_same kE0 kE1 p hp xs hx hl k
    rw [p_limelightref3_ReadElems_l0, p_ext_Read_l0]
    by_cases h : i < xs.length
    · have d1 : decide ((i : Int) < (xs.length : Int)) = true := by simp; omega
      obtain ⟨v, hv⟩ : ∃ v, xs[i]? = some v := ⟨xs[i], by simp [h]⟩
      have hvb := hx v (List.mem_of_getElem? hv)
      have hv' := ix_at hv
      have e1 : IntKind.wrap .i64 ((i : Int) + 1) = ((i + 1 : Nat) : Int) := by rw [wrap_i64 (by omega) (by omega)]; rfl
      simp only [d1, cond_true, hv', Option.bind_some]
      cases h0 : (v == 0) with
      | true => simp only [cond_true, e1]; exact ih out (i + 1) (by omega)
      | false =>
        simp only [cond_false]
        have wv : IntKind.wrap .i64 v = v := wrap_i64 (by omega) (by omega)
        rcases hp with rfl | rfl
        · -- one byte's heads
          have hn : ∃ n : Nat, IntKind.wrap .i64 ((IntKind.wrap .i64 (intBits .and .u8 v 15)) + 1) = (n : Int) ∧ n ≤ 16 := by
            have : ∀ a : Fin 256, 0 ≤ intBits .and .u8 (a.1 : Int) 15 ∧ intBits .and .u8 (a.1 : Int) 15 ≤ 15 := by decide +kernel
            have := this ⟨v.toNat, by omega⟩
            simp only [Int.toNat_of_nonneg hvb.1] at this
            generalize intBits .and .u8 v 15 = m at this
            refine ⟨(m + 1).toNat, ?_, by omega⟩
            rw [wrap_i64 (n := m) (by omega) (by omega), wrap_i64 (by omega) (by omega)]
            omega
          obtain ⟨n, hn, hn16⟩ := hn
          have hq : ∃ q, Int.fdiv v (2 ^ 4) = q ∧ IntKind.wrap .i64 q = q := by
            refine ⟨_, rfl, ?_⟩
            rw [Int.fdiv_eq_ediv_of_nonneg _ (by decide)]
            exact wrap_i64 (by omega) (by omega)
          obtain ⟨q, hq, wq⟩ := hq
          unfold p_ext_next
          simp only [show ((48862 : Int) == 48862) = true from rfl, show ((48862 : Int) == 4096) = false from rfl, cond_true, cond_false, hv', Option.bind_some, wv, hn, e1, hq, wq]
          cases h15 : (q == 15) with
          | true =>
            have : (q != 15) = false := by simp [bne, h15]
            simp only [cond_true, Option.bind_some, this]
            cases (q != 0) <;> simp
          | false =>
            have h15' : (q != 15) = true := by simp [bne, h15]
            cases hq0 : (q == 0) with
            | true =>
              have : (q != 0) = false := by simp [bne, hq0]
              simp only [cond_true, cond_false, Option.bind_some, this]
              simp
            | false =>
              have hq0' : (q != 0) = true := by simp [bne, hq0]
              simp only [cond_true, cond_false, Option.bind_some, hq0', h15', Bool.not_true, cut_same]
              rcases cut_cases (xs := xs) (a := i + 1) (n := n) hl with ⟨c, hc⟩ | c
              · rw [c, Option.bind_some, Option.bind_some]
                simp only [Bool.not_true, cond_false]
                congr 1; funext a
                have : IntKind.wrap .i64 (((i + 1 : Nat) : Int) + (n : Int)) = ((i + 1 + n : Nat) : Int) := by rw [wrap_i64 (by omega) (by omega)]; rfl
                rw [this]; exact ih a (i + 1 + n) hc
              · rw [c]; rfl
        · -- two bytes' heads
          unfold p_ext_next
          simp only [show ((4096 : Int) == 48862) = false from rfl, show ((4096 : Int) == 4096) = true from rfl, cond_false, cond_true, Option.bind_some, e1]
          by_cases h2 : i + 1 < xs.length
          · have d2 : decide (((i + 1 : Nat) : Int) ≥ (xs.length : Int)) = false := by simp; omega
            obtain ⟨u, hu⟩ : ∃ u, xs[i + 1]? = some u := ⟨xs[i + 1], by simp [h2]⟩
            have hub := hx u (List.mem_of_getElem? hu)
            have e2 : IntKind.wrap .i64 ((i : Int) + 2) = ((i + 2 : Nat) : Int) := by rw [wrap_i64 (by omega) (by omega)]; rfl
            have wu : IntKind.wrap .i64 u = u := wrap_i64 (by omega) (by omega)
            simp only [d2, cond_false, hv', ix_at hu, Option.bind_some, wu, wv, e2, cut_same, Bool.not_true]
            obtain ⟨n, rfl⟩ : ∃ n : Nat, u = (n : Int) := ⟨u.toNat, by omega⟩
            rcases cut_cases (xs := xs) (a := i + 2) (n := n) hl with ⟨c, hc⟩ | c
            · rw [c, Option.bind_some, Option.bind_some]
              simp only [Bool.not_true, cond_false]
              congr 1; funext a
              have : IntKind.wrap .i64 (((i + 2 : Nat) : Int) + (n : Int)) = ((i + 2 + n : Nat) : Int) := by rw [wrap_i64 (by omega) (by omega)]; rfl
              rw [this]; exact ih a (i + 2 + n) hc
            · rw [c]; rfl
          · have d2 : decide (((i + 1 : Nat) : Int) ≥ (xs.length : Int)) = true := by simp; omega
            simp only [d2, cond_true, hv', Option.bind_some, Bool.not_true, cond_false]
            rw [cut_no (a := i + 1) (n := xs.length) (by omega) hl]
            rfl
    · have d1 : decide ((i : Int) < (xs.length : Int)) = false := by simp; omega
      rw [d1, cond_false, cond_false]
theorem readElems_same (k : Nat) (p : Int) {xs : List Int} (hx : isB xs) (hl : xs.length < 2 ^ 39) : p_limelightref3_ReadElems k p xs = p_ext_Read k p xs := by
  unfold p_limelightref3_ReadElems p_ext_Read
  by_cases h1 : p = 48862
  · subst h1
    simp only [show ((48862 : Int) != 48862) = false from rfl, cond_false, Option.bind_some]
    exact read_same _ _ _ (.inl rfl) xs hx hl k [] 0 (by omega)
  · have : (p != 48862) = true := by simpa using h1
    simp only [this, cond_true, Option.bind_some]
    by_cases h2 : p = 4096
    · subst h2
      simp only [show ((4096 : Int) != 4096) = false from rfl, cond_false]
      exact read_same _ _ _ (.inr rfl) xs hx hl k [] 0 (by omega)
    · have : (p != 4096) = true := by simpa using h2
      simp only [this, cond_true]
def findD (l : List T_api_Elem) (id : Int) : List Int × Bool := match l.find? (fun e => e.ID == id) with | some e => (e.Data, true) | none => ([], false)
theorem findI {β : Type} (kE0 : Unit → Option β) (kE1 : Int → Option β) (l : List T_api_Elem) (hl : l.length < 2 ^ 30) (id : Int) : ∀ (mid pre : List T_api_Elem) (j : Nat), l = pre ++ mid → (∀ x ∈ mid, x.ID ≠ id) →
    p_slices_IndexFunc_Lapi_Elem_api_Elem_ext_Find_1_l0 (j + mid.length + 1) kE0 kE1 l id (l.length : Int) (pre.length : Int) = kE0 ()
  | [], pre, j, h, _ => by
    rw [p_slices_IndexFunc_Lapi_Elem_api_Elem_ext_Find_1_l0]
    have h1 : decide ((pre.length : Int) < (l.length : Int)) = false := by subst h; simp
    rw [h1, cond_false]
  | x :: mid, pre, j, h, hn => by
    rw [List.length_cons, show j + (mid.length + 1) + 1 = (j + mid.length + 1) + 1 from rfl, p_slices_IndexFunc_Lapi_Elem_api_Elem_ext_Find_1_l0]
    have h1 : decide ((pre.length : Int) < (l.length : Int)) = true := by subst h; simp; omega
    have h2 : ix l (pre.length : Int) = some x := ix_mid' h rfl
    have h3 : p_ext_Find_1 x id = some false := by simpa [p_ext_Find_1] using hn x (List.mem_cons_self ..)
    have h4 : IntKind.wrap .i64 ((pre.length : Int) + 1) = (((pre ++ [x]).length : Nat) : Int) := by
      rw [wrap_i64 (by omega) (by have : pre.length ≤ l.length := by subst h; simp
                                  omega)]
      simp
    rw [h1, cond_true, h2, Option.bind_some, h3, Option.bind_some, cond_false, h4, findI kE0 kE1 l hl id mid (pre ++ [x]) j (by rw [h]; simp) fun y hy => hn y (List.mem_cons_of_mem _ hy)]
theorem find_eq {l : List T_api_Elem} {id : Int} {k : Nat} (hl : l.length < k) (hk : l.length < 2 ^ 30) (hd : ∀ e ∈ l, e.Data.length < 2 ^ 40) : p_ext_Find k l id = some (findD l id) := by
  unfold findD
  cases hf : l.find? (fun e => e.ID == id) with
  | some e =>
    obtain ⟨h1, pre, suf, h2, h3⟩ := List.find?_eq_some_iff_append.1 hf
    have hm : e ∈ l := by rw [h2]; simp
    unfold p_ext_Find p_slices_IndexFunc_Lapi_Elem_api_Elem_ext_Find_1
    have hlen : pre.length < l.length := by subst h2; simp
    have := fun kE0 (kE1 : Int → Option Int) => find_l0 kE0 kE1 l hk id e suf (by simpa using h1) pre [] (k - pre.length - 1) (by simpa using h2) (fun x hx => by simpa using h3 x hx)
    simp only [show k - pre.length - 1 + pre.length + 1 = k by omega, List.length_nil] at this
    rw [show ((0 : Nat) : Int) = 0 from rfl] at this
    rw [this, Option.bind_some, Nat.zero_add]
    have h0 : decide (((pre.length : Nat) : Int) < 0) = false := by simp
    rw [h0, cond_false, ix_mid' h2 rfl, Option.bind_some, clone_eq (by decide) (hd e hm)]
    rfl
  | none =>
    have hn : ∀ x ∈ l, x.ID ≠ id := fun x hx => by simpa using List.find?_eq_none.1 hf x hx
    unfold p_ext_Find p_slices_IndexFunc_Lapi_Elem_api_Elem_ext_Find_1
    have := fun kE0 (kE1 : Int → Option Int) => findI kE0 kE1 l hk id l [] (k - l.length - 1) rfl hn
    simp only [show k - l.length - 1 + l.length + 1 = k by omega, List.length_nil] at this
    rw [show ((0 : Nat) : Int) = 0 from rfl] at this
    rw [this, Option.bind_some]
    rfl
theorem rfind_l0 {β : Type} (kE0 : Unit → Option β) (kE1 : List Int → Bool → Option β) (l : List T_api_Elem) (hl : l.length < 2 ^ 30) (hd : ∀ e ∈ l, e.Data.length < 2 ^ 40) (id : Int) : ∀ (rest pre : List T_api_Elem) (j : Nat), l = pre ++ rest →
    p_limelightref3_Find_l0 (j + rest.length + 1) kE0 kE1 id l (l.length : Int) (pre.length : Int) = match rest.find? (fun e => e.ID == id) with | some e => kE1 e.Data true | none => kE0 ()
  | [], pre, j, h => by
    rw [p_limelightref3_Find_l0]
    have h1 : decide ((pre.length : Int) < (l.length : Int)) = false := by subst h; simp
    rw [h1, cond_false]; rfl
  | x :: rest, pre, j, h => by
    rw [List.length_cons, show j + (rest.length + 1) + 1 = (j + rest.length + 1) + 1 from rfl, p_limelightref3_Find_l0]
    have h1 : decide ((pre.length : Int) < (l.length : Int)) = true := by subst h; simp; omega
    have h2 : ix l (pre.length : Int) = some x := ix_mid' h rfl
    have h4 : IntKind.wrap .i64 ((pre.length : Int) + 1) = (((pre ++ [x]).length : Nat) : Int) := by
      rw [wrap_i64 (by omega) (by have : pre.length ≤ l.length := by subst h; simp
                                  omega)]
      simp
    have hm : x ∈ l := by rw [h]; simp
    rw [h1, cond_true, h2, Option.bind_some]
    rw [List.find?_cons]
    cases hc : (x.ID == id) with
    | true =>
      have := hd x hm
      rw [cond_true, ap_eq (by decide) (by simpa using this)]; rfl
    | false => rw [cond_false, h4, rfind_l0 kE0 kE1 l hl hd id rest (pre ++ [x]) j (by rw [h]; simp)]
theorem rfind_eq {l : List T_api_Elem} {id : Int} {k : Nat} (hl : l.length < k) (hk : l.length < 2 ^ 30) (hd : ∀ e ∈ l, e.Data.length < 2 ^ 40) : p_limelightref3_Find k l id = some (findD l id) := by
  unfold p_limelightref3_Find findD
  have := fun kE0 (kE1 : List Int → Bool → Option (List Int × Bool)) => rfind_l0 kE0 kE1 l hk hd id l [] (k - l.length - 1) rfl
  simp only [show k - l.length - 1 + l.length + 1 = k by omega, List.length_nil] at this
  rw [show ((0 : Nat) : Int) = 0 from rfl] at this
  rw [this]
  cases l.find? (fun e => e.ID == id) <;> rfl
end Go.Ev
/- Equations, printed by tracer2.py. -/
namespace Go.Ev
open Go.Proofs
set_option linter.unusedVariables false
set_option maxRecDepth 100000
-- 21 limelight/limelightbook.Within
theorem limelightbook_Within_entry (rec : CallF) (loop : LoopV) (σ : Stamp) (x0 : Int) (x1 : Int) (x2 : Int) (h : H) : cvBody G rec loop 21 σ [(.p (.int .i64 x0)), (.p (.int .i64 x1)), (.p (.int .i64 x2))] h =
 (bif decide (x0 ≥ x1) then (some (decide (x0 ≤ x2))) else (some false)).bind fun b1 =>
 bif b1 then (
 fin false σ (List.replicate 33 [] :: h) [(.p (.int .i64 x0))])
 else (
 (remI .i64 x0 (IntKind.wrap .i64 ((IntKind.wrap .i64 (x2 - x1)) + 1))).bind fun t2 =>
 (castI .i64 t2).bind fun n3 =>
 bif decide (n3 < 0) then (
 fin false σ (List.replicate 33 [] :: h) [(.p (.int .i64 (IntKind.wrap .i64 (x1 + (IntKind.wrap .i64 ((IntKind.wrap .i64 ((IntKind.wrap .i64 (n3 + x2)) - x1)) + 1))))))])
 else (
 fin false σ (List.replicate 33 [] :: h) [(.p (.int .i64 (IntKind.wrap .i64 (x1 + n3))))])) := by kernel_rfl
end Go.Ev
/- Lifted by lift.py: limelightbook_Within as a plain function. -/
namespace Go.Ev
open Go.Proofs
set_option linter.unusedVariables false
set_option linter.unusedSimpArgs false
set_option maxRecDepth 100000
def p_limelightbook_Within (x0 : Int) (x1 : Int) (x2 : Int) : Option (Int) :=
(bif decide (x0 ≥ x1) then (some (decide (x0 ≤ x2))) else (some false)).bind fun b1 =>
bif b1 then (
some (x0))
else (
(remP x0 (IntKind.wrap .i64 ((IntKind.wrap .i64 (x2 - x1)) + 1))).bind fun n5 =>
bif decide (n5 < 0) then (
some ((IntKind.wrap .i64 (x1 + (IntKind.wrap .i64 ((IntKind.wrap .i64 ((IntKind.wrap .i64 (n5 + x2)) - x1)) + 1))))))
else (
some ((IntKind.wrap .i64 (x1 + n5)))))
theorem limelightbook_Within_ok {h : H} {σ : Stamp} (x0 : Int) (x1 : Int) (x2 : Int) : Sim (p_limelightbook_Within x0 x1 x2) (ev G X0 21 σ [(.p (.int .i64 x0)), (.p (.int .i64 x1)), (.p (.int .i64 x2))] h) (fun r s => s = ([.v (.p (.int .i64 r))], h)) := by
  refine Sim.ev rfl (Sim.ext (limelightbook_Within_entry _ _ _ _ _ _ _) ?_)
  rw [p_limelightbook_Within]
  have S0 : Fm 33 h [] [] [] (List.replicate 33 [] :: h) := Fm.start0
  refine Sim.ch (P := fun r y => r = y) ?_ (fun b1 y2 h3 h4 => ?_)
  · refine Sim.cd (fun hc => ?_) (fun hc => ?_)
    · exact Sim.ret rfl rfl
    · exact Sim.ret rfl rfl
  subst h4
  refine Sim.cd (fun hc => ?_) (fun hc => ?_)
  · exact Sim.fin (S0.finN (lv_cons (still_int _ _).lv lv_nil)) rfl
  · refine Sim.bd fun n5 h6 => ?_
    refine Sim.op (remP_ok h6) ?_
    refine Sim.op (castI_p _ _) ?_
    refine Sim.cd (fun hc => ?_) (fun hc => ?_)
    · exact Sim.fin (S0.finN (lv_cons (still_int _ _).lv lv_nil)) rfl
    · exact Sim.fin (S0.finN (lv_cons (still_int _ _).lv lv_nil)) rfl
end Go.Ev
namespace Go.Ev
theorem strB_bytesS (s : ByteArray) : strB (bytesS s) = s := by
  have : ((bytesS s).map fun n => UInt8.ofNat n.toNat).toArray = s.data := by
    unfold bytesS
    rw [List.map_map]
    have : ((fun n : Int => UInt8.ofNat n.toNat) ∘ fun b : UInt8 => (b.toNat : Int)) = id := by
      funext b; simp
    rw [this, List.map_id]
  unfold strB
  rw [this]
theorem bytesS_len (s : ByteArray) : (bytesS s).length = s.size := by unfold bytesS; rw [List.length_map, Array.length_toList]; rfl
theorem within_lo {x hi : Int} (h0 : 0 ≤ hi) (h1 : hi < 2 ^ 40) : ∃ r, p_limelightbook_Within x 0 hi = some r ∧ 0 ≤ r ∧ r ≤ hi := by
  unfold p_limelightbook_Within
  by_cases h : 0 ≤ x ∧ x ≤ hi
  · refine ⟨x, ?_, h.1, h.2⟩
    have e1 : decide (x ≥ 0) = true := by simpa using h.1
    have e2 : decide (x ≤ hi) = true := by simpa using h.2
    simp only [e1, e2, cond_true, Option.bind_some]
  · have e : ∀ (a : Bool) (b : Bool), (a && b) = false → ((bif a then (some b) else (some false)) : Option Bool) = some false := by
      intro a b; cases a <;> cases b <;> simp
    rw [e (decide (x ≥ 0)) (decide (x ≤ hi)) (by simp; omega), Option.bind_some, cond_false]
    have w1 : IntKind.wrap .i64 (IntKind.wrap .i64 (hi - 0) + 1) = hi + 1 := by
      rw [wrap_i64 (n := hi - 0) (by omega) (by omega), wrap_i64 (by omega) (by omega)]; omega
    have hb : -(hi + 1) < x.tmod (hi + 1) ∧ x.tmod (hi + 1) < hi + 1 := by
      have h1 := Int.tmod_lt_of_pos x (show 0 < hi + 1 by omega)
      have h2 := Int.neg_tmod x (hi + 1)
      have h3 := Int.tmod_lt_of_pos (-x) (show 0 < hi + 1 by omega)
      omega
    rw [w1]
    unfold remP
    rw [if_neg (by omega), Option.bind_some]
    generalize x.tmod (hi + 1) = m at hb
    by_cases hm : m < 0
    · have : decide (m < 0) = true := by simpa using hm
      rw [this, cond_true]
      refine ⟨_, rfl, ?_⟩
      rw [wrap_i64 (n := m + hi) (by omega) (by omega), wrap_i64 (n := m + hi - 0) (by omega) (by omega), wrap_i64 (n := m + hi - 0 + 1) (by omega) (by omega), wrap_i64 (by omega) (by omega)]
      omega
    · have : decide (m < 0) = false := by simpa using hm
      rw [this, cond_false]
      refine ⟨_, rfl, ?_⟩
      rw [wrap_i64 (by omega) (by omega)]
      omega
end Go.Ev
/- Equations, printed by tracer2.py. -/
namespace Go.Ev
open Go.Proofs
set_option linter.unusedVariables false
set_option maxRecDepth 100000
-- 16 (*limelight/limelightkeep.Tape).Elems
noncomputable def limelightkeep_Tape_Elems_c0 : Code := (codeAt (bodyOf Try.f16) [1, 1, 0, 1, 0, 0])
def limelightkeep_Tape_Elems_l0 : Lv := ⟨32, 16, [(0, 32)]⟩
noncomputable def limelightkeep_Tape_Elems_k0 (rec : CallF) (loop : LoopV) (σ : Stamp) : Exit → Env → H → Option (List C × H) := (kBlock 0 (kSeq G rec loop (codeAt (bodyOf Try.f16) [1, 1, 1]) ⟨16, 16, []⟩ (1 :: 1 :: 0 :: σ) (finC G false Try.f16 (1 :: σ))))
theorem limelightkeep_Tape_Elems_entry (rec : CallF) (loop : LoopV) (σ : Stamp) (x0 : V) (x1 : Bool) (h : H) : cvBody G rec loop 16 σ [x0, (.p (.bool x1))] h =
 (callO rec 51 (1 :: 0 :: 0 :: 1 :: 1 :: 0 :: σ) [x0, (.p (.int .i64 4))] (List.replicate 42 [] :: h) (some 9)).bind fun q1 =>
 (castI .i64 q1.1).bind fun n2 =>
 (loop limelightkeep_Tape_Elems_c0 limelightkeep_Tape_Elems_l0 (1 :: 0 :: 1 :: 1 :: 0 :: σ) (envL [(0, x0), (1, (.p (.bool x1))), (5, (.p (.slice .none 0 0))), (6, (.p (.int .i64 n2)))]) q1.2).bind fun r3 => limelightkeep_Tape_Elems_k0 rec loop σ r3.1 r3.2.1 r3.2.2 := by kernel_rfl
theorem limelightkeep_Tape_Elems_r0 (rec : CallF) (loop : LoopV) (σ : Stamp) (x0 : V) (x1 : Bool) (x5 : V) (x6 : Int) (h : H) : cvRound G rec loop limelightkeep_Tape_Elems_c0 limelightkeep_Tape_Elems_l0 σ (envL [(0, x0), (1, (.p (.bool x1))), (5, x5), (6, (.p (.int .i64 x6)))]) h =
 bif decide (x6 > 0) then (
 (callO rec 51 (1 :: 0 :: 0 :: 1 :: 0 :: σ) [x0, (.p (.int .i64 14))] h (some 15)).bind fun q4 =>
 (castI .i64 q4.1).bind fun n5 =>
 (callO rec 51 (4 :: 0 :: 0 :: 1 :: 0 :: σ) [x0, (.p (.int .i64 256))] q4.2 (some 18)).bind fun q6 =>
 (castI .i64 q6.1).bind fun n7 =>
 (buildSliceV Try.prog 32 1 [(0, (.p (.int .u8 (IntKind.wrap .u8 n7))))]).bind fun t8 =>
 (callO rec 52 (8 :: 0 :: 0 :: 1 :: 0 :: σ) [x0, (.p (.int .i64 9))] q6.2 (some 22)).bind fun q9 =>
 (apO true 1 1 (9 :: 0 :: 0 :: 1 :: 0 :: σ) 23 q9.2 t8 q9.1).bind fun q10 =>
 (buildV Try.prog 38 [(0, (.p (.int .i64 (IntKind.wrap .i64 (1 + n5))))), (1, q10.1)]).bind fun t11 =>
 (some (alO [.p (.int .i64 0), .p (.slice none 0 0)] (11 :: 0 :: 0 :: 1 :: 0 :: σ) 7 q10.2)).bind fun q12 =>
 ((stO false 2 (12 :: 0 :: 0 :: 1 :: 0 :: σ) q12.2 q12.1 t11).map fun h => (udf, h)).bind fun q13 =>
 (bif x1 then ((callO rec 51 (3 :: 0 :: 0 :: 1 :: 0 :: 1 :: 0 :: σ) [x0, (.p (.int .i64 3))] q13.2 (some 28)).bind fun q14 =>
 (castI .i64 q14.1).bind fun n15 =>
 some ((.p (.bool (n15 == 0))), q14.2)) else (some ((.p (.bool false)), q13.2))).bind fun q16 =>
 (asB q16.1).bind fun b17 =>
 bif b17 then (
 (callO rec 51 (1 :: 1 :: 0 :: 1 :: 0 :: 1 :: 0 :: σ) [x0, (.p (.int .i64 255))] q16.2 (some 32)).bind fun q18 =>
 (castI .i64 q18.1).bind fun n19 =>
 (callO rec 52 (4 :: 1 :: 0 :: 1 :: 0 :: 1 :: 0 :: σ) [x0, (.p (.int .i64 20))] q18.2 (some 35)).bind fun q20 =>
 (buildV Try.prog 38 [(0, (.p (.int .i64 (IntKind.wrap .i64 (1 + n19))))), (1, q20.1)]).bind fun t21 =>
 ((stO false 2 (6 :: 1 :: 0 :: 1 :: 0 :: 1 :: 0 :: σ) q20.2 q12.1 t21).map fun h => (udf, h)).bind fun q22 =>
 (ldO true 2 q22.2 q12.1).bind fun t23 =>
 (buildSliceV Try.prog 27 1 [(0, t23)]).bind fun t24 =>
 (apO false 2 32 (3 :: 1 :: 1 :: 0 :: 1 :: 0 :: σ) 40 q22.2 x5 t24).bind fun q25 =>
 loop limelightkeep_Tape_Elems_c0 limelightkeep_Tape_Elems_l0 (1 :: σ) (envL [(0, x0), (1, (.p (.bool x1))), (5, q25.1), (6, (.p (.int .i64 (IntKind.wrap .i64 (x6 - 1)))))]) q25.2)
 else (
 (ldO true 2 q16.2 q12.1).bind fun t26 =>
 (buildSliceV Try.prog 27 1 [(0, t26)]).bind fun t27 =>
 (apO false 2 32 (3 :: 1 :: 1 :: 0 :: 1 :: 0 :: σ) 40 q16.2 x5 t27).bind fun q28 =>
 loop limelightkeep_Tape_Elems_c0 limelightkeep_Tape_Elems_l0 (1 :: σ) (envL [(0, x0), (1, (.p (.bool x1))), (5, q28.1), (6, (.p (.int .i64 (IntKind.wrap .i64 (x6 - 1)))))]) q28.2))
 else (
 some ((.exit 0), (envL [(5, x5)]), h)) := by kernel_rfl
theorem limelightkeep_Tape_Elems_a0_0 (rec : CallF) (loop : LoopV) (σ : Stamp) (x5 : V) (h : H) : limelightkeep_Tape_Elems_k0 rec loop σ (.exit 0) (envL [(5, x5)]) h =
 fin false σ h [x5] := by kernel_rfl
end Go.Ev
/- Equations, printed by tracer2.py. -/
namespace Go.Ev
open Go.Proofs
set_option linter.unusedVariables false
set_option maxRecDepth 100000
-- 52 (*limelight/limelightkeep.Tape).Bytes
noncomputable def limelightkeep_Tape_Bytes_c0 : Code := (codeAt (bodyOf Try.f52) [1, 1, 0, 1, 0, 0])
def limelightkeep_Tape_Bytes_l0 : Lv := ⟨32, 16, [(0, 32)]⟩
noncomputable def limelightkeep_Tape_Bytes_k0 (rec : CallF) (loop : LoopV) (σ : Stamp) : Exit → Env → H → Option (List C × H) := (kBlock 0 (kSeq G rec loop (codeAt (bodyOf Try.f52) [1, 1, 1]) ⟨16, 16, []⟩ (1 :: 1 :: 0 :: σ) (finC G false Try.f52 (1 :: σ))))
theorem limelightkeep_Tape_Bytes_entry (rec : CallF) (loop : LoopV) (σ : Stamp) (x0 : V) (x1 : Int) (h : H) : cvBody G rec loop 52 σ [x0, (.p (.int .i64 x1))] h =
 (callO rec 51 (3 :: 0 :: 0 :: 1 :: 1 :: 0 :: σ) [x0, (.p (.int .i64 (IntKind.wrap .i64 (x1 + 1))))] (List.replicate 22 [] :: h) (some 10)).bind fun q1 =>
 (castI .i64 q1.1).bind fun n2 =>
 (loop limelightkeep_Tape_Bytes_c0 limelightkeep_Tape_Bytes_l0 (1 :: 0 :: 1 :: 1 :: 0 :: σ) (envL [(0, x0), (5, (.p (.slice .none 0 0))), (6, (.p (.int .i64 n2)))]) q1.2).bind fun r3 => limelightkeep_Tape_Bytes_k0 rec loop σ r3.1 r3.2.1 r3.2.2 := by kernel_rfl
theorem limelightkeep_Tape_Bytes_r0 (rec : CallF) (loop : LoopV) (σ : Stamp) (x0 : V) (x5 : V) (x6 : Int) (h : H) : cvRound G rec loop limelightkeep_Tape_Bytes_c0 limelightkeep_Tape_Bytes_l0 σ (envL [(0, x0), (5, x5), (6, (.p (.int .i64 x6)))]) h =
 bif decide (x6 > 0) then (
 (callO rec 51 (2 :: 0 :: 1 :: 0 :: σ) [x0, (.p (.int .i64 256))] h (some 17)).bind fun q4 =>
 (castI .i64 q4.1).bind fun n5 =>
 (buildSliceV Try.prog 32 1 [(0, (.p (.int .u8 (IntKind.wrap .u8 n5))))]).bind fun t6 =>
 (apO true 1 1 (5 :: 0 :: 1 :: 0 :: σ) 20 q4.2 x5 t6).bind fun q7 =>
 loop limelightkeep_Tape_Bytes_c0 limelightkeep_Tape_Bytes_l0 (1 :: σ) (envL [(0, x0), (5, q7.1), (6, (.p (.int .i64 (IntKind.wrap .i64 (x6 - 1)))))]) q7.2)
 else (
 some ((.exit 0), (envL [(5, x5)]), h)) := by kernel_rfl
theorem limelightkeep_Tape_Bytes_a0_0 (rec : CallF) (loop : LoopV) (σ : Stamp) (x5 : V) (h : H) : limelightkeep_Tape_Bytes_k0 rec loop σ (.exit 0) (envL [(5, x5)]) h =
 fin false σ h [x5] := by kernel_rfl
end Go.Ev
/- Equations, printed by tracer2.py. -/
namespace Go.Ev
open Go.Proofs
set_option linter.unusedVariables false
set_option maxRecDepth 100000
-- 51 (*limelight/limelightkeep.Tape).Next
theorem limelightkeep_Tape_Next_entry (rec : CallF) (loop : LoopV) (σ : Stamp) (x0 : V) (x1 : Int) (h : H) : cvBody G rec loop 51 σ [x0, (.p (.int .i64 x1))] h =
 (nilChk x0).bind fun t1 =>
 (fA t1 1).bind fun t2 =>
 (ldO false 1 (List.replicate 40 [] :: h) t2).bind fun t3 =>
 (castI .i64 t3).bind fun n4 =>
 (nilChk x0).bind fun t5 =>
 (fA t5 0).bind fun t6 =>
 (ldO false 1 (List.replicate 40 [] :: h) t6).bind fun t7 =>
 (lenO t7).bind fun t8 =>
 (castI .i64 t8).bind fun n9 =>
 (bif decide (n4 ≥ n9) then (some true) else (some (decide (x1 < 1)))).bind fun b10 =>
 bif b10 then (
 fin false σ (List.replicate 40 [] :: h) [(.p (.int .i64 0))])
 else (
 (nilChk x0).bind fun t11 =>
 (fA t11 1).bind fun t12 =>
 (ldO false 1 (List.replicate 40 [] :: h) t12).bind fun t13 =>
 (castI .i64 t13).bind fun n14 =>
 (nilChk x0).bind fun t15 =>
 (fA t15 1).bind fun t16 =>
 ((stO true 1 (7 :: 0 :: 1 :: 1 :: 0 :: σ) (List.replicate 40 [] :: h) t16 (.p (.int .i64 (IntKind.wrap .i64 (n14 + 1))))).map fun h => (udf, h)).bind fun q17 =>
 (nilChk x0).bind fun t18 =>
 (fA t18 0).bind fun t19 =>
 (ldO false 1 q17.2 t19).bind fun t20 =>
 (nilChk x0).bind fun t21 =>
 (fA t21 1).bind fun t22 =>
 (ldO false 1 q17.2 t22).bind fun t23 =>
 (castI .i64 t23).bind fun n24 =>
 (iS 1 t20 (IntKind.wrap .i64 (n24 - 1))).bind fun t25 =>
 (ldO false 1 q17.2 t25).bind fun t26 =>
 (castI .i64 t26).bind fun n27 =>
 (callO rec 21 (11 :: 0 :: 1 :: 1 :: 1 :: 0 :: σ) [(.p (.int .i64 n27)), (.p (.int .i64 0)), (.p (.int .i64 1073741824))] q17.2 (some 37)).bind fun q28 =>
 (castI .i64 q28.1).bind fun n29 =>
 (remI .i64 n29 x1).bind fun t30 =>
 (castI .i64 t30).bind fun n31 =>
 fin false σ q28.2 [(.p (.int .i64 n31))]) := by kernel_rfl
end Go.Ev
/- Lifted by lift.py: limelightkeep_Tape_Next as a plain function. -/
namespace Go.Ev
open Go.Proofs
set_option linter.unusedVariables false
set_option linter.unusedSimpArgs false
set_option maxRecDepth 100000
def p_limelightkeep_Tape_Next (x0 : T_limelightkeep_Tape) (x1 : Int) : Option (Int × T_limelightkeep_Tape) :=
(bif decide (x0.f_At ≥ ((x0.f_L.length : Int))) then (some true) else (some (decide (x1 < 1)))).bind fun b1 =>
bif b1 then (
some (0, (⟨x0.f_L, x0.f_At⟩ : T_limelightkeep_Tape)))
else (
(ix x0.f_L (IntKind.wrap .i64 ((IntKind.wrap .i64 (x0.f_At + 1)) - 1))).bind fun a8 =>
(p_limelightbook_Within a8 0 1073741824).bind fun r11 =>
(remP r11 x1).bind fun n16 =>
some (n16, (⟨x0.f_L, (IntKind.wrap .i64 (x0.f_At + 1))⟩ : T_limelightkeep_Tape)))
theorem limelightkeep_Tape_Next_ok {h : H} {σ : Stamp} (x0 : T_limelightkeep_Tape) {u0_0 : V} (hu0_0 : SlF (dI .i64) x0.f_L u0_0) {l0 : Loc} {o0 : Nat} (ha0 : AtC h l0 o0 (List.map C.v [u0_0, (.p (.int .i64 x0.f_At))])) (x1 : Int) : Sim (p_limelightkeep_Tape_Next x0 x1) (ev G X0 51 σ [(.ref l0 o0), (.p (.int .i64 x1))] h) (fun r s => ∃ (vb0_0 : V), SlF (dI .i64) r.2.f_L vb0_0 ∧ s = ([.v (.p (.int .i64 r.1))], pts h [⟨l0, o0, [.v vb0_0, .v (.p (.int .i64 r.2.f_At))]⟩])) := by
  refine Sim.ev rfl (Sim.ext (limelightkeep_Tape_Next_entry _ _ _ _ _ _) ?_)
  rw [p_limelightkeep_Tape_Next]
  have S0 : Fm 40 h [⟨l0, o0, List.map C.v [u0_0, (.p (.int .i64 x0.f_At))]⟩] [] [] (List.replicate 40 [] :: h) := Fm.start1 ha0
  refine Sim.op (nilChk_ref _ _) ?_
  refine Sim.op (fA_ref _ _ _) ?_
  refine Sim.op ((S0.atB (i := 0) rfl).ld (j := 1) rfl) ?_
  refine Sim.op (castI_p _ _) ?_
  refine Sim.op (nilChk_ref _ _) ?_
  refine Sim.op (fA_ref _ _ _) ?_
  refine Sim.op ((S0.atB (i := 0) rfl).ld (j := 0) rfl) ?_
  refine Sim.op ((hu0_0.h (List.replicate 40 [] :: h)).len) ?_
  refine Sim.op (castI_p _ _) ?_
  refine Sim.ch (P := fun r y => r = y) ?_ (fun b1 y2 h3 h4 => ?_)
  · refine Sim.cd (fun hc => ?_) (fun hc => ?_)
    · exact Sim.ret rfl rfl
    · exact Sim.ret rfl rfl
  subst h4
  refine Sim.cd (fun hc => ?_) (fun hc => ?_)
  · exact Sim.fin (S0.finN (lv_cons (still_int _ _).lv lv_nil)) ⟨u0_0, hu0_0, rfl⟩
  · refine Sim.op (nilChk_ref _ _) ?_
    refine Sim.op (fA_ref _ _ _) ?_
    refine Sim.op ((S0.atB (i := 0) rfl).ld (j := 1) rfl) ?_
    refine Sim.op (castI_p _ _) ?_
    refine Sim.op (nilChk_ref _ _) ?_
    refine Sim.op (fA_ref _ _ _) ?_
    obtain ⟨H5, e6, S7⟩ := S0.stB (i := 0) (j := 1) (own := true) (σ := (7 :: 0 :: 1 :: 1 :: 0 :: σ)) (x := (.p (.int .i64 (IntKind.wrap .i64 (x0.f_At + 1))))) rfl (still_int _ _) rfl
    refine Sim.op (st_map e6) ?_
    refine Sim.op (nilChk_ref _ _) ?_
    refine Sim.op (fA_ref _ _ _) ?_
    refine Sim.op ((S7.atB (i := 0) rfl).ld (j := 0) rfl) ?_
    refine Sim.op (nilChk_ref _ _) ?_
    refine Sim.op (fA_ref _ _ _) ?_
    refine Sim.op ((S7.atB (i := 0) rfl).ld (j := 1) rfl) ?_
    refine Sim.op (castI_p _ _) ?_
    refine Sim.bd fun a8 h9 => ?_
    refine Sim.op ((hu0_0.h H5).iS h9 rfl) ?_
    obtain ⟨_, rfl, hE10⟩ := (hu0_0.h H5).el h9 rfl
    refine Sim.op (hE10.ld (j := 0) rfl) ?_
    refine Sim.op (castI_p _ _) ?_
    refine Sim.call (limelightbook_Within_ok a8 0 1073741824) fun r11 cs12 H13 h14 q15 => ?_
    cases q15
    refine Sim.op (castI_p _ _) ?_
    refine Sim.bd fun n16 h17 => ?_
    refine Sim.op (remP_ok h17) ?_
    refine Sim.op (castI_p _ _) ?_
    exact Sim.fin (S7.finN (lv_cons (still_int _ _).lv lv_nil)) ⟨u0_0, hu0_0, rfl⟩
end Go.Ev
/- Lifted by lift.py: limelightkeep_Tape_Bytes as a plain function. -/
namespace Go.Ev
open Go.Proofs
set_option linter.unusedVariables false
set_option linter.unusedSimpArgs false
set_option maxRecDepth 100000
def p_limelightkeep_Tape_Bytes_l0 {β : Type} (k : Nat) (kE0 : (List Int) → T_limelightkeep_Tape → Option β) (x5 : (List Int)) (x6 : Int) (zp0 : T_limelightkeep_Tape) : Option β := match k with
| 0 => none
| k + 1 =>
bif decide (x6 > 0) then (
(p_limelightkeep_Tape_Next (⟨zp0.f_L, zp0.f_At⟩ : T_limelightkeep_Tape) 256).bind fun r17 =>
(ap 1 x5 ([(IntKind.wrap .u8 r17.1)])).bind fun a26 =>
p_limelightkeep_Tape_Bytes_l0 k kE0 a26 (IntKind.wrap .i64 (x6 - 1)) ((⟨r17.2.f_L, r17.2.f_At⟩ : T_limelightkeep_Tape)))
else (
kE0 x5 ((⟨zp0.f_L, zp0.f_At⟩ : T_limelightkeep_Tape)))
def p_limelightkeep_Tape_Bytes (k : Nat) (x0 : T_limelightkeep_Tape) (x1 : Int) : Option ((List Int) × T_limelightkeep_Tape) :=
(p_limelightkeep_Tape_Next (⟨x0.f_L, x0.f_At⟩ : T_limelightkeep_Tape) (IntKind.wrap .i64 (x1 + 1))).bind fun r1 =>
p_limelightkeep_Tape_Bytes_l0 k (fun r40_5 zp0 =>
some (r40_5, (⟨zp0.f_L, zp0.f_At⟩ : T_limelightkeep_Tape))) (([] : List Int)) r1.1 ((⟨r1.2.f_L, r1.2.f_At⟩ : T_limelightkeep_Tape))
theorem limelightkeep_Tape_Bytes_l0_ok {h : H} {l0 : Loc} {o0 : Nat} {β α : Type} {Q : β → α → Prop} {K : Exit × Env × H → Option α} {kE0 : (List Int) → T_limelightkeep_Tape → Option β} (hE0 : ∀ (q5 : (List Int)) (zp0 : T_limelightkeep_Tape) (v34 : V) (v36 : V) (h37 : SlF (dI .i64) zp0.f_L v36) (H32 : Go.Ev.H) (_ : Fm 22 h [⟨l0, o0, List.map C.v [v36, (.p (.int .i64 zp0.f_At))]⟩] [] [⟨[20], v34, (dI .u8), q5⟩] H32), Sim (kE0 q5 zp0) (K ((.exit 0), (envL [(5, v34)]), H32)) Q) (k : Nat) : ∀ (x5 : (List Int)) (x6 : Int) (zp0 : T_limelightkeep_Tape) (v13 : V) (v15 : V) (h16 : SlF (dI .i64) zp0.f_L v15) (H11 : Go.Ev.H) (_ : Fm 22 h [⟨l0, o0, List.map C.v [v15, (.p (.int .i64 zp0.f_At))]⟩] [] [⟨[20], v13, (dI .u8), x5⟩] H11) {σ : Stamp}, Sim (p_limelightkeep_Tape_Bytes_l0 k kE0 x5 x6 zp0) ((cvL G X0 limelightkeep_Tape_Bytes_c0 limelightkeep_Tape_Bytes_l0 σ (envL [(0, (.ref l0 o0)), (5, v13), (6, (.p (.int .i64 x6)))]) H11).bind K) Q := by
  induction k with
  | zero => intros; exact Sim.no
  | succ k ih =>
    intro x5 x6 zp0 v13 v15 h16 H11 S12 σ
    rw [p_limelightkeep_Tape_Bytes_l0]
    refine Sim.round (Sim.ext (limelightkeep_Tape_Bytes_r0 _ _ _ _ _ _ _) ?_)
    refine Sim.cd (fun hc => ?_) (fun hc => ?_)
    · refine Sim.call (limelightkeep_Tape_Next_ok (⟨zp0.f_L, zp0.f_At⟩ : T_limelightkeep_Tape) h16 (S12.atB (i := 0) rfl) 256) fun r17 cs18 H19 h20 q21 => ?_
      obtain ⟨v22, h23, q21⟩ := q21
      cases q21
      have S24 := S12.setB (i := 0) (cs := List.map C.v [v22, (.p (.int .i64 r17.2.f_At))]) rfl rfl
      refine Sim.op (castI_p _ _) ?_
      have h25 : SlF (dI .u8) [(IntKind.wrap .u8 r17.1)] (.fz [(.p (.int .u8 (IntKind.wrap .u8 r17.1)))] 1 1 true) := SlF.lit (cs := [(.p (.int .u8 (IntKind.wrap .u8 r17.1)))]) (RL.cons (show (dI .u8).R (IntKind.wrap .u8 r17.1) [(.p (.int .u8 (IntKind.wrap .u8 r17.1)))] from rfl) RL.nil) rfl rfl true
      refine Sim.op (bldS (pt_cons rfl pt_nil) (by kernel_rfl : _ = some (.fz [(.p (.int .u8 (IntKind.wrap .u8 r17.1)))] 1 1 true))) ?_
      refine Sim.bd fun a26 h27 => ?_
      obtain ⟨v28, H29, e30, S31⟩ := S24.app (i := 0) (d := 20) (e := 1) (own := true) (σ := (5 :: 0 :: 1 :: 0 :: σ)) rfl (h25.h (ptC H11 l0 o0 (List.map C.v [v22, (.p (.int .i64 r17.2.f_At))]))).y h27 rfl (by decide) (by decide) rfl
      refine Sim.op (e30) ?_
      exact ih a26 (IntKind.wrap .i64 (x6 - 1)) ((⟨r17.2.f_L, r17.2.f_At⟩ : T_limelightkeep_Tape)) v28 v22 h23 H29 (S31.wk2 all_nil (all_cons ⟨[20, 20], by simp, at_mem 0 rfl⟩ all_nil))
    · exact hE0 x5 ((⟨zp0.f_L, zp0.f_At⟩ : T_limelightkeep_Tape)) v13 v15 h16 H11 (S12.wk2 all_nil (all_cons ⟨[20], by simp, at_mem 0 rfl⟩ all_nil))
theorem limelightkeep_Tape_Bytes_ok (k : Nat) {h : H} {σ : Stamp} (x0 : T_limelightkeep_Tape) {u0_0 : V} (hu0_0 : SlF (dI .i64) x0.f_L u0_0) {l0 : Loc} {o0 : Nat} (ha0 : AtC h l0 o0 (List.map C.v [u0_0, (.p (.int .i64 x0.f_At))])) (x1 : Int) : Sim (p_limelightkeep_Tape_Bytes k x0 x1) (ev G X0 52 σ [(.ref l0 o0), (.p (.int .i64 x1))] h) (fun r s => ∃ (c0 : C), ∃ (a0 : List V), ∃ (vb0_0 : V), OwnS c0 (dI .u8).sz r.1.length a0 ∧ (dI .u8).L r.1 a0 ∧ SlF (dI .i64) r.2.f_L vb0_0 ∧ s = ([c0], pts h [⟨l0, o0, [.v vb0_0, .v (.p (.int .i64 r.2.f_At))]⟩])) := by
  refine Sim.ev rfl (Sim.ext (limelightkeep_Tape_Bytes_entry _ _ _ _ _ _) ?_)
  rw [p_limelightkeep_Tape_Bytes]
  have S0 : Fm 22 h [⟨l0, o0, List.map C.v [u0_0, (.p (.int .i64 x0.f_At))]⟩] [] [] (List.replicate 22 [] :: h) := Fm.start1 ha0
  refine Sim.call (limelightkeep_Tape_Next_ok (⟨x0.f_L, x0.f_At⟩ : T_limelightkeep_Tape) hu0_0 (S0.atB (i := 0) rfl) (IntKind.wrap .i64 (x1 + 1))) fun r1 cs2 H3 h4 q5 => ?_
  obtain ⟨v6, h7, q5⟩ := q5
  cases q5
  have S8 := S0.setB (i := 0) (cs := List.map C.v [v6, (.p (.int .i64 r1.2.f_At))]) rfl rfl
  refine Sim.op (castI_p _ _) ?_
  have S39 := S8.nil (dI .u8) []
  refine Sim.as (limelightkeep_Tape_Bytes_l0_ok ?_ k (([] : List Int)) r1.1 ((⟨r1.2.f_L, r1.2.f_At⟩ : T_limelightkeep_Tape)) (.p (.slice none 0 0)) v6 h7 (ptC (List.replicate 22 [] :: h) l0 o0 (List.map C.v [v6, (.p (.int .i64 r1.2.f_At))])) (S39.wk2 all_nil (all_cons ⟨[], by simp, at_mem 0 rfl⟩ all_nil))) 
  · intro r40_5 zp0 v43 v45 h46 H41 S42
    refine Sim.ext (limelightkeep_Tape_Bytes_a0_0 _ _ _ _ _) ?_
    obtain ⟨c52, cs53, H47, e48, h50, h51, S49⟩ := S42.expOwn (i := 0) (τ := 0 :: 1 :: σ) rfl rfl rfl
    exact Sim.fin (S49.finE (Ex.st e48 Ex.nil)) ⟨c52, cs53, v45, h50, h51, h46, rfl⟩
end Go.Ev
/- Lifted by lift.py: limelightkeep_Tape_Elems as a plain function. -/
namespace Go.Ev
open Go.Proofs
set_option linter.unusedVariables false
set_option linter.unusedSimpArgs false
set_option maxRecDepth 100000
def p_limelightkeep_Tape_Elems_l0 {β : Type} (k : Nat) (kE0 : (List T_api_Elem) → T_limelightkeep_Tape → Option β) (x1 : Bool) (x5 : (List T_api_Elem)) (x6 : Int) (zp0 : T_limelightkeep_Tape) : Option β := match k with
| 0 => none
| k + 1 =>
bif decide (x6 > 0) then (
(p_limelightkeep_Tape_Next (⟨zp0.f_L, zp0.f_At⟩ : T_limelightkeep_Tape) 14).bind fun r17 =>
(p_limelightkeep_Tape_Next (⟨r17.2.f_L, r17.2.f_At⟩ : T_limelightkeep_Tape) 256).bind fun r25 =>
(p_limelightkeep_Tape_Bytes k (⟨r25.2.f_L, r25.2.f_At⟩ : T_limelightkeep_Tape) 9).bind fun r34 =>
(ap 1 ([(IntKind.wrap .u8 r25.1)]) r34.1).bind fun a53 =>
bif x1 then ((p_limelightkeep_Tape_Next (⟨r34.2.f_L, r34.2.f_At⟩ : T_limelightkeep_Tape) 3).bind fun r78 =>
bif r78.1 == 0 then (
(p_limelightkeep_Tape_Next (⟨r78.2.f_L, r78.2.f_At⟩ : T_limelightkeep_Tape) 255).bind fun r86 =>
(p_limelightkeep_Tape_Bytes k (⟨r86.2.f_L, r86.2.f_At⟩ : T_limelightkeep_Tape) 20).bind fun r94 =>
(ap 32 x5 ([((⟨(IntKind.wrap .i64 (1 + r86.1)), r94.1⟩ : T_api_Elem))])).bind fun a121 =>
p_limelightkeep_Tape_Elems_l0 k kE0 x1 a121 (IntKind.wrap .i64 (x6 - 1)) ((⟨r94.2.f_L, r94.2.f_At⟩ : T_limelightkeep_Tape)))
else (
(ap 32 x5 ([((⟨(IntKind.wrap .i64 (1 + r17.1)), a53⟩ : T_api_Elem))])).bind fun a128 =>
p_limelightkeep_Tape_Elems_l0 k kE0 x1 a128 (IntKind.wrap .i64 (x6 - 1)) ((⟨r78.2.f_L, r78.2.f_At⟩ : T_limelightkeep_Tape)))) else (bif false then (
(p_limelightkeep_Tape_Next (⟨r34.2.f_L, r34.2.f_At⟩ : T_limelightkeep_Tape) 255).bind fun r134 =>
(p_limelightkeep_Tape_Bytes k (⟨r134.2.f_L, r134.2.f_At⟩ : T_limelightkeep_Tape) 20).bind fun r142 =>
(ap 32 x5 ([((⟨(IntKind.wrap .i64 (1 + r134.1)), r142.1⟩ : T_api_Elem))])).bind fun a169 =>
p_limelightkeep_Tape_Elems_l0 k kE0 x1 a169 (IntKind.wrap .i64 (x6 - 1)) ((⟨r142.2.f_L, r142.2.f_At⟩ : T_limelightkeep_Tape)))
else (
(ap 32 x5 ([((⟨(IntKind.wrap .i64 (1 + r17.1)), a53⟩ : T_api_Elem))])).bind fun a176 =>
p_limelightkeep_Tape_Elems_l0 k kE0 x1 a176 (IntKind.wrap .i64 (x6 - 1)) ((⟨r34.2.f_L, r34.2.f_At⟩ : T_limelightkeep_Tape)))))
else (
kE0 x5 ((⟨zp0.f_L, zp0.f_At⟩ : T_limelightkeep_Tape)))
def p_limelightkeep_Tape_Elems (k : Nat) (x0 : T_limelightkeep_Tape) (x1 : Bool) : Option ((List T_api_Elem) × T_limelightkeep_Tape) :=
(p_limelightkeep_Tape_Next (⟨x0.f_L, x0.f_At⟩ : T_limelightkeep_Tape) 4).bind fun r1 =>
p_limelightkeep_Tape_Elems_l0 k (fun r190_5 zp0 =>
some (r190_5, (⟨zp0.f_L, zp0.f_At⟩ : T_limelightkeep_Tape))) x1 (([] : List T_api_Elem)) r1.1 ((⟨r1.2.f_L, r1.2.f_At⟩ : T_limelightkeep_Tape))
theorem limelightkeep_Tape_Elems_l0_ok {h : H} {l0 : Loc} {o0 : Nat} {β α : Type} {Q : β → α → Prop} {K : Exit × Env × H → Option α} {kE0 : (List T_api_Elem) → T_limelightkeep_Tape → Option β} (hE0 : ∀ (q5 : (List T_api_Elem)) (zp0 : T_limelightkeep_Tape) (v184 : V) (v186 : V) (h187 : SlF (dI .i64) zp0.f_L v186) (H182 : Go.Ev.H) (_ : Fm 42 h [⟨l0, o0, List.map C.v [v186, (.p (.int .i64 zp0.f_At))]⟩] [] [⟨[40], v184, dT_api_Elem, q5⟩] H182), Sim (kE0 q5 zp0) (K ((.exit 0), (envL [(5, v184)]), H182)) Q) (k : Nat) : ∀ (x1 : Bool) (x5 : (List T_api_Elem)) (x6 : Int) (zp0 : T_limelightkeep_Tape) (v13 : V) (v15 : V) (h16 : SlF (dI .i64) zp0.f_L v15) (H11 : Go.Ev.H) (_ : Fm 42 h [⟨l0, o0, List.map C.v [v15, (.p (.int .i64 zp0.f_At))]⟩] [] [⟨[40], v13, dT_api_Elem, x5⟩] H11) {σ : Stamp}, Sim (p_limelightkeep_Tape_Elems_l0 k kE0 x1 x5 x6 zp0) ((cvL G X0 limelightkeep_Tape_Elems_c0 limelightkeep_Tape_Elems_l0 σ (envL [(0, (.ref l0 o0)), (1, (.p (.bool x1))), (5, v13), (6, (.p (.int .i64 x6)))]) H11).bind K) Q := by
  induction k with
  | zero => intros; exact Sim.no
  | succ k ih =>
    intro x1 x5 x6 zp0 v13 v15 h16 H11 S12 σ
    rw [p_limelightkeep_Tape_Elems_l0]
    refine Sim.round (Sim.ext (limelightkeep_Tape_Elems_r0 _ _ _ _ _ _ _ _) ?_)
    refine Sim.cd (fun hc => ?_) (fun hc => ?_)
    · refine Sim.call (limelightkeep_Tape_Next_ok (⟨zp0.f_L, zp0.f_At⟩ : T_limelightkeep_Tape) h16 (S12.atB (i := 0) rfl) 14) fun r17 cs18 H19 h20 q21 => ?_
      obtain ⟨v22, h23, q21⟩ := q21
      cases q21
      have S24 := S12.setB (i := 0) (cs := List.map C.v [v22, (.p (.int .i64 r17.2.f_At))]) rfl rfl
      refine Sim.op (castI_p _ _) ?_
      refine Sim.call (limelightkeep_Tape_Next_ok (⟨r17.2.f_L, r17.2.f_At⟩ : T_limelightkeep_Tape) h23 (S24.atB (i := 0) rfl) 256) fun r25 cs26 H27 h28 q29 => ?_
      obtain ⟨v30, h31, q29⟩ := q29
      cases q29
      have S32 := S24.setB (i := 0) (cs := List.map C.v [v30, (.p (.int .i64 r25.2.f_At))]) rfl rfl
      refine Sim.op (castI_p _ _) ?_
      have h33 : SlF (dI .u8) [(IntKind.wrap .u8 r25.1)] (.fz [(.p (.int .u8 (IntKind.wrap .u8 r25.1)))] 1 1 true) := SlF.lit (cs := [(.p (.int .u8 (IntKind.wrap .u8 r25.1)))]) (RL.cons (show (dI .u8).R (IntKind.wrap .u8 r25.1) [(.p (.int .u8 (IntKind.wrap .u8 r25.1)))] from rfl) RL.nil) rfl rfl true
      refine Sim.op (bldS (pt_cons rfl pt_nil) (by kernel_rfl : _ = some (.fz [(.p (.int .u8 (IntKind.wrap .u8 r25.1)))] 1 1 true))) ?_
      refine Sim.call (limelightkeep_Tape_Bytes_ok k (⟨r25.2.f_L, r25.2.f_At⟩ : T_limelightkeep_Tape) h31 (S32.atB (i := 0) rfl) 9) fun r34 cs35 H36 h37 q38 => ?_
      obtain ⟨c39, cs40, v43, h41, h42, h44, q38⟩ := q38
      cases q38
      have S45 := S32.setB (i := 0) (cs := List.map C.v [v43, (.p (.int .i64 r34.2.f_At))]) rfl rfl
      obtain ⟨v46, H47, e48, S49⟩ := S45.land (dt := (dI .u8)) (d := 22) (e := 0) (n := 0) h41 h42 (by decide) rfl
      erw [e48]
      have S52 := S49.lit (d := (dI .u8)) (xs := [(IntKind.wrap .u8 r25.1)]) (cs := [(.p (.int .u8 (IntKind.wrap .u8 r25.1)))]) (n := 1) (e := 1) (m := 1000001) (RL.cons (show (dI .u8).R (IntKind.wrap .u8 r25.1) [(.p (.int .u8 (IntKind.wrap .u8 r25.1)))] from rfl) RL.nil) rfl rfl (by decide)
      refine Sim.bd fun a53 h54 => ?_
      obtain ⟨v55, H56, e57, S58⟩ := S52.app (i := 0) (d := 23) (e := 1) (own := true) (σ := (9 :: 0 :: 0 :: 1 :: 0 :: σ)) rfl (S52.sl (i := 1) rfl).y h54 rfl (by decide) (by decide) rfl
      refine Sim.op (e57) ?_
      obtain ⟨v59, H60, e61, h62, S63⟩ := S58.layD (i := 0) rfl rfl
      have e64 : layCs false H56 [(.p (.int .i64 (IntKind.wrap .i64 (1 + r17.1)))), v55] = some (List.map C.v [.p (.int .i64 (IntKind.wrap .i64 (1 + r17.1))), v59], H60) := (lc_pl (still_int _ _) (lc_st e61 lc_nil))
      refine Sim.op (bldV (pt_cons rfl (pt_cons (S58.cellsD (i := 0) rfl) pt_nil)) (by kernel_rfl : _ = some (.agg [(.p (.int .i64 (IntKind.wrap .i64 (1 + r17.1)))), v55]))) ?_
      obtain ⟨H65, e66, S67⟩ := S58.al (d := 7) (s := (11 :: 0 :: 0 :: 1 :: 0 :: σ)) (z := [(.p (.int .i64 0)), (.p (.slice none 0 0))]) (by decide) rfl
      refine Sim.op (congrArg some e66) ?_
      obtain ⟨v72, H73, e74, h75, S76⟩ := S67.layD (i := 0) rfl rfl
      have e77 : layCs false H65 [(.p (.int .i64 (IntKind.wrap .i64 (1 + r17.1)))), v55] = some (List.map C.v [.p (.int .i64 (IntKind.wrap .i64 (1 + r17.1))), v72], H73) := (lc_pl (still_int _ _) (lc_st e74 lc_nil))
      obtain ⟨H69, e70, S71⟩ := Fm.stFrz (S0 := S67) (i0 := 0) (i := 0) (j := 0) (n := 2) (σ := (12 :: 0 :: 0 :: 1 :: 0 :: σ)) S76 rfl e77 rfl rfl (show List.length [(.p (.int .i64 (IntKind.wrap .i64 (1 + r17.1)))), v55] = List.length [.p (.int .i64 (IntKind.wrap .i64 (1 + r17.1))), v72] from rfl) rfl rfl
      refine Sim.op (st_map e70) ?_
      refine Sim.cdk (fun hc => ?_) (fun hc => ?_)
      · refine Sim.as ?_
        refine Sim.call (limelightkeep_Tape_Next_ok (⟨r34.2.f_L, r34.2.f_At⟩ : T_limelightkeep_Tape) h44 (S71.atB (i := 0) rfl) 3) fun r78 cs79 H80 h81 q82 => ?_
        obtain ⟨v83, h84, q82⟩ := q82
        cases q82
        have S85 := S71.setB (i := 0) (cs := List.map C.v [v83, (.p (.int .i64 r78.2.f_At))]) rfl rfl
        refine Sim.op (castI_p _ _) ?_
        refine Sim.pure ?_
        refine Sim.op (asB_p _) ?_
        refine Sim.cd (fun hc => ?_) (fun hc => ?_)
        · refine Sim.call (limelightkeep_Tape_Next_ok (⟨r78.2.f_L, r78.2.f_At⟩ : T_limelightkeep_Tape) h84 (S85.atB (i := 0) rfl) 255) fun r86 cs87 H88 h89 q90 => ?_
          obtain ⟨v91, h92, q90⟩ := q90
          cases q90
          have S93 := S85.setB (i := 0) (cs := List.map C.v [v91, (.p (.int .i64 r86.2.f_At))]) rfl rfl
          refine Sim.op (castI_p _ _) ?_
          refine Sim.call (limelightkeep_Tape_Bytes_ok k (⟨r86.2.f_L, r86.2.f_At⟩ : T_limelightkeep_Tape) h92 (S93.atB (i := 0) rfl) 20) fun r94 cs95 H96 h97 q98 => ?_
          obtain ⟨c99, cs100, v103, h101, h102, h104, q98⟩ := q98
          cases q98
          have S105 := S93.setB (i := 0) (cs := List.map C.v [v103, (.p (.int .i64 r94.2.f_At))]) rfl rfl
          obtain ⟨v106, H107, e108, S109⟩ := S105.land (dt := (dI .u8)) (d := 35) (e := 0) (n := 0) h101 h102 (by decide) rfl
          erw [e108]
          obtain ⟨v111, H112, e113, h114, S115⟩ := S109.layD (i := 0) rfl rfl
          have e116 : layCs false H107 [(.p (.int .i64 (IntKind.wrap .i64 (1 + r86.1)))), v106] = some (List.map C.v [.p (.int .i64 (IntKind.wrap .i64 (1 + r86.1))), v111], H112) := (lc_pl (still_int _ _) (lc_st e113 lc_nil))
          refine Sim.op (bldV (pt_cons rfl (pt_cons (S109.cellsD (i := 0) rfl) pt_nil)) (by kernel_rfl : _ = some (.agg [(.p (.int .i64 (IntKind.wrap .i64 (1 + r86.1)))), v106]))) ?_
          obtain ⟨H117, e118, S119⟩ := Fm.stFrz (S0 := S109) (i0 := 0) (i := 0) (j := 0) (n := 2) (σ := (6 :: 1 :: 0 :: 1 :: 0 :: 1 :: 0 :: σ)) S115 rfl e116 rfl rfl (show List.length [(.p (.int .i64 (IntKind.wrap .i64 (1 + r86.1)))), v106] = List.length [.p (.int .i64 (IntKind.wrap .i64 (1 + r86.1))), v111] from rfl) rfl rfl
          refine Sim.op (st_map e118) ?_
          refine Sim.op ((S119.atG (i := 0) rfl).ldVs (j := 0) (xs := [.p (.int .i64 (IntKind.wrap .i64 (1 + r86.1))), v111]) rfl rfl (by decide)) ?_
          have h120 : SlF dT_api_Elem [((⟨(IntKind.wrap .i64 (1 + r86.1)), r94.1⟩ : T_api_Elem))] (.fz [(.p (.int .i64 (IntKind.wrap .i64 (1 + r86.1)))), v111] 1 2 true) := SlF.lit (cs := [(.p (.int .i64 (IntKind.wrap .i64 (1 + r86.1)))), v111]) (RL.cons (show dT_api_Elem.R ((⟨(IntKind.wrap .i64 (1 + r86.1)), r94.1⟩ : T_api_Elem)) [.p (.int .i64 (IntKind.wrap .i64 (1 + r86.1))), v111] from (dT_api_Elem.mk h114)) RL.nil) rfl rfl true
          refine Sim.op (bldS (pt_cons (c := [.p (.int .i64 (IntKind.wrap .i64 (1 + r86.1))), v111]) rfl pt_nil) (by kernel_rfl : _ = some (.fz [(.p (.int .i64 (IntKind.wrap .i64 (1 + r86.1)))), v111] 1 2 true))) ?_
          refine Sim.bd fun a121 h122 => ?_
          obtain ⟨v123, H124, e125, S126⟩ := S119.app (i := 1) (d := 40) (e := 2) (own := false) (σ := (3 :: 1 :: 1 :: 0 :: 1 :: 0 :: σ)) rfl (h120.h H117).y h122 rfl (by decide) (by decide) rfl
          refine Sim.op (e125) ?_
          exact ih x1 a121 (IntKind.wrap .i64 (x6 - 1)) ((⟨r94.2.f_L, r94.2.f_At⟩ : T_limelightkeep_Tape)) v123 v103 h104 H124 (S126.wk2 all_nil (all_cons ⟨[40, 40], by simp, at_mem 1 rfl⟩ all_nil))
        · refine Sim.op ((S85.atG (i := 0) rfl).ldVs (j := 0) (xs := [.p (.int .i64 (IntKind.wrap .i64 (1 + r17.1))), v72]) rfl rfl (by decide)) ?_
          have h127 : SlF dT_api_Elem [((⟨(IntKind.wrap .i64 (1 + r17.1)), a53⟩ : T_api_Elem))] (.fz [(.p (.int .i64 (IntKind.wrap .i64 (1 + r17.1)))), v72] 1 2 true) := SlF.lit (cs := [(.p (.int .i64 (IntKind.wrap .i64 (1 + r17.1)))), v72]) (RL.cons (show dT_api_Elem.R ((⟨(IntKind.wrap .i64 (1 + r17.1)), a53⟩ : T_api_Elem)) [.p (.int .i64 (IntKind.wrap .i64 (1 + r17.1))), v72] from (dT_api_Elem.mk h75)) RL.nil) rfl rfl true
          refine Sim.op (bldS (pt_cons (c := [.p (.int .i64 (IntKind.wrap .i64 (1 + r17.1))), v72]) rfl pt_nil) (by kernel_rfl : _ = some (.fz [(.p (.int .i64 (IntKind.wrap .i64 (1 + r17.1)))), v72] 1 2 true))) ?_
          refine Sim.bd fun a128 h129 => ?_
          obtain ⟨v130, H131, e132, S133⟩ := S85.app (i := 1) (d := 40) (e := 2) (own := false) (σ := (3 :: 1 :: 1 :: 0 :: 1 :: 0 :: σ)) rfl (h127.h (ptC H69 l0 o0 (List.map C.v [v83, (.p (.int .i64 r78.2.f_At))]))).y h129 rfl (by decide) (by decide) rfl
          refine Sim.op (e132) ?_
          exact ih x1 a128 (IntKind.wrap .i64 (x6 - 1)) ((⟨r78.2.f_L, r78.2.f_At⟩ : T_limelightkeep_Tape)) v130 v83 h84 H131 (S133.wk2 all_nil (all_cons ⟨[40, 40], by simp, at_mem 1 rfl⟩ all_nil))
      · refine Sim.as ?_
        refine Sim.pure ?_
        refine Sim.op (asB_p _) ?_
        refine Sim.cd (fun hc => ?_) (fun hc => ?_)
        · refine Sim.call (limelightkeep_Tape_Next_ok (⟨r34.2.f_L, r34.2.f_At⟩ : T_limelightkeep_Tape) h44 (S71.atB (i := 0) rfl) 255) fun r134 cs135 H136 h137 q138 => ?_
          obtain ⟨v139, h140, q138⟩ := q138
          cases q138
          have S141 := S71.setB (i := 0) (cs := List.map C.v [v139, (.p (.int .i64 r134.2.f_At))]) rfl rfl
          refine Sim.op (castI_p _ _) ?_
          refine Sim.call (limelightkeep_Tape_Bytes_ok k (⟨r134.2.f_L, r134.2.f_At⟩ : T_limelightkeep_Tape) h140 (S141.atB (i := 0) rfl) 20) fun r142 cs143 H144 h145 q146 => ?_
          obtain ⟨c147, cs148, v151, h149, h150, h152, q146⟩ := q146
          cases q146
          have S153 := S141.setB (i := 0) (cs := List.map C.v [v151, (.p (.int .i64 r142.2.f_At))]) rfl rfl
          obtain ⟨v154, H155, e156, S157⟩ := S153.land (dt := (dI .u8)) (d := 35) (e := 0) (n := 0) h149 h150 (by decide) rfl
          erw [e156]
          obtain ⟨v159, H160, e161, h162, S163⟩ := S157.layD (i := 0) rfl rfl
          have e164 : layCs false H155 [(.p (.int .i64 (IntKind.wrap .i64 (1 + r134.1)))), v154] = some (List.map C.v [.p (.int .i64 (IntKind.wrap .i64 (1 + r134.1))), v159], H160) := (lc_pl (still_int _ _) (lc_st e161 lc_nil))
          refine Sim.op (bldV (pt_cons rfl (pt_cons (S157.cellsD (i := 0) rfl) pt_nil)) (by kernel_rfl : _ = some (.agg [(.p (.int .i64 (IntKind.wrap .i64 (1 + r134.1)))), v154]))) ?_
          obtain ⟨H165, e166, S167⟩ := Fm.stFrz (S0 := S157) (i0 := 0) (i := 0) (j := 0) (n := 2) (σ := (6 :: 1 :: 0 :: 1 :: 0 :: 1 :: 0 :: σ)) S163 rfl e164 rfl rfl (show List.length [(.p (.int .i64 (IntKind.wrap .i64 (1 + r134.1)))), v154] = List.length [.p (.int .i64 (IntKind.wrap .i64 (1 + r134.1))), v159] from rfl) rfl rfl
          refine Sim.op (st_map e166) ?_
          refine Sim.op ((S167.atG (i := 0) rfl).ldVs (j := 0) (xs := [.p (.int .i64 (IntKind.wrap .i64 (1 + r134.1))), v159]) rfl rfl (by decide)) ?_
          have h168 : SlF dT_api_Elem [((⟨(IntKind.wrap .i64 (1 + r134.1)), r142.1⟩ : T_api_Elem))] (.fz [(.p (.int .i64 (IntKind.wrap .i64 (1 + r134.1)))), v159] 1 2 true) := SlF.lit (cs := [(.p (.int .i64 (IntKind.wrap .i64 (1 + r134.1)))), v159]) (RL.cons (show dT_api_Elem.R ((⟨(IntKind.wrap .i64 (1 + r134.1)), r142.1⟩ : T_api_Elem)) [.p (.int .i64 (IntKind.wrap .i64 (1 + r134.1))), v159] from (dT_api_Elem.mk h162)) RL.nil) rfl rfl true
          refine Sim.op (bldS (pt_cons (c := [.p (.int .i64 (IntKind.wrap .i64 (1 + r134.1))), v159]) rfl pt_nil) (by kernel_rfl : _ = some (.fz [(.p (.int .i64 (IntKind.wrap .i64 (1 + r134.1)))), v159] 1 2 true))) ?_
          refine Sim.bd fun a169 h170 => ?_
          obtain ⟨v171, H172, e173, S174⟩ := S167.app (i := 1) (d := 40) (e := 2) (own := false) (σ := (3 :: 1 :: 1 :: 0 :: 1 :: 0 :: σ)) rfl (h168.h H165).y h170 rfl (by decide) (by decide) rfl
          refine Sim.op (e173) ?_
          exact ih x1 a169 (IntKind.wrap .i64 (x6 - 1)) ((⟨r142.2.f_L, r142.2.f_At⟩ : T_limelightkeep_Tape)) v171 v151 h152 H172 (S174.wk2 all_nil (all_cons ⟨[40, 40], by simp, at_mem 1 rfl⟩ all_nil))
        · refine Sim.op ((S71.atG (i := 0) rfl).ldVs (j := 0) (xs := [.p (.int .i64 (IntKind.wrap .i64 (1 + r17.1))), v72]) rfl rfl (by decide)) ?_
          have h175 : SlF dT_api_Elem [((⟨(IntKind.wrap .i64 (1 + r17.1)), a53⟩ : T_api_Elem))] (.fz [(.p (.int .i64 (IntKind.wrap .i64 (1 + r17.1)))), v72] 1 2 true) := SlF.lit (cs := [(.p (.int .i64 (IntKind.wrap .i64 (1 + r17.1)))), v72]) (RL.cons (show dT_api_Elem.R ((⟨(IntKind.wrap .i64 (1 + r17.1)), a53⟩ : T_api_Elem)) [.p (.int .i64 (IntKind.wrap .i64 (1 + r17.1))), v72] from (dT_api_Elem.mk h75)) RL.nil) rfl rfl true
          refine Sim.op (bldS (pt_cons (c := [.p (.int .i64 (IntKind.wrap .i64 (1 + r17.1))), v72]) rfl pt_nil) (by kernel_rfl : _ = some (.fz [(.p (.int .i64 (IntKind.wrap .i64 (1 + r17.1)))), v72] 1 2 true))) ?_
          refine Sim.bd fun a176 h177 => ?_
          obtain ⟨v178, H179, e180, S181⟩ := S71.app (i := 1) (d := 40) (e := 2) (own := false) (σ := (3 :: 1 :: 1 :: 0 :: 1 :: 0 :: σ)) rfl (h175.h H69).y h177 rfl (by decide) (by decide) rfl
          refine Sim.op (e180) ?_
          exact ih x1 a176 (IntKind.wrap .i64 (x6 - 1)) ((⟨r34.2.f_L, r34.2.f_At⟩ : T_limelightkeep_Tape)) v178 v43 h44 H179 (S181.wk2 all_nil (all_cons ⟨[40, 40], by simp, at_mem 1 rfl⟩ all_nil))
    · exact hE0 x5 ((⟨zp0.f_L, zp0.f_At⟩ : T_limelightkeep_Tape)) v13 v15 h16 H11 (S12.wk2 all_nil (all_cons ⟨[40], by simp, at_mem 0 rfl⟩ all_nil))
theorem limelightkeep_Tape_Elems_ok (k : Nat) {h : H} {σ : Stamp} (x0 : T_limelightkeep_Tape) {u0_0 : V} (hu0_0 : SlF (dI .i64) x0.f_L u0_0) {l0 : Loc} {o0 : Nat} (ha0 : AtC h l0 o0 (List.map C.v [u0_0, (.p (.int .i64 x0.f_At))])) (x1 : Bool) : Sim (p_limelightkeep_Tape_Elems k x0 x1) (ev G X0 16 σ [(.ref l0 o0), (.p (.bool x1))] h) (fun r s => ∃ (c0 : C), ∃ (a0 : List V), ∃ (vb0_0 : V), OwnS c0 dT_api_Elem.sz r.1.length a0 ∧ dT_api_Elem.L r.1 a0 ∧ SlF (dI .i64) r.2.f_L vb0_0 ∧ s = ([c0], pts h [⟨l0, o0, [.v vb0_0, .v (.p (.int .i64 r.2.f_At))]⟩])) := by
  refine Sim.ev rfl (Sim.ext (limelightkeep_Tape_Elems_entry _ _ _ _ _ _) ?_)
  rw [p_limelightkeep_Tape_Elems]
  have S0 : Fm 42 h [⟨l0, o0, List.map C.v [u0_0, (.p (.int .i64 x0.f_At))]⟩] [] [] (List.replicate 42 [] :: h) := Fm.start1 ha0
  refine Sim.call (limelightkeep_Tape_Next_ok (⟨x0.f_L, x0.f_At⟩ : T_limelightkeep_Tape) hu0_0 (S0.atB (i := 0) rfl) 4) fun r1 cs2 H3 h4 q5 => ?_
  obtain ⟨v6, h7, q5⟩ := q5
  cases q5
  have S8 := S0.setB (i := 0) (cs := List.map C.v [v6, (.p (.int .i64 r1.2.f_At))]) rfl rfl
  refine Sim.op (castI_p _ _) ?_
  have S189 := S8.nil dT_api_Elem []
  refine Sim.as (limelightkeep_Tape_Elems_l0_ok ?_ k x1 (([] : List T_api_Elem)) r1.1 ((⟨r1.2.f_L, r1.2.f_At⟩ : T_limelightkeep_Tape)) (.p (.slice none 0 0)) v6 h7 (ptC (List.replicate 42 [] :: h) l0 o0 (List.map C.v [v6, (.p (.int .i64 r1.2.f_At))])) (S189.wk2 all_nil (all_cons ⟨[], by simp, at_mem 0 rfl⟩ all_nil))) 
  · intro r190_5 zp0 v193 v195 h196 H191 S192
    refine Sim.ext (limelightkeep_Tape_Elems_a0_0 _ _ _ _ _) ?_
    obtain ⟨c202, cs203, H197, e198, h200, h201, S199⟩ := S192.expOwn (i := 0) (τ := 0 :: 1 :: σ) rfl rfl rfl
    exact Sim.fin (S199.finE (Ex.st e198 Ex.nil)) ⟨c202, cs203, v195, h200, h201, h196, rfl⟩
end Go.Ev
namespace Go.Ev
def TP (t : T_limelightkeep_Tape) : Prop := 0 ≤ t.f_At ∧ t.f_At ≤ t.f_L.length ∧ t.f_L.length < 2 ^ 50
theorem next_tape {t : T_limelightkeep_Tape} (h : TP t) {n : Int} (h1 : 1 ≤ n) : ∃ r t', p_limelightkeep_Tape_Next t n = some (r, t') ∧ (0 ≤ r ∧ r < n) ∧ TP t' := by
  obtain ⟨a1, a2, a3⟩ := h
  unfold p_limelightkeep_Tape_Next
  have e2 : decide (n < 1) = false := by simp; omega
  by_cases hc : t.f_At ≥ t.f_L.length
  · have e1 : decide (t.f_At ≥ (t.f_L.length : Int)) = true := by simpa using hc
    simp only [e1, cond_true, Option.bind_some]
    exact ⟨0, t, rfl, ⟨by omega, by omega⟩, a1, a2, a3⟩
  · have e1 : decide (t.f_At ≥ (t.f_L.length : Int)) = false := by simpa using hc
    obtain ⟨i, hi⟩ : ∃ i : Nat, t.f_At = i := ⟨t.f_At.toNat, by omega⟩
    have hlt : i < t.f_L.length := by omega
    have w1 : IntKind.wrap .i64 (t.f_At + 1) = t.f_At + 1 := wrap_i64 (by omega) (by omega)
    have w2 : IntKind.wrap .i64 (t.f_At + 1 - 1) = (i : Int) := by rw [wrap_i64 (by omega) (by omega)]; omega
    have hx : ix t.f_L (i : Int) = some t.f_L[i] := ix_at (by simp [hlt])
    obtain ⟨r, hr, r0, r1⟩ := within_lo (x := t.f_L[i]) (hi := 1073741824) (by omega) (by omega)
    simp only [e1, e2, cond_false, Option.bind_some, w1, w2, hx, hr]
    unfold remP
    rw [if_neg (by omega), Option.bind_some]
    refine ⟨_, _, rfl, ⟨Int.tmod_nonneg _ r0, Int.tmod_lt_of_pos _ (by omega)⟩, ?_⟩
    unfold TP
    simp only
    omega
theorem tape_eta (t : T_limelightkeep_Tape) : (⟨t.f_L, t.f_At⟩ : T_limelightkeep_Tape) = t := rfl
theorem tape_bytes_l0 {β : Type} (kE0 : List Int → T_limelightkeep_Tape → Option β) : ∀ (m : Nat) (j : Nat) (out : List Int) (t : T_limelightkeep_Tape), TP t → isB out → out.length + m < 1000 → m < 1000 →
    ∃ xs t', p_limelightkeep_Tape_Bytes_l0 (j + m + 1) kE0 out (m : Int) t = kE0 xs t' ∧ xs.length = out.length + m ∧ isB xs ∧ TP t'
  | 0, j, out, t, h, hb, _, _ => by
    rw [p_limelightkeep_Tape_Bytes_l0]
    have : decide (((0 : Nat) : Int) > 0) = false := by decide
    rw [this, cond_false]
    exact ⟨out, t, rfl, rfl, hb, h⟩
  | m + 1, j, out, t, h, hb, ho, hm => by
    obtain ⟨r, t1, e1, r1, h1⟩ := next_tape h (n := 256) (by omega)
    obtain ⟨xs, t2, e2, l2, b2, h2⟩ := tape_bytes_l0 kE0 m j (out ++ [r]) t1 h1 (fun x hx => by
      rcases List.mem_append.1 hx with hx | hx
      · exact hb x hx
      · simp at hx; subst hx; exact r1) (by simp; omega) (by omega)
    refine ⟨xs, t2, ?_, by rw [l2]; simp; omega, b2, h2⟩
    rw [show j + (m + 1) + 1 = (j + m + 1) + 1 from rfl, p_limelightkeep_Tape_Bytes_l0]
    have c1 : decide (((m + 1 : Nat) : Int) > 0) = true := decide_eq_true (by omega)
    have w1 : IntKind.wrap .i64 (((m + 1 : Nat) : Int) - 1) = (m : Int) := by rw [wrap_i64 (by omega) (by omega)]; omega
    rw [c1, cond_true, tape_eta, e1, Option.bind_some]
    simp only [wrap_u8 r1.1 r1.2, w1, tape_eta]
    rw [ap_eq (by decide) (by simp; omega), Option.bind_some]
    exact e2
theorem tape_bytes {t : T_limelightkeep_Tape} (h : TP t) {n k : Nat} (hn : n < 900) (hk : n + 1 ≤ k) : ∃ xs t', p_limelightkeep_Tape_Bytes k t (n : Int) = some (xs, t') ∧ xs.length ≤ n ∧ isB xs ∧ TP t' := by
  unfold p_limelightkeep_Tape_Bytes
  obtain ⟨r, t1, e1, r1, h1⟩ := next_tape h (n := (n : Int) + 1) (by omega)
  obtain ⟨m, rfl⟩ : ∃ m : Nat, r = m := ⟨r.toNat, by omega⟩
  obtain ⟨xs, t2, e2, l2, b2, h2⟩ := tape_bytes_l0 (fun a b => some (a, b)) m (k - m - 1) [] t1 h1 (fun x hx => by simp at hx) (by simp; omega) (by omega)
  rw [show k - m - 1 + m + 1 = k by omega] at e2
  refine ⟨xs, t2, ?_, by rw [l2]; simp; omega, b2, h2⟩
  rw [tape_eta, wrap_i64 (by omega) (by omega), e1, Option.bind_some]
  exact e2
def okB (two : Bool) (e : T_api_Elem) : Prop := (two = false → ok1 e) ∧ ok2 e ∧ isB e.Data
theorem tape_elems_l0 {β : Type} (kE0 : List T_api_Elem → T_limelightkeep_Tape → Option β) (two : Bool) : ∀ (m : Nat) (j : Nat) (out : List T_api_Elem) (t : T_limelightkeep_Tape), TP t → (∀ e ∈ out, okB two e) → out.length + m < 100 → 22 ≤ j →
    ∃ xs t', p_limelightkeep_Tape_Elems_l0 (j + m + 1) kE0 two out (m : Int) t = kE0 xs t' ∧ xs.length = out.length + m ∧ (∀ e ∈ xs, okB two e) ∧ TP t'
  | 0, j, out, t, h, hb, _, _ => by
    rw [p_limelightkeep_Tape_Elems_l0]
    have : decide (((0 : Nat) : Int) > 0) = false := by decide
    rw [this, cond_false]
    exact ⟨out, t, rfl, rfl, hb, h⟩
  | m + 1, j, out, t, h, hb, ho, hj => by
    obtain ⟨id, t1, e1, r1, h1⟩ := next_tape h (n := 14) (by omega)
    obtain ⟨b0, t2, e2, r2, h2⟩ := next_tape h1 (n := 256) (by omega)
    obtain ⟨bs, t3, e3, l3, b3, h3⟩ := tape_bytes h2 (n := 9) (k := j + m + 1) (by omega) (by omega)
    rw [show j + (m + 1) + 1 = (j + m + 1) + 1 from rfl, p_limelightkeep_Tape_Elems_l0]
    have c1 : decide (((m + 1 : Nat) : Int) > 0) = true := decide_eq_true (by omega)
    have w1 : IntKind.wrap .i64 (((m + 1 : Nat) : Int) - 1) = (m : Int) := by rw [wrap_i64 (by omega) (by omega)]; omega
    have w2 : IntKind.wrap .i64 (1 + id) = 1 + id := wrap_i64 (by omega) (by omega)
    have ha : ap 1 [b0] bs = some ([b0] ++ bs) := ap_eq (by decide) (by simp; omega)
    have hap : ∀ e : T_api_Elem, ap 32 out [e] = some (out ++ [e]) := fun e => ap_eq (by decide) (by simp; omega)
    have one : okB two ⟨1 + id, [b0] ++ bs⟩ := by
      have h1 : ok1 ⟨1 + id, [b0] ++ bs⟩ := by unfold ok1; simp; omega
      refine ⟨fun _ => h1, h1.ok2, fun x hx => ?_⟩
      rcases List.mem_append.1 hx with hx | hx
      · simp at hx; subst hx; exact r2
      · exact b3 x hx
    have add : ∀ e, okB two e → ∀ x ∈ out ++ [e], okB two x := fun e he x hx => by
      rcases List.mem_append.1 hx with hx | hx
      · exact hb x hx
      · simp at hx; subst hx; exact he
    simp only [c1, cond_true, cond_false, tape_eta, w1, e1, e2, Option.bind_some, wrap_u8 r2.1 r2.2]
    rw [show ((9 : Nat) : Int) = 9 from rfl] at e3
    rw [e3, Option.bind_some]
    simp only [ha, Option.bind_some, hap, w2]
    cases two with
    | false =>
      simp only [cond_false]
      obtain ⟨xs, t4, e4, l4, b4, h4⟩ := tape_elems_l0 kE0 false m j (out ++ [⟨1 + id, [b0] ++ bs⟩]) t3 h3 (add _ one) (by simp; omega) hj
      exact ⟨xs, t4, e4, by rw [l4]; simp; omega, b4, h4⟩
    | true =>
      simp only [cond_true]
      obtain ⟨q, t4, e4, r4, h4⟩ := next_tape h3 (n := 3) (by omega)
      rw [e4, Option.bind_some]
      simp only
      cases (q == 0) with
      | false =>
        simp only [cond_false]
        obtain ⟨xs, t5, e5, l5, b5, h5⟩ := tape_elems_l0 kE0 true m j (out ++ [⟨1 + id, [b0] ++ bs⟩]) t4 h4 (add _ one) (by simp; omega) hj
        exact ⟨xs, t5, e5, by rw [l5]; simp; omega, b5, h5⟩
      | true =>
        simp only [cond_true]
        obtain ⟨id2, t5, e5, r5, h5⟩ := next_tape h4 (n := 255) (by omega)
        obtain ⟨bs2, t6, e6, l6, b6, h6⟩ := tape_bytes h5 (n := 20) (k := j + m + 1) (by omega) (by omega)
        rw [show ((20 : Nat) : Int) = 20 from rfl] at e6
        have w3 : IntKind.wrap .i64 (1 + id2) = 1 + id2 := wrap_i64 (by omega) (by omega)
        rw [e5, Option.bind_some]
        simp only
        rw [e6, Option.bind_some]
        simp only [w3]
        have tw : okB true ⟨1 + id2, bs2⟩ := ⟨fun h => (by cases h), by unfold ok2; simp only; omega, b6⟩
        obtain ⟨xs, t7, e7, l7, b7, h7⟩ := tape_elems_l0 kE0 true m j (out ++ [⟨1 + id2, bs2⟩]) t6 h6 (add _ tw) (by simp; omega) hj
        exact ⟨xs, t7, e7, by rw [l7]; simp; omega, b7, h7⟩
theorem tape_elems {t : T_limelightkeep_Tape} (h : TP t) (two : Bool) {k : Nat} (hk : 30 ≤ k) : ∃ l t', p_limelightkeep_Tape_Elems k t two = some (l, t') ∧ l.length ≤ 3 ∧ (∀ e ∈ l, okB two e) ∧ TP t' := by
  unfold p_limelightkeep_Tape_Elems
  obtain ⟨r, t1, e1, r1, h1⟩ := next_tape h (n := 4) (by omega)
  obtain ⟨m, rfl⟩ : ∃ m : Nat, r = m := ⟨r.toNat, by omega⟩
  obtain ⟨xs, t2, e2, l2, b2, h2⟩ := tape_elems_l0 (fun a b => some (a, b)) two m (k - m - 1) [] t1 h1 (fun x hx => by simp at hx) (by simp; omega) (by omega)
  rw [show k - m - 1 + m + 1 = k by omega] at e2
  refine ⟨xs, t2, ?_, by rw [l2]; simp; omega, b2, h2⟩
  rw [tape_eta, e1, Option.bind_some]
  exact e2
end Go.Ev
/- Equations, printed by tracer2.py. -/
namespace Go.Ev
open Go.Proofs
set_option linter.unusedVariables false
set_option maxRecDepth 100000
-- 20 limelight/limelightlaw4.known
theorem limelightlaw4_known_entry (rec : CallF) (loop : LoopV) (σ : Stamp)  (h : H) : cvBody G rec loop 20 σ [] h =
 (buildSliceV Try.prog 32 2 [(0, (.p (.int .u8 104))), (1, (.p (.int .u8 105)))]).bind fun t1 =>
 (litS true t1).bind fun t2 =>
 (buildV Try.prog 38 [(0, (.p (.int .i64 1))), (1, t2)]).bind fun t3 =>
 (buildSliceV Try.prog 27 1 [(0, t3)]).bind fun t4 =>
 (callO rec 22 (4 :: 0 :: 1 :: 0 :: σ) [(.p (.int .u16 48862)), t4] (List.replicate 95 [] :: h) (some 20)).bind fun q5 =>
 (extV q5.1 0).bind fun t6 =>
 (extV q5.1 1).bind fun t7 =>
 (castI .i64 t7).bind fun n8 =>
 (callO rec 23 (1 :: 0 :: 1 :: 1 :: 0 :: σ) [(.p (.int .u16 48862)), t6] q5.2 (some 25)).bind fun q9 =>
 (extV q9.1 0).bind fun t10 =>
 (extV q9.1 1).bind fun t11 =>
 (castI .i64 t11).bind fun n12 =>
 (callO rec 22 (0 :: 0 :: 1 :: 1 :: 1 :: 0 :: σ) [(.p (.int .u16 0)), (.p (.slice .none 0 0))] q9.2 (some 29)).bind fun q13 =>
 (extV q13.1 0).bind fun t14 =>
 (extV q13.1 1).bind fun t15 =>
 (castI .i64 t15).bind fun n16 =>
 (callO rec 25 (1 :: 0 :: 1 :: 1 :: 1 :: 1 :: 0 :: σ) [t10, (.p (.int .i64 1))] q13.2 (some 34)).bind fun q17 =>
 (extV q17.1 0).bind fun t18 =>
 (extV q17.1 1).bind fun t19 =>
 (asB t19).bind fun b20 =>
 (callO rec 25 (0 :: 0 :: 1 :: 1 :: 1 :: 1 :: 1 :: 0 :: σ) [(.p (.slice .none 0 0)), (.p (.int .i64 1))] q17.2 (some 38)).bind fun q21 =>
 (extV q21.1 0).bind fun t22 =>
 (extV q21.1 1).bind fun t23 =>
 (asB t23).bind fun b24 =>
 (buildV Try.prog 52 [(6, (.p (.int .u16 48862))), (7, t6)]).bind fun t25 =>
 (callO rec 26 (2 :: 0 :: 1 :: 1 :: 1 :: 1 :: 1 :: 1 :: 0 :: σ) [t25] q21.2 (some 44)).bind fun q26 =>
 (extV q26.1 0).bind fun t27 =>
 (castS t27).bind fun s28 =>
 (extV q26.1 1).bind fun t29 =>
 (asB t29).bind fun b30 =>
 (buildSliceV Try.prog 32 4 [(0, (.p (.int .u8 5))), (1, (.p (.int .u8 9))), (2, (.p (.int .u8 1))), (3, (.p (.int .u8 1)))]).bind fun t31 =>
 (callO rec 23 (1 :: 0 :: 1 :: 1 :: 1 :: 1 :: 1 :: 1 :: 1 :: 0 :: σ) [(.p (.int .u16 4096)), t31] q26.2 (some 49)).bind fun q32 =>
 (extV q32.1 0).bind fun t33 =>
 (extV q32.1 1).bind fun t34 =>
 (castI .i64 t34).bind fun n35 =>
 (bif n8 == 0 then ((strO q32.2 t6).bind fun t36 =>
 (castS t36).bind fun s37 =>
 some (s37.toList == ((⟨#[17, 104, 105, 0]⟩ : ByteArray)).toList)) else (some false)).bind fun b38 =>
 (bif b38 then (some (n12 == 0)) else (some false)).bind fun b39 =>
 (bif b39 then ((lenO t10).bind fun t40 =>
 (castI .i64 t40).bind fun n41 =>
 some (n41 == 1)) else (some false)).bind fun b42 =>
 (bif b42 then (some (n16 == 1)) else (some false)).bind fun b43 =>
 (bif b43 then (some b20) else (some false)).bind fun b44 =>
 (bif b44 then ((strO q32.2 t18).bind fun t45 =>
 (castS t45).bind fun s46 =>
 some (s46.toList == ((⟨#[104, 105]⟩ : ByteArray)).toList)) else (some false)).bind fun b47 =>
 (bif b47 then (some (!b24)) else (some false)).bind fun b48 =>
 (bif b48 then (some b30) else (some false)).bind fun b49 =>
 (bif b49 then (some (s28.toList == ((⟨#[104, 105]⟩ : ByteArray)).toList)) else (some false)).bind fun b50 =>
 (bif b50 then (some (n35 == 13)) else (some false)).bind fun b51 =>
 fin false σ q32.2 [(.p (.bool b51))] := by kernel_rfl
end Go.Ev
/- Lifted by lift.py: limelightlaw4_known as a plain function. -/
namespace Go.Ev
open Go.Proofs
set_option linter.unusedVariables false
set_option linter.unusedSimpArgs false
set_option maxRecDepth 100000
def p_limelightlaw4_known (k : Nat)  : Option (Bool) :=
(p_ext_Bytes k 48862 ([((⟨1, ([104, 105])⟩ : T_api_Elem))])).bind fun r3 =>
(p_ext_Read k 48862 r3.1).bind fun r10 =>
(p_ext_Bytes k 0 (([] : List T_api_Elem))).bind fun r17 =>
(p_ext_Find k r10.1 1).bind fun r24 =>
(p_ext_Find k (([] : List T_api_Elem)) 1).bind fun r31 =>
(p_ext_Rid k ((⟨false, 0, 0, 0, 0, (([] : List Int)), 48862, r3.1, (([] : List Int))⟩ : T_api_Rtp))).bind fun r38 =>
(p_ext_Read k 4096 ([5, 9, 1, 1])).bind fun r44 =>
(bif r3.2 == 0 then (some ((strB r3.1).toList == ((⟨#[17, 104, 105, 0]⟩ : ByteArray)).toList)) else (some false)).bind fun b51 =>
(bif b51 then (some (r10.2 == 0)) else (some false)).bind fun b55 =>
(bif b55 then (some (((r10.1.length : Int)) == 1)) else (some false)).bind fun b59 =>
(bif b59 then (some (r17.2 == 1)) else (some false)).bind fun b63 =>
(bif b63 then (some r24.2) else (some false)).bind fun b67 =>
(bif b67 then (some ((strB r24.1).toList == ((⟨#[104, 105]⟩ : ByteArray)).toList)) else (some false)).bind fun b71 =>
(bif b71 then (some (!r31.2)) else (some false)).bind fun b75 =>
(bif b75 then (some r38.2) else (some false)).bind fun b79 =>
(bif b79 then (some (r38.1.toList == ((⟨#[104, 105]⟩ : ByteArray)).toList)) else (some false)).bind fun b83 =>
(bif b83 then (some (r44.2 == 13)) else (some false)).bind fun b87 =>
some (b87)
theorem limelightlaw4_known_ok (k : Nat) {h : H} {σ : Stamp}  : Sim (p_limelightlaw4_known k ) (ev G X0 20 σ [] h) (fun r s => s = ([.v (.p (.bool r))], h)) := by
  refine Sim.ev rfl (Sim.ext (limelightlaw4_known_entry _ _ _ _) ?_)
  rw [p_limelightlaw4_known]
  have S0 : Fm 95 h [] [] [] (List.replicate 95 [] :: h) := Fm.start0
  have h1 : SlF (dI .u8) [104, 105] (.fz [(.p (.int .u8 104)), (.p (.int .u8 105))] 2 1 true) := SlF.lit (cs := [(.p (.int .u8 104)), (.p (.int .u8 105))]) (RL.cons (show (dI .u8).R 104 [(.p (.int .u8 104))] from rfl) (RL.cons (show (dI .u8).R 105 [(.p (.int .u8 105))] from rfl) RL.nil)) rfl rfl true
  refine Sim.op (bldS (pt_cons rfl (pt_cons rfl pt_nil)) (by kernel_rfl : _ = some (.fz [(.p (.int .u8 104)), (.p (.int .u8 105))] 2 1 true))) ?_
  refine Sim.op (rfl) ?_
  refine Sim.op (bldV (pt_cons rfl (pt_cons h1.still.cells pt_nil)) (by kernel_rfl : _ = some (.agg [.p (.int .i64 1), .fz [(.p (.int .u8 104)), (.p (.int .u8 105))] 2 1 true]))) ?_
  have h2 : SlF dT_api_Elem [((⟨1, ([104, 105])⟩ : T_api_Elem))] (.fz [(.p (.int .i64 1)), (.fz [(.p (.int .u8 104)), (.p (.int .u8 105))] 2 1 true)] 1 2 true) := SlF.lit (cs := [(.p (.int .i64 1)), (.fz [(.p (.int .u8 104)), (.p (.int .u8 105))] 2 1 true)]) (RL.cons (show dT_api_Elem.R ((⟨1, ([104, 105])⟩ : T_api_Elem)) [.p (.int .i64 1), .fz [(.p (.int .u8 104)), (.p (.int .u8 105))] 2 1 true] from (dT_api_Elem.mk h1)) RL.nil) rfl rfl true
  refine Sim.op (bldS (pt_cons (c := [.p (.int .i64 1), .fz [(.p (.int .u8 104)), (.p (.int .u8 105))] 2 1 true]) rfl pt_nil) (by kernel_rfl : _ = some (.fz [(.p (.int .i64 1)), (.fz [(.p (.int .u8 104)), (.p (.int .u8 105))] 2 1 true)] 1 2 true))) ?_
  refine Sim.call (ext_Bytes_ok k 48862 ([((⟨1, ([104, 105])⟩ : T_api_Elem))]) (h2.h (List.replicate 95 [] :: h))) fun r3 cs4 H5 h6 q7 => ?_
  obtain ⟨v8, h9, q7⟩ := q7
  cases q7
  refine Sim.op (rfl) ?_
  refine Sim.op (rfl) ?_
  refine Sim.op (castI_p _ _) ?_
  refine Sim.call (ext_Read_ok k 48862 r3.1 (h9.h (List.replicate 95 [] :: h))) fun r10 cs11 H12 h13 q14 => ?_
  obtain ⟨v15, h16, q14⟩ := q14
  cases q14
  refine Sim.op (rfl) ?_
  refine Sim.op (rfl) ?_
  refine Sim.op (castI_p _ _) ?_
  refine Sim.call (ext_Bytes_ok k 0 (([] : List T_api_Elem)) ((SlF.nil dT_api_Elem).h (List.replicate 95 [] :: h))) fun r17 cs18 H19 h20 q21 => ?_
  obtain ⟨v22, h23, q21⟩ := q21
  cases q21
  refine Sim.op (rfl) ?_
  refine Sim.op (rfl) ?_
  refine Sim.op (castI_p _ _) ?_
  refine Sim.call (ext_Find_ok k r10.1 (h16.h (List.replicate 95 [] :: h)) 1) fun r24 cs25 H26 h27 q28 => ?_
  obtain ⟨v29, h30, q28⟩ := q28
  cases q28
  refine Sim.op (rfl) ?_
  refine Sim.op (rfl) ?_
  refine Sim.op (asB_p _) ?_
  refine Sim.call (ext_Find_ok k (([] : List T_api_Elem)) ((SlF.nil dT_api_Elem).h (List.replicate 95 [] :: h)) 1) fun r31 cs32 H33 h34 q35 => ?_
  obtain ⟨v36, h37, q35⟩ := q35
  cases q35
  refine Sim.op (rfl) ?_
  refine Sim.op (rfl) ?_
  refine Sim.op (asB_p _) ?_
  refine Sim.op (bldV (pt_cons rfl (pt_cons h9.still.cells pt_nil)) (by kernel_rfl : _ = some (.agg [.p (.bool false), .p (.int .i64 0), .p (.int .u16 0), .p (.int .u32 0), .p (.int .u32 0), .p (.slice none 0 0), .p (.int .u16 48862), v8, .p (.slice none 0 0)]))) ?_
  refine Sim.call (ext_Rid_ok k ((⟨false, 0, 0, 0, 0, (([] : List Int)), 48862, r3.1, (([] : List Int))⟩ : T_api_Rtp)) (show dT_api_Rtp.R ((⟨false, 0, 0, 0, 0, (([] : List Int)), 48862, r3.1, (([] : List Int))⟩ : T_api_Rtp)) [.p (.bool false), .p (.int .i64 0), .p (.int .u16 0), .p (.int .u32 0), .p (.int .u32 0), .p (.slice none 0 0), .p (.int .u16 48862), v8, .p (.slice none 0 0)] from (dT_api_Rtp.mk (SlF.nil (dI .u32)) h9 (SlF.nil (dI .u8))))) fun r38 cs39 H40 h41 q42 => ?_
  cases q42
  refine Sim.op (rfl) ?_
  refine Sim.op (castS_p _) ?_
  refine Sim.op (rfl) ?_
  refine Sim.op (asB_p _) ?_
  have h43 : SlF (dI .u8) [5, 9, 1, 1] (.fz [(.p (.int .u8 5)), (.p (.int .u8 9)), (.p (.int .u8 1)), (.p (.int .u8 1))] 4 1 true) := SlF.lit (cs := [(.p (.int .u8 5)), (.p (.int .u8 9)), (.p (.int .u8 1)), (.p (.int .u8 1))]) (RL.cons (show (dI .u8).R 5 [(.p (.int .u8 5))] from rfl) (RL.cons (show (dI .u8).R 9 [(.p (.int .u8 9))] from rfl) (RL.cons (show (dI .u8).R 1 [(.p (.int .u8 1))] from rfl) (RL.cons (show (dI .u8).R 1 [(.p (.int .u8 1))] from rfl) RL.nil)))) rfl rfl true
  refine Sim.op (bldS (pt_cons rfl (pt_cons rfl (pt_cons rfl (pt_cons rfl pt_nil)))) (by kernel_rfl : _ = some (.fz [(.p (.int .u8 5)), (.p (.int .u8 9)), (.p (.int .u8 1)), (.p (.int .u8 1))] 4 1 true))) ?_
  refine Sim.call (ext_Read_ok k 4096 ([5, 9, 1, 1]) (h43.h (List.replicate 95 [] :: h))) fun r44 cs45 H46 h47 q48 => ?_
  obtain ⟨v49, h50, q48⟩ := q48
  cases q48
  refine Sim.op (rfl) ?_
  refine Sim.op (rfl) ?_
  refine Sim.op (castI_p _ _) ?_
  refine Sim.ch (P := fun r y => r = y) ?_ (fun b51 y52 h53 h54 => ?_)
  · refine Sim.cd (fun hc => ?_) (fun hc => ?_)
    · refine Sim.op ((h9.h (List.replicate 95 [] :: h)).str) ?_
      refine Sim.op (castS_p _) ?_
      exact Sim.ret rfl rfl
    · exact Sim.ret rfl rfl
  subst h54
  refine Sim.ch (P := fun r y => r = y) ?_ (fun b55 y56 h57 h58 => ?_)
  · refine Sim.cd (fun hc => ?_) (fun hc => ?_)
    · exact Sim.ret rfl rfl
    · exact Sim.ret rfl rfl
  subst h58
  refine Sim.ch (P := fun r y => r = y) ?_ (fun b59 y60 h61 h62 => ?_)
  · refine Sim.cd (fun hc => ?_) (fun hc => ?_)
    · refine Sim.op ((h16.h (List.replicate 95 [] :: h)).len) ?_
      refine Sim.op (castI_p _ _) ?_
      exact Sim.ret rfl rfl
    · exact Sim.ret rfl rfl
  subst h62
  refine Sim.ch (P := fun r y => r = y) ?_ (fun b63 y64 h65 h66 => ?_)
  · refine Sim.cd (fun hc => ?_) (fun hc => ?_)
    · exact Sim.ret rfl rfl
    · exact Sim.ret rfl rfl
  subst h66
  refine Sim.ch (P := fun r y => r = y) ?_ (fun b67 y68 h69 h70 => ?_)
  · refine Sim.cd (fun hc => ?_) (fun hc => ?_)
    · exact Sim.ret rfl rfl
    · exact Sim.ret rfl rfl
  subst h70
  refine Sim.ch (P := fun r y => r = y) ?_ (fun b71 y72 h73 h74 => ?_)
  · refine Sim.cd (fun hc => ?_) (fun hc => ?_)
    · refine Sim.op ((h30.h (List.replicate 95 [] :: h)).str) ?_
      refine Sim.op (castS_p _) ?_
      exact Sim.ret rfl rfl
    · exact Sim.ret rfl rfl
  subst h74
  refine Sim.ch (P := fun r y => r = y) ?_ (fun b75 y76 h77 h78 => ?_)
  · refine Sim.cd (fun hc => ?_) (fun hc => ?_)
    · exact Sim.ret rfl rfl
    · exact Sim.ret rfl rfl
  subst h78
  refine Sim.ch (P := fun r y => r = y) ?_ (fun b79 y80 h81 h82 => ?_)
  · refine Sim.cd (fun hc => ?_) (fun hc => ?_)
    · exact Sim.ret rfl rfl
    · exact Sim.ret rfl rfl
  subst h82
  refine Sim.ch (P := fun r y => r = y) ?_ (fun b83 y84 h85 h86 => ?_)
  · refine Sim.cd (fun hc => ?_) (fun hc => ?_)
    · exact Sim.ret rfl rfl
    · exact Sim.ret rfl rfl
  subst h86
  refine Sim.ch (P := fun r y => r = y) ?_ (fun b87 y88 h89 h90 => ?_)
  · refine Sim.cd (fun hc => ?_) (fun hc => ?_)
    · exact Sim.ret rfl rfl
    · exact Sim.ret rfl rfl
  subst h90
  exact Sim.fin (S0.finN (lv_cons (still_bool _).lv lv_nil)) rfl
end Go.Ev
namespace Go.Ev
set_option maxRecDepth 100000
theorem known4 : p_limelightlaw4_known 40 = some true := by kernel_rfl
end Go.Ev
/- Equations, printed by tracer2.py. -/
namespace Go.Ev
open Go.Proofs
set_option linter.unusedVariables false
set_option maxRecDepth 100000
-- 5 limelight/limelightlaw4.ExtBack
noncomputable def limelightlaw4_ExtBack_c0 : Code := (codeAt (bodyOf Try.f5) [1, 1, 1, 1, 1, 1, 1, 1, 0, 1, 0, 0])
def limelightlaw4_ExtBack_l0 : Lv := ⟨258, 64, [(0, 258)]⟩
noncomputable def limelightlaw4_ExtBack_k0 (rec : CallF) (loop : LoopV) (σ : Stamp) : Exit → Env → H → Option (List C × H) := (kBlock 0 (kSeq G rec loop (codeAt (bodyOf Try.f5) [1, 1, 1, 1, 1, 1, 1, 1, 1]) ⟨64, 64, []⟩ (1 :: 1 :: 1 :: 1 :: 1 :: 1 :: 1 :: 1 :: 0 :: σ) (finC G false Try.f5 (1 :: σ))))
noncomputable def limelightlaw4_ExtBack_c1 : Code := (codeAt (bodyOf Try.f5) [1, 1, 1, 1, 1, 1, 1, 1, 0, 1, 0, 0, 1, 0, 0, 1, 1, 0, 1, 0, 0])
def limelightlaw4_ExtBack_l1 : Lv := ⟨246018, 64, [(2, 246018), (1, 16642), (0, 258)]⟩
noncomputable def limelightlaw4_ExtBack_k1 (rec : CallF) (loop : LoopV) (σ : Stamp) : Exit → Env → H → Option (Exit × Env × H) := (kBlock 2 (kSeq G rec loop (codeAt (bodyOf Try.f5) [1, 1, 1, 1, 1, 1, 1, 1, 0, 1, 0, 0, 1, 0, 0, 1, 1, 1]) ⟨16642, 64, [(1, 16642), (0, 258)]⟩ (1 :: 1 :: 0 :: 1 :: 0 :: σ) (kBlock 1 (kSeq G rec loop (codeAt (bodyOf Try.f5) [1, 1, 1, 1, 1, 1, 1, 1, 0, 1, 0, 0, 1, 1]) ⟨16642, 64, [(0, 258)]⟩ (1 :: 0 :: σ) (kRound loop (codeAt (bodyOf Try.f5) [1, 1, 1, 1, 1, 1, 1, 1, 0, 1, 0, 0]) ⟨258, 64, [(0, 258)]⟩ σ)))))
theorem limelightlaw4_ExtBack_entry (rec : CallF) (loop : LoopV) (σ : Stamp) (x0 : V) (x1 : ByteArray) (x2 : Bool) (h : H) : cvBody G rec loop 5 σ [x0, (.p (.string x1)), (.p (.bool x2))] h =
 (buildV Try.prog 26 [(0, x0)]).bind fun t1 =>
 (boxO false (2 :: 0 :: 1 :: 0 :: σ) 27 (List.replicate 163 [] :: h) t1).bind fun q2 =>
 (callO rec 16 (2 :: 0 :: 1 :: 1 :: 0 :: σ) [q2.1, (.p (.bool x2))] q2.2 (some 30)).bind fun q3 =>
 bif x2 then (
 (callO rec 22 (2 :: 0 :: 1 :: 1 :: 1 :: 1 :: 1 :: 0 :: σ) [(.p (.int .u16 4096)), q3.1] q3.2 (some 35)).bind fun q4 =>
 (extV q4.1 0).bind fun t5 =>
 (extV q4.1 1).bind fun t6 =>
 (castI .i64 t6).bind fun n7 =>
 (callO rec 23 (2 :: 0 :: 1 :: 1 :: 1 :: 1 :: 1 :: 1 :: 0 :: σ) [(.p (.int .u16 4096)), t5] q4.2 (some 41)).bind fun q8 =>
 (extV q8.1 0).bind fun t9 =>
 (extV q8.1 1).bind fun t10 =>
 (castI .i64 t10).bind fun n11 =>
 (bif n7 != 0 then (some true) else (some (n11 != 0))).bind fun b12 =>
 (bif b12 then (some ((.p (.bool true)), q8.2)) else ((callO rec 24 (9 :: 0 :: 0 :: 1 :: 1 :: 1 :: 1 :: 1 :: 1 :: 1 :: 0 :: σ) [q3.1, t9] q8.2 (some 53)).bind fun q13 =>
 (asB q13.1).bind fun b14 =>
 some ((.p (.bool (!b14))), q13.2))).bind fun q15 =>
 (asB q15.1).bind fun b16 =>
 (bif b16 then (some true) else ((lenO t5).bind fun t17 =>
 (castI .i64 t17).bind fun n18 =>
 some ((Int.tmod n18 4) != 0))).bind fun b19 =>
 bif b19 then (
 fin false σ q15.2 [(.p (.bool false))])
 else (
 (lenO q3.1).bind fun t20 =>
 (castI .i64 t20).bind fun n21 =>
 (loop limelightlaw4_ExtBack_c0 limelightlaw4_ExtBack_l0 (1 :: 0 :: 1 :: 1 :: 1 :: 1 :: 1 :: 1 :: 1 :: 1 :: 0 :: σ) (envL [(1, (.p (.string x1))), (8, q3.1), (14, (.p (.int .i64 (IntKind.wrap .i64 (n21 - 1)))))]) q15.2).bind fun r22 => limelightlaw4_ExtBack_k0 rec loop σ r22.1 r22.2.1 r22.2.2))
 else (
 (callO rec 22 (2 :: 0 :: 1 :: 1 :: 1 :: 1 :: 1 :: 0 :: σ) [(.p (.int .u16 48862)), q3.1] q3.2 (some 35)).bind fun q23 =>
 (extV q23.1 0).bind fun t24 =>
 (extV q23.1 1).bind fun t25 =>
 (castI .i64 t25).bind fun n26 =>
 (callO rec 23 (2 :: 0 :: 1 :: 1 :: 1 :: 1 :: 1 :: 1 :: 0 :: σ) [(.p (.int .u16 48862)), t24] q23.2 (some 41)).bind fun q27 =>
 (extV q27.1 0).bind fun t28 =>
 (extV q27.1 1).bind fun t29 =>
 (castI .i64 t29).bind fun n30 =>
 (bif n26 != 0 then (some true) else (some (n30 != 0))).bind fun b31 =>
 (bif b31 then (some ((.p (.bool true)), q27.2)) else ((callO rec 24 (9 :: 0 :: 0 :: 1 :: 1 :: 1 :: 1 :: 1 :: 1 :: 1 :: 0 :: σ) [q3.1, t28] q27.2 (some 53)).bind fun q32 =>
 (asB q32.1).bind fun b33 =>
 some ((.p (.bool (!b33))), q32.2))).bind fun q34 =>
 (asB q34.1).bind fun b35 =>
 (bif b35 then (some true) else ((lenO t24).bind fun t36 =>
 (castI .i64 t36).bind fun n37 =>
 some ((Int.tmod n37 4) != 0))).bind fun b38 =>
 bif b38 then (
 fin false σ q34.2 [(.p (.bool false))])
 else (
 (lenO q3.1).bind fun t39 =>
 (castI .i64 t39).bind fun n40 =>
 (loop limelightlaw4_ExtBack_c0 limelightlaw4_ExtBack_l0 (1 :: 0 :: 1 :: 1 :: 1 :: 1 :: 1 :: 1 :: 1 :: 1 :: 0 :: σ) (envL [(1, (.p (.string x1))), (8, q3.1), (14, (.p (.int .i64 (IntKind.wrap .i64 (n40 - 1)))))]) q34.2).bind fun r41 => limelightlaw4_ExtBack_k0 rec loop σ r41.1 r41.2.1 r41.2.2)) := by kernel_rfl
theorem limelightlaw4_ExtBack_r0 (rec : CallF) (loop : LoopV) (σ : Stamp) (x1 : ByteArray) (x8 : V) (x14 : Int) (h : H) : cvRound G rec loop limelightlaw4_ExtBack_c0 limelightlaw4_ExtBack_l0 σ (envL [(1, (.p (.string x1))), (8, x8), (14, (.p (.int .i64 x14)))]) h =
 bif decide (x14 ≥ 0) then (
 (iS 2 x8 x14).bind fun t42 =>
 (fA t42 0).bind fun t43 =>
 (ldO false 1 h t43).bind fun t44 =>
 (castI .i64 t44).bind fun n45 =>
 (callO rec 25 (6 :: 0 :: 0 :: 1 :: 0 :: σ) [x8, (.p (.int .i64 n45))] h (some 76)).bind fun q46 =>
 (extV q46.1 0).bind fun t47 =>
 (extV q46.1 1).bind fun t48 =>
 (asB t48).bind fun b49 =>
 (slS 2 x8 none (some x14) none).bind fun t50 =>
 (lenO t50).bind fun t51 =>
 (castI .i64 t51).bind fun n52 =>
 (loop limelightlaw4_ExtBack_c1 limelightlaw4_ExtBack_l1 (1 :: 0 :: 1 :: 1 :: 0 :: 1 :: 0 :: σ) (envL [(1, (.p (.string x1))), (8, x8), (14, (.p (.int .i64 x14))), (15, t47), (16, (.p (.bool b49))), (17, (.p (.int .i64 x14))), (83, (.p (.int .i64 n52))), (84, (.p (.int .i64 0)))]) q46.2).bind fun r53 => limelightlaw4_ExtBack_k1 rec loop σ r53.1 r53.2.1 r53.2.2)
 else (
 some ((.exit 0), (envL [(1, (.p (.string x1))), (8, x8)]), h)) := by kernel_rfl
theorem limelightlaw4_ExtBack_a0_0 (rec : CallF) (loop : LoopV) (σ : Stamp) (x1 : ByteArray) (x8 : V) (h : H) : limelightlaw4_ExtBack_k0 rec loop σ (.exit 0) (envL [(1, (.p (.string x1))), (8, x8)]) h =
 bif decide (((x1.size : Int)) > 20) then (
 (slStr x1 none (some 20)).bind fun t54 =>
 (binV Try.prog h .eql 9 t54 (.p (.string ((⟨#[]⟩ : ByteArray))))).bind fun t55 =>
 (asB t55).bind fun b56 =>
 bif b56 then (
 (buildV Try.prog 38 [(0, (.p (.int .i64 1))), (1, (.fz (((⟨#[97]⟩ : ByteArray)).data.toList.map fun b => .p (.int .u8 b.toNat)) ((⟨#[97]⟩ : ByteArray)).size 1 false))]).bind fun t57 =>
 (buildSliceV Try.prog 27 1 [(0, t57)]).bind fun t58 =>
 (apO false 2 32 (5 :: 0 :: 1 :: 1 :: 1 :: 1 :: 1 :: 1 :: 1 :: 1 :: 1 :: 1 :: 1 :: 0 :: σ) 128 h t58 x8).bind fun q59 =>
 (callO rec 22 (6 :: 0 :: 1 :: 1 :: 1 :: 1 :: 1 :: 1 :: 1 :: 1 :: 1 :: 1 :: 1 :: 0 :: σ) [(.p (.int .u16 4096)), q59.1] q59.2 (some 129)).bind fun q60 =>
 (extV q60.1 0).bind fun t61 =>
 (extV q60.1 1).bind fun t62 =>
 (castI .i64 t62).bind fun n63 =>
 (buildV Try.prog 52 [(6, (.p (.int .u16 4096))), (7, t61)]).bind fun t64 =>
 (callO rec 26 (2 :: 0 :: 1 :: 1 :: 1 :: 1 :: 1 :: 1 :: 1 :: 1 :: 1 :: 1 :: 1 :: 1 :: 0 :: σ) [t64] q60.2 (some 135)).bind fun q65 =>
 (extV q65.1 0).bind fun t66 =>
 (castS t66).bind fun s67 =>
 (extV q65.1 1).bind fun t68 =>
 (asB t68).bind fun b69 =>
 (buildV Try.prog 52 [(6, (.p (.int .u16 4096))), (7, t61)]).bind fun t70 =>
 (callO rec 27 (2 :: 0 :: 1 :: 1 :: 1 :: 1 :: 1 :: 1 :: 1 :: 1 :: 1 :: 1 :: 1 :: 1 :: 1 :: 0 :: σ) [t70] q65.2 (some 141)).bind fun q71 =>
 (extV q71.1 0).bind fun t72 =>
 (castS t72).bind fun s73 =>
 (extV q71.1 1).bind fun t74 =>
 (asB t74).bind fun b75 =>
 (bif n63 == 0 then (some (b69 == b75)) else (some false)).bind fun b76 =>
 (bif b76 then ((bif !b69 then (some true) else (some (s67.toList == ((⟨#[97]⟩ : ByteArray)).toList))).bind fun b77 =>
 some b77) else (some false)).bind fun b78 =>
 (bif b78 then ((callO rec 20 (17 :: 0 :: 1 :: 1 :: 1 :: 1 :: 1 :: 1 :: 1 :: 1 :: 1 :: 1 :: 1 :: 1 :: 1 :: 1 :: 0 :: σ) [] q71.2 (some 161)).bind fun q79 =>
 (asB q79.1).bind fun b80 =>
 some ((.p (.bool b80)), q79.2)) else (some ((.p (.bool false)), q71.2))).bind fun q81 =>
 (asB q81.1).bind fun b82 =>
 fin false σ q81.2 [(.p (.bool b82))])
 else (
 (convV Try.prog h 9 32 t54).bind fun t83 =>
 (buildV Try.prog 38 [(0, (.p (.int .i64 1))), (1, t83)]).bind fun t84 =>
 (buildSliceV Try.prog 27 1 [(0, t84)]).bind fun t85 =>
 (apO false 2 32 (5 :: 0 :: 1 :: 1 :: 1 :: 1 :: 1 :: 1 :: 1 :: 1 :: 1 :: 1 :: 1 :: 0 :: σ) 128 h t85 x8).bind fun q86 =>
 (callO rec 22 (6 :: 0 :: 1 :: 1 :: 1 :: 1 :: 1 :: 1 :: 1 :: 1 :: 1 :: 1 :: 1 :: 0 :: σ) [(.p (.int .u16 4096)), q86.1] q86.2 (some 129)).bind fun q87 =>
 (extV q87.1 0).bind fun t88 =>
 (extV q87.1 1).bind fun t89 =>
 (castI .i64 t89).bind fun n90 =>
 (buildV Try.prog 52 [(6, (.p (.int .u16 4096))), (7, t88)]).bind fun t91 =>
 (callO rec 26 (2 :: 0 :: 1 :: 1 :: 1 :: 1 :: 1 :: 1 :: 1 :: 1 :: 1 :: 1 :: 1 :: 1 :: 0 :: σ) [t91] q87.2 (some 135)).bind fun q92 =>
 (extV q92.1 0).bind fun t93 =>
 (castS t93).bind fun s94 =>
 (extV q92.1 1).bind fun t95 =>
 (asB t95).bind fun b96 =>
 (buildV Try.prog 52 [(6, (.p (.int .u16 4096))), (7, t88)]).bind fun t97 =>
 (callO rec 27 (2 :: 0 :: 1 :: 1 :: 1 :: 1 :: 1 :: 1 :: 1 :: 1 :: 1 :: 1 :: 1 :: 1 :: 1 :: 0 :: σ) [t97] q92.2 (some 141)).bind fun q98 =>
 (extV q98.1 0).bind fun t99 =>
 (castS t99).bind fun s100 =>
 (extV q98.1 1).bind fun t101 =>
 (asB t101).bind fun b102 =>
 (bif n90 == 0 then (some (b96 == b102)) else (some false)).bind fun b103 =>
 (bif b103 then ((bif !b96 then (some true) else ((binV Try.prog q98.2 .eql 9 (.p (.string s94)) t54).bind fun t104 =>
 (asB t104).bind fun b105 =>
 some b105)).bind fun b106 =>
 some b106) else (some false)).bind fun b107 =>
 (bif b107 then ((callO rec 20 (17 :: 0 :: 1 :: 1 :: 1 :: 1 :: 1 :: 1 :: 1 :: 1 :: 1 :: 1 :: 1 :: 1 :: 1 :: 1 :: 0 :: σ) [] q98.2 (some 161)).bind fun q108 =>
 (asB q108.1).bind fun b109 =>
 some ((.p (.bool b109)), q108.2)) else (some ((.p (.bool false)), q98.2))).bind fun q110 =>
 (asB q110.1).bind fun b111 =>
 fin false σ q110.2 [(.p (.bool b111))]))
 else (
 bif x1.toList == ((⟨#[]⟩ : ByteArray)).toList then (
 (buildV Try.prog 38 [(0, (.p (.int .i64 1))), (1, (.fz (((⟨#[97]⟩ : ByteArray)).data.toList.map fun b => .p (.int .u8 b.toNat)) ((⟨#[97]⟩ : ByteArray)).size 1 false))]).bind fun t112 =>
 (buildSliceV Try.prog 27 1 [(0, t112)]).bind fun t113 =>
 (apO false 2 32 (5 :: 0 :: 1 :: 1 :: 1 :: 1 :: 1 :: 1 :: 1 :: 1 :: 1 :: 1 :: 1 :: 0 :: σ) 128 h t113 x8).bind fun q114 =>
 (callO rec 22 (6 :: 0 :: 1 :: 1 :: 1 :: 1 :: 1 :: 1 :: 1 :: 1 :: 1 :: 1 :: 1 :: 0 :: σ) [(.p (.int .u16 4096)), q114.1] q114.2 (some 129)).bind fun q115 =>
 (extV q115.1 0).bind fun t116 =>
 (extV q115.1 1).bind fun t117 =>
 (castI .i64 t117).bind fun n118 =>
 (buildV Try.prog 52 [(6, (.p (.int .u16 4096))), (7, t116)]).bind fun t119 =>
 (callO rec 26 (2 :: 0 :: 1 :: 1 :: 1 :: 1 :: 1 :: 1 :: 1 :: 1 :: 1 :: 1 :: 1 :: 1 :: 0 :: σ) [t119] q115.2 (some 135)).bind fun q120 =>
 (extV q120.1 0).bind fun t121 =>
 (castS t121).bind fun s122 =>
 (extV q120.1 1).bind fun t123 =>
 (asB t123).bind fun b124 =>
 (buildV Try.prog 52 [(6, (.p (.int .u16 4096))), (7, t116)]).bind fun t125 =>
 (callO rec 27 (2 :: 0 :: 1 :: 1 :: 1 :: 1 :: 1 :: 1 :: 1 :: 1 :: 1 :: 1 :: 1 :: 1 :: 1 :: 0 :: σ) [t125] q120.2 (some 141)).bind fun q126 =>
 (extV q126.1 0).bind fun t127 =>
 (castS t127).bind fun s128 =>
 (extV q126.1 1).bind fun t129 =>
 (asB t129).bind fun b130 =>
 (bif n118 == 0 then (some (b124 == b130)) else (some false)).bind fun b131 =>
 (bif b131 then ((bif !b124 then (some true) else (some (s122.toList == ((⟨#[97]⟩ : ByteArray)).toList))).bind fun b132 =>
 some b132) else (some false)).bind fun b133 =>
 (bif b133 then ((callO rec 20 (17 :: 0 :: 1 :: 1 :: 1 :: 1 :: 1 :: 1 :: 1 :: 1 :: 1 :: 1 :: 1 :: 1 :: 1 :: 1 :: 0 :: σ) [] q126.2 (some 161)).bind fun q134 =>
 (asB q134.1).bind fun b135 =>
 some ((.p (.bool b135)), q134.2)) else (some ((.p (.bool false)), q126.2))).bind fun q136 =>
 (asB q136.1).bind fun b137 =>
 fin false σ q136.2 [(.p (.bool b137))])
 else (
 (buildV Try.prog 38 [(0, (.p (.int .i64 1))), (1, (.fz (x1.data.toList.map fun b => .p (.int .u8 b.toNat)) x1.size 1 false))]).bind fun t138 =>
 (buildSliceV Try.prog 27 1 [(0, t138)]).bind fun t139 =>
 (apO false 2 32 (5 :: 0 :: 1 :: 1 :: 1 :: 1 :: 1 :: 1 :: 1 :: 1 :: 1 :: 1 :: 1 :: 0 :: σ) 128 h t139 x8).bind fun q140 =>
 (callO rec 22 (6 :: 0 :: 1 :: 1 :: 1 :: 1 :: 1 :: 1 :: 1 :: 1 :: 1 :: 1 :: 1 :: 0 :: σ) [(.p (.int .u16 4096)), q140.1] q140.2 (some 129)).bind fun q141 =>
 (extV q141.1 0).bind fun t142 =>
 (extV q141.1 1).bind fun t143 =>
 (castI .i64 t143).bind fun n144 =>
 (buildV Try.prog 52 [(6, (.p (.int .u16 4096))), (7, t142)]).bind fun t145 =>
 (callO rec 26 (2 :: 0 :: 1 :: 1 :: 1 :: 1 :: 1 :: 1 :: 1 :: 1 :: 1 :: 1 :: 1 :: 1 :: 0 :: σ) [t145] q141.2 (some 135)).bind fun q146 =>
 (extV q146.1 0).bind fun t147 =>
 (castS t147).bind fun s148 =>
 (extV q146.1 1).bind fun t149 =>
 (asB t149).bind fun b150 =>
 (buildV Try.prog 52 [(6, (.p (.int .u16 4096))), (7, t142)]).bind fun t151 =>
 (callO rec 27 (2 :: 0 :: 1 :: 1 :: 1 :: 1 :: 1 :: 1 :: 1 :: 1 :: 1 :: 1 :: 1 :: 1 :: 1 :: 0 :: σ) [t151] q146.2 (some 141)).bind fun q152 =>
 (extV q152.1 0).bind fun t153 =>
 (castS t153).bind fun s154 =>
 (extV q152.1 1).bind fun t155 =>
 (asB t155).bind fun b156 =>
 (bif n144 == 0 then (some (b150 == b156)) else (some false)).bind fun b157 =>
 (bif b157 then ((bif !b150 then (some true) else (some (s148.toList == x1.toList))).bind fun b158 =>
 some b158) else (some false)).bind fun b159 =>
 (bif b159 then ((callO rec 20 (17 :: 0 :: 1 :: 1 :: 1 :: 1 :: 1 :: 1 :: 1 :: 1 :: 1 :: 1 :: 1 :: 1 :: 1 :: 1 :: 0 :: σ) [] q152.2 (some 161)).bind fun q160 =>
 (asB q160.1).bind fun b161 =>
 some ((.p (.bool b161)), q160.2)) else (some ((.p (.bool false)), q152.2))).bind fun q162 =>
 (asB q162.1).bind fun b163 =>
 fin false σ q162.2 [(.p (.bool b163))])) := by kernel_rfl
theorem limelightlaw4_ExtBack_a0_ret (rec : CallF) (loop : LoopV) (σ : Stamp) (x6 : Bool) (h : H) : limelightlaw4_ExtBack_k0 rec loop σ .ret (envL [(6, (.p (.bool x6)))]) h =
 fin false σ h [(.p (.bool x6))] := by kernel_rfl
theorem limelightlaw4_ExtBack_r1 (rec : CallF) (loop : LoopV) (σ : Stamp) (x1 : ByteArray) (x8 : V) (x14 : Int) (x15 : V) (x16 : Bool) (x17 : Int) (x83 : Int) (x84 : Int) (h : H) : cvRound G rec loop limelightlaw4_ExtBack_c1 limelightlaw4_ExtBack_l1 σ (envL [(1, (.p (.string x1))), (8, x8), (14, (.p (.int .i64 x14))), (15, x15), (16, (.p (.bool x16))), (17, (.p (.int .i64 x17))), (83, (.p (.int .i64 x83))), (84, (.p (.int .i64 x84)))]) h =
 bif decide (x84 < x83) then (
 (iS 2 x8 x84).bind fun t164 =>
 (fA t164 0).bind fun t165 =>
 (ldO false 1 h t165).bind fun t166 =>
 (castI .i64 t166).bind fun n167 =>
 (iS 2 x8 x14).bind fun t168 =>
 (fA t168 0).bind fun t169 =>
 (ldO false 1 h t169).bind fun t170 =>
 (castI .i64 t170).bind fun n171 =>
 bif n167 == n171 then (
 loop limelightlaw4_ExtBack_c1 limelightlaw4_ExtBack_l1 (1 :: σ) (envL [(1, (.p (.string x1))), (8, x8), (14, (.p (.int .i64 x14))), (15, x15), (16, (.p (.bool x16))), (17, (.p (.int .i64 ((if x84 < x17 then x84 else x17))))), (83, (.p (.int .i64 x83))), (84, (.p (.int .i64 (IntKind.wrap .i64 (x84 + 1)))))]) h)
 else (
 loop limelightlaw4_ExtBack_c1 limelightlaw4_ExtBack_l1 (1 :: σ) (envL [(1, (.p (.string x1))), (8, x8), (14, (.p (.int .i64 x14))), (15, x15), (16, (.p (.bool x16))), (17, (.p (.int .i64 x17))), (83, (.p (.int .i64 x83))), (84, (.p (.int .i64 (IntKind.wrap .i64 (x84 + 1)))))]) h))
 else (
 some ((.exit 2), (envL [(1, (.p (.string x1))), (8, x8), (14, (.p (.int .i64 x14))), (15, x15), (16, (.p (.bool x16))), (17, (.p (.int .i64 x17)))]), h)) := by kernel_rfl
theorem limelightlaw4_ExtBack_a1_2 (rec : CallF) (loop : LoopV) (σ : Stamp) (x1 : ByteArray) (x8 : V) (x14 : Int) (x15 : V) (x16 : Bool) (x17 : Int) (h : H) : limelightlaw4_ExtBack_k1 rec loop σ (.exit 2) (envL [(1, (.p (.string x1))), (8, x8), (14, (.p (.int .i64 x14))), (15, x15), (16, (.p (.bool x16))), (17, (.p (.int .i64 x17)))]) h =
 (bif !x16 then (some true) else ((strO h x15).bind fun t172 =>
 (castS t172).bind fun s173 =>
 (iS 2 x8 x17).bind fun t174 =>
 (fA t174 1).bind fun t175 =>
 (ldO false 1 h t175).bind fun t176 =>
 (strO h t176).bind fun t177 =>
 (castS t177).bind fun s178 =>
 some (!(s173.toList == s178.toList)))).bind fun b179 =>
 bif b179 then (
 some (.ret, (envL [(6, (.p (.bool false)))]), h))
 else (
 loop limelightlaw4_ExtBack_c0 limelightlaw4_ExtBack_l0 (1 :: σ) (envL [(1, (.p (.string x1))), (8, x8), (14, (.p (.int .i64 (IntKind.wrap .i64 (x14 - 1)))))]) h) := by kernel_rfl
end Go.Ev
/- Equations, printed by tracer2.py. -/
namespace Go.Ev
open Go.Proofs
set_option linter.unusedVariables false
set_option maxRecDepth 100000
-- 24 limelight/limelightlaw4.elems
noncomputable def limelightlaw4_elems_c0 : Code := (codeAt (bodyOf Try.f24) [1, 1, 0, 1, 0, 0])
def limelightlaw4_elems_l0 : Lv := ⟨0, 16, [(0, 0)]⟩
noncomputable def limelightlaw4_elems_k0 (rec : CallF) (loop : LoopV) (σ : Stamp) : Exit → Env → H → Option (List C × H) := (kBlock 0 (kSeq G rec loop (codeAt (bodyOf Try.f24) [1, 1, 1]) ⟨16, 16, []⟩ (1 :: 1 :: 0 :: σ) (finC G false Try.f24 (1 :: σ))))
theorem limelightlaw4_elems_entry (rec : CallF) (loop : LoopV) (σ : Stamp) (x0 : V) (x1 : V) (h : H) : cvBody G rec loop 24 σ [x0, x1] h =
 (lenO x0).bind fun t1 =>
 (castI .i64 t1).bind fun n2 =>
 (lenO x1).bind fun t3 =>
 (castI .i64 t3).bind fun n4 =>
 bif n2 != n4 then (
 fin false σ (List.replicate 43 [] :: h) [(.p (.bool false))])
 else (
 (lenO x0).bind fun t5 =>
 (castI .i64 t5).bind fun n6 =>
 (loop limelightlaw4_elems_c0 limelightlaw4_elems_l0 (1 :: 0 :: 1 :: 1 :: 0 :: σ) (envL [(0, x0), (1, x1), (12, (.p (.int .i64 n6))), (13, (.p (.int .i64 0)))]) (List.replicate 43 [] :: h)).bind fun r7 => limelightlaw4_elems_k0 rec loop σ r7.1 r7.2.1 r7.2.2) := by kernel_rfl
theorem limelightlaw4_elems_r0 (rec : CallF) (loop : LoopV) (σ : Stamp) (x0 : V) (x1 : V) (x12 : Int) (x13 : Int) (h : H) : cvRound G rec loop limelightlaw4_elems_c0 limelightlaw4_elems_l0 σ (envL [(0, x0), (1, x1), (12, (.p (.int .i64 x12))), (13, (.p (.int .i64 x13)))]) h =
 bif decide (x13 < x12) then (
 (iS 2 x0 x13).bind fun t8 =>
 (fA t8 0).bind fun t9 =>
 (ldO false 1 h t9).bind fun t10 =>
 (castI .i64 t10).bind fun n11 =>
 (iS 2 x1 x13).bind fun t12 =>
 (fA t12 0).bind fun t13 =>
 (ldO false 1 h t13).bind fun t14 =>
 (castI .i64 t14).bind fun n15 =>
 (bif n11 != n15 then (some true) else ((iS 2 x0 x13).bind fun t16 =>
 (fA t16 1).bind fun t17 =>
 (ldO false 1 h t17).bind fun t18 =>
 (strO h t18).bind fun t19 =>
 (castS t19).bind fun s20 =>
 (iS 2 x1 x13).bind fun t21 =>
 (fA t21 1).bind fun t22 =>
 (ldO false 1 h t22).bind fun t23 =>
 (strO h t23).bind fun t24 =>
 (castS t24).bind fun s25 =>
 some (!(s20.toList == s25.toList)))).bind fun b26 =>
 bif b26 then (
 some (.ret, (envL [(4, (.p (.bool false)))]), h))
 else (
 loop limelightlaw4_elems_c0 limelightlaw4_elems_l0 (1 :: σ) (envL [(0, x0), (1, x1), (12, (.p (.int .i64 x12))), (13, (.p (.int .i64 (IntKind.wrap .i64 (x13 + 1)))))]) h))
 else (
 some ((.exit 0), (envL []), h)) := by kernel_rfl
theorem limelightlaw4_elems_a0_0 (rec : CallF) (loop : LoopV) (σ : Stamp)  (h : H) : limelightlaw4_elems_k0 rec loop σ (.exit 0) (envL []) h =
 fin false σ h [(.p (.bool true))] := by kernel_rfl
theorem limelightlaw4_elems_a0_ret (rec : CallF) (loop : LoopV) (σ : Stamp) (x4 : Bool) (h : H) : limelightlaw4_elems_k0 rec loop σ .ret (envL [(4, (.p (.bool x4)))]) h =
 fin false σ h [(.p (.bool x4))] := by kernel_rfl
end Go.Ev
/- Lifted by lift.py: limelightlaw4_elems as a plain function. -/
namespace Go.Ev
open Go.Proofs
set_option linter.unusedVariables false
set_option linter.unusedSimpArgs false
set_option maxRecDepth 100000
def p_limelightlaw4_elems_l0 {β : Type} (k : Nat) (kE0 : Unit → Option β) (kE1 : Bool → Option β) (x0 : (List T_api_Elem)) (x1 : (List T_api_Elem)) (x12 : Int) (x13 : Int) : Option β := match k with
| 0 => none
| k + 1 =>
bif decide (x13 < x12) then (
(ix x0 x13).bind fun a7 =>
(ix x1 x13).bind fun a19 =>
(bif a7.ID != a19.ID then (some true) else ((ix x0 x13).bind fun a31 =>
(ix x1 x13).bind fun a43 =>
some (!((strB a31.Data).toList == (strB a43.Data).toList)))).bind fun b55 =>
bif b55 then (
kE1 false)
else (
p_limelightlaw4_elems_l0 k kE0 kE1 x0 x1 x12 (IntKind.wrap .i64 (x13 + 1))))
else (
kE0 ())
def p_limelightlaw4_elems (k : Nat) (x0 : (List T_api_Elem)) (x1 : (List T_api_Elem)) : Option (Bool) :=
bif ((x0.length : Int)) != ((x1.length : Int)) then (
some (false))
else (
p_limelightlaw4_elems_l0 k (fun (_ : Unit) =>
some (true)) (fun r66_4 =>
some (r66_4)) x0 x1 ((x0.length : Int)) 0)
theorem limelightlaw4_elems_l0_ok {h : H}  {β α : Type} {Q : β → α → Prop} {K : Exit × Env × H → Option α} {kE0 : Unit → Option β} {kE1 : Bool → Option β} (hE0 : ∀ (_u : Unit) (H59 : Go.Ev.H) (_ : Fm 43 h [] [] [] H59), Sim (kE0 ()) (K ((.exit 0), (envL []), H59)) Q) (hE1 : ∀ (q4 : Bool) (H61 : Go.Ev.H) (_ : Fm 43 h [] [] [] H61), Sim (kE1 q4) (K (.ret, (envL [(4, (.p (.bool q4)))]), H61)) Q) (k : Nat) : ∀ (x0 : (List T_api_Elem)) (x1 : (List T_api_Elem)) (x12 : Int) (x13 : Int) (v3 : V) (h4 : SlH h dT_api_Elem x0 v3) (v5 : V) (h6 : SlH h dT_api_Elem x1 v5) (H1 : Go.Ev.H) (_ : Fm 43 h [] [] [] H1) {σ : Stamp}, Sim (p_limelightlaw4_elems_l0 k kE0 kE1 x0 x1 x12 x13) ((cvL G X0 limelightlaw4_elems_c0 limelightlaw4_elems_l0 σ (envL [(0, v3), (1, v5), (12, (.p (.int .i64 x12))), (13, (.p (.int .i64 x13)))]) H1).bind K) Q := by
  induction k with
  | zero => intros; exact Sim.no
  | succ k ih =>
    intro x0 x1 x12 x13 v3 h4 v5 h6 H1 S2 σ
    rw [p_limelightlaw4_elems_l0]
    refine Sim.round (Sim.ext (limelightlaw4_elems_r0 _ _ _ _ _ _ _ _) ?_)
    refine Sim.cd (fun hc => ?_) (fun hc => ?_)
    · refine Sim.bd fun a7 h8 => ?_
      refine Sim.op ((S2.low h4).iS h8 rfl) ?_
      obtain ⟨w10, h11, hE9⟩ := (S2.low h4).el h8 rfl
      obtain ⟨v12, rfl, h13⟩ := dT_api_Elem.inv h11
      refine Sim.op (hE9.fa (j := 0) (by simp)) ?_
      obtain ⟨w15, h16, hE14⟩ := (S2.low h4).el h8 rfl
      obtain ⟨v17, rfl, h18⟩ := dT_api_Elem.inv h16
      refine Sim.op (hE14.ld (j := 0) rfl) ?_
      refine Sim.op (castI_p _ _) ?_
      refine Sim.bd fun a19 h20 => ?_
      refine Sim.op ((S2.low h6).iS h20 rfl) ?_
      obtain ⟨w22, h23, hE21⟩ := (S2.low h6).el h20 rfl
      obtain ⟨v24, rfl, h25⟩ := dT_api_Elem.inv h23
      refine Sim.op (hE21.fa (j := 0) (by simp)) ?_
      obtain ⟨w27, h28, hE26⟩ := (S2.low h6).el h20 rfl
      obtain ⟨v29, rfl, h30⟩ := dT_api_Elem.inv h28
      refine Sim.op (hE26.ld (j := 0) rfl) ?_
      refine Sim.op (castI_p _ _) ?_
      refine Sim.ch (P := fun r y => r = y) ?_ (fun b55 y56 h57 h58 => ?_)
      · refine Sim.cd (fun hc => ?_) (fun hc => ?_)
        · exact Sim.ret rfl rfl
        · refine Sim.bd fun a31 h32 => ?_
          refine Sim.op ((S2.low h4).iS h32 rfl) ?_
          obtain ⟨w34, h35, hE33⟩ := (S2.low h4).el h32 rfl
          obtain ⟨v36, rfl, h37⟩ := dT_api_Elem.inv h35
          refine Sim.op (hE33.fa (j := 1) (by simp)) ?_
          obtain ⟨w39, h40, hE38⟩ := (S2.low h4).el h32 rfl
          obtain ⟨v41, rfl, h42⟩ := dT_api_Elem.inv h40
          refine Sim.op (hE38.ld (j := 1) rfl) ?_
          refine Sim.op ((h42.h H1).str) ?_
          refine Sim.op (castS_p _) ?_
          refine Sim.bd fun a43 h44 => ?_
          refine Sim.op ((S2.low h6).iS h44 rfl) ?_
          obtain ⟨w46, h47, hE45⟩ := (S2.low h6).el h44 rfl
          obtain ⟨v48, rfl, h49⟩ := dT_api_Elem.inv h47
          refine Sim.op (hE45.fa (j := 1) (by simp)) ?_
          obtain ⟨w51, h52, hE50⟩ := (S2.low h6).el h44 rfl
          obtain ⟨v53, rfl, h54⟩ := dT_api_Elem.inv h52
          refine Sim.op (hE50.ld (j := 1) rfl) ?_
          refine Sim.op ((h54.h H1).str) ?_
          refine Sim.op (castS_p _) ?_
          exact Sim.ret rfl rfl
      subst h58
      refine Sim.cd (fun hc => ?_) (fun hc => ?_)
      · exact hE1 false H1 (S2.wk2 all_nil all_nil)
      · exact ih x0 x1 x12 (IntKind.wrap .i64 (x13 + 1)) v3 h4 v5 h6 H1 (S2.wk2 all_nil all_nil)
    · exact hE0 () H1 (S2.wk2 all_nil all_nil)
theorem limelightlaw4_elems_ok (k : Nat) {h : H} {σ : Stamp} (x0 : List T_api_Elem) {u0 : V} (hu0 : SlH h dT_api_Elem x0 u0) (x1 : List T_api_Elem) {u1 : V} (hu1 : SlH h dT_api_Elem x1 u1) : Sim (p_limelightlaw4_elems k x0 x1) (ev G X0 24 σ [u0, u1] h) (fun r s => s = ([.v (.p (.bool r))], h)) := by
  refine Sim.ev rfl (Sim.ext (limelightlaw4_elems_entry _ _ _ _ _ _) ?_)
  rw [p_limelightlaw4_elems]
  have S0 : Fm 43 h [] [] [] (List.replicate 43 [] :: h) := Fm.start0
  refine Sim.op ((S0.low hu0).len) ?_
  refine Sim.op (castI_p _ _) ?_
  refine Sim.op ((S0.low hu1).len) ?_
  refine Sim.op (castI_p _ _) ?_
  refine Sim.cd (fun hc => ?_) (fun hc => ?_)
  · exact Sim.fin (S0.finN (lv_cons (still_bool _).lv lv_nil)) rfl
  · refine Sim.op ((S0.low hu0).len) ?_
    refine Sim.op (castI_p _ _) ?_
    refine Sim.as (limelightlaw4_elems_l0_ok ?_ ?_ k x0 x1 ((x0.length : Int)) 0 u0 hu0 u1 hu1 (List.replicate 43 [] :: h) (S0.wk2 all_nil all_nil)) 
    · intro _u H64 S65
      refine Sim.ext (limelightlaw4_elems_a0_0 _ _ _ _) ?_
      exact Sim.fin (S65.finN (lv_cons (still_bool _).lv lv_nil)) rfl
    · intro r66_4 H67 S68
      refine Sim.ext (limelightlaw4_elems_a0_ret _ _ _ _ _) ?_
      exact Sim.fin (S68.finN (lv_cons (still_bool _).lv lv_nil)) rfl
end Go.Ev
/- Lifted by lift.py: limelightlaw4_ExtBack as a plain function. -/
namespace Go.Ev
open Go.Proofs
set_option linter.unusedVariables false
set_option linter.unusedSimpArgs false
set_option maxRecDepth 100000
def p_limelightlaw4_ExtBack_l1 {β : Type} (k : Nat) (kE0 : ByteArray → (List T_api_Elem) → Int → (List Int) → Bool → Int → Option β) (x1 : ByteArray) (x8 : (List T_api_Elem)) (x14 : Int) (x15 : (List Int)) (x16 : Bool) (x17 : Int) (x83 : Int) (x84 : Int) : Option β := match k with
| 0 => none
| k + 1 =>
bif decide (x84 < x83) then (
(ix x8 x84).bind fun a84 =>
(ix x8 x14).bind fun a96 =>
bif a84.ID == a96.ID then (
p_limelightlaw4_ExtBack_l1 k kE0 x1 x8 x14 x15 x16 ((if x84 < x17 then x84 else x17)) x83 (IntKind.wrap .i64 (x84 + 1)))
else (
p_limelightlaw4_ExtBack_l1 k kE0 x1 x8 x14 x15 x16 x17 x83 (IntKind.wrap .i64 (x84 + 1))))
else (
kE0 x1 x8 x14 x15 x16 x17)
def p_limelightlaw4_ExtBack_l0 {β : Type} (k : Nat) (kE0 : ByteArray → (List T_api_Elem) → Option β) (kE1 : Bool → Option β) (x1 : ByteArray) (x8 : (List T_api_Elem)) (x14 : Int) : Option β := match k with
| 0 => none
| k + 1 =>
bif decide (x14 ≥ 0) then (
(ix x8 x14).bind fun a57 =>
(p_ext_Find k x8 a57.ID).bind fun r69 =>
(sub x8 0 x14).bind fun a76 =>
p_limelightlaw4_ExtBack_l1 k (fun r114_1 r114_8 r114_14 r114_15 r114_16 r114_17 =>
(bif !r114_16 then (some true) else ((ix r114_8 r114_17).bind fun a121 =>
some (!((strB r114_15).toList == (strB a121.Data).toList)))).bind fun b133 =>
bif b133 then (
kE1 false)
else (
p_limelightlaw4_ExtBack_l0 k kE0 kE1 r114_1 r114_8 (IntKind.wrap .i64 (r114_14 - 1)))) x1 x8 x14 r69.1 r69.2 x14 ((a76.length : Int)) 0)
else (
kE0 x1 x8)
def p_limelightlaw4_ExtBack (k : Nat) (x0 : (List Int)) (x1 : ByteArray) (x2 : Bool) : Option (Bool) :=
(p_limelightkeep_Tape_Elems k (⟨x0, 0⟩ : T_limelightkeep_Tape) x2).bind fun r5 =>
bif x2 then (
(p_ext_Bytes k 4096 r5.1).bind fun r22 =>
(p_ext_Read k 4096 r22.1).bind fun r29 =>
(bif r22.2 != 0 then (some true) else (some (r29.2 != 0))).bind fun b36 =>
(bif b36 then (some true) else ((p_limelightlaw4_elems k r5.1 r29.1).bind fun r40 =>
some (!r40))).bind fun b45 =>
(bif b45 then (some true) else (some ((Int.tmod ((r22.1.length : Int)) 4) != 0))).bind fun b49 =>
bif b49 then (
some (false))
else (
p_limelightlaw4_ExtBack_l0 k (fun r143_1 r143_8 =>
bif decide (((r143_1.size : Int)) > 20) then (
(subS r143_1 0 20).bind fun s148 =>
bif s148.toList == ((⟨#[]⟩ : ByteArray)).toList then (
(ap 32 ([((⟨1, (bytesS ((⟨#[97]⟩ : ByteArray)))⟩ : T_api_Elem))]) r143_8).bind fun a153 =>
(p_ext_Bytes k 4096 a153).bind fun r159 =>
(p_ext_Rid k ((⟨false, 0, 0, 0, 0, (([] : List Int)), 4096, r159.1, (([] : List Int))⟩ : T_api_Rtp))).bind fun r166 =>
(p_limelightref3_Rid k ((⟨false, 0, 0, 0, 0, (([] : List Int)), 4096, r159.1, (([] : List Int))⟩ : T_api_Rtp))).bind fun r171 =>
(bif r159.2 == 0 then (some (r166.2 == r171.2)) else (some false)).bind fun b176 =>
(bif b176 then ((bif !r166.2 then (some true) else (some (r166.1.toList == ((⟨#[97]⟩ : ByteArray)).toList))).bind fun b180 =>
some b180) else (some false)).bind fun b184 =>
(bif b184 then ((p_limelightlaw4_known k).bind fun r188 =>
some r188) else (some false)).bind fun b193 =>
some (b193))
else (
(ap 32 ([((⟨1, (bytesS s148)⟩ : T_api_Elem))]) r143_8).bind fun a200 =>
(p_ext_Bytes k 4096 a200).bind fun r206 =>
(p_ext_Rid k ((⟨false, 0, 0, 0, 0, (([] : List Int)), 4096, r206.1, (([] : List Int))⟩ : T_api_Rtp))).bind fun r213 =>
(p_limelightref3_Rid k ((⟨false, 0, 0, 0, 0, (([] : List Int)), 4096, r206.1, (([] : List Int))⟩ : T_api_Rtp))).bind fun r218 =>
(bif r206.2 == 0 then (some (r213.2 == r218.2)) else (some false)).bind fun b223 =>
(bif b223 then ((bif !r213.2 then (some true) else (some (r213.1.toList == s148.toList))).bind fun b227 =>
some b227) else (some false)).bind fun b231 =>
(bif b231 then ((p_limelightlaw4_known k).bind fun r235 =>
some r235) else (some false)).bind fun b240 =>
some (b240)))
else (
bif r143_1.toList == ((⟨#[]⟩ : ByteArray)).toList then (
(ap 32 ([((⟨1, (bytesS ((⟨#[97]⟩ : ByteArray)))⟩ : T_api_Elem))]) r143_8).bind fun a247 =>
(p_ext_Bytes k 4096 a247).bind fun r253 =>
(p_ext_Rid k ((⟨false, 0, 0, 0, 0, (([] : List Int)), 4096, r253.1, (([] : List Int))⟩ : T_api_Rtp))).bind fun r260 =>
(p_limelightref3_Rid k ((⟨false, 0, 0, 0, 0, (([] : List Int)), 4096, r253.1, (([] : List Int))⟩ : T_api_Rtp))).bind fun r265 =>
(bif r253.2 == 0 then (some (r260.2 == r265.2)) else (some false)).bind fun b270 =>
(bif b270 then ((bif !r260.2 then (some true) else (some (r260.1.toList == ((⟨#[97]⟩ : ByteArray)).toList))).bind fun b274 =>
some b274) else (some false)).bind fun b278 =>
(bif b278 then ((p_limelightlaw4_known k).bind fun r282 =>
some r282) else (some false)).bind fun b287 =>
some (b287))
else (
(ap 32 ([((⟨1, (bytesS r143_1)⟩ : T_api_Elem))]) r143_8).bind fun a294 =>
(p_ext_Bytes k 4096 a294).bind fun r300 =>
(p_ext_Rid k ((⟨false, 0, 0, 0, 0, (([] : List Int)), 4096, r300.1, (([] : List Int))⟩ : T_api_Rtp))).bind fun r307 =>
(p_limelightref3_Rid k ((⟨false, 0, 0, 0, 0, (([] : List Int)), 4096, r300.1, (([] : List Int))⟩ : T_api_Rtp))).bind fun r312 =>
(bif r300.2 == 0 then (some (r307.2 == r312.2)) else (some false)).bind fun b317 =>
(bif b317 then ((bif !r307.2 then (some true) else (some (r307.1.toList == r143_1.toList))).bind fun b321 =>
some b321) else (some false)).bind fun b325 =>
(bif b325 then ((p_limelightlaw4_known k).bind fun r329 =>
some r329) else (some false)).bind fun b334 =>
some (b334)))) (fun r338_6 =>
some (r338_6)) x1 r5.1 (IntKind.wrap .i64 (((r5.1.length : Int)) - 1))))
else (
(p_ext_Bytes k 48862 r5.1).bind fun r341 =>
(p_ext_Read k 48862 r341.1).bind fun r348 =>
(bif r341.2 != 0 then (some true) else (some (r348.2 != 0))).bind fun b355 =>
(bif b355 then (some true) else ((p_limelightlaw4_elems k r5.1 r348.1).bind fun r359 =>
some (!r359))).bind fun b364 =>
(bif b364 then (some true) else (some ((Int.tmod ((r341.1.length : Int)) 4) != 0))).bind fun b368 =>
bif b368 then (
some (false))
else (
p_limelightlaw4_ExtBack_l0 k (fun r372_1 r372_8 =>
bif decide (((r372_1.size : Int)) > 20) then (
(subS r372_1 0 20).bind fun s377 =>
bif s377.toList == ((⟨#[]⟩ : ByteArray)).toList then (
(ap 32 ([((⟨1, (bytesS ((⟨#[97]⟩ : ByteArray)))⟩ : T_api_Elem))]) r372_8).bind fun a382 =>
(p_ext_Bytes k 4096 a382).bind fun r388 =>
(p_ext_Rid k ((⟨false, 0, 0, 0, 0, (([] : List Int)), 4096, r388.1, (([] : List Int))⟩ : T_api_Rtp))).bind fun r395 =>
(p_limelightref3_Rid k ((⟨false, 0, 0, 0, 0, (([] : List Int)), 4096, r388.1, (([] : List Int))⟩ : T_api_Rtp))).bind fun r400 =>
(bif r388.2 == 0 then (some (r395.2 == r400.2)) else (some false)).bind fun b405 =>
(bif b405 then ((bif !r395.2 then (some true) else (some (r395.1.toList == ((⟨#[97]⟩ : ByteArray)).toList))).bind fun b409 =>
some b409) else (some false)).bind fun b413 =>
(bif b413 then ((p_limelightlaw4_known k).bind fun r417 =>
some r417) else (some false)).bind fun b422 =>
some (b422))
else (
(ap 32 ([((⟨1, (bytesS s377)⟩ : T_api_Elem))]) r372_8).bind fun a429 =>
(p_ext_Bytes k 4096 a429).bind fun r435 =>
(p_ext_Rid k ((⟨false, 0, 0, 0, 0, (([] : List Int)), 4096, r435.1, (([] : List Int))⟩ : T_api_Rtp))).bind fun r442 =>
(p_limelightref3_Rid k ((⟨false, 0, 0, 0, 0, (([] : List Int)), 4096, r435.1, (([] : List Int))⟩ : T_api_Rtp))).bind fun r447 =>
(bif r435.2 == 0 then (some (r442.2 == r447.2)) else (some false)).bind fun b452 =>
(bif b452 then ((bif !r442.2 then (some true) else (some (r442.1.toList == s377.toList))).bind fun b456 =>
some b456) else (some false)).bind fun b460 =>
(bif b460 then ((p_limelightlaw4_known k).bind fun r464 =>
some r464) else (some false)).bind fun b469 =>
some (b469)))
else (
bif r372_1.toList == ((⟨#[]⟩ : ByteArray)).toList then (
(ap 32 ([((⟨1, (bytesS ((⟨#[97]⟩ : ByteArray)))⟩ : T_api_Elem))]) r372_8).bind fun a476 =>
(p_ext_Bytes k 4096 a476).bind fun r482 =>
(p_ext_Rid k ((⟨false, 0, 0, 0, 0, (([] : List Int)), 4096, r482.1, (([] : List Int))⟩ : T_api_Rtp))).bind fun r489 =>
(p_limelightref3_Rid k ((⟨false, 0, 0, 0, 0, (([] : List Int)), 4096, r482.1, (([] : List Int))⟩ : T_api_Rtp))).bind fun r494 =>
(bif r482.2 == 0 then (some (r489.2 == r494.2)) else (some false)).bind fun b499 =>
(bif b499 then ((bif !r489.2 then (some true) else (some (r489.1.toList == ((⟨#[97]⟩ : ByteArray)).toList))).bind fun b503 =>
some b503) else (some false)).bind fun b507 =>
(bif b507 then ((p_limelightlaw4_known k).bind fun r511 =>
some r511) else (some false)).bind fun b516 =>
some (b516))
else (
(ap 32 ([((⟨1, (bytesS r372_1)⟩ : T_api_Elem))]) r372_8).bind fun a523 =>
(p_ext_Bytes k 4096 a523).bind fun r529 =>
(p_ext_Rid k ((⟨false, 0, 0, 0, 0, (([] : List Int)), 4096, r529.1, (([] : List Int))⟩ : T_api_Rtp))).bind fun r536 =>
(p_limelightref3_Rid k ((⟨false, 0, 0, 0, 0, (([] : List Int)), 4096, r529.1, (([] : List Int))⟩ : T_api_Rtp))).bind fun r541 =>
(bif r529.2 == 0 then (some (r536.2 == r541.2)) else (some false)).bind fun b546 =>
(bif b546 then ((bif !r536.2 then (some true) else (some (r536.1.toList == r372_1.toList))).bind fun b550 =>
some b550) else (some false)).bind fun b554 =>
(bif b554 then ((p_limelightlaw4_known k).bind fun r558 =>
some r558) else (some false)).bind fun b563 =>
some (b563)))) (fun r567_6 =>
some (r567_6)) x1 r5.1 (IntKind.wrap .i64 (((r5.1.length : Int)) - 1))))
theorem limelightlaw4_ExtBack_l1_ok {h : H}  {β α : Type} {Q : β → α → Prop} {K : Exit × Env × H → Option α} {kE0 : ByteArray → (List T_api_Elem) → Int → (List Int) → Bool → Int → Option β} (hE0 : ∀ (q1 : ByteArray) (q8 : (List T_api_Elem)) (q14 : Int) (q15 : (List Int)) (q16 : Bool) (q17 : Int) (v110 : V) (v112 : V) (h113 : SlF (dI .u8) q15 v112) (H108 : Go.Ev.H) (_ : Fm 163 h [] [] [⟨[30], v110, dT_api_Elem, q8⟩] H108), Sim (kE0 q1 q8 q14 q15 q16 q17) (K ((.exit 2), (envL [(1, (.p (.string q1))), (8, v110), (14, (.p (.int .i64 q14))), (15, v112), (16, (.p (.bool q16))), (17, (.p (.int .i64 q17)))]), H108)) Q) (k : Nat) : ∀ (x1 : ByteArray) (x8 : (List T_api_Elem)) (x14 : Int) (x15 : (List Int)) (x16 : Bool) (x17 : Int) (x83 : Int) (x84 : Int) (v80 : V) (v82 : V) (h83 : SlF (dI .u8) x15 v82) (H78 : Go.Ev.H) (_ : Fm 163 h [] [] [⟨[30], v80, dT_api_Elem, x8⟩] H78) {σ : Stamp}, Sim (p_limelightlaw4_ExtBack_l1 k kE0 x1 x8 x14 x15 x16 x17 x83 x84) ((cvL G X0 limelightlaw4_ExtBack_c1 limelightlaw4_ExtBack_l1 σ (envL [(1, (.p (.string x1))), (8, v80), (14, (.p (.int .i64 x14))), (15, v82), (16, (.p (.bool x16))), (17, (.p (.int .i64 x17))), (83, (.p (.int .i64 x83))), (84, (.p (.int .i64 x84)))]) H78).bind K) Q := by
  induction k with
  | zero => intros; exact Sim.no
  | succ k ih =>
    intro x1 x8 x14 x15 x16 x17 x83 x84 v80 v82 h83 H78 S79 σ
    rw [p_limelightlaw4_ExtBack_l1]
    refine Sim.round (Sim.ext (limelightlaw4_ExtBack_r1 _ _ _ _ _ _ _ _ _ _ _ _) ?_)
    refine Sim.cd (fun hc => ?_) (fun hc => ?_)
    · refine Sim.bd fun a84 h85 => ?_
      refine Sim.op ((S79.sl (i := 0) rfl).iS h85 rfl) ?_
      obtain ⟨w87, h88, hE86⟩ := (S79.sl (i := 0) rfl).el h85 rfl
      obtain ⟨v89, rfl, h90⟩ := dT_api_Elem.inv h88
      refine Sim.op (hE86.fa (j := 0) (by simp)) ?_
      obtain ⟨w92, h93, hE91⟩ := (S79.sl (i := 0) rfl).el h85 rfl
      obtain ⟨v94, rfl, h95⟩ := dT_api_Elem.inv h93
      refine Sim.op (hE91.ld (j := 0) rfl) ?_
      refine Sim.op (castI_p _ _) ?_
      refine Sim.bd fun a96 h97 => ?_
      refine Sim.op ((S79.sl (i := 0) rfl).iS h97 rfl) ?_
      obtain ⟨w99, h100, hE98⟩ := (S79.sl (i := 0) rfl).el h97 rfl
      obtain ⟨v101, rfl, h102⟩ := dT_api_Elem.inv h100
      refine Sim.op (hE98.fa (j := 0) (by simp)) ?_
      obtain ⟨w104, h105, hE103⟩ := (S79.sl (i := 0) rfl).el h97 rfl
      obtain ⟨v106, rfl, h107⟩ := dT_api_Elem.inv h105
      refine Sim.op (hE103.ld (j := 0) rfl) ?_
      refine Sim.op (castI_p _ _) ?_
      refine Sim.cd (fun hc => ?_) (fun hc => ?_)
      · exact ih x1 x8 x14 x15 x16 ((if x84 < x17 then x84 else x17)) x83 (IntKind.wrap .i64 (x84 + 1)) v80 v82 h83 H78 (S79.wk2 all_nil (all_cons ⟨[30], by simp, at_mem 0 rfl⟩ all_nil))
      · exact ih x1 x8 x14 x15 x16 x17 x83 (IntKind.wrap .i64 (x84 + 1)) v80 v82 h83 H78 (S79.wk2 all_nil (all_cons ⟨[30], by simp, at_mem 0 rfl⟩ all_nil))
    · exact hE0 x1 x8 x14 x15 x16 x17 v80 v82 h83 H78 (S79.wk2 all_nil (all_cons ⟨[30], by simp, at_mem 0 rfl⟩ all_nil))
theorem limelightlaw4_ExtBack_l0_ok {h : H}  {β α : Type} {Q : β → α → Prop} {K : Exit × Env × H → Option α} {kE0 : ByteArray → (List T_api_Elem) → Option β} {kE1 : Bool → Option β} (hE0 : ∀ (q1 : ByteArray) (q8 : (List T_api_Elem)) (v139 : V) (H137 : Go.Ev.H) (_ : Fm 163 h [] [] [⟨[30], v139, dT_api_Elem, q8⟩] H137), Sim (kE0 q1 q8) (K ((.exit 0), (envL [(1, (.p (.string q1))), (8, v139)]), H137)) Q) (hE1 : ∀ (q6 : Bool) (H141 : Go.Ev.H) (_ : Fm 163 h [] [] [] H141), Sim (kE1 q6) (K (.ret, (envL [(6, (.p (.bool q6)))]), H141)) Q) (k : Nat) : ∀ (x1 : ByteArray) (x8 : (List T_api_Elem)) (x14 : Int) (v55 : V) (H53 : Go.Ev.H) (_ : Fm 163 h [] [] [⟨[30], v55, dT_api_Elem, x8⟩] H53) {σ : Stamp}, Sim (p_limelightlaw4_ExtBack_l0 k kE0 kE1 x1 x8 x14) ((cvL G X0 limelightlaw4_ExtBack_c0 limelightlaw4_ExtBack_l0 σ (envL [(1, (.p (.string x1))), (8, v55), (14, (.p (.int .i64 x14)))]) H53).bind K) Q := by
  induction k with
  | zero => intros; exact Sim.no
  | succ k ih =>
    intro x1 x8 x14 v55 H53 S54 σ
    rw [p_limelightlaw4_ExtBack_l0]
    refine Sim.round (Sim.ext (limelightlaw4_ExtBack_r0 _ _ _ _ _ _ _) ?_)
    refine Sim.cd (fun hc => ?_) (fun hc => ?_)
    · refine Sim.bd fun a57 h58 => ?_
      refine Sim.op ((S54.sl (i := 0) rfl).iS h58 rfl) ?_
      obtain ⟨w60, h61, hE59⟩ := (S54.sl (i := 0) rfl).el h58 rfl
      obtain ⟨v62, rfl, h63⟩ := dT_api_Elem.inv h61
      refine Sim.op (hE59.fa (j := 0) (by simp)) ?_
      obtain ⟨w65, h66, hE64⟩ := (S54.sl (i := 0) rfl).el h58 rfl
      obtain ⟨v67, rfl, h68⟩ := dT_api_Elem.inv h66
      refine Sim.op (hE64.ld (j := 0) rfl) ?_
      refine Sim.op (castI_p _ _) ?_
      refine Sim.call (ext_Find_ok k x8 (S54.sl (i := 0) rfl) a57.ID) fun r69 cs70 H71 h72 q73 => ?_
      obtain ⟨v74, h75, q73⟩ := q73
      cases q73
      refine Sim.op (rfl) ?_
      refine Sim.op (rfl) ?_
      refine Sim.op (asB_p _) ?_
      refine Sim.bd fun a76 h77 => ?_
      refine Sim.op ((S54.sl (i := 0) rfl).slS h77 rfl rfl rfl) ?_
      refine Sim.op (((S54.sl (i := 0) rfl).sub h77 (e := 2) rfl).len) ?_
      refine Sim.op (castI_p _ _) ?_
      refine Sim.as (limelightlaw4_ExtBack_l1_ok ?_ k x1 x8 x14 r69.1 r69.2 x14 ((a76.length : Int)) 0 v55 v74 h75 H53 (S54.wk2 all_nil (all_cons ⟨[30], by simp, at_mem 0 rfl⟩ all_nil))) 
      · intro r114_1 r114_8 r114_14 r114_15 r114_16 r114_17 v117 v119 h120 H115 S116
        refine Sim.ext (limelightlaw4_ExtBack_a1_2 _ _ _ _ _ _ _ _ _ _) ?_
        refine Sim.ch (P := fun r y => r = y) ?_ (fun b133 y134 h135 h136 => ?_)
        · refine Sim.cd (fun hc => ?_) (fun hc => ?_)
          · exact Sim.ret rfl rfl
          · refine Sim.op ((h120.h H115).str) ?_
            refine Sim.op (castS_p _) ?_
            refine Sim.bd fun a121 h122 => ?_
            refine Sim.op ((S116.sl (i := 0) rfl).iS h122 rfl) ?_
            obtain ⟨w124, h125, hE123⟩ := (S116.sl (i := 0) rfl).el h122 rfl
            obtain ⟨v126, rfl, h127⟩ := dT_api_Elem.inv h125
            refine Sim.op (hE123.fa (j := 1) (by simp)) ?_
            obtain ⟨w129, h130, hE128⟩ := (S116.sl (i := 0) rfl).el h122 rfl
            obtain ⟨v131, rfl, h132⟩ := dT_api_Elem.inv h130
            refine Sim.op (hE128.ld (j := 1) rfl) ?_
            refine Sim.op ((h132.h H115).str) ?_
            refine Sim.op (castS_p _) ?_
            exact Sim.ret rfl rfl
        subst h136
        refine Sim.cd (fun hc => ?_) (fun hc => ?_)
        · exact hE1 false H115 (S116.wk2 all_nil all_nil)
        · exact ih r114_1 r114_8 (IntKind.wrap .i64 (r114_14 - 1)) v117 H115 (S116.wk2 all_nil (all_cons ⟨[30], by simp, at_mem 0 rfl⟩ all_nil))
    · exact hE0 x1 x8 v55 H53 (S54.wk2 all_nil (all_cons ⟨[30], by simp, at_mem 0 rfl⟩ all_nil))
theorem limelightlaw4_ExtBack_ok (k : Nat) {h : H} {σ : Stamp} (x0 : List Int) {u0 : V} (hu0 : SlF (dI .i64) x0 u0) (x1 : ByteArray) (x2 : Bool) : Sim (p_limelightlaw4_ExtBack k x0 x1 x2) (ev G X0 5 σ [u0, (.p (.string x1)), (.p (.bool x2))] h) (fun r s => s = ([.v (.p (.bool r))], h)) := by
  refine Sim.ev rfl (Sim.ext (limelightlaw4_ExtBack_entry _ _ _ _ _ _ _) ?_)
  rw [p_limelightlaw4_ExtBack]
  have S0 : Fm 163 h [] [] [] (List.replicate 163 [] :: h) := Fm.start0
  refine Sim.op (bldV (pt_cons hu0.still.cells pt_nil) (by kernel_rfl : _ = some (.agg [u0, .p (.int .i64 0)]))) ?_
  obtain ⟨H1, e2, S3⟩ := S0.box (own := false) (d := 27) (s := (2 :: 0 :: 1 :: 0 :: σ)) (xs := [u0, .p (.int .i64 0)]) (stills_cons hu0.still (stills_cons (still_int _ _) stills_nil)) (by decide) rfl
  refine Sim.op (e2) ?_
  refine Sim.call (limelightkeep_Tape_Elems_ok k (⟨x0, 0⟩ : T_limelightkeep_Tape) hu0 (S3.atG (i := 0) rfl) x2) fun r5 cs6 H7 h8 q9 => ?_
  obtain ⟨c10, cs11, v14, h12, h13, h15, q9⟩ := q9
  cases q9
  have S16 := S3.setG (i := 0) (cs' := List.map C.v [v14, (.p (.int .i64 r5.2.f_At))]) rfl rfl rfl
  obtain ⟨v17, H18, e19, S20⟩ := S16.land (dt := dT_api_Elem) (d := 30) (e := 0) (n := 0) h12 h13 (by decide) rfl
  erw [e19]
  refine Sim.cd (fun hc => ?_) (fun hc => ?_)
  · refine Sim.call (ext_Bytes_ok k 4096 r5.1 (S20.sl (i := 0) rfl)) fun r22 cs23 H24 h25 q26 => ?_
    obtain ⟨v27, h28, q26⟩ := q26
    cases q26
    refine Sim.op (rfl) ?_
    refine Sim.op (rfl) ?_
    refine Sim.op (castI_p _ _) ?_
    refine Sim.call (ext_Read_ok k 4096 r22.1 (h28.h H18)) fun r29 cs30 H31 h32 q33 => ?_
    obtain ⟨v34, h35, q33⟩ := q33
    cases q33
    refine Sim.op (rfl) ?_
    refine Sim.op (rfl) ?_
    refine Sim.op (castI_p _ _) ?_
    refine Sim.ch (P := fun r y => r = y) ?_ (fun b36 y37 h38 h39 => ?_)
    · refine Sim.cd (fun hc => ?_) (fun hc => ?_)
      · exact Sim.ret rfl rfl
      · exact Sim.ret rfl rfl
    subst h39
    refine Sim.ch (P := fun r y => (.p (.bool r), H18) = y) ?_ (fun b45 y46 h47 h48 => ?_)
    · refine Sim.cd (fun hc => ?_) (fun hc => ?_)
      · exact Sim.ret rfl rfl
      · refine Sim.call (limelightlaw4_elems_ok k r5.1 (S20.sl (i := 0) rfl) r29.1 (h35.h H18)) fun r40 cs41 H42 h43 q44 => ?_
        cases q44
        refine Sim.op (asB_p _) ?_
        exact Sim.ret rfl rfl
    subst h48
    refine Sim.op (asB_p _) ?_
    refine Sim.ch (P := fun r y => r = y) ?_ (fun b49 y50 h51 h52 => ?_)
    · refine Sim.cd (fun hc => ?_) (fun hc => ?_)
      · exact Sim.ret rfl rfl
      · refine Sim.op ((h28.h H18).len) ?_
        refine Sim.op (castI_p _ _) ?_
        exact Sim.ret rfl rfl
    subst h52
    refine Sim.cd (fun hc => ?_) (fun hc => ?_)
    · exact Sim.fin (S20.finN (lv_cons (still_bool _).lv lv_nil)) rfl
    · refine Sim.op ((S20.sl (i := 0) rfl).len) ?_
      refine Sim.op (castI_p _ _) ?_
      refine Sim.as (limelightlaw4_ExtBack_l0_ok ?_ ?_ k x1 r5.1 (IntKind.wrap .i64 (((r5.1.length : Int)) - 1)) v17 H18 (S20.wk2 all_nil (all_cons ⟨[30], by simp, at_mem 0 rfl⟩ all_nil))) 
      · intro r143_1 r143_8 v146 H144 S145
        refine Sim.ext (limelightlaw4_ExtBack_a0_0 _ _ _ _ _ _) ?_
        refine Sim.cd (fun hc => ?_) (fun hc => ?_)
        · refine Sim.bd fun s148 h149 => ?_
          refine Sim.op (subS_ok h149 rfl rfl) ?_
          refine Sim.cd (fun hc => ?_) (fun hc => ?_)
          · refine Sim.op (bldV (pt_cons rfl (pt_cons (SlF.bytes ((⟨#[97]⟩ : ByteArray))).still.cells pt_nil)) (by kernel_rfl : _ = some (.agg [.p (.int .i64 1), .fz (((⟨#[97]⟩ : ByteArray)).data.toList.map fun b : UInt8 => V.p (Value.int .u8 (b.toNat : Int))) ((⟨#[97]⟩ : ByteArray)).size 1 false]))) ?_
            have h150 : SlF dT_api_Elem [((⟨1, (bytesS ((⟨#[97]⟩ : ByteArray)))⟩ : T_api_Elem))] (.fz [(.p (.int .i64 1)), (.fz (((⟨#[97]⟩ : ByteArray)).data.toList.map fun b : UInt8 => V.p (Value.int .u8 (b.toNat : Int))) ((⟨#[97]⟩ : ByteArray)).size 1 false)] 1 2 true) := SlF.lit (cs := [(.p (.int .i64 1)), (.fz (((⟨#[97]⟩ : ByteArray)).data.toList.map fun b : UInt8 => V.p (Value.int .u8 (b.toNat : Int))) ((⟨#[97]⟩ : ByteArray)).size 1 false)]) (RL.cons (show dT_api_Elem.R ((⟨1, (bytesS ((⟨#[97]⟩ : ByteArray)))⟩ : T_api_Elem)) [.p (.int .i64 1), .fz (((⟨#[97]⟩ : ByteArray)).data.toList.map fun b : UInt8 => V.p (Value.int .u8 (b.toNat : Int))) ((⟨#[97]⟩ : ByteArray)).size 1 false] from (dT_api_Elem.mk (SlF.bytes ((⟨#[97]⟩ : ByteArray))))) RL.nil) rfl rfl true
            refine Sim.op (bldS (pt_cons (c := [.p (.int .i64 1), .fz (((⟨#[97]⟩ : ByteArray)).data.toList.map fun b : UInt8 => V.p (Value.int .u8 (b.toNat : Int))) ((⟨#[97]⟩ : ByteArray)).size 1 false]) rfl pt_nil) (by kernel_rfl : _ = some (.fz [(.p (.int .i64 1)), (.fz (((⟨#[97]⟩ : ByteArray)).data.toList.map fun b : UInt8 => V.p (Value.int .u8 (b.toNat : Int))) ((⟨#[97]⟩ : ByteArray)).size 1 false)] 1 2 true))) ?_
            have S152 := S145.lit (d := dT_api_Elem) (xs := [((⟨1, (bytesS ((⟨#[97]⟩ : ByteArray)))⟩ : T_api_Elem))]) (cs := [(.p (.int .i64 1)), (.fz (((⟨#[97]⟩ : ByteArray)).data.toList.map fun b : UInt8 => V.p (Value.int .u8 (b.toNat : Int))) ((⟨#[97]⟩ : ByteArray)).size 1 false)]) (n := 1) (e := 2) (m := 1000001) (RL.cons (show dT_api_Elem.R ((⟨1, (bytesS ((⟨#[97]⟩ : ByteArray)))⟩ : T_api_Elem)) [.p (.int .i64 1), .fz (((⟨#[97]⟩ : ByteArray)).data.toList.map fun b : UInt8 => V.p (Value.int .u8 (b.toNat : Int))) ((⟨#[97]⟩ : ByteArray)).size 1 false] from (dT_api_Elem.mk (SlF.bytes ((⟨#[97]⟩ : ByteArray))))) RL.nil) rfl rfl (by decide)
            refine Sim.bd fun a153 h154 => ?_
            obtain ⟨v155, H156, e157, S158⟩ := S152.app (i := 0) (d := 128) (e := 2) (own := false) (σ := (5 :: 0 :: 1 :: 1 :: 1 :: 1 :: 1 :: 1 :: 1 :: 1 :: 1 :: 1 :: 1 :: 0 :: σ)) rfl (S152.sl (i := 1) rfl).y h154 rfl (by decide) (by decide) rfl
            refine Sim.op (e157) ?_
            refine Sim.call (ext_Bytes_ok k 4096 a153 (S158.sl (i := 0) rfl)) fun r159 cs160 H161 h162 q163 => ?_
            obtain ⟨v164, h165, q163⟩ := q163
            cases q163
            refine Sim.op (rfl) ?_
            refine Sim.op (rfl) ?_
            refine Sim.op (castI_p _ _) ?_
            refine Sim.op (bldV (pt_cons rfl (pt_cons h165.still.cells pt_nil)) (by kernel_rfl : _ = some (.agg [.p (.bool false), .p (.int .i64 0), .p (.int .u16 0), .p (.int .u32 0), .p (.int .u32 0), .p (.slice none 0 0), .p (.int .u16 4096), v164, .p (.slice none 0 0)]))) ?_
            refine Sim.call (ext_Rid_ok k ((⟨false, 0, 0, 0, 0, (([] : List Int)), 4096, r159.1, (([] : List Int))⟩ : T_api_Rtp)) (show dT_api_Rtp.R ((⟨false, 0, 0, 0, 0, (([] : List Int)), 4096, r159.1, (([] : List Int))⟩ : T_api_Rtp)) [.p (.bool false), .p (.int .i64 0), .p (.int .u16 0), .p (.int .u32 0), .p (.int .u32 0), .p (.slice none 0 0), .p (.int .u16 4096), v164, .p (.slice none 0 0)] from (dT_api_Rtp.mk (SlF.nil (dI .u32)) h165 (SlF.nil (dI .u8))))) fun r166 cs167 H168 h169 q170 => ?_
            cases q170
            refine Sim.op (rfl) ?_
            refine Sim.op (castS_p _) ?_
            refine Sim.op (rfl) ?_
            refine Sim.op (asB_p _) ?_
            refine Sim.op (bldV (pt_cons rfl (pt_cons h165.still.cells pt_nil)) (by kernel_rfl : _ = some (.agg [.p (.bool false), .p (.int .i64 0), .p (.int .u16 0), .p (.int .u32 0), .p (.int .u32 0), .p (.slice none 0 0), .p (.int .u16 4096), v164, .p (.slice none 0 0)]))) ?_
            refine Sim.call (limelightref3_Rid_ok k ((⟨false, 0, 0, 0, 0, (([] : List Int)), 4096, r159.1, (([] : List Int))⟩ : T_api_Rtp)) (show dT_api_Rtp.R ((⟨false, 0, 0, 0, 0, (([] : List Int)), 4096, r159.1, (([] : List Int))⟩ : T_api_Rtp)) [.p (.bool false), .p (.int .i64 0), .p (.int .u16 0), .p (.int .u32 0), .p (.int .u32 0), .p (.slice none 0 0), .p (.int .u16 4096), v164, .p (.slice none 0 0)] from (dT_api_Rtp.mk (SlF.nil (dI .u32)) h165 (SlF.nil (dI .u8))))) fun r171 cs172 H173 h174 q175 => ?_
            cases q175
            refine Sim.op (rfl) ?_
            refine Sim.op (castS_p _) ?_
            refine Sim.op (rfl) ?_
            refine Sim.op (asB_p _) ?_
            refine Sim.ch (P := fun r y => r = y) ?_ (fun b176 y177 h178 h179 => ?_)
            · refine Sim.cd (fun hc => ?_) (fun hc => ?_)
              · exact Sim.ret rfl rfl
              · exact Sim.ret rfl rfl
            subst h179
            refine Sim.ch (P := fun r y => r = y) ?_ (fun b184 y185 h186 h187 => ?_)
            · refine Sim.cd (fun hc => ?_) (fun hc => ?_)
              · refine Sim.ch (P := fun r y => r = y) ?_ (fun b180 y181 h182 h183 => ?_)
                · refine Sim.cd (fun hc => ?_) (fun hc => ?_)
                  · exact Sim.ret rfl rfl
                  · exact Sim.ret rfl rfl
                subst h183
                exact Sim.ret rfl rfl
              · exact Sim.ret rfl rfl
            subst h187
            refine Sim.ch (P := fun r y => (.p (.bool r), H156) = y) ?_ (fun b193 y194 h195 h196 => ?_)
            · refine Sim.cd (fun hc => ?_) (fun hc => ?_)
              · refine Sim.call (limelightlaw4_known_ok k ) fun r188 cs189 H190 h191 q192 => ?_
                cases q192
                refine Sim.op (asB_p _) ?_
                exact Sim.ret rfl rfl
              · exact Sim.ret rfl rfl
            subst h196
            refine Sim.op (asB_p _) ?_
            exact Sim.fin (S158.finN (lv_cons (still_bool _).lv lv_nil)) rfl
          · refine Sim.op ((by kernel_rfl : _ = some (.fz (s148.data.toList.map fun b : UInt8 => V.p (Value.int .u8 (b.toNat : Int))) s148.size 1 false))) ?_
            refine Sim.op (bldV (pt_cons rfl (pt_cons (SlF.bytes s148).still.cells pt_nil)) (by kernel_rfl : _ = some (.agg [.p (.int .i64 1), .fz (s148.data.toList.map fun b : UInt8 => V.p (Value.int .u8 (b.toNat : Int))) s148.size 1 false]))) ?_
            have h197 : SlF dT_api_Elem [((⟨1, (bytesS s148)⟩ : T_api_Elem))] (.fz [(.p (.int .i64 1)), (.fz (s148.data.toList.map fun b : UInt8 => V.p (Value.int .u8 (b.toNat : Int))) s148.size 1 false)] 1 2 true) := SlF.lit (cs := [(.p (.int .i64 1)), (.fz (s148.data.toList.map fun b : UInt8 => V.p (Value.int .u8 (b.toNat : Int))) s148.size 1 false)]) (RL.cons (show dT_api_Elem.R ((⟨1, (bytesS s148)⟩ : T_api_Elem)) [.p (.int .i64 1), .fz (s148.data.toList.map fun b : UInt8 => V.p (Value.int .u8 (b.toNat : Int))) s148.size 1 false] from (dT_api_Elem.mk (SlF.bytes s148))) RL.nil) rfl rfl true
            refine Sim.op (bldS (pt_cons (c := [.p (.int .i64 1), .fz (s148.data.toList.map fun b : UInt8 => V.p (Value.int .u8 (b.toNat : Int))) s148.size 1 false]) rfl pt_nil) (by kernel_rfl : _ = some (.fz [(.p (.int .i64 1)), (.fz (s148.data.toList.map fun b : UInt8 => V.p (Value.int .u8 (b.toNat : Int))) s148.size 1 false)] 1 2 true))) ?_
            have S199 := S145.lit (d := dT_api_Elem) (xs := [((⟨1, (bytesS s148)⟩ : T_api_Elem))]) (cs := [(.p (.int .i64 1)), (.fz (s148.data.toList.map fun b : UInt8 => V.p (Value.int .u8 (b.toNat : Int))) s148.size 1 false)]) (n := 1) (e := 2) (m := 1000002) (RL.cons (show dT_api_Elem.R ((⟨1, (bytesS s148)⟩ : T_api_Elem)) [.p (.int .i64 1), .fz (s148.data.toList.map fun b : UInt8 => V.p (Value.int .u8 (b.toNat : Int))) s148.size 1 false] from (dT_api_Elem.mk (SlF.bytes s148))) RL.nil) rfl rfl (by decide)
            refine Sim.bd fun a200 h201 => ?_
            obtain ⟨v202, H203, e204, S205⟩ := S199.app (i := 0) (d := 128) (e := 2) (own := false) (σ := (5 :: 0 :: 1 :: 1 :: 1 :: 1 :: 1 :: 1 :: 1 :: 1 :: 1 :: 1 :: 1 :: 0 :: σ)) rfl (S199.sl (i := 1) rfl).y h201 rfl (by decide) (by decide) rfl
            refine Sim.op (e204) ?_
            refine Sim.call (ext_Bytes_ok k 4096 a200 (S205.sl (i := 0) rfl)) fun r206 cs207 H208 h209 q210 => ?_
            obtain ⟨v211, h212, q210⟩ := q210
            cases q210
            refine Sim.op (rfl) ?_
            refine Sim.op (rfl) ?_
            refine Sim.op (castI_p _ _) ?_
            refine Sim.op (bldV (pt_cons rfl (pt_cons h212.still.cells pt_nil)) (by kernel_rfl : _ = some (.agg [.p (.bool false), .p (.int .i64 0), .p (.int .u16 0), .p (.int .u32 0), .p (.int .u32 0), .p (.slice none 0 0), .p (.int .u16 4096), v211, .p (.slice none 0 0)]))) ?_
            refine Sim.call (ext_Rid_ok k ((⟨false, 0, 0, 0, 0, (([] : List Int)), 4096, r206.1, (([] : List Int))⟩ : T_api_Rtp)) (show dT_api_Rtp.R ((⟨false, 0, 0, 0, 0, (([] : List Int)), 4096, r206.1, (([] : List Int))⟩ : T_api_Rtp)) [.p (.bool false), .p (.int .i64 0), .p (.int .u16 0), .p (.int .u32 0), .p (.int .u32 0), .p (.slice none 0 0), .p (.int .u16 4096), v211, .p (.slice none 0 0)] from (dT_api_Rtp.mk (SlF.nil (dI .u32)) h212 (SlF.nil (dI .u8))))) fun r213 cs214 H215 h216 q217 => ?_
            cases q217
            refine Sim.op (rfl) ?_
            refine Sim.op (castS_p _) ?_
            refine Sim.op (rfl) ?_
            refine Sim.op (asB_p _) ?_
            refine Sim.op (bldV (pt_cons rfl (pt_cons h212.still.cells pt_nil)) (by kernel_rfl : _ = some (.agg [.p (.bool false), .p (.int .i64 0), .p (.int .u16 0), .p (.int .u32 0), .p (.int .u32 0), .p (.slice none 0 0), .p (.int .u16 4096), v211, .p (.slice none 0 0)]))) ?_
            refine Sim.call (limelightref3_Rid_ok k ((⟨false, 0, 0, 0, 0, (([] : List Int)), 4096, r206.1, (([] : List Int))⟩ : T_api_Rtp)) (show dT_api_Rtp.R ((⟨false, 0, 0, 0, 0, (([] : List Int)), 4096, r206.1, (([] : List Int))⟩ : T_api_Rtp)) [.p (.bool false), .p (.int .i64 0), .p (.int .u16 0), .p (.int .u32 0), .p (.int .u32 0), .p (.slice none 0 0), .p (.int .u16 4096), v211, .p (.slice none 0 0)] from (dT_api_Rtp.mk (SlF.nil (dI .u32)) h212 (SlF.nil (dI .u8))))) fun r218 cs219 H220 h221 q222 => ?_
            cases q222
            refine Sim.op (rfl) ?_
            refine Sim.op (castS_p _) ?_
            refine Sim.op (rfl) ?_
            refine Sim.op (asB_p _) ?_
            refine Sim.ch (P := fun r y => r = y) ?_ (fun b223 y224 h225 h226 => ?_)
            · refine Sim.cd (fun hc => ?_) (fun hc => ?_)
              · exact Sim.ret rfl rfl
              · exact Sim.ret rfl rfl
            subst h226
            refine Sim.ch (P := fun r y => r = y) ?_ (fun b231 y232 h233 h234 => ?_)
            · refine Sim.cd (fun hc => ?_) (fun hc => ?_)
              · refine Sim.ch (P := fun r y => r = y) ?_ (fun b227 y228 h229 h230 => ?_)
                · refine Sim.cd (fun hc => ?_) (fun hc => ?_)
                  · exact Sim.ret rfl rfl
                  · exact Sim.ret rfl rfl
                subst h230
                exact Sim.ret rfl rfl
              · exact Sim.ret rfl rfl
            subst h234
            refine Sim.ch (P := fun r y => (.p (.bool r), H203) = y) ?_ (fun b240 y241 h242 h243 => ?_)
            · refine Sim.cd (fun hc => ?_) (fun hc => ?_)
              · refine Sim.call (limelightlaw4_known_ok k ) fun r235 cs236 H237 h238 q239 => ?_
                cases q239
                refine Sim.op (asB_p _) ?_
                exact Sim.ret rfl rfl
              · exact Sim.ret rfl rfl
            subst h243
            refine Sim.op (asB_p _) ?_
            exact Sim.fin (S205.finN (lv_cons (still_bool _).lv lv_nil)) rfl
        · refine Sim.cd (fun hc => ?_) (fun hc => ?_)
          · refine Sim.op (bldV (pt_cons rfl (pt_cons (SlF.bytes ((⟨#[97]⟩ : ByteArray))).still.cells pt_nil)) (by kernel_rfl : _ = some (.agg [.p (.int .i64 1), .fz (((⟨#[97]⟩ : ByteArray)).data.toList.map fun b : UInt8 => V.p (Value.int .u8 (b.toNat : Int))) ((⟨#[97]⟩ : ByteArray)).size 1 false]))) ?_
            have h244 : SlF dT_api_Elem [((⟨1, (bytesS ((⟨#[97]⟩ : ByteArray)))⟩ : T_api_Elem))] (.fz [(.p (.int .i64 1)), (.fz (((⟨#[97]⟩ : ByteArray)).data.toList.map fun b : UInt8 => V.p (Value.int .u8 (b.toNat : Int))) ((⟨#[97]⟩ : ByteArray)).size 1 false)] 1 2 true) := SlF.lit (cs := [(.p (.int .i64 1)), (.fz (((⟨#[97]⟩ : ByteArray)).data.toList.map fun b : UInt8 => V.p (Value.int .u8 (b.toNat : Int))) ((⟨#[97]⟩ : ByteArray)).size 1 false)]) (RL.cons (show dT_api_Elem.R ((⟨1, (bytesS ((⟨#[97]⟩ : ByteArray)))⟩ : T_api_Elem)) [.p (.int .i64 1), .fz (((⟨#[97]⟩ : ByteArray)).data.toList.map fun b : UInt8 => V.p (Value.int .u8 (b.toNat : Int))) ((⟨#[97]⟩ : ByteArray)).size 1 false] from (dT_api_Elem.mk (SlF.bytes ((⟨#[97]⟩ : ByteArray))))) RL.nil) rfl rfl true
            refine Sim.op (bldS (pt_cons (c := [.p (.int .i64 1), .fz (((⟨#[97]⟩ : ByteArray)).data.toList.map fun b : UInt8 => V.p (Value.int .u8 (b.toNat : Int))) ((⟨#[97]⟩ : ByteArray)).size 1 false]) rfl pt_nil) (by kernel_rfl : _ = some (.fz [(.p (.int .i64 1)), (.fz (((⟨#[97]⟩ : ByteArray)).data.toList.map fun b : UInt8 => V.p (Value.int .u8 (b.toNat : Int))) ((⟨#[97]⟩ : ByteArray)).size 1 false)] 1 2 true))) ?_
            have S246 := S145.lit (d := dT_api_Elem) (xs := [((⟨1, (bytesS ((⟨#[97]⟩ : ByteArray)))⟩ : T_api_Elem))]) (cs := [(.p (.int .i64 1)), (.fz (((⟨#[97]⟩ : ByteArray)).data.toList.map fun b : UInt8 => V.p (Value.int .u8 (b.toNat : Int))) ((⟨#[97]⟩ : ByteArray)).size 1 false)]) (n := 1) (e := 2) (m := 1000003) (RL.cons (show dT_api_Elem.R ((⟨1, (bytesS ((⟨#[97]⟩ : ByteArray)))⟩ : T_api_Elem)) [.p (.int .i64 1), .fz (((⟨#[97]⟩ : ByteArray)).data.toList.map fun b : UInt8 => V.p (Value.int .u8 (b.toNat : Int))) ((⟨#[97]⟩ : ByteArray)).size 1 false] from (dT_api_Elem.mk (SlF.bytes ((⟨#[97]⟩ : ByteArray))))) RL.nil) rfl rfl (by decide)
            refine Sim.bd fun a247 h248 => ?_
            obtain ⟨v249, H250, e251, S252⟩ := S246.app (i := 0) (d := 128) (e := 2) (own := false) (σ := (5 :: 0 :: 1 :: 1 :: 1 :: 1 :: 1 :: 1 :: 1 :: 1 :: 1 :: 1 :: 1 :: 0 :: σ)) rfl (S246.sl (i := 1) rfl).y h248 rfl (by decide) (by decide) rfl
            refine Sim.op (e251) ?_
            refine Sim.call (ext_Bytes_ok k 4096 a247 (S252.sl (i := 0) rfl)) fun r253 cs254 H255 h256 q257 => ?_
            obtain ⟨v258, h259, q257⟩ := q257
            cases q257
            refine Sim.op (rfl) ?_
            refine Sim.op (rfl) ?_
            refine Sim.op (castI_p _ _) ?_
            refine Sim.op (bldV (pt_cons rfl (pt_cons h259.still.cells pt_nil)) (by kernel_rfl : _ = some (.agg [.p (.bool false), .p (.int .i64 0), .p (.int .u16 0), .p (.int .u32 0), .p (.int .u32 0), .p (.slice none 0 0), .p (.int .u16 4096), v258, .p (.slice none 0 0)]))) ?_
            refine Sim.call (ext_Rid_ok k ((⟨false, 0, 0, 0, 0, (([] : List Int)), 4096, r253.1, (([] : List Int))⟩ : T_api_Rtp)) (show dT_api_Rtp.R ((⟨false, 0, 0, 0, 0, (([] : List Int)), 4096, r253.1, (([] : List Int))⟩ : T_api_Rtp)) [.p (.bool false), .p (.int .i64 0), .p (.int .u16 0), .p (.int .u32 0), .p (.int .u32 0), .p (.slice none 0 0), .p (.int .u16 4096), v258, .p (.slice none 0 0)] from (dT_api_Rtp.mk (SlF.nil (dI .u32)) h259 (SlF.nil (dI .u8))))) fun r260 cs261 H262 h263 q264 => ?_
            cases q264
            refine Sim.op (rfl) ?_
            refine Sim.op (castS_p _) ?_
            refine Sim.op (rfl) ?_
            refine Sim.op (asB_p _) ?_
            refine Sim.op (bldV (pt_cons rfl (pt_cons h259.still.cells pt_nil)) (by kernel_rfl : _ = some (.agg [.p (.bool false), .p (.int .i64 0), .p (.int .u16 0), .p (.int .u32 0), .p (.int .u32 0), .p (.slice none 0 0), .p (.int .u16 4096), v258, .p (.slice none 0 0)]))) ?_
            refine Sim.call (limelightref3_Rid_ok k ((⟨false, 0, 0, 0, 0, (([] : List Int)), 4096, r253.1, (([] : List Int))⟩ : T_api_Rtp)) (show dT_api_Rtp.R ((⟨false, 0, 0, 0, 0, (([] : List Int)), 4096, r253.1, (([] : List Int))⟩ : T_api_Rtp)) [.p (.bool false), .p (.int .i64 0), .p (.int .u16 0), .p (.int .u32 0), .p (.int .u32 0), .p (.slice none 0 0), .p (.int .u16 4096), v258, .p (.slice none 0 0)] from (dT_api_Rtp.mk (SlF.nil (dI .u32)) h259 (SlF.nil (dI .u8))))) fun r265 cs266 H267 h268 q269 => ?_
            cases q269
            refine Sim.op (rfl) ?_
            refine Sim.op (castS_p _) ?_
            refine Sim.op (rfl) ?_
            refine Sim.op (asB_p _) ?_
            refine Sim.ch (P := fun r y => r = y) ?_ (fun b270 y271 h272 h273 => ?_)
            · refine Sim.cd (fun hc => ?_) (fun hc => ?_)
              · exact Sim.ret rfl rfl
              · exact Sim.ret rfl rfl
            subst h273
            refine Sim.ch (P := fun r y => r = y) ?_ (fun b278 y279 h280 h281 => ?_)
            · refine Sim.cd (fun hc => ?_) (fun hc => ?_)
              · refine Sim.ch (P := fun r y => r = y) ?_ (fun b274 y275 h276 h277 => ?_)
                · refine Sim.cd (fun hc => ?_) (fun hc => ?_)
                  · exact Sim.ret rfl rfl
                  · exact Sim.ret rfl rfl
                subst h277
                exact Sim.ret rfl rfl
              · exact Sim.ret rfl rfl
            subst h281
            refine Sim.ch (P := fun r y => (.p (.bool r), H250) = y) ?_ (fun b287 y288 h289 h290 => ?_)
            · refine Sim.cd (fun hc => ?_) (fun hc => ?_)
              · refine Sim.call (limelightlaw4_known_ok k ) fun r282 cs283 H284 h285 q286 => ?_
                cases q286
                refine Sim.op (asB_p _) ?_
                exact Sim.ret rfl rfl
              · exact Sim.ret rfl rfl
            subst h290
            refine Sim.op (asB_p _) ?_
            exact Sim.fin (S252.finN (lv_cons (still_bool _).lv lv_nil)) rfl
          · refine Sim.op (bldV (pt_cons rfl (pt_cons (SlF.bytes r143_1).still.cells pt_nil)) (by kernel_rfl : _ = some (.agg [.p (.int .i64 1), .fz (r143_1.data.toList.map fun b : UInt8 => V.p (Value.int .u8 (b.toNat : Int))) r143_1.size 1 false]))) ?_
            have h291 : SlF dT_api_Elem [((⟨1, (bytesS r143_1)⟩ : T_api_Elem))] (.fz [(.p (.int .i64 1)), (.fz (r143_1.data.toList.map fun b : UInt8 => V.p (Value.int .u8 (b.toNat : Int))) r143_1.size 1 false)] 1 2 true) := SlF.lit (cs := [(.p (.int .i64 1)), (.fz (r143_1.data.toList.map fun b : UInt8 => V.p (Value.int .u8 (b.toNat : Int))) r143_1.size 1 false)]) (RL.cons (show dT_api_Elem.R ((⟨1, (bytesS r143_1)⟩ : T_api_Elem)) [.p (.int .i64 1), .fz (r143_1.data.toList.map fun b : UInt8 => V.p (Value.int .u8 (b.toNat : Int))) r143_1.size 1 false] from (dT_api_Elem.mk (SlF.bytes r143_1))) RL.nil) rfl rfl true
            refine Sim.op (bldS (pt_cons (c := [.p (.int .i64 1), .fz (r143_1.data.toList.map fun b : UInt8 => V.p (Value.int .u8 (b.toNat : Int))) r143_1.size 1 false]) rfl pt_nil) (by kernel_rfl : _ = some (.fz [(.p (.int .i64 1)), (.fz (r143_1.data.toList.map fun b : UInt8 => V.p (Value.int .u8 (b.toNat : Int))) r143_1.size 1 false)] 1 2 true))) ?_
            have S293 := S145.lit (d := dT_api_Elem) (xs := [((⟨1, (bytesS r143_1)⟩ : T_api_Elem))]) (cs := [(.p (.int .i64 1)), (.fz (r143_1.data.toList.map fun b : UInt8 => V.p (Value.int .u8 (b.toNat : Int))) r143_1.size 1 false)]) (n := 1) (e := 2) (m := 1000004) (RL.cons (show dT_api_Elem.R ((⟨1, (bytesS r143_1)⟩ : T_api_Elem)) [.p (.int .i64 1), .fz (r143_1.data.toList.map fun b : UInt8 => V.p (Value.int .u8 (b.toNat : Int))) r143_1.size 1 false] from (dT_api_Elem.mk (SlF.bytes r143_1))) RL.nil) rfl rfl (by decide)
            refine Sim.bd fun a294 h295 => ?_
            obtain ⟨v296, H297, e298, S299⟩ := S293.app (i := 0) (d := 128) (e := 2) (own := false) (σ := (5 :: 0 :: 1 :: 1 :: 1 :: 1 :: 1 :: 1 :: 1 :: 1 :: 1 :: 1 :: 1 :: 0 :: σ)) rfl (S293.sl (i := 1) rfl).y h295 rfl (by decide) (by decide) rfl
            refine Sim.op (e298) ?_
            refine Sim.call (ext_Bytes_ok k 4096 a294 (S299.sl (i := 0) rfl)) fun r300 cs301 H302 h303 q304 => ?_
            obtain ⟨v305, h306, q304⟩ := q304
            cases q304
            refine Sim.op (rfl) ?_
            refine Sim.op (rfl) ?_
            refine Sim.op (castI_p _ _) ?_
            refine Sim.op (bldV (pt_cons rfl (pt_cons h306.still.cells pt_nil)) (by kernel_rfl : _ = some (.agg [.p (.bool false), .p (.int .i64 0), .p (.int .u16 0), .p (.int .u32 0), .p (.int .u32 0), .p (.slice none 0 0), .p (.int .u16 4096), v305, .p (.slice none 0 0)]))) ?_
            refine Sim.call (ext_Rid_ok k ((⟨false, 0, 0, 0, 0, (([] : List Int)), 4096, r300.1, (([] : List Int))⟩ : T_api_Rtp)) (show dT_api_Rtp.R ((⟨false, 0, 0, 0, 0, (([] : List Int)), 4096, r300.1, (([] : List Int))⟩ : T_api_Rtp)) [.p (.bool false), .p (.int .i64 0), .p (.int .u16 0), .p (.int .u32 0), .p (.int .u32 0), .p (.slice none 0 0), .p (.int .u16 4096), v305, .p (.slice none 0 0)] from (dT_api_Rtp.mk (SlF.nil (dI .u32)) h306 (SlF.nil (dI .u8))))) fun r307 cs308 H309 h310 q311 => ?_
            cases q311
            refine Sim.op (rfl) ?_
            refine Sim.op (castS_p _) ?_
            refine Sim.op (rfl) ?_
            refine Sim.op (asB_p _) ?_
            refine Sim.op (bldV (pt_cons rfl (pt_cons h306.still.cells pt_nil)) (by kernel_rfl : _ = some (.agg [.p (.bool false), .p (.int .i64 0), .p (.int .u16 0), .p (.int .u32 0), .p (.int .u32 0), .p (.slice none 0 0), .p (.int .u16 4096), v305, .p (.slice none 0 0)]))) ?_
            refine Sim.call (limelightref3_Rid_ok k ((⟨false, 0, 0, 0, 0, (([] : List Int)), 4096, r300.1, (([] : List Int))⟩ : T_api_Rtp)) (show dT_api_Rtp.R ((⟨false, 0, 0, 0, 0, (([] : List Int)), 4096, r300.1, (([] : List Int))⟩ : T_api_Rtp)) [.p (.bool false), .p (.int .i64 0), .p (.int .u16 0), .p (.int .u32 0), .p (.int .u32 0), .p (.slice none 0 0), .p (.int .u16 4096), v305, .p (.slice none 0 0)] from (dT_api_Rtp.mk (SlF.nil (dI .u32)) h306 (SlF.nil (dI .u8))))) fun r312 cs313 H314 h315 q316 => ?_
            cases q316
            refine Sim.op (rfl) ?_
            refine Sim.op (castS_p _) ?_
            refine Sim.op (rfl) ?_
            refine Sim.op (asB_p _) ?_
            refine Sim.ch (P := fun r y => r = y) ?_ (fun b317 y318 h319 h320 => ?_)
            · refine Sim.cd (fun hc => ?_) (fun hc => ?_)
              · exact Sim.ret rfl rfl
              · exact Sim.ret rfl rfl
            subst h320
            refine Sim.ch (P := fun r y => r = y) ?_ (fun b325 y326 h327 h328 => ?_)
            · refine Sim.cd (fun hc => ?_) (fun hc => ?_)
              · refine Sim.ch (P := fun r y => r = y) ?_ (fun b321 y322 h323 h324 => ?_)
                · refine Sim.cd (fun hc => ?_) (fun hc => ?_)
                  · exact Sim.ret rfl rfl
                  · exact Sim.ret rfl rfl
                subst h324
                exact Sim.ret rfl rfl
              · exact Sim.ret rfl rfl
            subst h328
            refine Sim.ch (P := fun r y => (.p (.bool r), H297) = y) ?_ (fun b334 y335 h336 h337 => ?_)
            · refine Sim.cd (fun hc => ?_) (fun hc => ?_)
              · refine Sim.call (limelightlaw4_known_ok k ) fun r329 cs330 H331 h332 q333 => ?_
                cases q333
                refine Sim.op (asB_p _) ?_
                exact Sim.ret rfl rfl
              · exact Sim.ret rfl rfl
            subst h337
            refine Sim.op (asB_p _) ?_
            exact Sim.fin (S299.finN (lv_cons (still_bool _).lv lv_nil)) rfl
      · intro r338_6 H339 S340
        refine Sim.ext (limelightlaw4_ExtBack_a0_ret _ _ _ _ _) ?_
        exact Sim.fin (S340.finN (lv_cons (still_bool _).lv lv_nil)) rfl
  · refine Sim.call (ext_Bytes_ok k 48862 r5.1 (S20.sl (i := 0) rfl)) fun r341 cs342 H343 h344 q345 => ?_
    obtain ⟨v346, h347, q345⟩ := q345
    cases q345
    refine Sim.op (rfl) ?_
    refine Sim.op (rfl) ?_
    refine Sim.op (castI_p _ _) ?_
    refine Sim.call (ext_Read_ok k 48862 r341.1 (h347.h H18)) fun r348 cs349 H350 h351 q352 => ?_
    obtain ⟨v353, h354, q352⟩ := q352
    cases q352
    refine Sim.op (rfl) ?_
    refine Sim.op (rfl) ?_
    refine Sim.op (castI_p _ _) ?_
    refine Sim.ch (P := fun r y => r = y) ?_ (fun b355 y356 h357 h358 => ?_)
    · refine Sim.cd (fun hc => ?_) (fun hc => ?_)
      · exact Sim.ret rfl rfl
      · exact Sim.ret rfl rfl
    subst h358
    refine Sim.ch (P := fun r y => (.p (.bool r), H18) = y) ?_ (fun b364 y365 h366 h367 => ?_)
    · refine Sim.cd (fun hc => ?_) (fun hc => ?_)
      · exact Sim.ret rfl rfl
      · refine Sim.call (limelightlaw4_elems_ok k r5.1 (S20.sl (i := 0) rfl) r348.1 (h354.h H18)) fun r359 cs360 H361 h362 q363 => ?_
        cases q363
        refine Sim.op (asB_p _) ?_
        exact Sim.ret rfl rfl
    subst h367
    refine Sim.op (asB_p _) ?_
    refine Sim.ch (P := fun r y => r = y) ?_ (fun b368 y369 h370 h371 => ?_)
    · refine Sim.cd (fun hc => ?_) (fun hc => ?_)
      · exact Sim.ret rfl rfl
      · refine Sim.op ((h347.h H18).len) ?_
        refine Sim.op (castI_p _ _) ?_
        exact Sim.ret rfl rfl
    subst h371
    refine Sim.cd (fun hc => ?_) (fun hc => ?_)
    · exact Sim.fin (S20.finN (lv_cons (still_bool _).lv lv_nil)) rfl
    · refine Sim.op ((S20.sl (i := 0) rfl).len) ?_
      refine Sim.op (castI_p _ _) ?_
      refine Sim.as (limelightlaw4_ExtBack_l0_ok ?_ ?_ k x1 r5.1 (IntKind.wrap .i64 (((r5.1.length : Int)) - 1)) v17 H18 (S20.wk2 all_nil (all_cons ⟨[30], by simp, at_mem 0 rfl⟩ all_nil))) 
      · intro r372_1 r372_8 v375 H373 S374
        refine Sim.ext (limelightlaw4_ExtBack_a0_0 _ _ _ _ _ _) ?_
        refine Sim.cd (fun hc => ?_) (fun hc => ?_)
        · refine Sim.bd fun s377 h378 => ?_
          refine Sim.op (subS_ok h378 rfl rfl) ?_
          refine Sim.cd (fun hc => ?_) (fun hc => ?_)
          · refine Sim.op (bldV (pt_cons rfl (pt_cons (SlF.bytes ((⟨#[97]⟩ : ByteArray))).still.cells pt_nil)) (by kernel_rfl : _ = some (.agg [.p (.int .i64 1), .fz (((⟨#[97]⟩ : ByteArray)).data.toList.map fun b : UInt8 => V.p (Value.int .u8 (b.toNat : Int))) ((⟨#[97]⟩ : ByteArray)).size 1 false]))) ?_
            have h379 : SlF dT_api_Elem [((⟨1, (bytesS ((⟨#[97]⟩ : ByteArray)))⟩ : T_api_Elem))] (.fz [(.p (.int .i64 1)), (.fz (((⟨#[97]⟩ : ByteArray)).data.toList.map fun b : UInt8 => V.p (Value.int .u8 (b.toNat : Int))) ((⟨#[97]⟩ : ByteArray)).size 1 false)] 1 2 true) := SlF.lit (cs := [(.p (.int .i64 1)), (.fz (((⟨#[97]⟩ : ByteArray)).data.toList.map fun b : UInt8 => V.p (Value.int .u8 (b.toNat : Int))) ((⟨#[97]⟩ : ByteArray)).size 1 false)]) (RL.cons (show dT_api_Elem.R ((⟨1, (bytesS ((⟨#[97]⟩ : ByteArray)))⟩ : T_api_Elem)) [.p (.int .i64 1), .fz (((⟨#[97]⟩ : ByteArray)).data.toList.map fun b : UInt8 => V.p (Value.int .u8 (b.toNat : Int))) ((⟨#[97]⟩ : ByteArray)).size 1 false] from (dT_api_Elem.mk (SlF.bytes ((⟨#[97]⟩ : ByteArray))))) RL.nil) rfl rfl true
            refine Sim.op (bldS (pt_cons (c := [.p (.int .i64 1), .fz (((⟨#[97]⟩ : ByteArray)).data.toList.map fun b : UInt8 => V.p (Value.int .u8 (b.toNat : Int))) ((⟨#[97]⟩ : ByteArray)).size 1 false]) rfl pt_nil) (by kernel_rfl : _ = some (.fz [(.p (.int .i64 1)), (.fz (((⟨#[97]⟩ : ByteArray)).data.toList.map fun b : UInt8 => V.p (Value.int .u8 (b.toNat : Int))) ((⟨#[97]⟩ : ByteArray)).size 1 false)] 1 2 true))) ?_
            have S381 := S374.lit (d := dT_api_Elem) (xs := [((⟨1, (bytesS ((⟨#[97]⟩ : ByteArray)))⟩ : T_api_Elem))]) (cs := [(.p (.int .i64 1)), (.fz (((⟨#[97]⟩ : ByteArray)).data.toList.map fun b : UInt8 => V.p (Value.int .u8 (b.toNat : Int))) ((⟨#[97]⟩ : ByteArray)).size 1 false)]) (n := 1) (e := 2) (m := 1000005) (RL.cons (show dT_api_Elem.R ((⟨1, (bytesS ((⟨#[97]⟩ : ByteArray)))⟩ : T_api_Elem)) [.p (.int .i64 1), .fz (((⟨#[97]⟩ : ByteArray)).data.toList.map fun b : UInt8 => V.p (Value.int .u8 (b.toNat : Int))) ((⟨#[97]⟩ : ByteArray)).size 1 false] from (dT_api_Elem.mk (SlF.bytes ((⟨#[97]⟩ : ByteArray))))) RL.nil) rfl rfl (by decide)
            refine Sim.bd fun a382 h383 => ?_
            obtain ⟨v384, H385, e386, S387⟩ := S381.app (i := 0) (d := 128) (e := 2) (own := false) (σ := (5 :: 0 :: 1 :: 1 :: 1 :: 1 :: 1 :: 1 :: 1 :: 1 :: 1 :: 1 :: 1 :: 0 :: σ)) rfl (S381.sl (i := 1) rfl).y h383 rfl (by decide) (by decide) rfl
            refine Sim.op (e386) ?_
            refine Sim.call (ext_Bytes_ok k 4096 a382 (S387.sl (i := 0) rfl)) fun r388 cs389 H390 h391 q392 => ?_
            obtain ⟨v393, h394, q392⟩ := q392
            cases q392
            refine Sim.op (rfl) ?_
            refine Sim.op (rfl) ?_
            refine Sim.op (castI_p _ _) ?_
            refine Sim.op (bldV (pt_cons rfl (pt_cons h394.still.cells pt_nil)) (by kernel_rfl : _ = some (.agg [.p (.bool false), .p (.int .i64 0), .p (.int .u16 0), .p (.int .u32 0), .p (.int .u32 0), .p (.slice none 0 0), .p (.int .u16 4096), v393, .p (.slice none 0 0)]))) ?_
            refine Sim.call (ext_Rid_ok k ((⟨false, 0, 0, 0, 0, (([] : List Int)), 4096, r388.1, (([] : List Int))⟩ : T_api_Rtp)) (show dT_api_Rtp.R ((⟨false, 0, 0, 0, 0, (([] : List Int)), 4096, r388.1, (([] : List Int))⟩ : T_api_Rtp)) [.p (.bool false), .p (.int .i64 0), .p (.int .u16 0), .p (.int .u32 0), .p (.int .u32 0), .p (.slice none 0 0), .p (.int .u16 4096), v393, .p (.slice none 0 0)] from (dT_api_Rtp.mk (SlF.nil (dI .u32)) h394 (SlF.nil (dI .u8))))) fun r395 cs396 H397 h398 q399 => ?_
            cases q399
            refine Sim.op (rfl) ?_
            refine Sim.op (castS_p _) ?_
            refine Sim.op (rfl) ?_
            refine Sim.op (asB_p _) ?_
            refine Sim.op (bldV (pt_cons rfl (pt_cons h394.still.cells pt_nil)) (by kernel_rfl : _ = some (.agg [.p (.bool false), .p (.int .i64 0), .p (.int .u16 0), .p (.int .u32 0), .p (.int .u32 0), .p (.slice none 0 0), .p (.int .u16 4096), v393, .p (.slice none 0 0)]))) ?_
            refine Sim.call (limelightref3_Rid_ok k ((⟨false, 0, 0, 0, 0, (([] : List Int)), 4096, r388.1, (([] : List Int))⟩ : T_api_Rtp)) (show dT_api_Rtp.R ((⟨false, 0, 0, 0, 0, (([] : List Int)), 4096, r388.1, (([] : List Int))⟩ : T_api_Rtp)) [.p (.bool false), .p (.int .i64 0), .p (.int .u16 0), .p (.int .u32 0), .p (.int .u32 0), .p (.slice none 0 0), .p (.int .u16 4096), v393, .p (.slice none 0 0)] from (dT_api_Rtp.mk (SlF.nil (dI .u32)) h394 (SlF.nil (dI .u8))))) fun r400 cs401 H402 h403 q404 => ?_
            cases q404
            refine Sim.op (rfl) ?_
            refine Sim.op (castS_p _) ?_
            refine Sim.op (rfl) ?_
            refine Sim.op (asB_p _) ?_
            refine Sim.ch (P := fun r y => r = y) ?_ (fun b405 y406 h407 h408 => ?_)
            · refine Sim.cd (fun hc => ?_) (fun hc => ?_)
              · exact Sim.ret rfl rfl
              · exact Sim.ret rfl rfl
            subst h408
            refine Sim.ch (P := fun r y => r = y) ?_ (fun b413 y414 h415 h416 => ?_)
            · refine Sim.cd (fun hc => ?_) (fun hc => ?_)
              · refine Sim.ch (P := fun r y => r = y) ?_ (fun b409 y410 h411 h412 => ?_)
                · refine Sim.cd (fun hc => ?_) (fun hc => ?_)
                  · exact Sim.ret rfl rfl
                  · exact Sim.ret rfl rfl
                subst h412
                exact Sim.ret rfl rfl
              · exact Sim.ret rfl rfl
            subst h416
            refine Sim.ch (P := fun r y => (.p (.bool r), H385) = y) ?_ (fun b422 y423 h424 h425 => ?_)
            · refine Sim.cd (fun hc => ?_) (fun hc => ?_)
              · refine Sim.call (limelightlaw4_known_ok k ) fun r417 cs418 H419 h420 q421 => ?_
                cases q421
                refine Sim.op (asB_p _) ?_
                exact Sim.ret rfl rfl
              · exact Sim.ret rfl rfl
            subst h425
            refine Sim.op (asB_p _) ?_
            exact Sim.fin (S387.finN (lv_cons (still_bool _).lv lv_nil)) rfl
          · refine Sim.op ((by kernel_rfl : _ = some (.fz (s377.data.toList.map fun b : UInt8 => V.p (Value.int .u8 (b.toNat : Int))) s377.size 1 false))) ?_
            refine Sim.op (bldV (pt_cons rfl (pt_cons (SlF.bytes s377).still.cells pt_nil)) (by kernel_rfl : _ = some (.agg [.p (.int .i64 1), .fz (s377.data.toList.map fun b : UInt8 => V.p (Value.int .u8 (b.toNat : Int))) s377.size 1 false]))) ?_
            have h426 : SlF dT_api_Elem [((⟨1, (bytesS s377)⟩ : T_api_Elem))] (.fz [(.p (.int .i64 1)), (.fz (s377.data.toList.map fun b : UInt8 => V.p (Value.int .u8 (b.toNat : Int))) s377.size 1 false)] 1 2 true) := SlF.lit (cs := [(.p (.int .i64 1)), (.fz (s377.data.toList.map fun b : UInt8 => V.p (Value.int .u8 (b.toNat : Int))) s377.size 1 false)]) (RL.cons (show dT_api_Elem.R ((⟨1, (bytesS s377)⟩ : T_api_Elem)) [.p (.int .i64 1), .fz (s377.data.toList.map fun b : UInt8 => V.p (Value.int .u8 (b.toNat : Int))) s377.size 1 false] from (dT_api_Elem.mk (SlF.bytes s377))) RL.nil) rfl rfl true
            refine Sim.op (bldS (pt_cons (c := [.p (.int .i64 1), .fz (s377.data.toList.map fun b : UInt8 => V.p (Value.int .u8 (b.toNat : Int))) s377.size 1 false]) rfl pt_nil) (by kernel_rfl : _ = some (.fz [(.p (.int .i64 1)), (.fz (s377.data.toList.map fun b : UInt8 => V.p (Value.int .u8 (b.toNat : Int))) s377.size 1 false)] 1 2 true))) ?_
            have S428 := S374.lit (d := dT_api_Elem) (xs := [((⟨1, (bytesS s377)⟩ : T_api_Elem))]) (cs := [(.p (.int .i64 1)), (.fz (s377.data.toList.map fun b : UInt8 => V.p (Value.int .u8 (b.toNat : Int))) s377.size 1 false)]) (n := 1) (e := 2) (m := 1000006) (RL.cons (show dT_api_Elem.R ((⟨1, (bytesS s377)⟩ : T_api_Elem)) [.p (.int .i64 1), .fz (s377.data.toList.map fun b : UInt8 => V.p (Value.int .u8 (b.toNat : Int))) s377.size 1 false] from (dT_api_Elem.mk (SlF.bytes s377))) RL.nil) rfl rfl (by decide)
            refine Sim.bd fun a429 h430 => ?_
            obtain ⟨v431, H432, e433, S434⟩ := S428.app (i := 0) (d := 128) (e := 2) (own := false) (σ := (5 :: 0 :: 1 :: 1 :: 1 :: 1 :: 1 :: 1 :: 1 :: 1 :: 1 :: 1 :: 1 :: 0 :: σ)) rfl (S428.sl (i := 1) rfl).y h430 rfl (by decide) (by decide) rfl
            refine Sim.op (e433) ?_
            refine Sim.call (ext_Bytes_ok k 4096 a429 (S434.sl (i := 0) rfl)) fun r435 cs436 H437 h438 q439 => ?_
            obtain ⟨v440, h441, q439⟩ := q439
            cases q439
            refine Sim.op (rfl) ?_
            refine Sim.op (rfl) ?_
            refine Sim.op (castI_p _ _) ?_
            refine Sim.op (bldV (pt_cons rfl (pt_cons h441.still.cells pt_nil)) (by kernel_rfl : _ = some (.agg [.p (.bool false), .p (.int .i64 0), .p (.int .u16 0), .p (.int .u32 0), .p (.int .u32 0), .p (.slice none 0 0), .p (.int .u16 4096), v440, .p (.slice none 0 0)]))) ?_
            refine Sim.call (ext_Rid_ok k ((⟨false, 0, 0, 0, 0, (([] : List Int)), 4096, r435.1, (([] : List Int))⟩ : T_api_Rtp)) (show dT_api_Rtp.R ((⟨false, 0, 0, 0, 0, (([] : List Int)), 4096, r435.1, (([] : List Int))⟩ : T_api_Rtp)) [.p (.bool false), .p (.int .i64 0), .p (.int .u16 0), .p (.int .u32 0), .p (.int .u32 0), .p (.slice none 0 0), .p (.int .u16 4096), v440, .p (.slice none 0 0)] from (dT_api_Rtp.mk (SlF.nil (dI .u32)) h441 (SlF.nil (dI .u8))))) fun r442 cs443 H444 h445 q446 => ?_
            cases q446
            refine Sim.op (rfl) ?_
            refine Sim.op (castS_p _) ?_
            refine Sim.op (rfl) ?_
            refine Sim.op (asB_p _) ?_
            refine Sim.op (bldV (pt_cons rfl (pt_cons h441.still.cells pt_nil)) (by kernel_rfl : _ = some (.agg [.p (.bool false), .p (.int .i64 0), .p (.int .u16 0), .p (.int .u32 0), .p (.int .u32 0), .p (.slice none 0 0), .p (.int .u16 4096), v440, .p (.slice none 0 0)]))) ?_
            refine Sim.call (limelightref3_Rid_ok k ((⟨false, 0, 0, 0, 0, (([] : List Int)), 4096, r435.1, (([] : List Int))⟩ : T_api_Rtp)) (show dT_api_Rtp.R ((⟨false, 0, 0, 0, 0, (([] : List Int)), 4096, r435.1, (([] : List Int))⟩ : T_api_Rtp)) [.p (.bool false), .p (.int .i64 0), .p (.int .u16 0), .p (.int .u32 0), .p (.int .u32 0), .p (.slice none 0 0), .p (.int .u16 4096), v440, .p (.slice none 0 0)] from (dT_api_Rtp.mk (SlF.nil (dI .u32)) h441 (SlF.nil (dI .u8))))) fun r447 cs448 H449 h450 q451 => ?_
            cases q451
            refine Sim.op (rfl) ?_
            refine Sim.op (castS_p _) ?_
            refine Sim.op (rfl) ?_
            refine Sim.op (asB_p _) ?_
            refine Sim.ch (P := fun r y => r = y) ?_ (fun b452 y453 h454 h455 => ?_)
            · refine Sim.cd (fun hc => ?_) (fun hc => ?_)
              · exact Sim.ret rfl rfl
              · exact Sim.ret rfl rfl
            subst h455
            refine Sim.ch (P := fun r y => r = y) ?_ (fun b460 y461 h462 h463 => ?_)
            · refine Sim.cd (fun hc => ?_) (fun hc => ?_)
              · refine Sim.ch (P := fun r y => r = y) ?_ (fun b456 y457 h458 h459 => ?_)
                · refine Sim.cd (fun hc => ?_) (fun hc => ?_)
                  · exact Sim.ret rfl rfl
                  · exact Sim.ret rfl rfl
                subst h459
                exact Sim.ret rfl rfl
              · exact Sim.ret rfl rfl
            subst h463
            refine Sim.ch (P := fun r y => (.p (.bool r), H432) = y) ?_ (fun b469 y470 h471 h472 => ?_)
            · refine Sim.cd (fun hc => ?_) (fun hc => ?_)
              · refine Sim.call (limelightlaw4_known_ok k ) fun r464 cs465 H466 h467 q468 => ?_
                cases q468
                refine Sim.op (asB_p _) ?_
                exact Sim.ret rfl rfl
              · exact Sim.ret rfl rfl
            subst h472
            refine Sim.op (asB_p _) ?_
            exact Sim.fin (S434.finN (lv_cons (still_bool _).lv lv_nil)) rfl
        · refine Sim.cd (fun hc => ?_) (fun hc => ?_)
          · refine Sim.op (bldV (pt_cons rfl (pt_cons (SlF.bytes ((⟨#[97]⟩ : ByteArray))).still.cells pt_nil)) (by kernel_rfl : _ = some (.agg [.p (.int .i64 1), .fz (((⟨#[97]⟩ : ByteArray)).data.toList.map fun b : UInt8 => V.p (Value.int .u8 (b.toNat : Int))) ((⟨#[97]⟩ : ByteArray)).size 1 false]))) ?_
            have h473 : SlF dT_api_Elem [((⟨1, (bytesS ((⟨#[97]⟩ : ByteArray)))⟩ : T_api_Elem))] (.fz [(.p (.int .i64 1)), (.fz (((⟨#[97]⟩ : ByteArray)).data.toList.map fun b : UInt8 => V.p (Value.int .u8 (b.toNat : Int))) ((⟨#[97]⟩ : ByteArray)).size 1 false)] 1 2 true) := SlF.lit (cs := [(.p (.int .i64 1)), (.fz (((⟨#[97]⟩ : ByteArray)).data.toList.map fun b : UInt8 => V.p (Value.int .u8 (b.toNat : Int))) ((⟨#[97]⟩ : ByteArray)).size 1 false)]) (RL.cons (show dT_api_Elem.R ((⟨1, (bytesS ((⟨#[97]⟩ : ByteArray)))⟩ : T_api_Elem)) [.p (.int .i64 1), .fz (((⟨#[97]⟩ : ByteArray)).data.toList.map fun b : UInt8 => V.p (Value.int .u8 (b.toNat : Int))) ((⟨#[97]⟩ : ByteArray)).size 1 false] from (dT_api_Elem.mk (SlF.bytes ((⟨#[97]⟩ : ByteArray))))) RL.nil) rfl rfl true
            refine Sim.op (bldS (pt_cons (c := [.p (.int .i64 1), .fz (((⟨#[97]⟩ : ByteArray)).data.toList.map fun b : UInt8 => V.p (Value.int .u8 (b.toNat : Int))) ((⟨#[97]⟩ : ByteArray)).size 1 false]) rfl pt_nil) (by kernel_rfl : _ = some (.fz [(.p (.int .i64 1)), (.fz (((⟨#[97]⟩ : ByteArray)).data.toList.map fun b : UInt8 => V.p (Value.int .u8 (b.toNat : Int))) ((⟨#[97]⟩ : ByteArray)).size 1 false)] 1 2 true))) ?_
            have S475 := S374.lit (d := dT_api_Elem) (xs := [((⟨1, (bytesS ((⟨#[97]⟩ : ByteArray)))⟩ : T_api_Elem))]) (cs := [(.p (.int .i64 1)), (.fz (((⟨#[97]⟩ : ByteArray)).data.toList.map fun b : UInt8 => V.p (Value.int .u8 (b.toNat : Int))) ((⟨#[97]⟩ : ByteArray)).size 1 false)]) (n := 1) (e := 2) (m := 1000007) (RL.cons (show dT_api_Elem.R ((⟨1, (bytesS ((⟨#[97]⟩ : ByteArray)))⟩ : T_api_Elem)) [.p (.int .i64 1), .fz (((⟨#[97]⟩ : ByteArray)).data.toList.map fun b : UInt8 => V.p (Value.int .u8 (b.toNat : Int))) ((⟨#[97]⟩ : ByteArray)).size 1 false] from (dT_api_Elem.mk (SlF.bytes ((⟨#[97]⟩ : ByteArray))))) RL.nil) rfl rfl (by decide)
            refine Sim.bd fun a476 h477 => ?_
            obtain ⟨v478, H479, e480, S481⟩ := S475.app (i := 0) (d := 128) (e := 2) (own := false) (σ := (5 :: 0 :: 1 :: 1 :: 1 :: 1 :: 1 :: 1 :: 1 :: 1 :: 1 :: 1 :: 1 :: 0 :: σ)) rfl (S475.sl (i := 1) rfl).y h477 rfl (by decide) (by decide) rfl
            refine Sim.op (e480) ?_
            refine Sim.call (ext_Bytes_ok k 4096 a476 (S481.sl (i := 0) rfl)) fun r482 cs483 H484 h485 q486 => ?_
            obtain ⟨v487, h488, q486⟩ := q486
            cases q486
            refine Sim.op (rfl) ?_
            refine Sim.op (rfl) ?_
            refine Sim.op (castI_p _ _) ?_
            refine Sim.op (bldV (pt_cons rfl (pt_cons h488.still.cells pt_nil)) (by kernel_rfl : _ = some (.agg [.p (.bool false), .p (.int .i64 0), .p (.int .u16 0), .p (.int .u32 0), .p (.int .u32 0), .p (.slice none 0 0), .p (.int .u16 4096), v487, .p (.slice none 0 0)]))) ?_
            refine Sim.call (ext_Rid_ok k ((⟨false, 0, 0, 0, 0, (([] : List Int)), 4096, r482.1, (([] : List Int))⟩ : T_api_Rtp)) (show dT_api_Rtp.R ((⟨false, 0, 0, 0, 0, (([] : List Int)), 4096, r482.1, (([] : List Int))⟩ : T_api_Rtp)) [.p (.bool false), .p (.int .i64 0), .p (.int .u16 0), .p (.int .u32 0), .p (.int .u32 0), .p (.slice none 0 0), .p (.int .u16 4096), v487, .p (.slice none 0 0)] from (dT_api_Rtp.mk (SlF.nil (dI .u32)) h488 (SlF.nil (dI .u8))))) fun r489 cs490 H491 h492 q493 => ?_
            cases q493
            refine Sim.op (rfl) ?_
            refine Sim.op (castS_p _) ?_
            refine Sim.op (rfl) ?_
            refine Sim.op (asB_p _) ?_
            refine Sim.op (bldV (pt_cons rfl (pt_cons h488.still.cells pt_nil)) (by kernel_rfl : _ = some (.agg [.p (.bool false), .p (.int .i64 0), .p (.int .u16 0), .p (.int .u32 0), .p (.int .u32 0), .p (.slice none 0 0), .p (.int .u16 4096), v487, .p (.slice none 0 0)]))) ?_
            refine Sim.call (limelightref3_Rid_ok k ((⟨false, 0, 0, 0, 0, (([] : List Int)), 4096, r482.1, (([] : List Int))⟩ : T_api_Rtp)) (show dT_api_Rtp.R ((⟨false, 0, 0, 0, 0, (([] : List Int)), 4096, r482.1, (([] : List Int))⟩ : T_api_Rtp)) [.p (.bool false), .p (.int .i64 0), .p (.int .u16 0), .p (.int .u32 0), .p (.int .u32 0), .p (.slice none 0 0), .p (.int .u16 4096), v487, .p (.slice none 0 0)] from (dT_api_Rtp.mk (SlF.nil (dI .u32)) h488 (SlF.nil (dI .u8))))) fun r494 cs495 H496 h497 q498 => ?_
            cases q498
            refine Sim.op (rfl) ?_
            refine Sim.op (castS_p _) ?_
            refine Sim.op (rfl) ?_
            refine Sim.op (asB_p _) ?_
            refine Sim.ch (P := fun r y => r = y) ?_ (fun b499 y500 h501 h502 => ?_)
            · refine Sim.cd (fun hc => ?_) (fun hc => ?_)
              · exact Sim.ret rfl rfl
              · exact Sim.ret rfl rfl
            subst h502
            refine Sim.ch (P := fun r y => r = y) ?_ (fun b507 y508 h509 h510 => ?_)
            · refine Sim.cd (fun hc => ?_) (fun hc => ?_)
              · refine Sim.ch (P := fun r y => r = y) ?_ (fun b503 y504 h505 h506 => ?_)
                · refine Sim.cd (fun hc => ?_) (fun hc => ?_)
                  · exact Sim.ret rfl rfl
                  · exact Sim.ret rfl rfl
                subst h506
                exact Sim.ret rfl rfl
              · exact Sim.ret rfl rfl
            subst h510
            refine Sim.ch (P := fun r y => (.p (.bool r), H479) = y) ?_ (fun b516 y517 h518 h519 => ?_)
            · refine Sim.cd (fun hc => ?_) (fun hc => ?_)
              · refine Sim.call (limelightlaw4_known_ok k ) fun r511 cs512 H513 h514 q515 => ?_
                cases q515
                refine Sim.op (asB_p _) ?_
                exact Sim.ret rfl rfl
              · exact Sim.ret rfl rfl
            subst h519
            refine Sim.op (asB_p _) ?_
            exact Sim.fin (S481.finN (lv_cons (still_bool _).lv lv_nil)) rfl
          · refine Sim.op (bldV (pt_cons rfl (pt_cons (SlF.bytes r372_1).still.cells pt_nil)) (by kernel_rfl : _ = some (.agg [.p (.int .i64 1), .fz (r372_1.data.toList.map fun b : UInt8 => V.p (Value.int .u8 (b.toNat : Int))) r372_1.size 1 false]))) ?_
            have h520 : SlF dT_api_Elem [((⟨1, (bytesS r372_1)⟩ : T_api_Elem))] (.fz [(.p (.int .i64 1)), (.fz (r372_1.data.toList.map fun b : UInt8 => V.p (Value.int .u8 (b.toNat : Int))) r372_1.size 1 false)] 1 2 true) := SlF.lit (cs := [(.p (.int .i64 1)), (.fz (r372_1.data.toList.map fun b : UInt8 => V.p (Value.int .u8 (b.toNat : Int))) r372_1.size 1 false)]) (RL.cons (show dT_api_Elem.R ((⟨1, (bytesS r372_1)⟩ : T_api_Elem)) [.p (.int .i64 1), .fz (r372_1.data.toList.map fun b : UInt8 => V.p (Value.int .u8 (b.toNat : Int))) r372_1.size 1 false] from (dT_api_Elem.mk (SlF.bytes r372_1))) RL.nil) rfl rfl true
            refine Sim.op (bldS (pt_cons (c := [.p (.int .i64 1), .fz (r372_1.data.toList.map fun b : UInt8 => V.p (Value.int .u8 (b.toNat : Int))) r372_1.size 1 false]) rfl pt_nil) (by kernel_rfl : _ = some (.fz [(.p (.int .i64 1)), (.fz (r372_1.data.toList.map fun b : UInt8 => V.p (Value.int .u8 (b.toNat : Int))) r372_1.size 1 false)] 1 2 true))) ?_
            have S522 := S374.lit (d := dT_api_Elem) (xs := [((⟨1, (bytesS r372_1)⟩ : T_api_Elem))]) (cs := [(.p (.int .i64 1)), (.fz (r372_1.data.toList.map fun b : UInt8 => V.p (Value.int .u8 (b.toNat : Int))) r372_1.size 1 false)]) (n := 1) (e := 2) (m := 1000008) (RL.cons (show dT_api_Elem.R ((⟨1, (bytesS r372_1)⟩ : T_api_Elem)) [.p (.int .i64 1), .fz (r372_1.data.toList.map fun b : UInt8 => V.p (Value.int .u8 (b.toNat : Int))) r372_1.size 1 false] from (dT_api_Elem.mk (SlF.bytes r372_1))) RL.nil) rfl rfl (by decide)
            refine Sim.bd fun a523 h524 => ?_
            obtain ⟨v525, H526, e527, S528⟩ := S522.app (i := 0) (d := 128) (e := 2) (own := false) (σ := (5 :: 0 :: 1 :: 1 :: 1 :: 1 :: 1 :: 1 :: 1 :: 1 :: 1 :: 1 :: 1 :: 0 :: σ)) rfl (S522.sl (i := 1) rfl).y h524 rfl (by decide) (by decide) rfl
            refine Sim.op (e527) ?_
            refine Sim.call (ext_Bytes_ok k 4096 a523 (S528.sl (i := 0) rfl)) fun r529 cs530 H531 h532 q533 => ?_
            obtain ⟨v534, h535, q533⟩ := q533
            cases q533
            refine Sim.op (rfl) ?_
            refine Sim.op (rfl) ?_
            refine Sim.op (castI_p _ _) ?_
            refine Sim.op (bldV (pt_cons rfl (pt_cons h535.still.cells pt_nil)) (by kernel_rfl : _ = some (.agg [.p (.bool false), .p (.int .i64 0), .p (.int .u16 0), .p (.int .u32 0), .p (.int .u32 0), .p (.slice none 0 0), .p (.int .u16 4096), v534, .p (.slice none 0 0)]))) ?_
            refine Sim.call (ext_Rid_ok k ((⟨false, 0, 0, 0, 0, (([] : List Int)), 4096, r529.1, (([] : List Int))⟩ : T_api_Rtp)) (show dT_api_Rtp.R ((⟨false, 0, 0, 0, 0, (([] : List Int)), 4096, r529.1, (([] : List Int))⟩ : T_api_Rtp)) [.p (.bool false), .p (.int .i64 0), .p (.int .u16 0), .p (.int .u32 0), .p (.int .u32 0), .p (.slice none 0 0), .p (.int .u16 4096), v534, .p (.slice none 0 0)] from (dT_api_Rtp.mk (SlF.nil (dI .u32)) h535 (SlF.nil (dI .u8))))) fun r536 cs537 H538 h539 q540 => ?_
            cases q540
            refine Sim.op (rfl) ?_
            refine Sim.op (castS_p _) ?_
            refine Sim.op (rfl) ?_
            refine Sim.op (asB_p _) ?_
            refine Sim.op (bldV (pt_cons rfl (pt_cons h535.still.cells pt_nil)) (by kernel_rfl : _ = some (.agg [.p (.bool false), .p (.int .i64 0), .p (.int .u16 0), .p (.int .u32 0), .p (.int .u32 0), .p (.slice none 0 0), .p (.int .u16 4096), v534, .p (.slice none 0 0)]))) ?_
            refine Sim.call (limelightref3_Rid_ok k ((⟨false, 0, 0, 0, 0, (([] : List Int)), 4096, r529.1, (([] : List Int))⟩ : T_api_Rtp)) (show dT_api_Rtp.R ((⟨false, 0, 0, 0, 0, (([] : List Int)), 4096, r529.1, (([] : List Int))⟩ : T_api_Rtp)) [.p (.bool false), .p (.int .i64 0), .p (.int .u16 0), .p (.int .u32 0), .p (.int .u32 0), .p (.slice none 0 0), .p (.int .u16 4096), v534, .p (.slice none 0 0)] from (dT_api_Rtp.mk (SlF.nil (dI .u32)) h535 (SlF.nil (dI .u8))))) fun r541 cs542 H543 h544 q545 => ?_
            cases q545
            refine Sim.op (rfl) ?_
            refine Sim.op (castS_p _) ?_
            refine Sim.op (rfl) ?_
            refine Sim.op (asB_p _) ?_
            refine Sim.ch (P := fun r y => r = y) ?_ (fun b546 y547 h548 h549 => ?_)
            · refine Sim.cd (fun hc => ?_) (fun hc => ?_)
              · exact Sim.ret rfl rfl
              · exact Sim.ret rfl rfl
            subst h549
            refine Sim.ch (P := fun r y => r = y) ?_ (fun b554 y555 h556 h557 => ?_)
            · refine Sim.cd (fun hc => ?_) (fun hc => ?_)
              · refine Sim.ch (P := fun r y => r = y) ?_ (fun b550 y551 h552 h553 => ?_)
                · refine Sim.cd (fun hc => ?_) (fun hc => ?_)
                  · exact Sim.ret rfl rfl
                  · exact Sim.ret rfl rfl
                subst h553
                exact Sim.ret rfl rfl
              · exact Sim.ret rfl rfl
            subst h557
            refine Sim.ch (P := fun r y => (.p (.bool r), H526) = y) ?_ (fun b563 y564 h565 h566 => ?_)
            · refine Sim.cd (fun hc => ?_) (fun hc => ?_)
              · refine Sim.call (limelightlaw4_known_ok k ) fun r558 cs559 H560 h561 q562 => ?_
                cases q562
                refine Sim.op (asB_p _) ?_
                exact Sim.ret rfl rfl
              · exact Sim.ret rfl rfl
            subst h566
            refine Sim.op (asB_p _) ?_
            exact Sim.fin (S528.finN (lv_cons (still_bool _).lv lv_nil)) rfl
      · intro r567_6 H568 S569
        refine Sim.ext (limelightlaw4_ExtBack_a0_ret _ _ _ _ _) ?_
        exact Sim.fin (S569.finN (lv_cons (still_bool _).lv lv_nil)) rfl
end Go.Ev
namespace Go.Ev
set_option maxRecDepth 100000
theorem elems_l0 {β : Type} (kE0 : Unit → Option β) (kE1 : Bool → Option β) (l : List T_api_Elem) (hl : l.length < 2 ^ 30) : ∀ (rest pre : List T_api_Elem) (j : Nat), l = pre ++ rest →
    p_limelightlaw4_elems_l0 (j + rest.length + 1) kE0 kE1 l l (l.length : Int) (pre.length : Int) = kE0 ()
  | [], pre, j, h => by
    rw [p_limelightlaw4_elems_l0]
    have h1 : decide ((pre.length : Int) < (l.length : Int)) = false := by subst h; simp
    rw [h1, cond_false]
  | x :: rest, pre, j, h => by
    rw [List.length_cons, show j + (rest.length + 1) + 1 = (j + rest.length + 1) + 1 from rfl, p_limelightlaw4_elems_l0]
    have h1 : decide ((pre.length : Int) < (l.length : Int)) = true := by subst h; simp; omega
    have h2 : ix l (pre.length : Int) = some x := ix_mid' h rfl
    have h4 : IntKind.wrap .i64 ((pre.length : Int) + 1) = (((pre ++ [x]).length : Nat) : Int) := by
      rw [wrap_i64 (by omega) (by have : pre.length ≤ l.length := by subst h; simp
                                  omega)]
      simp
    have h5 : (x.ID != x.ID) = false := by simp
    simp only [h1, cond_true, h2, Option.bind_some, h5, cond_false, beq_self_eq_true, Bool.not_true, h4]
    exact elems_l0 kE0 kE1 l hl rest (pre ++ [x]) j (by rw [h]; simp)
theorem elems_self {l : List T_api_Elem} {k : Nat} (hl : l.length < 2 ^ 30) (hk : l.length < k) : p_limelightlaw4_elems k l l = some true := by
  unfold p_limelightlaw4_elems
  have h0 : ((l.length : Int) != (l.length : Int)) = false := by simp
  rw [h0, cond_false]
  have := fun kE0 (kE1 : Bool → Option Bool) => elems_l0 kE0 kE1 l hl l [] (k - l.length - 1) rfl
  simp only [show k - l.length - 1 + l.length + 1 = k by omega, List.length_nil] at this
  exact this _ _
def Fst (l : List T_api_Elem) (i m f : Nat) : Prop := f ≤ i ∧ (∃ e e', l[f]? = some e ∧ l[i]? = some e' ∧ e.ID = e'.ID) ∧ ∀ q, q < m → ∀ e e', l[q]? = some e → l[i]? = some e' → e.ID = e'.ID → f ≤ q
theorem back_l1 {β : Type} (kE0 : ByteArray → List T_api_Elem → Int → List Int → Bool → Int → Option β) (x1 : ByteArray) (l : List T_api_Elem) (hl : l.length < 2 ^ 30) (i : Nat) (hi : i < l.length) (x15 : List Int) (x16 : Bool) : ∀ (rem m j f : Nat), m + rem = i → Fst l i m f →
    ∃ f' : Nat, p_limelightlaw4_ExtBack_l1 (j + rem + 1) kE0 x1 l (i : Int) x15 x16 (f : Int) (i : Int) (m : Int) = kE0 x1 l (i : Int) x15 x16 (f' : Int) ∧ Fst l i i f'
  | 0, m, j, f, hm, hf => by
    rw [p_limelightlaw4_ExtBack_l1]
    obtain rfl : m = i := by omega
    have h1 : decide ((m : Int) < (m : Int)) = false := by simp
    rw [h1, cond_false]
    exact ⟨f, rfl, hf⟩
  | rem + 1, m, j, f, hm, hf => by
    have h1 : decide ((m : Int) < (i : Int)) = true := by simp; omega
    obtain ⟨e, he⟩ : ∃ e, l[m]? = some e := ⟨l[m]'(by omega), by simp⟩
    obtain ⟨e', he'⟩ : ∃ e', l[i]? = some e' := ⟨l[i], by simp [hi]⟩
    have w : IntKind.wrap .i64 ((m : Int) + 1) = ((m + 1 : Nat) : Int) := by rw [wrap_i64 (by omega) (by omega)]; rfl
    rw [show j + (rem + 1) + 1 = (j + rem + 1) + 1 from rfl, p_limelightlaw4_ExtBack_l1]
    simp only [h1, cond_true, ix_at he, ix_at he', Option.bind_some, w]
    obtain ⟨f1, f2, f3⟩ := hf
    cases hc : (e.ID == e'.ID) with
    | true =>
      have hc' : e.ID = e'.ID := by simpa using hc
      have hmin : (if (m : Int) < (f : Int) then (m : Int) else (f : Int)) = ((if m < f then m else f : Nat) : Int) := by split <;> split <;> first | rfl | omega
      rw [hmin]
      refine back_l1 kE0 x1 l hl i hi x15 x16 rem (m + 1) j _ (by omega) ⟨?_, ?_, ?_⟩
      · split <;> omega
      · split
        · exact ⟨e, e', he, he', hc'⟩
        · exact f2
      · intro q hq a a' ha ha' h
        split
        · rename_i hmf
          rcases Nat.lt_or_ge q m with hq' | hq'
          · have := f3 q hq' a a' ha ha' h; omega
          · exact hq'
        · rcases Nat.lt_or_ge q m with hq' | hq'
          · exact f3 q hq' a a' ha ha' h
          · omega
    | false =>
      have hc' : e.ID ≠ e'.ID := by simpa using hc
      refine back_l1 kE0 x1 l hl i hi x15 x16 rem (m + 1) j f (by omega) ⟨f1, f2, fun q hq a a' ha ha' h => ?_⟩
      rcases Nat.lt_or_ge q m with hq' | hq'
      · exact f3 q hq' a a' ha ha' h
      · obtain rfl : q = m := by omega
        rw [he] at ha; rw [he'] at ha'
        cases ha; cases ha'
        exact absurd h hc'
theorem back_l0 {β : Type} (kE0 : ByteArray → List T_api_Elem → Option β) (kE1 : Bool → Option β) (x1 : ByteArray) (l : List T_api_Elem) (hl : l.length < 20) (hd : ∀ e ∈ l, e.Data.length < 2 ^ 30) : ∀ (n j : Nat), n ≤ l.length → 20 ≤ j →
    p_limelightlaw4_ExtBack_l0 (j + n + 1) kE0 kE1 x1 l ((n : Int) - 1) = kE0 x1 l
  | 0, j, _, _ => by
    rw [p_limelightlaw4_ExtBack_l0]
    have : decide (((0 : Nat) : Int) - 1 ≥ 0) = false := by decide
    rw [this, cond_false]
  | n + 1, j, hn, hj => by
    obtain ⟨e, he⟩ : ∃ e, l[n]? = some e := ⟨l[n]'(by omega), by simp⟩
    have x0 : ((n + 1 : Nat) : Int) - 1 = (n : Int) := by omega
    have c : decide ((n : Int) ≥ 0) = true := by simp
    have hs : sub l 0 (n : Int) = some (l.take n) := by
      have := sub_eq (xs := l) (a := 0) (n := n) (by omega)
      simpa using this
    have hlen : (l.take n).length = n := by rw [List.length_take]; omega
    rw [x0, show j + (n + 1) + 1 = (j + n + 1) + 1 from rfl, p_limelightlaw4_ExtBack_l0]
    have key : ∃ f : Nat, ∃ e1 : T_api_Elem, l[f]? = some e1 ∧ p_ext_Find (j + n + 1) l e.ID = some (e1.Data, true) ∧ ∀ kE0' : ByteArray → List T_api_Elem → Int → List Int → Bool → Int → Option β, p_limelightlaw4_ExtBack_l1 (j + n + 1) kE0' x1 l (n : Int) e1.Data true (n : Int) (n : Int) 0 = kE0' x1 l (n : Int) e1.Data true (f : Int) := by
      have hst : Fst l n 0 n := ⟨Nat.le_refl _, ⟨e, e, he, he, rfl⟩, fun q hq => absurd hq (Nat.not_lt_zero _)⟩
      -- the place found does not turn on what follows
      have first : ∃ f : Nat, Fst l n n f := by
        obtain ⟨f, _, hf⟩ := back_l1 (β := Unit) (fun _ _ _ _ _ _ => none) x1 l (by omega) n (by omega) [] true n 0 j n (by omega) hst
        exact ⟨f, hf⟩
      obtain ⟨f, hf⟩ := first
      have uniq : ∀ g, Fst l n n g → g = f := by
        intro g hg
        obtain ⟨g1, ⟨a, a', ga, ga', gid⟩, g3⟩ := hg
        obtain ⟨f1, ⟨b, b', fb, fb', fid⟩, f3⟩ := hf
        rw [he] at ga' fb'; cases ga'; cases fb'
        have p1 : g ≤ f := by
          rcases Nat.lt_or_ge f n with h | h
          · exact g3 f h b e fb he fid
          · omega
        have p2 : f ≤ g := by
          rcases Nat.lt_or_ge g n with h | h
          · exact f3 g h a e ga he gid
          · omega
        omega
      obtain ⟨f1, ⟨e1, e', h1, h2, h3⟩, h4⟩ := id hf
      rw [he] at h2; cases h2
      refine ⟨f, e1, h1, ?_, fun kE0' => ?_⟩
      · have hfl : f < l.length := (List.getElem?_eq_some_iff.1 h1).1
        have hsp : l = l.take f ++ e1 :: l.drop (f + 1) := by
          have hg : l[f] = e1 := (List.getElem?_eq_some_iff.1 h1).2
          rw [← hg, List.getElem_cons_drop, List.take_append_drop]
        refine find_mid hsp (fun x hx hid => ?_) h3 (by omega) (by omega) (hd e1 (List.mem_of_getElem? h1))
        obtain ⟨q, hq⟩ := List.getElem?_of_mem hx
        rw [List.getElem?_take] at hq
        split at hq
        · rename_i hqf
          have := h4 q (by omega) x e hq he hid
          omega
        · cases hq
      · obtain ⟨g, hg, hg'⟩ := back_l1 kE0' x1 l (by omega) n (by omega) e1.Data true n 0 j n (by omega) hst
        have := uniq g hg'
        subst this
        exact hg
    obtain ⟨f, e1, hf, hfind, hl1⟩ := key
    rw [c, cond_true, ix_at he, Option.bind_some, hfind, Option.bind_some, hs, Option.bind_some, hlen]
    rw [hl1]
    simp only [Bool.not_true, cond_false, ix_at hf, Option.bind_some, beq_self_eq_true]
    rw [wrap_i64 (by omega) (by omega)]
    exact back_l0 kE0 kE1 x1 l hl hd n j (by omega) hj
theorem enc2_isB {l : List T_api_Elem} (h : ∀ e ∈ l, ok2 e ∧ isB e.Data) : isB (padB (l.flatMap enc2)) := by
  intro x hx
  unfold padB at hx
  rcases List.mem_append.1 hx with hx | hx
  · obtain ⟨e, he, hx⟩ := List.mem_flatMap.1 hx
    obtain ⟨⟨h1, h2⟩, h3⟩ := h e he
    unfold enc2 at hx
    rcases List.mem_cons.1 hx with rfl | hx
    · omega
    rcases List.mem_cons.1 hx with rfl | hx
    · omega
    exact h3 x hx
  · have := (List.mem_replicate.1 hx).2
    omega
theorem rrid_ok {k : Nat} {p : T_api_Rtp} {l : List T_api_Elem} {d : List Int} (hr : p_limelightref3_ReadElems k p.Profile p.Ext = some (l, 0)) (hf : p_limelightref3_Find k l 1 = some (d, true)) : p_limelightref3_Rid k p = some (bif RidX.rightB (strB d) then (strB d, true) else (⟨#[]⟩, false)) := by
  unfold p_limelightref3_Rid
  rw [hr, Option.bind_some]
  simp only [show ((0 : Int) != 0) = false from rfl, cond_false]
  rw [hf, Option.bind_some]
  simp only [Bool.not_true, cond_false, p_limelightref1_Rid, Option.bind_some]
  cases RidX.rightB (strB d) <;> rfl
theorem back_tail {n : ByteArray} (hn : n.size ≤ 20) {l : List T_api_Elem} (hl : l.length ≤ 3) (hg : ∀ e ∈ l, ok2 e ∧ isB e.Data) :
    ((ap 32 ([((⟨1, (bytesS n)⟩ : T_api_Elem))]) l).bind fun a294 =>
(p_ext_Bytes 40 4096 a294).bind fun r300 =>
(p_ext_Rid 40 ((⟨false, 0, 0, 0, 0, (([] : List Int)), 4096, r300.1, (([] : List Int))⟩ : T_api_Rtp))).bind fun r307 =>
(p_limelightref3_Rid 40 ((⟨false, 0, 0, 0, 0, (([] : List Int)), 4096, r300.1, (([] : List Int))⟩ : T_api_Rtp))).bind fun r312 =>
(bif r300.2 == 0 then (some (r307.2 == r312.2)) else (some false)).bind fun b317 =>
(bif b317 then ((bif !r307.2 then (some true) else (some (r307.1.toList == n.toList))).bind fun b321 =>
some b321) else (some false)).bind fun b325 =>
(bif b325 then ((p_limelightlaw4_known 40).bind fun r329 =>
some r329) else (some false)).bind fun b334 =>
some (b334)) = some true := by
  have hb := bytesS_len n
  have hg' : ∀ e ∈ [(⟨1, bytesS n⟩ : T_api_Elem)] ++ l, ok2 e ∧ isB e.Data := by
    intro e he
    rcases List.mem_append.1 he with he | he
    · simp only [List.mem_cons, List.not_mem_nil, or_false] at he
      subst he
      refine ⟨by unfold ok2; simp only; omega, fun x hx => ?_⟩
      simp only [bytesS, List.mem_map] at hx
      obtain ⟨b, _, rfl⟩ := hx
      have := b.toNat_lt
      omega
    · exact hg e he
  have hlen : ([(⟨1, bytesS n⟩ : T_api_Elem)] ++ l).length ≤ 8 := by simp; omega
  have hdl : ∀ e ∈ [(⟨1, bytesS n⟩ : T_api_Elem)] ++ l, e.Data.length < 2 ^ 40 := fun e he => by have := (hg' e he).1.2; omega
  have hf : findD ([(⟨1, bytesS n⟩ : T_api_Elem)] ++ l) 1 = (bytesS n, true) := by simp [findD]
  have f1 := find_eq (k := 40) (id := 1) (l := [(⟨1, bytesS n⟩ : T_api_Elem)] ++ l) (by omega) (by omega) hdl
  have f2 := rfind_eq (k := 40) (id := 1) (l := [(⟨1, bytesS n⟩ : T_api_Elem)] ++ l) (by omega) (by omega) hdl
  rw [hf] at f1 f2
  have r1 := read2 (k := 40) (by omega) hlen fun e he => (hg' e he).1
  have hfl := flat2_len fun e he => (hg' e he).1
  have hpl := padB_len (([(⟨1, bytesS n⟩ : T_api_Elem)] ++ l).flatMap enc2)
  have r2 := (readElems_same 40 4096 (enc2_isB hg') (by omega)).trans r1
  have q1 := rid_ok (p := ⟨false, 0, 0, 0, 0, [], 4096, padB (([(⟨1, bytesS n⟩ : T_api_Elem)] ++ l).flatMap enc2), []⟩) (k := 40) r1 f1
  have q2 := rrid_ok (p := ⟨false, 0, 0, 0, 0, [], 4096, padB (([(⟨1, bytesS n⟩ : T_api_Elem)] ++ l).flatMap enc2), []⟩) (k := 40) r2 f2
  rw [strB_bytesS] at q1 q2
  rw [ap_eq (by decide) (by simp; omega), Option.bind_some, bytes2 (by omega) hlen (fun e he => (hg' e he).1), Option.bind_some, q1, Option.bind_some, q2, Option.bind_some, known4]
  cases RidX.rightB n <;> simp
theorem back_fin (x1 : ByteArray) {l : List T_api_Elem} (hl : l.length ≤ 3) (hg : ∀ e ∈ l, ok2 e ∧ isB e.Data) :
    (bif decide (((x1.size : Int)) > 20) then (
(subS x1 0 20).bind fun s148 =>
bif s148.toList == ((⟨#[]⟩ : ByteArray)).toList then (
(ap 32 ([((⟨1, (bytesS ((⟨#[97]⟩ : ByteArray)))⟩ : T_api_Elem))]) l).bind fun a153 =>
(p_ext_Bytes 40 4096 a153).bind fun r159 =>
(p_ext_Rid 40 ((⟨false, 0, 0, 0, 0, (([] : List Int)), 4096, r159.1, (([] : List Int))⟩ : T_api_Rtp))).bind fun r166 =>
(p_limelightref3_Rid 40 ((⟨false, 0, 0, 0, 0, (([] : List Int)), 4096, r159.1, (([] : List Int))⟩ : T_api_Rtp))).bind fun r171 =>
(bif r159.2 == 0 then (some (r166.2 == r171.2)) else (some false)).bind fun b176 =>
(bif b176 then ((bif !r166.2 then (some true) else (some (r166.1.toList == ((⟨#[97]⟩ : ByteArray)).toList))).bind fun b180 =>
some b180) else (some false)).bind fun b184 =>
(bif b184 then ((p_limelightlaw4_known 40).bind fun r188 =>
some r188) else (some false)).bind fun b193 =>
some (b193))
else (
(ap 32 ([((⟨1, (bytesS s148)⟩ : T_api_Elem))]) l).bind fun a200 =>
(p_ext_Bytes 40 4096 a200).bind fun r206 =>
(p_ext_Rid 40 ((⟨false, 0, 0, 0, 0, (([] : List Int)), 4096, r206.1, (([] : List Int))⟩ : T_api_Rtp))).bind fun r213 =>
(p_limelightref3_Rid 40 ((⟨false, 0, 0, 0, 0, (([] : List Int)), 4096, r206.1, (([] : List Int))⟩ : T_api_Rtp))).bind fun r218 =>
(bif r206.2 == 0 then (some (r213.2 == r218.2)) else (some false)).bind fun b223 =>
(bif b223 then ((bif !r213.2 then (some true) else (some (r213.1.toList == s148.toList))).bind fun b227 =>
some b227) else (some false)).bind fun b231 =>
(bif b231 then ((p_limelightlaw4_known 40).bind fun r235 =>
some r235) else (some false)).bind fun b240 =>
some (b240)))
else (
bif x1.toList == ((⟨#[]⟩ : ByteArray)).toList then (
(ap 32 ([((⟨1, (bytesS ((⟨#[97]⟩ : ByteArray)))⟩ : T_api_Elem))]) l).bind fun a247 =>
(p_ext_Bytes 40 4096 a247).bind fun r253 =>
(p_ext_Rid 40 ((⟨false, 0, 0, 0, 0, (([] : List Int)), 4096, r253.1, (([] : List Int))⟩ : T_api_Rtp))).bind fun r260 =>
(p_limelightref3_Rid 40 ((⟨false, 0, 0, 0, 0, (([] : List Int)), 4096, r253.1, (([] : List Int))⟩ : T_api_Rtp))).bind fun r265 =>
(bif r253.2 == 0 then (some (r260.2 == r265.2)) else (some false)).bind fun b270 =>
(bif b270 then ((bif !r260.2 then (some true) else (some (r260.1.toList == ((⟨#[97]⟩ : ByteArray)).toList))).bind fun b274 =>
some b274) else (some false)).bind fun b278 =>
(bif b278 then ((p_limelightlaw4_known 40).bind fun r282 =>
some r282) else (some false)).bind fun b287 =>
some (b287))
else (
(ap 32 ([((⟨1, (bytesS x1)⟩ : T_api_Elem))]) l).bind fun a294 =>
(p_ext_Bytes 40 4096 a294).bind fun r300 =>
(p_ext_Rid 40 ((⟨false, 0, 0, 0, 0, (([] : List Int)), 4096, r300.1, (([] : List Int))⟩ : T_api_Rtp))).bind fun r307 =>
(p_limelightref3_Rid 40 ((⟨false, 0, 0, 0, 0, (([] : List Int)), 4096, r300.1, (([] : List Int))⟩ : T_api_Rtp))).bind fun r312 =>
(bif r300.2 == 0 then (some (r307.2 == r312.2)) else (some false)).bind fun b317 =>
(bif b317 then ((bif !r307.2 then (some true) else (some (r307.1.toList == x1.toList))).bind fun b321 =>
some b321) else (some false)).bind fun b325 =>
(bif b325 then ((p_limelightlaw4_known 40).bind fun r329 =>
some r329) else (some false)).bind fun b334 =>
some (b334)))) = some true := by
  by_cases h : x1.size > 20
  · have e1 : decide ((x1.size : Int) > 20) = true := by simp; omega
    have e2 : subS x1 0 20 = some (x1.extract 0 20) := by
      unfold subS
      rw [if_pos ⟨by omega, by omega, by omega⟩]
      rfl
    have e3 : (x1.extract 0 20).size = 20 := by rw [ByteArray.size_extract]; omega
    rw [e1, cond_true, e2, Option.bind_some]
    cases ((x1.extract 0 20).toList == ((⟨#[]⟩ : ByteArray)).toList) with
    | true => exact back_tail (n := ⟨#[97]⟩) (by decide) hl hg
    | false => exact back_tail (n := x1.extract 0 20) (by omega) hl hg
  · have e1 : decide ((x1.size : Int) > 20) = false := by simp; omega
    rw [e1, cond_false]
    cases (x1.toList == ((⟨#[]⟩ : ByteArray)).toList) with
    | true => exact back_tail (n := ⟨#[97]⟩) (by decide) hl hg
    | false => exact back_tail (n := x1) (by omega) hl hg
theorem extBack_true (x0 : List Int) (hx : x0.length < 2 ^ 50) (x1 : ByteArray) (x2 : Bool) : p_limelightlaw4_ExtBack 40 x0 x1 x2 = some true := by
  unfold p_limelightlaw4_ExtBack
  obtain ⟨l, t, e1, hl, hg, _⟩ := tape_elems (t := ⟨x0, 0⟩) ⟨by simp, by simp, hx⟩ x2 (k := 40) (by omega)
  have hg2 : ∀ e ∈ l, ok2 e ∧ isB e.Data := fun e he => (hg e he).2
  have hd : ∀ e ∈ l, e.Data.length < 2 ^ 30 := fun e he => by have := (hg2 e he).1.2; omega
  have w : IntKind.wrap .i64 ((l.length : Int) - 1) = (l.length : Int) - 1 := wrap_i64 (by omega) (by omega)
  have b0 : ∀ kE0 (kE1 : Bool → Option Bool), p_limelightlaw4_ExtBack_l0 40 kE0 kE1 x1 l ((l.length : Int) - 1) = kE0 x1 l := fun kE0 kE1 => by
    have := back_l0 kE0 kE1 x1 l (by omega) hd l.length (40 - l.length - 1) (by omega) (by omega)
    rwa [show 40 - l.length - 1 + l.length + 1 = 40 by omega] at this
  rw [e1, Option.bind_some]
  have h00 : ((0 : Int) != 0) = false := rfl
  cases x2 with
  | true =>
    rw [cond_true]
    simp only
    rw [bytes2 (by omega) (by omega) (fun e he => (hg2 e he).1), Option.bind_some]
    simp only
    rw [read2 (by omega) (by omega) (fun e he => (hg2 e he).1), Option.bind_some]
    simp only [h00, cond_false, Option.bind_some]
    rw [elems_self (by omega) (by omega)]
    simp only [Option.bind_some, Bool.not_true, cond_false, padB_mod]
    rw [w, b0]
    exact back_fin x1 hl hg2
  | false =>
    have hg1 : ∀ e ∈ l, ok1 e := fun e he => (hg e he).1 rfl
    rw [cond_false]
    simp only
    rw [bytes1 (by omega) (by omega) hg1, Option.bind_some]
    simp only
    rw [read1 (by omega) (by omega) hg1, Option.bind_some]
    simp only [h00, cond_false, Option.bind_some]
    rw [elems_self (by omega) (by omega)]
    simp only [Option.bind_some, Bool.not_true, cond_false, padB_mod]
    rw [w, b0]
    exact back_fin x1 hl hg2
theorem extBack_ev (a0 : (DT.slice 8 (.int .i64)).D) (a1 : DT.str.D) (a2 : DT.bool.D) (w0 : (DT.slice 8 (.int .i64)).ok a0) (_ : DT.str.ok a1) (_ : DT.bool.ok a2) :
    ev G X0 5 [] [(DT.slice 8 (.int .i64)).val a0, DT.str.val a1, DT.bool.val a2] [] = some ([.v (bV true)], []) := by
  have hl : (Option.getD a0 []).length < 2 ^ 50 := by
    cases a0 with
    | none => exact Nat.two_pow_pos 50
    | some l =>
      have := w0.1
      have hr : reachBytes ≤ 140737488355328 := by decide
      have e : (Option.getD (some l) []).length = l.length := rfl
      omega
  obtain ⟨_, h1, rfl⟩ := limelightlaw4_ExtBack_ok 40 (h := []) (σ := []) (Option.getD a0 []) (slF_ints a0) a1 a2 _ (extBack_true _ hl a1 a2)
  exact h1
end Go.Ev
