/- A part of the proof that follows: A layer's name is told by either form of extension, if it is right; of a packet without an extension none: for every name and every number. -/
import Derived.Test.YtigkdihkmihmmaaMExtRids2
import Derived.KernelRfl
/- Lifted by lift.py: ext_Rid as a plain function. -/
namespace Go.Ev
open Go.Proofs
set_option linter.unusedVariables false
set_option linter.unusedSimpArgs false
set_option maxRecDepth 100000
def p_ext_Rid (k : Nat) (x0 : T_api_Rtp) : Option (ByteArray × Bool) :=
(p_ext_Read k x0.Profile x0.Ext).bind fun r11 =>
bif r11.2 != 0 then (
some (((⟨#[]⟩ : ByteArray)), false))
else (
(p_ext_Find k r11.1 1).bind fun r18 =>
(bif !r18.2 then (some true) else ((p_rid_Right (strB r18.1)).bind fun r25 =>
some (!r25))).bind fun b30 =>
bif b30 then (
some (((⟨#[]⟩ : ByteArray)), false))
else (
some ((strB r18.1), true)))
theorem ext_Rid_ok (k : Nat) {h : H} {σ : Stamp} (x0 : T_api_Rtp) {u0 : List V} (hu0 : dT_api_Rtp.R x0 u0) : Sim (p_ext_Rid k x0) (ev G X0 26 σ [(.agg u0)] h) (fun r s => s = ([.v (.p (.string r.1)), .v (.p (.bool r.2))], h)) := by
  refine Sim.ev rfl (Sim.ext (ext_Rid_entry _ _ _ _ _) ?_)
  rw [p_ext_Rid]
  obtain ⟨v1, v3, v5, rfl, h2, h4, h6⟩ := dT_api_Rtp.inv hu0
  have S0 : Fm 33 h [] [] [] (List.replicate 33 [] :: h) := Fm.start0
  obtain ⟨H7, e8, S9⟩ := S0.box (own := false) (d := 1) (s := (0 :: 0 :: 0 :: σ)) (xs := [(.p (.bool x0.Marker)), (.p (.int .i64 x0.f_Type)), (.p (.int .u16 x0.Seq)), (.p (.int .u32 x0.Time)), (.p (.int .u32 x0.Ssrc)), v1, (.p (.int .u16 x0.Profile)), v3, v5]) (stills_cons (still_bool _) (stills_cons (still_int _ _) (stills_cons (still_int _ _) (stills_cons (still_int _ _) (stills_cons (still_int _ _) (stills_cons h2.still (stills_cons (still_int _ _) (stills_cons h4.still (stills_cons h6.still stills_nil))))))))) (by decide) rfl
  refine Sim.op (e8) ?_
  refine Sim.op (fA_ref _ _ _) ?_
  refine Sim.op ((S9.atG (i := 0) rfl).ld (j := 6) rfl) ?_
  refine Sim.op (castI_p _ _) ?_
  refine Sim.op (fA_ref _ _ _) ?_
  refine Sim.op ((S9.atG (i := 0) rfl).ld (j := 7) rfl) ?_
  refine Sim.call (ext_Read_ok k x0.Profile x0.Ext (h4.h H7)) fun r11 cs12 H13 h14 q15 => ?_
  obtain ⟨v16, h17, q15⟩ := q15
  cases q15
  refine Sim.op (rfl) ?_
  refine Sim.op (rfl) ?_
  refine Sim.op (castI_p _ _) ?_
  refine Sim.cd (fun hc => ?_) (fun hc => ?_)
  · exact Sim.fin (S9.finN (lv_cons (still_str _).lv (lv_cons (still_bool _).lv lv_nil))) rfl
  · refine Sim.call (ext_Find_ok k r11.1 (h17.h H7) 1) fun r18 cs19 H20 h21 q22 => ?_
    obtain ⟨v23, h24, q22⟩ := q22
    cases q22
    refine Sim.op (rfl) ?_
    refine Sim.op (rfl) ?_
    refine Sim.op (asB_p _) ?_
    refine Sim.ch (P := fun r y => (.p (.bool r), H7) = y) ?_ (fun b30 y31 h32 h33 => ?_)
    · refine Sim.cd (fun hc => ?_) (fun hc => ?_)
      · exact Sim.ret rfl rfl
      · refine Sim.op ((h24.h H7).str) ?_
        refine Sim.op (castS_p _) ?_
        refine Sim.call (rid_Right_ok (strB r18.1)) fun r25 cs26 H27 h28 q29 => ?_
        cases q29
        refine Sim.op (asB_p _) ?_
        exact Sim.ret rfl rfl
    subst h33
    refine Sim.op (asB_p _) ?_
    refine Sim.cd (fun hc => ?_) (fun hc => ?_)
    · exact Sim.fin (S9.finN (lv_cons (still_str _).lv (lv_cons (still_bool _).lv lv_nil))) rfl
    · refine Sim.op ((h24.h H7).str) ?_
      refine Sim.op (castS_p _) ?_
      exact Sim.fin (S9.finN (lv_cons (still_str _).lv (lv_cons (still_bool _).lv lv_nil))) rfl
end Go.Ev
namespace Go.Ev
def ok1 (e : T_api_Elem) : Prop := (1 ≤ e.ID ∧ e.ID ≤ 14) ∧ 1 ≤ e.Data.length ∧ e.Data.length ≤ 16
def ok2 (e : T_api_Elem) : Prop := (1 ≤ e.ID ∧ e.ID ≤ 255) ∧ e.Data.length ≤ 255
theorem ok1.ok2 {e : T_api_Elem} (h : ok1 e) : ok2 e := by unfold Go.Ev.ok2; unfold ok1 at h; omega
theorem right_one {e : T_api_Elem} (h : ok1 e) : goodE 48862 e := by
  obtain ⟨⟨h1, h2⟩, h3, h4⟩ := h
  unfold goodE p_ext_right
  have e1 : decide (e.ID ≥ 1) = true := by simp; omega
  have e2 : decide (e.ID ≤ 14) = true := by simp; omega
  have e3 : decide ((e.Data.length : Int) ≥ 1) = true := by simp; omega
  have e4 : decide ((e.Data.length : Int) ≤ 16) = true := by simp; omega
  simp only [e1, e2, e3, e4, show ((48862 : Int) == 48862) = true from rfl, cond_true, Option.bind_some]
theorem right_two {e : T_api_Elem} (h : ok2 e) : goodE 4096 e := by
  obtain ⟨⟨h1, h2⟩, h4⟩ := h
  unfold goodE p_ext_right
  have e1 : decide (e.ID ≥ 1) = true := by simp; omega
  have e2 : decide (e.ID ≤ 255) = true := by simp; omega
  have e4 : decide ((e.Data.length : Int) ≤ 255) = true := by simp; omega
  simp only [e1, e2, e4, show ((4096 : Int) == 48862) = false from rfl, cond_false, cond_true, Option.bind_some]
theorem encE_one {e : T_api_Elem} (h : ok1 e) : encE 48862 e = enc1 e := by
  obtain ⟨⟨h1, h2⟩, h3, h4⟩ := h
  obtain ⟨a, ha⟩ : ∃ a : Fin 15, (a.1 : Int) = e.ID := ⟨⟨e.ID.toNat, by omega⟩, by simp; omega⟩
  obtain ⟨b, hb⟩ : ∃ b : Fin 16, b.1 + 1 = e.Data.length := ⟨⟨e.Data.length - 1, by omega⟩, by simp; omega⟩
  have hb' : (e.Data.length : Int) - 1 = (b.1 : Int) := by omega
  unfold encE enc1
  rw [show ((48862 : Int) == 48862) = true from rfl, cond_true, ← ha, hb', wrap_i64 (n := (b.1 : Int)) (by omega) (by omega), nib_or]
  rfl
theorem encE_two {e : T_api_Elem} (h : ok2 e) : encE 4096 e = enc2 e := by
  obtain ⟨⟨h1, h2⟩, h4⟩ := h
  unfold encE enc2
  rw [show ((4096 : Int) == 48862) = false from rfl, cond_false, wrap_u8 (by omega) (by omega), wrap_u8 (by omega) (by omega)]
  rfl
theorem flat_eq {α β : Type} {f g : α → List β} : ∀ {l : List α}, (∀ e ∈ l, f e = g e) → l.flatMap f = l.flatMap g
  | [], _ => rfl
  | e :: l, h => by rw [List.flatMap_cons, List.flatMap_cons, h e (List.mem_cons_self ..), flat_eq fun x hx => h x (List.mem_cons_of_mem _ hx)]
theorem bytes1 {l : List T_api_Elem} {k : Nat} (hk : 9 ≤ k) (hl : l.length ≤ 8) (hg : ∀ e ∈ l, ok1 e) : p_ext_Bytes k 48862 l = some (padB (l.flatMap enc1), 0) := by
  obtain ⟨j, rfl⟩ : ∃ j, k = j + 9 := ⟨k - 9, by omega⟩
  rw [bytes_ok (.inl rfl) hl (fun e he => ⟨right_one (hg e he), (hg e he).ok2.2⟩), flat_eq fun e he => encE_one (hg e he)]
theorem bytes2 {l : List T_api_Elem} {k : Nat} (hk : 9 ≤ k) (hl : l.length ≤ 8) (hg : ∀ e ∈ l, ok2 e) : p_ext_Bytes k 4096 l = some (padB (l.flatMap enc2), 0) := by
  obtain ⟨j, rfl⟩ : ∃ j, k = j + 9 := ⟨k - 9, by omega⟩
  rw [bytes_ok (.inr rfl) hl (fun e he => ⟨right_two (hg e he), (hg e he).2⟩), flat_eq fun e he => encE_two (hg e he)]
theorem flat1_len : ∀ {l : List T_api_Elem}, (∀ e ∈ l, ok2 e) → (l.flatMap enc1).length ≤ 256 * l.length
  | [], _ => by simp
  | e :: l, h => by
    have := flat1_len (l := l) fun x hx => h x (List.mem_cons_of_mem _ hx)
    have := (h e (List.mem_cons_self ..)).2
    rw [List.flatMap_cons, List.length_append, enc1, List.length_cons, List.length_cons]
    omega
theorem flat2_len : ∀ {l : List T_api_Elem}, (∀ e ∈ l, ok2 e) → (l.flatMap enc2).length ≤ 257 * l.length
  | [], _ => by simp
  | e :: l, h => by
    have := flat2_len (l := l) fun x hx => h x (List.mem_cons_of_mem _ hx)
    have := (h e (List.mem_cons_self ..)).2
    rw [List.flatMap_cons, List.length_append, enc2, List.length_cons, List.length_cons, List.length_cons]
    omega
theorem padB_len (xs : List Int) : (padB xs).length = xs.length + (4 - xs.length % 4) % 4 := by simp [padB]
theorem padB_mod (xs : List Int) : (Int.tmod (((padB xs).length : Int)) 4 != 0) = false := by
  rw [padB_len, Int.tmod_eq_emod_of_nonneg (by omega)]
  have : (((xs.length + (4 - xs.length % 4) % 4 : Nat) : Int) % 4) = 0 := by omega
  rw [this]; rfl
theorem read1 {l : List T_api_Elem} {k : Nat} (hk : 20 ≤ k) (hl : l.length ≤ 8) (hg : ∀ e ∈ l, ok1 e) : p_ext_Read k 48862 (padB (l.flatMap enc1)) = some (l, 0) := by
  have hlen := flat1_len fun e he => (hg e he).ok2
  have h3 : decide ((l.length : Int) > 8) = false := by simp; omega
  have := padB_len (l.flatMap enc1)
  unfold p_ext_Read
  simp only [show ((48862 : Int) != 48862) = false from rfl, cond_false, Option.bind_some]
  generalize hz : (4 - (l.flatMap enc1).length % 4) % 4 = z
  have hz3 : z ≤ 3 := by omega
  have hr := fun (kE0 : List T_api_Elem → Option ((List T_api_Elem) × Int)) kE1 => read_all1 kE0 kE1 (k - z - l.length - 1) z (padB (l.flatMap enc1)) (by omega) l [] [] (by rw [padB, hz]; simp) hg (by simp; omega)
  simp only [show k - z - l.length - 1 + z + l.length + 1 = k by omega] at hr
  refine (hr _ _).trans ?_
  rw [List.nil_append, h3, cond_false]
theorem read2 {l : List T_api_Elem} {k : Nat} (hk : 20 ≤ k) (hl : l.length ≤ 8) (hg : ∀ e ∈ l, ok2 e) : p_ext_Read k 4096 (padB (l.flatMap enc2)) = some (l, 0) := by
  have hlen := flat2_len fun e he => hg e he
  have h3 : decide ((l.length : Int) > 8) = false := by simp; omega
  have := padB_len (l.flatMap enc2)
  unfold p_ext_Read
  simp only [show ((4096 : Int) != 48862) = true from rfl, show ((4096 : Int) != 4096) = false from rfl, cond_true, cond_false, Option.bind_some]
  generalize hz : (4 - (l.flatMap enc2).length % 4) % 4 = z
  have hz3 : z ≤ 3 := by omega
  have hr := fun (kE0 : List T_api_Elem → Option ((List T_api_Elem) × Int)) kE1 => read_all2 kE0 kE1 (k - z - l.length - 1) z (padB (l.flatMap enc2)) (by omega) l [] [] (by rw [padB, hz]; simp) hg (by simp; omega)
  simp only [show k - z - l.length - 1 + z + l.length + 1 = k by omega] at hr
  refine (hr _ _).trans ?_
  rw [List.nil_append, h3, cond_false]
/-- IndexFunc and Find. -/
theorem find_l0 {β : Type} (kE0 : Unit → Option β) (kE1 : Int → Option β) (l : List T_api_Elem) (hl : l.length < 2 ^ 30) (id : Int) (e : T_api_Elem) (suf : List T_api_Elem) (he : e.ID = id) : ∀ (mid pre : List T_api_Elem) (j : Nat), l = pre ++ mid ++ e :: suf → (∀ x ∈ mid, x.ID ≠ id) →
    p_slices_IndexFunc_Lapi_Elem_api_Elem_ext_Find_1_l0 (j + mid.length + 1) kE0 kE1 l id (l.length : Int) (pre.length : Int) = kE1 ((pre.length + mid.length : Nat) : Int)
  | [], pre, j, h, _ => by
    rw [p_slices_IndexFunc_Lapi_Elem_api_Elem_ext_Find_1_l0]
    have h1 : decide ((pre.length : Int) < (l.length : Int)) = true := by subst h; simp; omega
    have h2 : ix l (pre.length : Int) = some e := ix_mid' (by simpa using h) rfl
    have h3 : p_ext_Find_1 e id = some true := by simp [p_ext_Find_1, he]
    rw [h1, cond_true, h2, Option.bind_some, h3, Option.bind_some, cond_true]; rfl
  | x :: mid, pre, j, h, hn => by
    rw [List.length_cons, show j + (mid.length + 1) + 1 = (j + mid.length + 1) + 1 from rfl, p_slices_IndexFunc_Lapi_Elem_api_Elem_ext_Find_1_l0]
    have h1 : decide ((pre.length : Int) < (l.length : Int)) = true := by subst h; simp; omega
    have h2 : ix l (pre.length : Int) = some x := ix_mid' (by simpa using h) rfl
    have h3 : p_ext_Find_1 x id = some false := by simpa [p_ext_Find_1] using hn x (List.mem_cons_self ..)
    have h4 : IntKind.wrap .i64 ((pre.length : Int) + 1) = (((pre ++ [x]).length : Nat) : Int) := by
      rw [wrap_i64 (by omega) (by have : pre.length ≤ l.length := by subst h; simp
                                  omega)]
      simp
    rw [h1, cond_true, h2, Option.bind_some, h3, Option.bind_some, cond_false, h4, find_l0 kE0 kE1 l hl id e suf he mid (pre ++ [x]) j (by rw [h]; simp) fun y hy => hn y (List.mem_cons_of_mem _ hy)]
    congr 1
    simp
    omega
theorem find_mid {l pre suf : List T_api_Elem} {e : T_api_Elem} {id : Int} {k : Nat} (h : l = pre ++ e :: suf) (hn : ∀ x ∈ pre, x.ID ≠ id) (he : e.ID = id) (hl : l.length < k) (hk : l.length < 2 ^ 30) (hd : e.Data.length < 2 ^ 30) : p_ext_Find k l id = some (e.Data, true) := by
  unfold p_ext_Find p_slices_IndexFunc_Lapi_Elem_api_Elem_ext_Find_1
  have hlen : pre.length < l.length := by subst h; simp
  have := fun kE0 (kE1 : Int → Option Int) => find_l0 kE0 kE1 l hk id e suf he pre [] (k - pre.length - 1) (by simpa using h) hn
  simp only [show k - pre.length - 1 + pre.length + 1 = k by omega, List.length_nil] at this
  rw [show ((0 : Nat) : Int) = 0 from rfl] at this
  rw [this, Option.bind_some, Nat.zero_add]
  have h0 : decide (((pre.length : Nat) : Int) < 0) = false := by simp
  rw [h0, cond_false, ix_mid' h rfl, Option.bind_some, clone_eq (by decide) (by omega)]
  rfl
/-- The name of a packet. -/
theorem rid_ok {k : Nat} {p : T_api_Rtp} {l : List T_api_Elem} {d : List Int} (hr : p_ext_Read k p.Profile p.Ext = some (l, 0)) (hf : p_ext_Find k l 1 = some (d, true)) : p_ext_Rid k p = some (bif RidX.rightB (strB d) then (strB d, true) else (⟨#[]⟩, false)) := by
  unfold p_ext_Rid
  rw [hr, Option.bind_some]
  simp only [show ((0 : Int) != 0) = false from rfl, cond_false]
  rw [hf, Option.bind_some]
  simp only [Bool.not_true, cond_false, p_rid_Right, Option.bind_some]
  cases RidX.rightB (strB d) <;> rfl
end Go.Ev
/- Equations, printed by tracer2.py. -/
namespace Go.Ev
open Go.Proofs
set_option linter.unusedVariables false
set_option maxRecDepth 100000
-- 20 limelight/limelightlaw4.known
theorem limelightlaw4_known_entry (rec : CallF) (loop : LoopV) (σ : Stamp)  (h : H) : cvBody G rec loop 20 σ [] h =
 (buildSliceV Try.prog 32 2 [(0, (.p (.int .u8 104))), (1, (.p (.int .u8 105)))]).bind fun t1 =>
 (litS true t1).bind fun t2 =>
 (buildV Try.prog 38 [(0, (.p (.int .i64 1))), (1, t2)]).bind fun t3 =>
 (buildSliceV Try.prog 27 1 [(0, t3)]).bind fun t4 =>
 (callO rec 22 (4 :: 0 :: 1 :: 0 :: σ) [(.p (.int .u16 48862)), t4] (List.replicate 95 [] :: h) (some 20)).bind fun q5 =>
 (extV q5.1 0).bind fun t6 =>
 (extV q5.1 1).bind fun t7 =>
 (castI .i64 t7).bind fun n8 =>
 (callO rec 23 (1 :: 0 :: 1 :: 1 :: 0 :: σ) [(.p (.int .u16 48862)), t6] q5.2 (some 25)).bind fun q9 =>
 (extV q9.1 0).bind fun t10 =>
 (extV q9.1 1).bind fun t11 =>
 (castI .i64 t11).bind fun n12 =>
 (callO rec 22 (0 :: 0 :: 1 :: 1 :: 1 :: 0 :: σ) [(.p (.int .u16 0)), (.p (.slice .none 0 0))] q9.2 (some 29)).bind fun q13 =>
 (extV q13.1 0).bind fun t14 =>
 (extV q13.1 1).bind fun t15 =>
 (castI .i64 t15).bind fun n16 =>
 (callO rec 25 (1 :: 0 :: 1 :: 1 :: 1 :: 1 :: 0 :: σ) [t10, (.p (.int .i64 1))] q13.2 (some 34)).bind fun q17 =>
 (extV q17.1 0).bind fun t18 =>
 (extV q17.1 1).bind fun t19 =>
 (asB t19).bind fun b20 =>
 (callO rec 25 (0 :: 0 :: 1 :: 1 :: 1 :: 1 :: 1 :: 0 :: σ) [(.p (.slice .none 0 0)), (.p (.int .i64 1))] q17.2 (some 38)).bind fun q21 =>
 (extV q21.1 0).bind fun t22 =>
 (extV q21.1 1).bind fun t23 =>
 (asB t23).bind fun b24 =>
 (buildV Try.prog 52 [(6, (.p (.int .u16 48862))), (7, t6)]).bind fun t25 =>
 (callO rec 26 (2 :: 0 :: 1 :: 1 :: 1 :: 1 :: 1 :: 1 :: 0 :: σ) [t25] q21.2 (some 44)).bind fun q26 =>
 (extV q26.1 0).bind fun t27 =>
 (castS t27).bind fun s28 =>
 (extV q26.1 1).bind fun t29 =>
 (asB t29).bind fun b30 =>
 (buildSliceV Try.prog 32 4 [(0, (.p (.int .u8 5))), (1, (.p (.int .u8 9))), (2, (.p (.int .u8 1))), (3, (.p (.int .u8 1)))]).bind fun t31 =>
 (callO rec 23 (1 :: 0 :: 1 :: 1 :: 1 :: 1 :: 1 :: 1 :: 1 :: 0 :: σ) [(.p (.int .u16 4096)), t31] q26.2 (some 49)).bind fun q32 =>
 (extV q32.1 0).bind fun t33 =>
 (extV q32.1 1).bind fun t34 =>
 (castI .i64 t34).bind fun n35 =>
 (bif n8 == 0 then ((strO q32.2 t6).bind fun t36 =>
 (castS t36).bind fun s37 =>
 some (s37.toList == ((⟨#[17, 104, 105, 0]⟩ : ByteArray)).toList)) else (some false)).bind fun b38 =>
 (bif b38 then (some (n12 == 0)) else (some false)).bind fun b39 =>
 (bif b39 then ((lenO t10).bind fun t40 =>
 (castI .i64 t40).bind fun n41 =>
 some (n41 == 1)) else (some false)).bind fun b42 =>
 (bif b42 then (some (n16 == 1)) else (some false)).bind fun b43 =>
 (bif b43 then (some b20) else (some false)).bind fun b44 =>
 (bif b44 then ((strO q32.2 t18).bind fun t45 =>
 (castS t45).bind fun s46 =>
 some (s46.toList == ((⟨#[104, 105]⟩ : ByteArray)).toList)) else (some false)).bind fun b47 =>
 (bif b47 then (some (!b24)) else (some false)).bind fun b48 =>
 (bif b48 then (some b30) else (some false)).bind fun b49 =>
 (bif b49 then (some (s28.toList == ((⟨#[104, 105]⟩ : ByteArray)).toList)) else (some false)).bind fun b50 =>
 (bif b50 then (some (n35 == 13)) else (some false)).bind fun b51 =>
 fin false σ q32.2 [(.p (.bool b51))] := by kernel_rfl
end Go.Ev
/- Lifted by lift.py: limelightlaw4_known as a plain function. -/
namespace Go.Ev
open Go.Proofs
set_option linter.unusedVariables false
set_option linter.unusedSimpArgs false
set_option maxRecDepth 100000
def p_limelightlaw4_known (k : Nat)  : Option (Bool) :=
(p_ext_Bytes k 48862 ([((⟨1, ([104, 105])⟩ : T_api_Elem))])).bind fun r3 =>
(p_ext_Read k 48862 r3.1).bind fun r10 =>
(p_ext_Bytes k 0 (([] : List T_api_Elem))).bind fun r17 =>
(p_ext_Find k r10.1 1).bind fun r24 =>
(p_ext_Find k (([] : List T_api_Elem)) 1).bind fun r31 =>
(p_ext_Rid k ((⟨false, 0, 0, 0, 0, (([] : List Int)), 48862, r3.1, (([] : List Int))⟩ : T_api_Rtp))).bind fun r38 =>
(p_ext_Read k 4096 ([5, 9, 1, 1])).bind fun r44 =>
(bif r3.2 == 0 then (some ((strB r3.1).toList == ((⟨#[17, 104, 105, 0]⟩ : ByteArray)).toList)) else (some false)).bind fun b51 =>
(bif b51 then (some (r10.2 == 0)) else (some false)).bind fun b55 =>
(bif b55 then (some (((r10.1.length : Int)) == 1)) else (some false)).bind fun b59 =>
(bif b59 then (some (r17.2 == 1)) else (some false)).bind fun b63 =>
(bif b63 then (some r24.2) else (some false)).bind fun b67 =>
(bif b67 then (some ((strB r24.1).toList == ((⟨#[104, 105]⟩ : ByteArray)).toList)) else (some false)).bind fun b71 =>
(bif b71 then (some (!r31.2)) else (some false)).bind fun b75 =>
(bif b75 then (some r38.2) else (some false)).bind fun b79 =>
(bif b79 then (some (r38.1.toList == ((⟨#[104, 105]⟩ : ByteArray)).toList)) else (some false)).bind fun b83 =>
(bif b83 then (some (r44.2 == 13)) else (some false)).bind fun b87 =>
some (b87)
theorem limelightlaw4_known_ok (k : Nat) {h : H} {σ : Stamp}  : Sim (p_limelightlaw4_known k ) (ev G X0 20 σ [] h) (fun r s => s = ([.v (.p (.bool r))], h)) := by
  refine Sim.ev rfl (Sim.ext (limelightlaw4_known_entry _ _ _ _) ?_)
  rw [p_limelightlaw4_known]
  have S0 : Fm 95 h [] [] [] (List.replicate 95 [] :: h) := Fm.start0
  have h1 : SlF (dI .u8) [104, 105] (.fz [(.p (.int .u8 104)), (.p (.int .u8 105))] 2 1 true) := SlF.lit (cs := [(.p (.int .u8 104)), (.p (.int .u8 105))]) (RL.cons (show (dI .u8).R 104 [(.p (.int .u8 104))] from rfl) (RL.cons (show (dI .u8).R 105 [(.p (.int .u8 105))] from rfl) RL.nil)) rfl rfl true
  refine Sim.op (bldS (pt_cons rfl (pt_cons rfl pt_nil)) (by kernel_rfl : _ = some (.fz [(.p (.int .u8 104)), (.p (.int .u8 105))] 2 1 true))) ?_
  refine Sim.op (rfl) ?_
  refine Sim.op (bldV (pt_cons rfl (pt_cons h1.still.cells pt_nil)) (by kernel_rfl : _ = some (.agg [.p (.int .i64 1), .fz [(.p (.int .u8 104)), (.p (.int .u8 105))] 2 1 true]))) ?_
  have h2 : SlF dT_api_Elem [((⟨1, ([104, 105])⟩ : T_api_Elem))] (.fz [(.p (.int .i64 1)), (.fz [(.p (.int .u8 104)), (.p (.int .u8 105))] 2 1 true)] 1 2 true) := SlF.lit (cs := [(.p (.int .i64 1)), (.fz [(.p (.int .u8 104)), (.p (.int .u8 105))] 2 1 true)]) (RL.cons (show dT_api_Elem.R ((⟨1, ([104, 105])⟩ : T_api_Elem)) [.p (.int .i64 1), .fz [(.p (.int .u8 104)), (.p (.int .u8 105))] 2 1 true] from (dT_api_Elem.mk h1)) RL.nil) rfl rfl true
  refine Sim.op (bldS (pt_cons (c := [.p (.int .i64 1), .fz [(.p (.int .u8 104)), (.p (.int .u8 105))] 2 1 true]) rfl pt_nil) (by kernel_rfl : _ = some (.fz [(.p (.int .i64 1)), (.fz [(.p (.int .u8 104)), (.p (.int .u8 105))] 2 1 true)] 1 2 true))) ?_
  refine Sim.call (ext_Bytes_ok k 48862 ([((⟨1, ([104, 105])⟩ : T_api_Elem))]) (h2.h (List.replicate 95 [] :: h))) fun r3 cs4 H5 h6 q7 => ?_
  obtain ⟨v8, h9, q7⟩ := q7
  cases q7
  refine Sim.op (rfl) ?_
  refine Sim.op (rfl) ?_
  refine Sim.op (castI_p _ _) ?_
  refine Sim.call (ext_Read_ok k 48862 r3.1 (h9.h (List.replicate 95 [] :: h))) fun r10 cs11 H12 h13 q14 => ?_
  obtain ⟨v15, h16, q14⟩ := q14
  cases q14
  refine Sim.op (rfl) ?_
  refine Sim.op (rfl) ?_
  refine Sim.op (castI_p _ _) ?_
  refine Sim.call (ext_Bytes_ok k 0 (([] : List T_api_Elem)) ((SlF.nil dT_api_Elem).h (List.replicate 95 [] :: h))) fun r17 cs18 H19 h20 q21 => ?_
  obtain ⟨v22, h23, q21⟩ := q21
  cases q21
  refine Sim.op (rfl) ?_
  refine Sim.op (rfl) ?_
  refine Sim.op (castI_p _ _) ?_
  refine Sim.call (ext_Find_ok k r10.1 (h16.h (List.replicate 95 [] :: h)) 1) fun r24 cs25 H26 h27 q28 => ?_
  obtain ⟨v29, h30, q28⟩ := q28
  cases q28
  refine Sim.op (rfl) ?_
  refine Sim.op (rfl) ?_
  refine Sim.op (asB_p _) ?_
  refine Sim.call (ext_Find_ok k (([] : List T_api_Elem)) ((SlF.nil dT_api_Elem).h (List.replicate 95 [] :: h)) 1) fun r31 cs32 H33 h34 q35 => ?_
  obtain ⟨v36, h37, q35⟩ := q35
  cases q35
  refine Sim.op (rfl) ?_
  refine Sim.op (rfl) ?_
  refine Sim.op (asB_p _) ?_
  refine Sim.op (bldV (pt_cons rfl (pt_cons h9.still.cells pt_nil)) (by kernel_rfl : _ = some (.agg [.p (.bool false), .p (.int .i64 0), .p (.int .u16 0), .p (.int .u32 0), .p (.int .u32 0), .p (.slice none 0 0), .p (.int .u16 48862), v8, .p (.slice none 0 0)]))) ?_
  refine Sim.call (ext_Rid_ok k ((⟨false, 0, 0, 0, 0, (([] : List Int)), 48862, r3.1, (([] : List Int))⟩ : T_api_Rtp)) (show dT_api_Rtp.R ((⟨false, 0, 0, 0, 0, (([] : List Int)), 48862, r3.1, (([] : List Int))⟩ : T_api_Rtp)) [.p (.bool false), .p (.int .i64 0), .p (.int .u16 0), .p (.int .u32 0), .p (.int .u32 0), .p (.slice none 0 0), .p (.int .u16 48862), v8, .p (.slice none 0 0)] from (dT_api_Rtp.mk (SlF.nil (dI .u32)) h9 (SlF.nil (dI .u8))))) fun r38 cs39 H40 h41 q42 => ?_
  cases q42
  refine Sim.op (rfl) ?_
  refine Sim.op (castS_p _) ?_
  refine Sim.op (rfl) ?_
  refine Sim.op (asB_p _) ?_
  have h43 : SlF (dI .u8) [5, 9, 1, 1] (.fz [(.p (.int .u8 5)), (.p (.int .u8 9)), (.p (.int .u8 1)), (.p (.int .u8 1))] 4 1 true) := SlF.lit (cs := [(.p (.int .u8 5)), (.p (.int .u8 9)), (.p (.int .u8 1)), (.p (.int .u8 1))]) (RL.cons (show (dI .u8).R 5 [(.p (.int .u8 5))] from rfl) (RL.cons (show (dI .u8).R 9 [(.p (.int .u8 9))] from rfl) (RL.cons (show (dI .u8).R 1 [(.p (.int .u8 1))] from rfl) (RL.cons (show (dI .u8).R 1 [(.p (.int .u8 1))] from rfl) RL.nil)))) rfl rfl true
  refine Sim.op (bldS (pt_cons rfl (pt_cons rfl (pt_cons rfl (pt_cons rfl pt_nil)))) (by kernel_rfl : _ = some (.fz [(.p (.int .u8 5)), (.p (.int .u8 9)), (.p (.int .u8 1)), (.p (.int .u8 1))] 4 1 true))) ?_
  refine Sim.call (ext_Read_ok k 4096 ([5, 9, 1, 1]) (h43.h (List.replicate 95 [] :: h))) fun r44 cs45 H46 h47 q48 => ?_
  obtain ⟨v49, h50, q48⟩ := q48
  cases q48
  refine Sim.op (rfl) ?_
  refine Sim.op (rfl) ?_
  refine Sim.op (castI_p _ _) ?_
  refine Sim.ch (P := fun r y => r = y) ?_ (fun b51 y52 h53 h54 => ?_)
  · refine Sim.cd (fun hc => ?_) (fun hc => ?_)
    · refine Sim.op ((h9.h (List.replicate 95 [] :: h)).str) ?_
      refine Sim.op (castS_p _) ?_
      exact Sim.ret rfl rfl
    · exact Sim.ret rfl rfl
  subst h54
  refine Sim.ch (P := fun r y => r = y) ?_ (fun b55 y56 h57 h58 => ?_)
  · refine Sim.cd (fun hc => ?_) (fun hc => ?_)
    · exact Sim.ret rfl rfl
    · exact Sim.ret rfl rfl
  subst h58
  refine Sim.ch (P := fun r y => r = y) ?_ (fun b59 y60 h61 h62 => ?_)
  · refine Sim.cd (fun hc => ?_) (fun hc => ?_)
    · refine Sim.op ((h16.h (List.replicate 95 [] :: h)).len) ?_
      refine Sim.op (castI_p _ _) ?_
      exact Sim.ret rfl rfl
    · exact Sim.ret rfl rfl
  subst h62
  refine Sim.ch (P := fun r y => r = y) ?_ (fun b63 y64 h65 h66 => ?_)
  · refine Sim.cd (fun hc => ?_) (fun hc => ?_)
    · exact Sim.ret rfl rfl
    · exact Sim.ret rfl rfl
  subst h66
  refine Sim.ch (P := fun r y => r = y) ?_ (fun b67 y68 h69 h70 => ?_)
  · refine Sim.cd (fun hc => ?_) (fun hc => ?_)
    · exact Sim.ret rfl rfl
    · exact Sim.ret rfl rfl
  subst h70
  refine Sim.ch (P := fun r y => r = y) ?_ (fun b71 y72 h73 h74 => ?_)
  · refine Sim.cd (fun hc => ?_) (fun hc => ?_)
    · refine Sim.op ((h30.h (List.replicate 95 [] :: h)).str) ?_
      refine Sim.op (castS_p _) ?_
      exact Sim.ret rfl rfl
    · exact Sim.ret rfl rfl
  subst h74
  refine Sim.ch (P := fun r y => r = y) ?_ (fun b75 y76 h77 h78 => ?_)
  · refine Sim.cd (fun hc => ?_) (fun hc => ?_)
    · exact Sim.ret rfl rfl
    · exact Sim.ret rfl rfl
  subst h78
  refine Sim.ch (P := fun r y => r = y) ?_ (fun b79 y80 h81 h82 => ?_)
  · refine Sim.cd (fun hc => ?_) (fun hc => ?_)
    · exact Sim.ret rfl rfl
    · exact Sim.ret rfl rfl
  subst h82
  refine Sim.ch (P := fun r y => r = y) ?_ (fun b83 y84 h85 h86 => ?_)
  · refine Sim.cd (fun hc => ?_) (fun hc => ?_)
    · exact Sim.ret rfl rfl
    · exact Sim.ret rfl rfl
  subst h86
  refine Sim.ch (P := fun r y => r = y) ?_ (fun b87 y88 h89 h90 => ?_)
  · refine Sim.cd (fun hc => ?_) (fun hc => ?_)
    · exact Sim.ret rfl rfl
    · exact Sim.ret rfl rfl
  subst h90
  exact Sim.fin (S0.finN (lv_cons (still_bool _).lv lv_nil)) rfl
end Go.Ev
namespace Go.Ev
set_option maxRecDepth 100000
theorem known4 : p_limelightlaw4_known 40 = some true := by kernel_rfl
end Go.Ev
/- Equations, printed by tracer2.py. -/
namespace Go.Ev
open Go.Proofs
set_option linter.unusedVariables false
set_option maxRecDepth 100000
-- 7 limelight/limelightlaw4.ExtRids
theorem limelightlaw4_ExtRids_entry (rec : CallF) (loop : LoopV) (σ : Stamp) (x0 : ByteArray) (x1 : Int) (h : H) : cvBody G rec loop 7 σ [(.p (.string x0)), (.p (.int .i64 x1))] h =
 bif decide (((x0.size : Int)) > 16) then (
 (slStr x0 none (some 16)).bind fun t1 =>
 (binV Try.prog (List.replicate 92 [] :: h) .eql 9 t1 (.p (.string ((⟨#[]⟩ : ByteArray))))).bind fun t2 =>
 (asB t2).bind fun b3 =>
 bif b3 then (
 (callO rec 21 (1 :: 0 :: 1 :: 1 :: 1 :: 0 :: σ) [(.p (.int .i64 x1)), (.p (.int .i64 0)), (.p (.int .i64 12))] (List.replicate 92 [] :: h) (some 24)).bind fun q4 =>
 (castI .i64 q4.1).bind fun n5 =>
 (buildSliceV Try.prog 32 2 [(0, (.p (.int .u8 110))), (1, (.p (.int .u8 111)))]).bind fun t6 =>
 (litS true t6).bind fun t7 =>
 (buildV Try.prog 38 [(0, (.p (.int .i64 (IntKind.wrap .i64 (2 + n5))))), (1, t7)]).bind fun t8 =>
 (buildV Try.prog 38 [(0, (.p (.int .i64 1))), (1, (.fz (((⟨#[120]⟩ : ByteArray)).data.toList.map fun b => .p (.int .u8 b.toNat)) ((⟨#[120]⟩ : ByteArray)).size 1 false))]).bind fun t9 =>
 (buildSliceV Try.prog 27 2 [(0, t8), (1, t9)]).bind fun t10 =>
 (callO rec 22 (1 :: 0 :: 1 :: 1 :: 1 :: 1 :: 0 :: σ) [(.p (.int .u16 48862)), t10] q4.2 (some 35)).bind fun q11 =>
 (extV q11.1 0).bind fun t12 =>
 (extV q11.1 1).bind fun t13 =>
 (castI .i64 t13).bind fun n14 =>
 (callO rec 22 (1 :: 0 :: 1 :: 1 :: 1 :: 1 :: 1 :: 0 :: σ) [(.p (.int .u16 4096)), t10] q11.2 (some 40)).bind fun q15 =>
 (extV q15.1 0).bind fun t16 =>
 (extV q15.1 1).bind fun t17 =>
 (castI .i64 t17).bind fun n18 =>
 (buildV Try.prog 52 [(6, (.p (.int .u16 48862))), (7, t12)]).bind fun t19 =>
 (callO rec 26 (2 :: 0 :: 1 :: 1 :: 1 :: 1 :: 1 :: 1 :: 0 :: σ) [t19] q15.2 (some 46)).bind fun q20 =>
 (extV q20.1 0).bind fun t21 =>
 (castS t21).bind fun s22 =>
 (extV q20.1 1).bind fun t23 =>
 (asB t23).bind fun b24 =>
 (buildV Try.prog 52 [(6, (.p (.int .u16 4096))), (7, t16)]).bind fun t25 =>
 (callO rec 26 (2 :: 0 :: 1 :: 1 :: 1 :: 1 :: 1 :: 1 :: 1 :: 0 :: σ) [t25] q20.2 (some 52)).bind fun q26 =>
 (extV q26.1 0).bind fun t27 =>
 (castS t27).bind fun s28 =>
 (extV q26.1 1).bind fun t29 =>
 (asB t29).bind fun b30 =>
 (buildV Try.prog 52 []).bind fun t31 =>
 (callO rec 26 (1 :: 0 :: 1 :: 1 :: 1 :: 1 :: 1 :: 1 :: 1 :: 1 :: 0 :: σ) [t31] q26.2 (some 57)).bind fun q32 =>
 (extV q32.1 0).bind fun t33 =>
 (castS t33).bind fun s34 =>
 (extV q32.1 1).bind fun t35 =>
 (asB t35).bind fun b36 =>
 (bif n14 == 0 then (some (n18 == 0)) else (some false)).bind fun b37 =>
 (bif b37 then (some (b24 == b30)) else (some false)).bind fun b38 =>
 (bif b38 then (some (s22.toList == s28.toList)) else (some false)).bind fun b39 =>
 (bif b39 then ((bif !b24 then (some true) else (some (s22.toList == ((⟨#[120]⟩ : ByteArray)).toList))).bind fun b40 =>
 some b40) else (some false)).bind fun b41 =>
 (bif b41 then (some (!b36)) else (some false)).bind fun b42 =>
 (bif b42 then ((callO rec 20 (30 :: 0 :: 1 :: 1 :: 1 :: 1 :: 1 :: 1 :: 1 :: 1 :: 1 :: 0 :: σ) [] q32.2 (some 90)).bind fun q43 =>
 (asB q43.1).bind fun b44 =>
 some ((.p (.bool b44)), q43.2)) else (some ((.p (.bool false)), q32.2))).bind fun q45 =>
 (asB q45.1).bind fun b46 =>
 fin false σ q45.2 [(.p (.bool b46))])
 else (
 (callO rec 21 (1 :: 0 :: 1 :: 1 :: 1 :: 0 :: σ) [(.p (.int .i64 x1)), (.p (.int .i64 0)), (.p (.int .i64 12))] (List.replicate 92 [] :: h) (some 24)).bind fun q47 =>
 (castI .i64 q47.1).bind fun n48 =>
 (buildSliceV Try.prog 32 2 [(0, (.p (.int .u8 110))), (1, (.p (.int .u8 111)))]).bind fun t49 =>
 (litS true t49).bind fun t50 =>
 (buildV Try.prog 38 [(0, (.p (.int .i64 (IntKind.wrap .i64 (2 + n48))))), (1, t50)]).bind fun t51 =>
 (convV Try.prog q47.2 9 32 t1).bind fun t52 =>
 (buildV Try.prog 38 [(0, (.p (.int .i64 1))), (1, t52)]).bind fun t53 =>
 (buildSliceV Try.prog 27 2 [(0, t51), (1, t53)]).bind fun t54 =>
 (callO rec 22 (1 :: 0 :: 1 :: 1 :: 1 :: 1 :: 0 :: σ) [(.p (.int .u16 48862)), t54] q47.2 (some 35)).bind fun q55 =>
 (extV q55.1 0).bind fun t56 =>
 (extV q55.1 1).bind fun t57 =>
 (castI .i64 t57).bind fun n58 =>
 (callO rec 22 (1 :: 0 :: 1 :: 1 :: 1 :: 1 :: 1 :: 0 :: σ) [(.p (.int .u16 4096)), t54] q55.2 (some 40)).bind fun q59 =>
 (extV q59.1 0).bind fun t60 =>
 (extV q59.1 1).bind fun t61 =>
 (castI .i64 t61).bind fun n62 =>
 (buildV Try.prog 52 [(6, (.p (.int .u16 48862))), (7, t56)]).bind fun t63 =>
 (callO rec 26 (2 :: 0 :: 1 :: 1 :: 1 :: 1 :: 1 :: 1 :: 0 :: σ) [t63] q59.2 (some 46)).bind fun q64 =>
 (extV q64.1 0).bind fun t65 =>
 (castS t65).bind fun s66 =>
 (extV q64.1 1).bind fun t67 =>
 (asB t67).bind fun b68 =>
 (buildV Try.prog 52 [(6, (.p (.int .u16 4096))), (7, t60)]).bind fun t69 =>
 (callO rec 26 (2 :: 0 :: 1 :: 1 :: 1 :: 1 :: 1 :: 1 :: 1 :: 0 :: σ) [t69] q64.2 (some 52)).bind fun q70 =>
 (extV q70.1 0).bind fun t71 =>
 (castS t71).bind fun s72 =>
 (extV q70.1 1).bind fun t73 =>
 (asB t73).bind fun b74 =>
 (buildV Try.prog 52 []).bind fun t75 =>
 (callO rec 26 (1 :: 0 :: 1 :: 1 :: 1 :: 1 :: 1 :: 1 :: 1 :: 1 :: 0 :: σ) [t75] q70.2 (some 57)).bind fun q76 =>
 (extV q76.1 0).bind fun t77 =>
 (castS t77).bind fun s78 =>
 (extV q76.1 1).bind fun t79 =>
 (asB t79).bind fun b80 =>
 (bif n58 == 0 then (some (n62 == 0)) else (some false)).bind fun b81 =>
 (bif b81 then (some (b68 == b74)) else (some false)).bind fun b82 =>
 (bif b82 then (some (s66.toList == s72.toList)) else (some false)).bind fun b83 =>
 (bif b83 then ((bif !b68 then (some true) else ((binV Try.prog q76.2 .eql 9 (.p (.string s66)) t1).bind fun t84 =>
 (asB t84).bind fun b85 =>
 some b85)).bind fun b86 =>
 some b86) else (some false)).bind fun b87 =>
 (bif b87 then (some (!b80)) else (some false)).bind fun b88 =>
 (bif b88 then ((callO rec 20 (30 :: 0 :: 1 :: 1 :: 1 :: 1 :: 1 :: 1 :: 1 :: 1 :: 1 :: 0 :: σ) [] q76.2 (some 90)).bind fun q89 =>
 (asB q89.1).bind fun b90 =>
 some ((.p (.bool b90)), q89.2)) else (some ((.p (.bool false)), q76.2))).bind fun q91 =>
 (asB q91.1).bind fun b92 =>
 fin false σ q91.2 [(.p (.bool b92))]))
 else (
 bif x0.toList == ((⟨#[]⟩ : ByteArray)).toList then (
 (callO rec 21 (1 :: 0 :: 1 :: 1 :: 1 :: 0 :: σ) [(.p (.int .i64 x1)), (.p (.int .i64 0)), (.p (.int .i64 12))] (List.replicate 92 [] :: h) (some 24)).bind fun q93 =>
 (castI .i64 q93.1).bind fun n94 =>
 (buildSliceV Try.prog 32 2 [(0, (.p (.int .u8 110))), (1, (.p (.int .u8 111)))]).bind fun t95 =>
 (litS true t95).bind fun t96 =>
 (buildV Try.prog 38 [(0, (.p (.int .i64 (IntKind.wrap .i64 (2 + n94))))), (1, t96)]).bind fun t97 =>
 (buildV Try.prog 38 [(0, (.p (.int .i64 1))), (1, (.fz (((⟨#[120]⟩ : ByteArray)).data.toList.map fun b => .p (.int .u8 b.toNat)) ((⟨#[120]⟩ : ByteArray)).size 1 false))]).bind fun t98 =>
 (buildSliceV Try.prog 27 2 [(0, t97), (1, t98)]).bind fun t99 =>
 (callO rec 22 (1 :: 0 :: 1 :: 1 :: 1 :: 1 :: 0 :: σ) [(.p (.int .u16 48862)), t99] q93.2 (some 35)).bind fun q100 =>
 (extV q100.1 0).bind fun t101 =>
 (extV q100.1 1).bind fun t102 =>
 (castI .i64 t102).bind fun n103 =>
 (callO rec 22 (1 :: 0 :: 1 :: 1 :: 1 :: 1 :: 1 :: 0 :: σ) [(.p (.int .u16 4096)), t99] q100.2 (some 40)).bind fun q104 =>
 (extV q104.1 0).bind fun t105 =>
 (extV q104.1 1).bind fun t106 =>
 (castI .i64 t106).bind fun n107 =>
 (buildV Try.prog 52 [(6, (.p (.int .u16 48862))), (7, t101)]).bind fun t108 =>
 (callO rec 26 (2 :: 0 :: 1 :: 1 :: 1 :: 1 :: 1 :: 1 :: 0 :: σ) [t108] q104.2 (some 46)).bind fun q109 =>
 (extV q109.1 0).bind fun t110 =>
 (castS t110).bind fun s111 =>
 (extV q109.1 1).bind fun t112 =>
 (asB t112).bind fun b113 =>
 (buildV Try.prog 52 [(6, (.p (.int .u16 4096))), (7, t105)]).bind fun t114 =>
 (callO rec 26 (2 :: 0 :: 1 :: 1 :: 1 :: 1 :: 1 :: 1 :: 1 :: 0 :: σ) [t114] q109.2 (some 52)).bind fun q115 =>
 (extV q115.1 0).bind fun t116 =>
 (castS t116).bind fun s117 =>
 (extV q115.1 1).bind fun t118 =>
 (asB t118).bind fun b119 =>
 (buildV Try.prog 52 []).bind fun t120 =>
 (callO rec 26 (1 :: 0 :: 1 :: 1 :: 1 :: 1 :: 1 :: 1 :: 1 :: 1 :: 0 :: σ) [t120] q115.2 (some 57)).bind fun q121 =>
 (extV q121.1 0).bind fun t122 =>
 (castS t122).bind fun s123 =>
 (extV q121.1 1).bind fun t124 =>
 (asB t124).bind fun b125 =>
 (bif n103 == 0 then (some (n107 == 0)) else (some false)).bind fun b126 =>
 (bif b126 then (some (b113 == b119)) else (some false)).bind fun b127 =>
 (bif b127 then (some (s111.toList == s117.toList)) else (some false)).bind fun b128 =>
 (bif b128 then ((bif !b113 then (some true) else (some (s111.toList == ((⟨#[120]⟩ : ByteArray)).toList))).bind fun b129 =>
 some b129) else (some false)).bind fun b130 =>
 (bif b130 then (some (!b125)) else (some false)).bind fun b131 =>
 (bif b131 then ((callO rec 20 (30 :: 0 :: 1 :: 1 :: 1 :: 1 :: 1 :: 1 :: 1 :: 1 :: 1 :: 0 :: σ) [] q121.2 (some 90)).bind fun q132 =>
 (asB q132.1).bind fun b133 =>
 some ((.p (.bool b133)), q132.2)) else (some ((.p (.bool false)), q121.2))).bind fun q134 =>
 (asB q134.1).bind fun b135 =>
 fin false σ q134.2 [(.p (.bool b135))])
 else (
 (callO rec 21 (1 :: 0 :: 1 :: 1 :: 1 :: 0 :: σ) [(.p (.int .i64 x1)), (.p (.int .i64 0)), (.p (.int .i64 12))] (List.replicate 92 [] :: h) (some 24)).bind fun q136 =>
 (castI .i64 q136.1).bind fun n137 =>
 (buildSliceV Try.prog 32 2 [(0, (.p (.int .u8 110))), (1, (.p (.int .u8 111)))]).bind fun t138 =>
 (litS true t138).bind fun t139 =>
 (buildV Try.prog 38 [(0, (.p (.int .i64 (IntKind.wrap .i64 (2 + n137))))), (1, t139)]).bind fun t140 =>
 (buildV Try.prog 38 [(0, (.p (.int .i64 1))), (1, (.fz (x0.data.toList.map fun b => .p (.int .u8 b.toNat)) x0.size 1 false))]).bind fun t141 =>
 (buildSliceV Try.prog 27 2 [(0, t140), (1, t141)]).bind fun t142 =>
 (callO rec 22 (1 :: 0 :: 1 :: 1 :: 1 :: 1 :: 0 :: σ) [(.p (.int .u16 48862)), t142] q136.2 (some 35)).bind fun q143 =>
 (extV q143.1 0).bind fun t144 =>
 (extV q143.1 1).bind fun t145 =>
 (castI .i64 t145).bind fun n146 =>
 (callO rec 22 (1 :: 0 :: 1 :: 1 :: 1 :: 1 :: 1 :: 0 :: σ) [(.p (.int .u16 4096)), t142] q143.2 (some 40)).bind fun q147 =>
 (extV q147.1 0).bind fun t148 =>
 (extV q147.1 1).bind fun t149 =>
 (castI .i64 t149).bind fun n150 =>
 (buildV Try.prog 52 [(6, (.p (.int .u16 48862))), (7, t144)]).bind fun t151 =>
 (callO rec 26 (2 :: 0 :: 1 :: 1 :: 1 :: 1 :: 1 :: 1 :: 0 :: σ) [t151] q147.2 (some 46)).bind fun q152 =>
 (extV q152.1 0).bind fun t153 =>
 (castS t153).bind fun s154 =>
 (extV q152.1 1).bind fun t155 =>
 (asB t155).bind fun b156 =>
 (buildV Try.prog 52 [(6, (.p (.int .u16 4096))), (7, t148)]).bind fun t157 =>
 (callO rec 26 (2 :: 0 :: 1 :: 1 :: 1 :: 1 :: 1 :: 1 :: 1 :: 0 :: σ) [t157] q152.2 (some 52)).bind fun q158 =>
 (extV q158.1 0).bind fun t159 =>
 (castS t159).bind fun s160 =>
 (extV q158.1 1).bind fun t161 =>
 (asB t161).bind fun b162 =>
 (buildV Try.prog 52 []).bind fun t163 =>
 (callO rec 26 (1 :: 0 :: 1 :: 1 :: 1 :: 1 :: 1 :: 1 :: 1 :: 1 :: 0 :: σ) [t163] q158.2 (some 57)).bind fun q164 =>
 (extV q164.1 0).bind fun t165 =>
 (castS t165).bind fun s166 =>
 (extV q164.1 1).bind fun t167 =>
 (asB t167).bind fun b168 =>
 (bif n146 == 0 then (some (n150 == 0)) else (some false)).bind fun b169 =>
 (bif b169 then (some (b156 == b162)) else (some false)).bind fun b170 =>
 (bif b170 then (some (s154.toList == s160.toList)) else (some false)).bind fun b171 =>
 (bif b171 then ((bif !b156 then (some true) else (some (s154.toList == x0.toList))).bind fun b172 =>
 some b172) else (some false)).bind fun b173 =>
 (bif b173 then (some (!b168)) else (some false)).bind fun b174 =>
 (bif b174 then ((callO rec 20 (30 :: 0 :: 1 :: 1 :: 1 :: 1 :: 1 :: 1 :: 1 :: 1 :: 1 :: 0 :: σ) [] q164.2 (some 90)).bind fun q175 =>
 (asB q175.1).bind fun b176 =>
 some ((.p (.bool b176)), q175.2)) else (some ((.p (.bool false)), q164.2))).bind fun q177 =>
 (asB q177.1).bind fun b178 =>
 fin false σ q177.2 [(.p (.bool b178))])) := by kernel_rfl
end Go.Ev
/- Equations, printed by tracer2.py. -/
namespace Go.Ev
open Go.Proofs
set_option linter.unusedVariables false
set_option maxRecDepth 100000
-- 21 limelight/limelightbook.Within
theorem limelightbook_Within_entry (rec : CallF) (loop : LoopV) (σ : Stamp) (x0 : Int) (x1 : Int) (x2 : Int) (h : H) : cvBody G rec loop 21 σ [(.p (.int .i64 x0)), (.p (.int .i64 x1)), (.p (.int .i64 x2))] h =
 (bif decide (x0 ≥ x1) then (some (decide (x0 ≤ x2))) else (some false)).bind fun b1 =>
 bif b1 then (
 fin false σ (List.replicate 33 [] :: h) [(.p (.int .i64 x0))])
 else (
 (remI .i64 x0 (IntKind.wrap .i64 ((IntKind.wrap .i64 (x2 - x1)) + 1))).bind fun t2 =>
 (castI .i64 t2).bind fun n3 =>
 bif decide (n3 < 0) then (
 fin false σ (List.replicate 33 [] :: h) [(.p (.int .i64 (IntKind.wrap .i64 (x1 + (IntKind.wrap .i64 ((IntKind.wrap .i64 ((IntKind.wrap .i64 (n3 + x2)) - x1)) + 1))))))])
 else (
 fin false σ (List.replicate 33 [] :: h) [(.p (.int .i64 (IntKind.wrap .i64 (x1 + n3))))])) := by kernel_rfl
end Go.Ev
/- Lifted by lift.py: limelightbook_Within as a plain function. -/
namespace Go.Ev
open Go.Proofs
set_option linter.unusedVariables false
set_option linter.unusedSimpArgs false
set_option maxRecDepth 100000
def p_limelightbook_Within (x0 : Int) (x1 : Int) (x2 : Int) : Option (Int) :=
(bif decide (x0 ≥ x1) then (some (decide (x0 ≤ x2))) else (some false)).bind fun b1 =>
bif b1 then (
some (x0))
else (
(remP x0 (IntKind.wrap .i64 ((IntKind.wrap .i64 (x2 - x1)) + 1))).bind fun n5 =>
bif decide (n5 < 0) then (
some ((IntKind.wrap .i64 (x1 + (IntKind.wrap .i64 ((IntKind.wrap .i64 ((IntKind.wrap .i64 (n5 + x2)) - x1)) + 1))))))
else (
some ((IntKind.wrap .i64 (x1 + n5)))))
theorem limelightbook_Within_ok {h : H} {σ : Stamp} (x0 : Int) (x1 : Int) (x2 : Int) : Sim (p_limelightbook_Within x0 x1 x2) (ev G X0 21 σ [(.p (.int .i64 x0)), (.p (.int .i64 x1)), (.p (.int .i64 x2))] h) (fun r s => s = ([.v (.p (.int .i64 r))], h)) := by
  refine Sim.ev rfl (Sim.ext (limelightbook_Within_entry _ _ _ _ _ _ _) ?_)
  rw [p_limelightbook_Within]
  have S0 : Fm 33 h [] [] [] (List.replicate 33 [] :: h) := Fm.start0
  refine Sim.ch (P := fun r y => r = y) ?_ (fun b1 y2 h3 h4 => ?_)
  · refine Sim.cd (fun hc => ?_) (fun hc => ?_)
    · exact Sim.ret rfl rfl
    · exact Sim.ret rfl rfl
  subst h4
  refine Sim.cd (fun hc => ?_) (fun hc => ?_)
  · exact Sim.fin (S0.finN (lv_cons (still_int _ _).lv lv_nil)) rfl
  · refine Sim.bd fun n5 h6 => ?_
    refine Sim.op (remP_ok h6) ?_
    refine Sim.op (castI_p _ _) ?_
    refine Sim.cd (fun hc => ?_) (fun hc => ?_)
    · exact Sim.fin (S0.finN (lv_cons (still_int _ _).lv lv_nil)) rfl
    · exact Sim.fin (S0.finN (lv_cons (still_int _ _).lv lv_nil)) rfl
end Go.Ev
/- Lifted by lift.py: limelightlaw4_ExtRids as a plain function. -/
namespace Go.Ev
open Go.Proofs
set_option linter.unusedVariables false
set_option linter.unusedSimpArgs false
set_option maxRecDepth 100000
def p_limelightlaw4_ExtRids (k : Nat) (x0 : ByteArray) (x1 : Int) : Option (Bool) :=
bif decide (((x0.size : Int)) > 16) then (
(subS x0 0 16).bind fun s1 =>
bif s1.toList == ((⟨#[]⟩ : ByteArray)).toList then (
(p_limelightbook_Within x1 0 12).bind fun r3 =>
(p_ext_Bytes k 48862 ([((⟨(IntKind.wrap .i64 (2 + r3)), ([110, 111])⟩ : T_api_Elem)), ((⟨1, (bytesS ((⟨#[120]⟩ : ByteArray)))⟩ : T_api_Elem))])).bind fun r10 =>
(p_ext_Bytes k 4096 ([((⟨(IntKind.wrap .i64 (2 + r3)), ([110, 111])⟩ : T_api_Elem)), ((⟨1, (bytesS ((⟨#[120]⟩ : ByteArray)))⟩ : T_api_Elem))])).bind fun r17 =>
(p_ext_Rid k ((⟨false, 0, 0, 0, 0, (([] : List Int)), 48862, r10.1, (([] : List Int))⟩ : T_api_Rtp))).bind fun r24 =>
(p_ext_Rid k ((⟨false, 0, 0, 0, 0, (([] : List Int)), 4096, r17.1, (([] : List Int))⟩ : T_api_Rtp))).bind fun r29 =>
(p_ext_Rid k ((⟨false, 0, 0, 0, 0, (([] : List Int)), 0, (([] : List Int)), (([] : List Int))⟩ : T_api_Rtp))).bind fun r34 =>
(bif r10.2 == 0 then (some (r17.2 == 0)) else (some false)).bind fun b39 =>
(bif b39 then (some (r24.2 == r29.2)) else (some false)).bind fun b43 =>
(bif b43 then (some (r24.1.toList == r29.1.toList)) else (some false)).bind fun b47 =>
(bif b47 then ((bif !r24.2 then (some true) else (some (r24.1.toList == ((⟨#[120]⟩ : ByteArray)).toList))).bind fun b51 =>
some b51) else (some false)).bind fun b55 =>
(bif b55 then (some (!r34.2)) else (some false)).bind fun b59 =>
(bif b59 then ((p_limelightlaw4_known k).bind fun r63 =>
some r63) else (some false)).bind fun b68 =>
some (b68))
else (
(p_limelightbook_Within x1 0 12).bind fun r72 =>
(p_ext_Bytes k 48862 ([((⟨(IntKind.wrap .i64 (2 + r72)), ([110, 111])⟩ : T_api_Elem)), ((⟨1, (bytesS s1)⟩ : T_api_Elem))])).bind fun r79 =>
(p_ext_Bytes k 4096 ([((⟨(IntKind.wrap .i64 (2 + r72)), ([110, 111])⟩ : T_api_Elem)), ((⟨1, (bytesS s1)⟩ : T_api_Elem))])).bind fun r86 =>
(p_ext_Rid k ((⟨false, 0, 0, 0, 0, (([] : List Int)), 48862, r79.1, (([] : List Int))⟩ : T_api_Rtp))).bind fun r93 =>
(p_ext_Rid k ((⟨false, 0, 0, 0, 0, (([] : List Int)), 4096, r86.1, (([] : List Int))⟩ : T_api_Rtp))).bind fun r98 =>
(p_ext_Rid k ((⟨false, 0, 0, 0, 0, (([] : List Int)), 0, (([] : List Int)), (([] : List Int))⟩ : T_api_Rtp))).bind fun r103 =>
(bif r79.2 == 0 then (some (r86.2 == 0)) else (some false)).bind fun b108 =>
(bif b108 then (some (r93.2 == r98.2)) else (some false)).bind fun b112 =>
(bif b112 then (some (r93.1.toList == r98.1.toList)) else (some false)).bind fun b116 =>
(bif b116 then ((bif !r93.2 then (some true) else (some (r93.1.toList == s1.toList))).bind fun b120 =>
some b120) else (some false)).bind fun b124 =>
(bif b124 then (some (!r103.2)) else (some false)).bind fun b128 =>
(bif b128 then ((p_limelightlaw4_known k).bind fun r132 =>
some r132) else (some false)).bind fun b137 =>
some (b137)))
else (
bif x0.toList == ((⟨#[]⟩ : ByteArray)).toList then (
(p_limelightbook_Within x1 0 12).bind fun r141 =>
(p_ext_Bytes k 48862 ([((⟨(IntKind.wrap .i64 (2 + r141)), ([110, 111])⟩ : T_api_Elem)), ((⟨1, (bytesS ((⟨#[120]⟩ : ByteArray)))⟩ : T_api_Elem))])).bind fun r148 =>
(p_ext_Bytes k 4096 ([((⟨(IntKind.wrap .i64 (2 + r141)), ([110, 111])⟩ : T_api_Elem)), ((⟨1, (bytesS ((⟨#[120]⟩ : ByteArray)))⟩ : T_api_Elem))])).bind fun r155 =>
(p_ext_Rid k ((⟨false, 0, 0, 0, 0, (([] : List Int)), 48862, r148.1, (([] : List Int))⟩ : T_api_Rtp))).bind fun r162 =>
(p_ext_Rid k ((⟨false, 0, 0, 0, 0, (([] : List Int)), 4096, r155.1, (([] : List Int))⟩ : T_api_Rtp))).bind fun r167 =>
(p_ext_Rid k ((⟨false, 0, 0, 0, 0, (([] : List Int)), 0, (([] : List Int)), (([] : List Int))⟩ : T_api_Rtp))).bind fun r172 =>
(bif r148.2 == 0 then (some (r155.2 == 0)) else (some false)).bind fun b177 =>
(bif b177 then (some (r162.2 == r167.2)) else (some false)).bind fun b181 =>
(bif b181 then (some (r162.1.toList == r167.1.toList)) else (some false)).bind fun b185 =>
(bif b185 then ((bif !r162.2 then (some true) else (some (r162.1.toList == ((⟨#[120]⟩ : ByteArray)).toList))).bind fun b189 =>
some b189) else (some false)).bind fun b193 =>
(bif b193 then (some (!r172.2)) else (some false)).bind fun b197 =>
(bif b197 then ((p_limelightlaw4_known k).bind fun r201 =>
some r201) else (some false)).bind fun b206 =>
some (b206))
else (
(p_limelightbook_Within x1 0 12).bind fun r210 =>
(p_ext_Bytes k 48862 ([((⟨(IntKind.wrap .i64 (2 + r210)), ([110, 111])⟩ : T_api_Elem)), ((⟨1, (bytesS x0)⟩ : T_api_Elem))])).bind fun r217 =>
(p_ext_Bytes k 4096 ([((⟨(IntKind.wrap .i64 (2 + r210)), ([110, 111])⟩ : T_api_Elem)), ((⟨1, (bytesS x0)⟩ : T_api_Elem))])).bind fun r224 =>
(p_ext_Rid k ((⟨false, 0, 0, 0, 0, (([] : List Int)), 48862, r217.1, (([] : List Int))⟩ : T_api_Rtp))).bind fun r231 =>
(p_ext_Rid k ((⟨false, 0, 0, 0, 0, (([] : List Int)), 4096, r224.1, (([] : List Int))⟩ : T_api_Rtp))).bind fun r236 =>
(p_ext_Rid k ((⟨false, 0, 0, 0, 0, (([] : List Int)), 0, (([] : List Int)), (([] : List Int))⟩ : T_api_Rtp))).bind fun r241 =>
(bif r217.2 == 0 then (some (r224.2 == 0)) else (some false)).bind fun b246 =>
(bif b246 then (some (r231.2 == r236.2)) else (some false)).bind fun b250 =>
(bif b250 then (some (r231.1.toList == r236.1.toList)) else (some false)).bind fun b254 =>
(bif b254 then ((bif !r231.2 then (some true) else (some (r231.1.toList == x0.toList))).bind fun b258 =>
some b258) else (some false)).bind fun b262 =>
(bif b262 then (some (!r241.2)) else (some false)).bind fun b266 =>
(bif b266 then ((p_limelightlaw4_known k).bind fun r270 =>
some r270) else (some false)).bind fun b275 =>
some (b275)))
theorem limelightlaw4_ExtRids_ok (k : Nat) {h : H} {σ : Stamp} (x0 : ByteArray) (x1 : Int) : Sim (p_limelightlaw4_ExtRids k x0 x1) (ev G X0 7 σ [(.p (.string x0)), (.p (.int .i64 x1))] h) (fun r s => s = ([.v (.p (.bool r))], h)) := by
  refine Sim.ev rfl (Sim.ext (limelightlaw4_ExtRids_entry _ _ _ _ _ _) ?_)
  rw [p_limelightlaw4_ExtRids]
  have S0 : Fm 92 h [] [] [] (List.replicate 92 [] :: h) := Fm.start0
  refine Sim.cd (fun hc => ?_) (fun hc => ?_)
  · refine Sim.bd fun s1 h2 => ?_
    refine Sim.op (subS_ok h2 rfl rfl) ?_
    refine Sim.cd (fun hc => ?_) (fun hc => ?_)
    · refine Sim.call (limelightbook_Within_ok x1 0 12) fun r3 cs4 H5 h6 q7 => ?_
      cases q7
      refine Sim.op (castI_p _ _) ?_
      have h8 : SlF (dI .u8) [110, 111] (.fz [(.p (.int .u8 110)), (.p (.int .u8 111))] 2 1 true) := SlF.lit (cs := [(.p (.int .u8 110)), (.p (.int .u8 111))]) (RL.cons (show (dI .u8).R 110 [(.p (.int .u8 110))] from rfl) (RL.cons (show (dI .u8).R 111 [(.p (.int .u8 111))] from rfl) RL.nil)) rfl rfl true
      refine Sim.op (bldS (pt_cons rfl (pt_cons rfl pt_nil)) (by kernel_rfl : _ = some (.fz [(.p (.int .u8 110)), (.p (.int .u8 111))] 2 1 true))) ?_
      refine Sim.op (rfl) ?_
      refine Sim.op (bldV (pt_cons rfl (pt_cons h8.still.cells pt_nil)) (by kernel_rfl : _ = some (.agg [.p (.int .i64 (IntKind.wrap .i64 (2 + r3))), .fz [(.p (.int .u8 110)), (.p (.int .u8 111))] 2 1 true]))) ?_
      refine Sim.op (bldV (pt_cons rfl (pt_cons (SlF.bytes ((⟨#[120]⟩ : ByteArray))).still.cells pt_nil)) (by kernel_rfl : _ = some (.agg [.p (.int .i64 1), .fz (((⟨#[120]⟩ : ByteArray)).data.toList.map fun b : UInt8 => V.p (Value.int .u8 (b.toNat : Int))) ((⟨#[120]⟩ : ByteArray)).size 1 false]))) ?_
      have h9 : SlF dT_api_Elem [((⟨(IntKind.wrap .i64 (2 + r3)), ([110, 111])⟩ : T_api_Elem)), ((⟨1, (bytesS ((⟨#[120]⟩ : ByteArray)))⟩ : T_api_Elem))] (.fz [(.p (.int .i64 (IntKind.wrap .i64 (2 + r3)))), (.fz [(.p (.int .u8 110)), (.p (.int .u8 111))] 2 1 true), (.p (.int .i64 1)), (.fz (((⟨#[120]⟩ : ByteArray)).data.toList.map fun b : UInt8 => V.p (Value.int .u8 (b.toNat : Int))) ((⟨#[120]⟩ : ByteArray)).size 1 false)] 2 2 true) := SlF.lit (cs := [(.p (.int .i64 (IntKind.wrap .i64 (2 + r3)))), (.fz [(.p (.int .u8 110)), (.p (.int .u8 111))] 2 1 true), (.p (.int .i64 1)), (.fz (((⟨#[120]⟩ : ByteArray)).data.toList.map fun b : UInt8 => V.p (Value.int .u8 (b.toNat : Int))) ((⟨#[120]⟩ : ByteArray)).size 1 false)]) (RL.cons (show dT_api_Elem.R ((⟨(IntKind.wrap .i64 (2 + r3)), ([110, 111])⟩ : T_api_Elem)) [.p (.int .i64 (IntKind.wrap .i64 (2 + r3))), .fz [(.p (.int .u8 110)), (.p (.int .u8 111))] 2 1 true] from (dT_api_Elem.mk h8)) (RL.cons (show dT_api_Elem.R ((⟨1, (bytesS ((⟨#[120]⟩ : ByteArray)))⟩ : T_api_Elem)) [.p (.int .i64 1), .fz (((⟨#[120]⟩ : ByteArray)).data.toList.map fun b : UInt8 => V.p (Value.int .u8 (b.toNat : Int))) ((⟨#[120]⟩ : ByteArray)).size 1 false] from (dT_api_Elem.mk (SlF.bytes ((⟨#[120]⟩ : ByteArray))))) RL.nil)) rfl rfl true
      refine Sim.op (bldS (pt_cons (c := [.p (.int .i64 (IntKind.wrap .i64 (2 + r3))), .fz [(.p (.int .u8 110)), (.p (.int .u8 111))] 2 1 true]) rfl (pt_cons (c := [.p (.int .i64 1), .fz (((⟨#[120]⟩ : ByteArray)).data.toList.map fun b : UInt8 => V.p (Value.int .u8 (b.toNat : Int))) ((⟨#[120]⟩ : ByteArray)).size 1 false]) rfl pt_nil)) (by kernel_rfl : _ = some (.fz [(.p (.int .i64 (IntKind.wrap .i64 (2 + r3)))), (.fz [(.p (.int .u8 110)), (.p (.int .u8 111))] 2 1 true), (.p (.int .i64 1)), (.fz (((⟨#[120]⟩ : ByteArray)).data.toList.map fun b : UInt8 => V.p (Value.int .u8 (b.toNat : Int))) ((⟨#[120]⟩ : ByteArray)).size 1 false)] 2 2 true))) ?_
      refine Sim.call (ext_Bytes_ok k 48862 ([((⟨(IntKind.wrap .i64 (2 + r3)), ([110, 111])⟩ : T_api_Elem)), ((⟨1, (bytesS ((⟨#[120]⟩ : ByteArray)))⟩ : T_api_Elem))]) (h9.h (List.replicate 92 [] :: h))) fun r10 cs11 H12 h13 q14 => ?_
      obtain ⟨v15, h16, q14⟩ := q14
      cases q14
      refine Sim.op (rfl) ?_
      refine Sim.op (rfl) ?_
      refine Sim.op (castI_p _ _) ?_
      refine Sim.call (ext_Bytes_ok k 4096 ([((⟨(IntKind.wrap .i64 (2 + r3)), ([110, 111])⟩ : T_api_Elem)), ((⟨1, (bytesS ((⟨#[120]⟩ : ByteArray)))⟩ : T_api_Elem))]) (h9.h (List.replicate 92 [] :: h))) fun r17 cs18 H19 h20 q21 => ?_
      obtain ⟨v22, h23, q21⟩ := q21
      cases q21
      refine Sim.op (rfl) ?_
      refine Sim.op (rfl) ?_
      refine Sim.op (castI_p _ _) ?_
      refine Sim.op (bldV (pt_cons rfl (pt_cons h16.still.cells pt_nil)) (by kernel_rfl : _ = some (.agg [.p (.bool false), .p (.int .i64 0), .p (.int .u16 0), .p (.int .u32 0), .p (.int .u32 0), .p (.slice none 0 0), .p (.int .u16 48862), v15, .p (.slice none 0 0)]))) ?_
      refine Sim.call (ext_Rid_ok k ((⟨false, 0, 0, 0, 0, (([] : List Int)), 48862, r10.1, (([] : List Int))⟩ : T_api_Rtp)) (show dT_api_Rtp.R ((⟨false, 0, 0, 0, 0, (([] : List Int)), 48862, r10.1, (([] : List Int))⟩ : T_api_Rtp)) [.p (.bool false), .p (.int .i64 0), .p (.int .u16 0), .p (.int .u32 0), .p (.int .u32 0), .p (.slice none 0 0), .p (.int .u16 48862), v15, .p (.slice none 0 0)] from (dT_api_Rtp.mk (SlF.nil (dI .u32)) h16 (SlF.nil (dI .u8))))) fun r24 cs25 H26 h27 q28 => ?_
      cases q28
      refine Sim.op (rfl) ?_
      refine Sim.op (castS_p _) ?_
      refine Sim.op (rfl) ?_
      refine Sim.op (asB_p _) ?_
      refine Sim.op (bldV (pt_cons rfl (pt_cons h23.still.cells pt_nil)) (by kernel_rfl : _ = some (.agg [.p (.bool false), .p (.int .i64 0), .p (.int .u16 0), .p (.int .u32 0), .p (.int .u32 0), .p (.slice none 0 0), .p (.int .u16 4096), v22, .p (.slice none 0 0)]))) ?_
      refine Sim.call (ext_Rid_ok k ((⟨false, 0, 0, 0, 0, (([] : List Int)), 4096, r17.1, (([] : List Int))⟩ : T_api_Rtp)) (show dT_api_Rtp.R ((⟨false, 0, 0, 0, 0, (([] : List Int)), 4096, r17.1, (([] : List Int))⟩ : T_api_Rtp)) [.p (.bool false), .p (.int .i64 0), .p (.int .u16 0), .p (.int .u32 0), .p (.int .u32 0), .p (.slice none 0 0), .p (.int .u16 4096), v22, .p (.slice none 0 0)] from (dT_api_Rtp.mk (SlF.nil (dI .u32)) h23 (SlF.nil (dI .u8))))) fun r29 cs30 H31 h32 q33 => ?_
      cases q33
      refine Sim.op (rfl) ?_
      refine Sim.op (castS_p _) ?_
      refine Sim.op (rfl) ?_
      refine Sim.op (asB_p _) ?_
      refine Sim.op (bldV pt_nil (by kernel_rfl : _ = some (.agg [.p (.bool false), .p (.int .i64 0), .p (.int .u16 0), .p (.int .u32 0), .p (.int .u32 0), .p (.slice none 0 0), .p (.int .u16 0), .p (.slice none 0 0), .p (.slice none 0 0)]))) ?_
      refine Sim.call (ext_Rid_ok k ((⟨false, 0, 0, 0, 0, (([] : List Int)), 0, (([] : List Int)), (([] : List Int))⟩ : T_api_Rtp)) (show dT_api_Rtp.R ((⟨false, 0, 0, 0, 0, (([] : List Int)), 0, (([] : List Int)), (([] : List Int))⟩ : T_api_Rtp)) [.p (.bool false), .p (.int .i64 0), .p (.int .u16 0), .p (.int .u32 0), .p (.int .u32 0), .p (.slice none 0 0), .p (.int .u16 0), .p (.slice none 0 0), .p (.slice none 0 0)] from (dT_api_Rtp.mk (SlF.nil (dI .u32)) (SlF.nil (dI .u8)) (SlF.nil (dI .u8))))) fun r34 cs35 H36 h37 q38 => ?_
      cases q38
      refine Sim.op (rfl) ?_
      refine Sim.op (castS_p _) ?_
      refine Sim.op (rfl) ?_
      refine Sim.op (asB_p _) ?_
      refine Sim.ch (P := fun r y => r = y) ?_ (fun b39 y40 h41 h42 => ?_)
      · refine Sim.cd (fun hc => ?_) (fun hc => ?_)
        · exact Sim.ret rfl rfl
        · exact Sim.ret rfl rfl
      subst h42
      refine Sim.ch (P := fun r y => r = y) ?_ (fun b43 y44 h45 h46 => ?_)
      · refine Sim.cd (fun hc => ?_) (fun hc => ?_)
        · exact Sim.ret rfl rfl
        · exact Sim.ret rfl rfl
      subst h46
      refine Sim.ch (P := fun r y => r = y) ?_ (fun b47 y48 h49 h50 => ?_)
      · refine Sim.cd (fun hc => ?_) (fun hc => ?_)
        · exact Sim.ret rfl rfl
        · exact Sim.ret rfl rfl
      subst h50
      refine Sim.ch (P := fun r y => r = y) ?_ (fun b55 y56 h57 h58 => ?_)
      · refine Sim.cd (fun hc => ?_) (fun hc => ?_)
        · refine Sim.ch (P := fun r y => r = y) ?_ (fun b51 y52 h53 h54 => ?_)
          · refine Sim.cd (fun hc => ?_) (fun hc => ?_)
            · exact Sim.ret rfl rfl
            · exact Sim.ret rfl rfl
          subst h54
          exact Sim.ret rfl rfl
        · exact Sim.ret rfl rfl
      subst h58
      refine Sim.ch (P := fun r y => r = y) ?_ (fun b59 y60 h61 h62 => ?_)
      · refine Sim.cd (fun hc => ?_) (fun hc => ?_)
        · exact Sim.ret rfl rfl
        · exact Sim.ret rfl rfl
      subst h62
      refine Sim.ch (P := fun r y => (.p (.bool r), (List.replicate 92 [] :: h)) = y) ?_ (fun b68 y69 h70 h71 => ?_)
      · refine Sim.cd (fun hc => ?_) (fun hc => ?_)
        · refine Sim.call (limelightlaw4_known_ok k ) fun r63 cs64 H65 h66 q67 => ?_
          cases q67
          refine Sim.op (asB_p _) ?_
          exact Sim.ret rfl rfl
        · exact Sim.ret rfl rfl
      subst h71
      refine Sim.op (asB_p _) ?_
      exact Sim.fin (S0.finN (lv_cons (still_bool _).lv lv_nil)) rfl
    · refine Sim.call (limelightbook_Within_ok x1 0 12) fun r72 cs73 H74 h75 q76 => ?_
      cases q76
      refine Sim.op (castI_p _ _) ?_
      have h77 : SlF (dI .u8) [110, 111] (.fz [(.p (.int .u8 110)), (.p (.int .u8 111))] 2 1 true) := SlF.lit (cs := [(.p (.int .u8 110)), (.p (.int .u8 111))]) (RL.cons (show (dI .u8).R 110 [(.p (.int .u8 110))] from rfl) (RL.cons (show (dI .u8).R 111 [(.p (.int .u8 111))] from rfl) RL.nil)) rfl rfl true
      refine Sim.op (bldS (pt_cons rfl (pt_cons rfl pt_nil)) (by kernel_rfl : _ = some (.fz [(.p (.int .u8 110)), (.p (.int .u8 111))] 2 1 true))) ?_
      refine Sim.op (rfl) ?_
      refine Sim.op (bldV (pt_cons rfl (pt_cons h77.still.cells pt_nil)) (by kernel_rfl : _ = some (.agg [.p (.int .i64 (IntKind.wrap .i64 (2 + r72))), .fz [(.p (.int .u8 110)), (.p (.int .u8 111))] 2 1 true]))) ?_
      refine Sim.op ((by kernel_rfl : _ = some (.fz (s1.data.toList.map fun b : UInt8 => V.p (Value.int .u8 (b.toNat : Int))) s1.size 1 false))) ?_
      refine Sim.op (bldV (pt_cons rfl (pt_cons (SlF.bytes s1).still.cells pt_nil)) (by kernel_rfl : _ = some (.agg [.p (.int .i64 1), .fz (s1.data.toList.map fun b : UInt8 => V.p (Value.int .u8 (b.toNat : Int))) s1.size 1 false]))) ?_
      have h78 : SlF dT_api_Elem [((⟨(IntKind.wrap .i64 (2 + r72)), ([110, 111])⟩ : T_api_Elem)), ((⟨1, (bytesS s1)⟩ : T_api_Elem))] (.fz [(.p (.int .i64 (IntKind.wrap .i64 (2 + r72)))), (.fz [(.p (.int .u8 110)), (.p (.int .u8 111))] 2 1 true), (.p (.int .i64 1)), (.fz (s1.data.toList.map fun b : UInt8 => V.p (Value.int .u8 (b.toNat : Int))) s1.size 1 false)] 2 2 true) := SlF.lit (cs := [(.p (.int .i64 (IntKind.wrap .i64 (2 + r72)))), (.fz [(.p (.int .u8 110)), (.p (.int .u8 111))] 2 1 true), (.p (.int .i64 1)), (.fz (s1.data.toList.map fun b : UInt8 => V.p (Value.int .u8 (b.toNat : Int))) s1.size 1 false)]) (RL.cons (show dT_api_Elem.R ((⟨(IntKind.wrap .i64 (2 + r72)), ([110, 111])⟩ : T_api_Elem)) [.p (.int .i64 (IntKind.wrap .i64 (2 + r72))), .fz [(.p (.int .u8 110)), (.p (.int .u8 111))] 2 1 true] from (dT_api_Elem.mk h77)) (RL.cons (show dT_api_Elem.R ((⟨1, (bytesS s1)⟩ : T_api_Elem)) [.p (.int .i64 1), .fz (s1.data.toList.map fun b : UInt8 => V.p (Value.int .u8 (b.toNat : Int))) s1.size 1 false] from (dT_api_Elem.mk (SlF.bytes s1))) RL.nil)) rfl rfl true
      refine Sim.op (bldS (pt_cons (c := [.p (.int .i64 (IntKind.wrap .i64 (2 + r72))), .fz [(.p (.int .u8 110)), (.p (.int .u8 111))] 2 1 true]) rfl (pt_cons (c := [.p (.int .i64 1), .fz (s1.data.toList.map fun b : UInt8 => V.p (Value.int .u8 (b.toNat : Int))) s1.size 1 false]) rfl pt_nil)) (by kernel_rfl : _ = some (.fz [(.p (.int .i64 (IntKind.wrap .i64 (2 + r72)))), (.fz [(.p (.int .u8 110)), (.p (.int .u8 111))] 2 1 true), (.p (.int .i64 1)), (.fz (s1.data.toList.map fun b : UInt8 => V.p (Value.int .u8 (b.toNat : Int))) s1.size 1 false)] 2 2 true))) ?_
      refine Sim.call (ext_Bytes_ok k 48862 ([((⟨(IntKind.wrap .i64 (2 + r72)), ([110, 111])⟩ : T_api_Elem)), ((⟨1, (bytesS s1)⟩ : T_api_Elem))]) (h78.h (List.replicate 92 [] :: h))) fun r79 cs80 H81 h82 q83 => ?_
      obtain ⟨v84, h85, q83⟩ := q83
      cases q83
      refine Sim.op (rfl) ?_
      refine Sim.op (rfl) ?_
      refine Sim.op (castI_p _ _) ?_
      refine Sim.call (ext_Bytes_ok k 4096 ([((⟨(IntKind.wrap .i64 (2 + r72)), ([110, 111])⟩ : T_api_Elem)), ((⟨1, (bytesS s1)⟩ : T_api_Elem))]) (h78.h (List.replicate 92 [] :: h))) fun r86 cs87 H88 h89 q90 => ?_
      obtain ⟨v91, h92, q90⟩ := q90
      cases q90
      refine Sim.op (rfl) ?_
      refine Sim.op (rfl) ?_
      refine Sim.op (castI_p _ _) ?_
      refine Sim.op (bldV (pt_cons rfl (pt_cons h85.still.cells pt_nil)) (by kernel_rfl : _ = some (.agg [.p (.bool false), .p (.int .i64 0), .p (.int .u16 0), .p (.int .u32 0), .p (.int .u32 0), .p (.slice none 0 0), .p (.int .u16 48862), v84, .p (.slice none 0 0)]))) ?_
      refine Sim.call (ext_Rid_ok k ((⟨false, 0, 0, 0, 0, (([] : List Int)), 48862, r79.1, (([] : List Int))⟩ : T_api_Rtp)) (show dT_api_Rtp.R ((⟨false, 0, 0, 0, 0, (([] : List Int)), 48862, r79.1, (([] : List Int))⟩ : T_api_Rtp)) [.p (.bool false), .p (.int .i64 0), .p (.int .u16 0), .p (.int .u32 0), .p (.int .u32 0), .p (.slice none 0 0), .p (.int .u16 48862), v84, .p (.slice none 0 0)] from (dT_api_Rtp.mk (SlF.nil (dI .u32)) h85 (SlF.nil (dI .u8))))) fun r93 cs94 H95 h96 q97 => ?_
      cases q97
      refine Sim.op (rfl) ?_
      refine Sim.op (castS_p _) ?_
      refine Sim.op (rfl) ?_
      refine Sim.op (asB_p _) ?_
      refine Sim.op (bldV (pt_cons rfl (pt_cons h92.still.cells pt_nil)) (by kernel_rfl : _ = some (.agg [.p (.bool false), .p (.int .i64 0), .p (.int .u16 0), .p (.int .u32 0), .p (.int .u32 0), .p (.slice none 0 0), .p (.int .u16 4096), v91, .p (.slice none 0 0)]))) ?_
      refine Sim.call (ext_Rid_ok k ((⟨false, 0, 0, 0, 0, (([] : List Int)), 4096, r86.1, (([] : List Int))⟩ : T_api_Rtp)) (show dT_api_Rtp.R ((⟨false, 0, 0, 0, 0, (([] : List Int)), 4096, r86.1, (([] : List Int))⟩ : T_api_Rtp)) [.p (.bool false), .p (.int .i64 0), .p (.int .u16 0), .p (.int .u32 0), .p (.int .u32 0), .p (.slice none 0 0), .p (.int .u16 4096), v91, .p (.slice none 0 0)] from (dT_api_Rtp.mk (SlF.nil (dI .u32)) h92 (SlF.nil (dI .u8))))) fun r98 cs99 H100 h101 q102 => ?_
      cases q102
      refine Sim.op (rfl) ?_
      refine Sim.op (castS_p _) ?_
      refine Sim.op (rfl) ?_
      refine Sim.op (asB_p _) ?_
      refine Sim.op (bldV pt_nil (by kernel_rfl : _ = some (.agg [.p (.bool false), .p (.int .i64 0), .p (.int .u16 0), .p (.int .u32 0), .p (.int .u32 0), .p (.slice none 0 0), .p (.int .u16 0), .p (.slice none 0 0), .p (.slice none 0 0)]))) ?_
      refine Sim.call (ext_Rid_ok k ((⟨false, 0, 0, 0, 0, (([] : List Int)), 0, (([] : List Int)), (([] : List Int))⟩ : T_api_Rtp)) (show dT_api_Rtp.R ((⟨false, 0, 0, 0, 0, (([] : List Int)), 0, (([] : List Int)), (([] : List Int))⟩ : T_api_Rtp)) [.p (.bool false), .p (.int .i64 0), .p (.int .u16 0), .p (.int .u32 0), .p (.int .u32 0), .p (.slice none 0 0), .p (.int .u16 0), .p (.slice none 0 0), .p (.slice none 0 0)] from (dT_api_Rtp.mk (SlF.nil (dI .u32)) (SlF.nil (dI .u8)) (SlF.nil (dI .u8))))) fun r103 cs104 H105 h106 q107 => ?_
      cases q107
      refine Sim.op (rfl) ?_
      refine Sim.op (castS_p _) ?_
      refine Sim.op (rfl) ?_
      refine Sim.op (asB_p _) ?_
      refine Sim.ch (P := fun r y => r = y) ?_ (fun b108 y109 h110 h111 => ?_)
      · refine Sim.cd (fun hc => ?_) (fun hc => ?_)
        · exact Sim.ret rfl rfl
        · exact Sim.ret rfl rfl
      subst h111
      refine Sim.ch (P := fun r y => r = y) ?_ (fun b112 y113 h114 h115 => ?_)
      · refine Sim.cd (fun hc => ?_) (fun hc => ?_)
        · exact Sim.ret rfl rfl
        · exact Sim.ret rfl rfl
      subst h115
      refine Sim.ch (P := fun r y => r = y) ?_ (fun b116 y117 h118 h119 => ?_)
      · refine Sim.cd (fun hc => ?_) (fun hc => ?_)
        · exact Sim.ret rfl rfl
        · exact Sim.ret rfl rfl
      subst h119
      refine Sim.ch (P := fun r y => r = y) ?_ (fun b124 y125 h126 h127 => ?_)
      · refine Sim.cd (fun hc => ?_) (fun hc => ?_)
        · refine Sim.ch (P := fun r y => r = y) ?_ (fun b120 y121 h122 h123 => ?_)
          · refine Sim.cd (fun hc => ?_) (fun hc => ?_)
            · exact Sim.ret rfl rfl
            · exact Sim.ret rfl rfl
          subst h123
          exact Sim.ret rfl rfl
        · exact Sim.ret rfl rfl
      subst h127
      refine Sim.ch (P := fun r y => r = y) ?_ (fun b128 y129 h130 h131 => ?_)
      · refine Sim.cd (fun hc => ?_) (fun hc => ?_)
        · exact Sim.ret rfl rfl
        · exact Sim.ret rfl rfl
      subst h131
      refine Sim.ch (P := fun r y => (.p (.bool r), (List.replicate 92 [] :: h)) = y) ?_ (fun b137 y138 h139 h140 => ?_)
      · refine Sim.cd (fun hc => ?_) (fun hc => ?_)
        · refine Sim.call (limelightlaw4_known_ok k ) fun r132 cs133 H134 h135 q136 => ?_
          cases q136
          refine Sim.op (asB_p _) ?_
          exact Sim.ret rfl rfl
        · exact Sim.ret rfl rfl
      subst h140
      refine Sim.op (asB_p _) ?_
      exact Sim.fin (S0.finN (lv_cons (still_bool _).lv lv_nil)) rfl
  · refine Sim.cd (fun hc => ?_) (fun hc => ?_)
    · refine Sim.call (limelightbook_Within_ok x1 0 12) fun r141 cs142 H143 h144 q145 => ?_
      cases q145
      refine Sim.op (castI_p _ _) ?_
      have h146 : SlF (dI .u8) [110, 111] (.fz [(.p (.int .u8 110)), (.p (.int .u8 111))] 2 1 true) := SlF.lit (cs := [(.p (.int .u8 110)), (.p (.int .u8 111))]) (RL.cons (show (dI .u8).R 110 [(.p (.int .u8 110))] from rfl) (RL.cons (show (dI .u8).R 111 [(.p (.int .u8 111))] from rfl) RL.nil)) rfl rfl true
      refine Sim.op (bldS (pt_cons rfl (pt_cons rfl pt_nil)) (by kernel_rfl : _ = some (.fz [(.p (.int .u8 110)), (.p (.int .u8 111))] 2 1 true))) ?_
      refine Sim.op (rfl) ?_
      refine Sim.op (bldV (pt_cons rfl (pt_cons h146.still.cells pt_nil)) (by kernel_rfl : _ = some (.agg [.p (.int .i64 (IntKind.wrap .i64 (2 + r141))), .fz [(.p (.int .u8 110)), (.p (.int .u8 111))] 2 1 true]))) ?_
      refine Sim.op (bldV (pt_cons rfl (pt_cons (SlF.bytes ((⟨#[120]⟩ : ByteArray))).still.cells pt_nil)) (by kernel_rfl : _ = some (.agg [.p (.int .i64 1), .fz (((⟨#[120]⟩ : ByteArray)).data.toList.map fun b : UInt8 => V.p (Value.int .u8 (b.toNat : Int))) ((⟨#[120]⟩ : ByteArray)).size 1 false]))) ?_
      have h147 : SlF dT_api_Elem [((⟨(IntKind.wrap .i64 (2 + r141)), ([110, 111])⟩ : T_api_Elem)), ((⟨1, (bytesS ((⟨#[120]⟩ : ByteArray)))⟩ : T_api_Elem))] (.fz [(.p (.int .i64 (IntKind.wrap .i64 (2 + r141)))), (.fz [(.p (.int .u8 110)), (.p (.int .u8 111))] 2 1 true), (.p (.int .i64 1)), (.fz (((⟨#[120]⟩ : ByteArray)).data.toList.map fun b : UInt8 => V.p (Value.int .u8 (b.toNat : Int))) ((⟨#[120]⟩ : ByteArray)).size 1 false)] 2 2 true) := SlF.lit (cs := [(.p (.int .i64 (IntKind.wrap .i64 (2 + r141)))), (.fz [(.p (.int .u8 110)), (.p (.int .u8 111))] 2 1 true), (.p (.int .i64 1)), (.fz (((⟨#[120]⟩ : ByteArray)).data.toList.map fun b : UInt8 => V.p (Value.int .u8 (b.toNat : Int))) ((⟨#[120]⟩ : ByteArray)).size 1 false)]) (RL.cons (show dT_api_Elem.R ((⟨(IntKind.wrap .i64 (2 + r141)), ([110, 111])⟩ : T_api_Elem)) [.p (.int .i64 (IntKind.wrap .i64 (2 + r141))), .fz [(.p (.int .u8 110)), (.p (.int .u8 111))] 2 1 true] from (dT_api_Elem.mk h146)) (RL.cons (show dT_api_Elem.R ((⟨1, (bytesS ((⟨#[120]⟩ : ByteArray)))⟩ : T_api_Elem)) [.p (.int .i64 1), .fz (((⟨#[120]⟩ : ByteArray)).data.toList.map fun b : UInt8 => V.p (Value.int .u8 (b.toNat : Int))) ((⟨#[120]⟩ : ByteArray)).size 1 false] from (dT_api_Elem.mk (SlF.bytes ((⟨#[120]⟩ : ByteArray))))) RL.nil)) rfl rfl true
      refine Sim.op (bldS (pt_cons (c := [.p (.int .i64 (IntKind.wrap .i64 (2 + r141))), .fz [(.p (.int .u8 110)), (.p (.int .u8 111))] 2 1 true]) rfl (pt_cons (c := [.p (.int .i64 1), .fz (((⟨#[120]⟩ : ByteArray)).data.toList.map fun b : UInt8 => V.p (Value.int .u8 (b.toNat : Int))) ((⟨#[120]⟩ : ByteArray)).size 1 false]) rfl pt_nil)) (by kernel_rfl : _ = some (.fz [(.p (.int .i64 (IntKind.wrap .i64 (2 + r141)))), (.fz [(.p (.int .u8 110)), (.p (.int .u8 111))] 2 1 true), (.p (.int .i64 1)), (.fz (((⟨#[120]⟩ : ByteArray)).data.toList.map fun b : UInt8 => V.p (Value.int .u8 (b.toNat : Int))) ((⟨#[120]⟩ : ByteArray)).size 1 false)] 2 2 true))) ?_
      refine Sim.call (ext_Bytes_ok k 48862 ([((⟨(IntKind.wrap .i64 (2 + r141)), ([110, 111])⟩ : T_api_Elem)), ((⟨1, (bytesS ((⟨#[120]⟩ : ByteArray)))⟩ : T_api_Elem))]) (h147.h (List.replicate 92 [] :: h))) fun r148 cs149 H150 h151 q152 => ?_
      obtain ⟨v153, h154, q152⟩ := q152
      cases q152
      refine Sim.op (rfl) ?_
      refine Sim.op (rfl) ?_
      refine Sim.op (castI_p _ _) ?_
      refine Sim.call (ext_Bytes_ok k 4096 ([((⟨(IntKind.wrap .i64 (2 + r141)), ([110, 111])⟩ : T_api_Elem)), ((⟨1, (bytesS ((⟨#[120]⟩ : ByteArray)))⟩ : T_api_Elem))]) (h147.h (List.replicate 92 [] :: h))) fun r155 cs156 H157 h158 q159 => ?_
      obtain ⟨v160, h161, q159⟩ := q159
      cases q159
      refine Sim.op (rfl) ?_
      refine Sim.op (rfl) ?_
      refine Sim.op (castI_p _ _) ?_
      refine Sim.op (bldV (pt_cons rfl (pt_cons h154.still.cells pt_nil)) (by kernel_rfl : _ = some (.agg [.p (.bool false), .p (.int .i64 0), .p (.int .u16 0), .p (.int .u32 0), .p (.int .u32 0), .p (.slice none 0 0), .p (.int .u16 48862), v153, .p (.slice none 0 0)]))) ?_
      refine Sim.call (ext_Rid_ok k ((⟨false, 0, 0, 0, 0, (([] : List Int)), 48862, r148.1, (([] : List Int))⟩ : T_api_Rtp)) (show dT_api_Rtp.R ((⟨false, 0, 0, 0, 0, (([] : List Int)), 48862, r148.1, (([] : List Int))⟩ : T_api_Rtp)) [.p (.bool false), .p (.int .i64 0), .p (.int .u16 0), .p (.int .u32 0), .p (.int .u32 0), .p (.slice none 0 0), .p (.int .u16 48862), v153, .p (.slice none 0 0)] from (dT_api_Rtp.mk (SlF.nil (dI .u32)) h154 (SlF.nil (dI .u8))))) fun r162 cs163 H164 h165 q166 => ?_
      cases q166
      refine Sim.op (rfl) ?_
      refine Sim.op (castS_p _) ?_
      refine Sim.op (rfl) ?_
      refine Sim.op (asB_p _) ?_
      refine Sim.op (bldV (pt_cons rfl (pt_cons h161.still.cells pt_nil)) (by kernel_rfl : _ = some (.agg [.p (.bool false), .p (.int .i64 0), .p (.int .u16 0), .p (.int .u32 0), .p (.int .u32 0), .p (.slice none 0 0), .p (.int .u16 4096), v160, .p (.slice none 0 0)]))) ?_
      refine Sim.call (ext_Rid_ok k ((⟨false, 0, 0, 0, 0, (([] : List Int)), 4096, r155.1, (([] : List Int))⟩ : T_api_Rtp)) (show dT_api_Rtp.R ((⟨false, 0, 0, 0, 0, (([] : List Int)), 4096, r155.1, (([] : List Int))⟩ : T_api_Rtp)) [.p (.bool false), .p (.int .i64 0), .p (.int .u16 0), .p (.int .u32 0), .p (.int .u32 0), .p (.slice none 0 0), .p (.int .u16 4096), v160, .p (.slice none 0 0)] from (dT_api_Rtp.mk (SlF.nil (dI .u32)) h161 (SlF.nil (dI .u8))))) fun r167 cs168 H169 h170 q171 => ?_
      cases q171
      refine Sim.op (rfl) ?_
      refine Sim.op (castS_p _) ?_
      refine Sim.op (rfl) ?_
      refine Sim.op (asB_p _) ?_
      refine Sim.op (bldV pt_nil (by kernel_rfl : _ = some (.agg [.p (.bool false), .p (.int .i64 0), .p (.int .u16 0), .p (.int .u32 0), .p (.int .u32 0), .p (.slice none 0 0), .p (.int .u16 0), .p (.slice none 0 0), .p (.slice none 0 0)]))) ?_
      refine Sim.call (ext_Rid_ok k ((⟨false, 0, 0, 0, 0, (([] : List Int)), 0, (([] : List Int)), (([] : List Int))⟩ : T_api_Rtp)) (show dT_api_Rtp.R ((⟨false, 0, 0, 0, 0, (([] : List Int)), 0, (([] : List Int)), (([] : List Int))⟩ : T_api_Rtp)) [.p (.bool false), .p (.int .i64 0), .p (.int .u16 0), .p (.int .u32 0), .p (.int .u32 0), .p (.slice none 0 0), .p (.int .u16 0), .p (.slice none 0 0), .p (.slice none 0 0)] from (dT_api_Rtp.mk (SlF.nil (dI .u32)) (SlF.nil (dI .u8)) (SlF.nil (dI .u8))))) fun r172 cs173 H174 h175 q176 => ?_
      cases q176
      refine Sim.op (rfl) ?_
      refine Sim.op (castS_p _) ?_
      refine Sim.op (rfl) ?_
      refine Sim.op (asB_p _) ?_
      refine Sim.ch (P := fun r y => r = y) ?_ (fun b177 y178 h179 h180 => ?_)
      · refine Sim.cd (fun hc => ?_) (fun hc => ?_)
        · exact Sim.ret rfl rfl
        · exact Sim.ret rfl rfl
      subst h180
      refine Sim.ch (P := fun r y => r = y) ?_ (fun b181 y182 h183 h184 => ?_)
      · refine Sim.cd (fun hc => ?_) (fun hc => ?_)
        · exact Sim.ret rfl rfl
        · exact Sim.ret rfl rfl
      subst h184
      refine Sim.ch (P := fun r y => r = y) ?_ (fun b185 y186 h187 h188 => ?_)
      · refine Sim.cd (fun hc => ?_) (fun hc => ?_)
        · exact Sim.ret rfl rfl
        · exact Sim.ret rfl rfl
      subst h188
      refine Sim.ch (P := fun r y => r = y) ?_ (fun b193 y194 h195 h196 => ?_)
      · refine Sim.cd (fun hc => ?_) (fun hc => ?_)
        · refine Sim.ch (P := fun r y => r = y) ?_ (fun b189 y190 h191 h192 => ?_)
          · refine Sim.cd (fun hc => ?_) (fun hc => ?_)
            · exact Sim.ret rfl rfl
            · exact Sim.ret rfl rfl
          subst h192
          exact Sim.ret rfl rfl
        · exact Sim.ret rfl rfl
      subst h196
      refine Sim.ch (P := fun r y => r = y) ?_ (fun b197 y198 h199 h200 => ?_)
      · refine Sim.cd (fun hc => ?_) (fun hc => ?_)
        · exact Sim.ret rfl rfl
        · exact Sim.ret rfl rfl
      subst h200
      refine Sim.ch (P := fun r y => (.p (.bool r), (List.replicate 92 [] :: h)) = y) ?_ (fun b206 y207 h208 h209 => ?_)
      · refine Sim.cd (fun hc => ?_) (fun hc => ?_)
        · refine Sim.call (limelightlaw4_known_ok k ) fun r201 cs202 H203 h204 q205 => ?_
          cases q205
          refine Sim.op (asB_p _) ?_
          exact Sim.ret rfl rfl
        · exact Sim.ret rfl rfl
      subst h209
      refine Sim.op (asB_p _) ?_
      exact Sim.fin (S0.finN (lv_cons (still_bool _).lv lv_nil)) rfl
    · refine Sim.call (limelightbook_Within_ok x1 0 12) fun r210 cs211 H212 h213 q214 => ?_
      cases q214
      refine Sim.op (castI_p _ _) ?_
      have h215 : SlF (dI .u8) [110, 111] (.fz [(.p (.int .u8 110)), (.p (.int .u8 111))] 2 1 true) := SlF.lit (cs := [(.p (.int .u8 110)), (.p (.int .u8 111))]) (RL.cons (show (dI .u8).R 110 [(.p (.int .u8 110))] from rfl) (RL.cons (show (dI .u8).R 111 [(.p (.int .u8 111))] from rfl) RL.nil)) rfl rfl true
      refine Sim.op (bldS (pt_cons rfl (pt_cons rfl pt_nil)) (by kernel_rfl : _ = some (.fz [(.p (.int .u8 110)), (.p (.int .u8 111))] 2 1 true))) ?_
      refine Sim.op (rfl) ?_
      refine Sim.op (bldV (pt_cons rfl (pt_cons h215.still.cells pt_nil)) (by kernel_rfl : _ = some (.agg [.p (.int .i64 (IntKind.wrap .i64 (2 + r210))), .fz [(.p (.int .u8 110)), (.p (.int .u8 111))] 2 1 true]))) ?_
      refine Sim.op (bldV (pt_cons rfl (pt_cons (SlF.bytes x0).still.cells pt_nil)) (by kernel_rfl : _ = some (.agg [.p (.int .i64 1), .fz (x0.data.toList.map fun b : UInt8 => V.p (Value.int .u8 (b.toNat : Int))) x0.size 1 false]))) ?_
      have h216 : SlF dT_api_Elem [((⟨(IntKind.wrap .i64 (2 + r210)), ([110, 111])⟩ : T_api_Elem)), ((⟨1, (bytesS x0)⟩ : T_api_Elem))] (.fz [(.p (.int .i64 (IntKind.wrap .i64 (2 + r210)))), (.fz [(.p (.int .u8 110)), (.p (.int .u8 111))] 2 1 true), (.p (.int .i64 1)), (.fz (x0.data.toList.map fun b : UInt8 => V.p (Value.int .u8 (b.toNat : Int))) x0.size 1 false)] 2 2 true) := SlF.lit (cs := [(.p (.int .i64 (IntKind.wrap .i64 (2 + r210)))), (.fz [(.p (.int .u8 110)), (.p (.int .u8 111))] 2 1 true), (.p (.int .i64 1)), (.fz (x0.data.toList.map fun b : UInt8 => V.p (Value.int .u8 (b.toNat : Int))) x0.size 1 false)]) (RL.cons (show dT_api_Elem.R ((⟨(IntKind.wrap .i64 (2 + r210)), ([110, 111])⟩ : T_api_Elem)) [.p (.int .i64 (IntKind.wrap .i64 (2 + r210))), .fz [(.p (.int .u8 110)), (.p (.int .u8 111))] 2 1 true] from (dT_api_Elem.mk h215)) (RL.cons (show dT_api_Elem.R ((⟨1, (bytesS x0)⟩ : T_api_Elem)) [.p (.int .i64 1), .fz (x0.data.toList.map fun b : UInt8 => V.p (Value.int .u8 (b.toNat : Int))) x0.size 1 false] from (dT_api_Elem.mk (SlF.bytes x0))) RL.nil)) rfl rfl true
      refine Sim.op (bldS (pt_cons (c := [.p (.int .i64 (IntKind.wrap .i64 (2 + r210))), .fz [(.p (.int .u8 110)), (.p (.int .u8 111))] 2 1 true]) rfl (pt_cons (c := [.p (.int .i64 1), .fz (x0.data.toList.map fun b : UInt8 => V.p (Value.int .u8 (b.toNat : Int))) x0.size 1 false]) rfl pt_nil)) (by kernel_rfl : _ = some (.fz [(.p (.int .i64 (IntKind.wrap .i64 (2 + r210)))), (.fz [(.p (.int .u8 110)), (.p (.int .u8 111))] 2 1 true), (.p (.int .i64 1)), (.fz (x0.data.toList.map fun b : UInt8 => V.p (Value.int .u8 (b.toNat : Int))) x0.size 1 false)] 2 2 true))) ?_
      refine Sim.call (ext_Bytes_ok k 48862 ([((⟨(IntKind.wrap .i64 (2 + r210)), ([110, 111])⟩ : T_api_Elem)), ((⟨1, (bytesS x0)⟩ : T_api_Elem))]) (h216.h (List.replicate 92 [] :: h))) fun r217 cs218 H219 h220 q221 => ?_
      obtain ⟨v222, h223, q221⟩ := q221
      cases q221
      refine Sim.op (rfl) ?_
      refine Sim.op (rfl) ?_
      refine Sim.op (castI_p _ _) ?_
      refine Sim.call (ext_Bytes_ok k 4096 ([((⟨(IntKind.wrap .i64 (2 + r210)), ([110, 111])⟩ : T_api_Elem)), ((⟨1, (bytesS x0)⟩ : T_api_Elem))]) (h216.h (List.replicate 92 [] :: h))) fun r224 cs225 H226 h227 q228 => ?_
      obtain ⟨v229, h230, q228⟩ := q228
      cases q228
      refine Sim.op (rfl) ?_
      refine Sim.op (rfl) ?_
      refine Sim.op (castI_p _ _) ?_
      refine Sim.op (bldV (pt_cons rfl (pt_cons h223.still.cells pt_nil)) (by kernel_rfl : _ = some (.agg [.p (.bool false), .p (.int .i64 0), .p (.int .u16 0), .p (.int .u32 0), .p (.int .u32 0), .p (.slice none 0 0), .p (.int .u16 48862), v222, .p (.slice none 0 0)]))) ?_
      refine Sim.call (ext_Rid_ok k ((⟨false, 0, 0, 0, 0, (([] : List Int)), 48862, r217.1, (([] : List Int))⟩ : T_api_Rtp)) (show dT_api_Rtp.R ((⟨false, 0, 0, 0, 0, (([] : List Int)), 48862, r217.1, (([] : List Int))⟩ : T_api_Rtp)) [.p (.bool false), .p (.int .i64 0), .p (.int .u16 0), .p (.int .u32 0), .p (.int .u32 0), .p (.slice none 0 0), .p (.int .u16 48862), v222, .p (.slice none 0 0)] from (dT_api_Rtp.mk (SlF.nil (dI .u32)) h223 (SlF.nil (dI .u8))))) fun r231 cs232 H233 h234 q235 => ?_
      cases q235
      refine Sim.op (rfl) ?_
      refine Sim.op (castS_p _) ?_
      refine Sim.op (rfl) ?_
      refine Sim.op (asB_p _) ?_
      refine Sim.op (bldV (pt_cons rfl (pt_cons h230.still.cells pt_nil)) (by kernel_rfl : _ = some (.agg [.p (.bool false), .p (.int .i64 0), .p (.int .u16 0), .p (.int .u32 0), .p (.int .u32 0), .p (.slice none 0 0), .p (.int .u16 4096), v229, .p (.slice none 0 0)]))) ?_
      refine Sim.call (ext_Rid_ok k ((⟨false, 0, 0, 0, 0, (([] : List Int)), 4096, r224.1, (([] : List Int))⟩ : T_api_Rtp)) (show dT_api_Rtp.R ((⟨false, 0, 0, 0, 0, (([] : List Int)), 4096, r224.1, (([] : List Int))⟩ : T_api_Rtp)) [.p (.bool false), .p (.int .i64 0), .p (.int .u16 0), .p (.int .u32 0), .p (.int .u32 0), .p (.slice none 0 0), .p (.int .u16 4096), v229, .p (.slice none 0 0)] from (dT_api_Rtp.mk (SlF.nil (dI .u32)) h230 (SlF.nil (dI .u8))))) fun r236 cs237 H238 h239 q240 => ?_
      cases q240
      refine Sim.op (rfl) ?_
      refine Sim.op (castS_p _) ?_
      refine Sim.op (rfl) ?_
      refine Sim.op (asB_p _) ?_
      refine Sim.op (bldV pt_nil (by kernel_rfl : _ = some (.agg [.p (.bool false), .p (.int .i64 0), .p (.int .u16 0), .p (.int .u32 0), .p (.int .u32 0), .p (.slice none 0 0), .p (.int .u16 0), .p (.slice none 0 0), .p (.slice none 0 0)]))) ?_
      refine Sim.call (ext_Rid_ok k ((⟨false, 0, 0, 0, 0, (([] : List Int)), 0, (([] : List Int)), (([] : List Int))⟩ : T_api_Rtp)) (show dT_api_Rtp.R ((⟨false, 0, 0, 0, 0, (([] : List Int)), 0, (([] : List Int)), (([] : List Int))⟩ : T_api_Rtp)) [.p (.bool false), .p (.int .i64 0), .p (.int .u16 0), .p (.int .u32 0), .p (.int .u32 0), .p (.slice none 0 0), .p (.int .u16 0), .p (.slice none 0 0), .p (.slice none 0 0)] from (dT_api_Rtp.mk (SlF.nil (dI .u32)) (SlF.nil (dI .u8)) (SlF.nil (dI .u8))))) fun r241 cs242 H243 h244 q245 => ?_
      cases q245
      refine Sim.op (rfl) ?_
      refine Sim.op (castS_p _) ?_
      refine Sim.op (rfl) ?_
      refine Sim.op (asB_p _) ?_
      refine Sim.ch (P := fun r y => r = y) ?_ (fun b246 y247 h248 h249 => ?_)
      · refine Sim.cd (fun hc => ?_) (fun hc => ?_)
        · exact Sim.ret rfl rfl
        · exact Sim.ret rfl rfl
      subst h249
      refine Sim.ch (P := fun r y => r = y) ?_ (fun b250 y251 h252 h253 => ?_)
      · refine Sim.cd (fun hc => ?_) (fun hc => ?_)
        · exact Sim.ret rfl rfl
        · exact Sim.ret rfl rfl
      subst h253
      refine Sim.ch (P := fun r y => r = y) ?_ (fun b254 y255 h256 h257 => ?_)
      · refine Sim.cd (fun hc => ?_) (fun hc => ?_)
        · exact Sim.ret rfl rfl
        · exact Sim.ret rfl rfl
      subst h257
      refine Sim.ch (P := fun r y => r = y) ?_ (fun b262 y263 h264 h265 => ?_)
      · refine Sim.cd (fun hc => ?_) (fun hc => ?_)
        · refine Sim.ch (P := fun r y => r = y) ?_ (fun b258 y259 h260 h261 => ?_)
          · refine Sim.cd (fun hc => ?_) (fun hc => ?_)
            · exact Sim.ret rfl rfl
            · exact Sim.ret rfl rfl
          subst h261
          exact Sim.ret rfl rfl
        · exact Sim.ret rfl rfl
      subst h265
      refine Sim.ch (P := fun r y => r = y) ?_ (fun b266 y267 h268 h269 => ?_)
      · refine Sim.cd (fun hc => ?_) (fun hc => ?_)
        · exact Sim.ret rfl rfl
        · exact Sim.ret rfl rfl
      subst h269
      refine Sim.ch (P := fun r y => (.p (.bool r), (List.replicate 92 [] :: h)) = y) ?_ (fun b275 y276 h277 h278 => ?_)
      · refine Sim.cd (fun hc => ?_) (fun hc => ?_)
        · refine Sim.call (limelightlaw4_known_ok k ) fun r270 cs271 H272 h273 q274 => ?_
          cases q274
          refine Sim.op (asB_p _) ?_
          exact Sim.ret rfl rfl
        · exact Sim.ret rfl rfl
      subst h278
      refine Sim.op (asB_p _) ?_
      exact Sim.fin (S0.finN (lv_cons (still_bool _).lv lv_nil)) rfl
end Go.Ev
namespace Go.Ev
set_option maxRecDepth 100000
theorem strB_bytesS (s : ByteArray) : strB (bytesS s) = s := by
  have : ((bytesS s).map fun n => UInt8.ofNat n.toNat).toArray = s.data := by
    unfold bytesS
    rw [List.map_map]
    have : ((fun n : Int => UInt8.ofNat n.toNat) ∘ fun b : UInt8 => (b.toNat : Int)) = id := by
      funext b; simp
    rw [this, List.map_id]
  unfold strB
  rw [this]
theorem bytesS_len (s : ByteArray) : (bytesS s).length = s.size := by unfold bytesS; rw [List.length_map, Array.length_toList]; rfl
theorem within_lo {x hi : Int} (h0 : 0 ≤ hi) (h1 : hi < 2 ^ 40) : ∃ r, p_limelightbook_Within x 0 hi = some r ∧ 0 ≤ r ∧ r ≤ hi := by
  unfold p_limelightbook_Within
  by_cases h : 0 ≤ x ∧ x ≤ hi
  · refine ⟨x, ?_, h.1, h.2⟩
    have e1 : decide (x ≥ 0) = true := by simpa using h.1
    have e2 : decide (x ≤ hi) = true := by simpa using h.2
    simp only [e1, e2, cond_true, Option.bind_some]
  · have e : ∀ (a : Bool) (b : Bool), (a && b) = false → ((bif a then (some b) else (some false)) : Option Bool) = some false := by
      intro a b; cases a <;> cases b <;> simp
    rw [e (decide (x ≥ 0)) (decide (x ≤ hi)) (by simp; omega), Option.bind_some, cond_false]
    have w1 : IntKind.wrap .i64 (IntKind.wrap .i64 (hi - 0) + 1) = hi + 1 := by
      rw [wrap_i64 (n := hi - 0) (by omega) (by omega), wrap_i64 (by omega) (by omega)]; omega
    have hb : -(hi + 1) < x.tmod (hi + 1) ∧ x.tmod (hi + 1) < hi + 1 := by
      have h1 := Int.tmod_lt_of_pos x (show 0 < hi + 1 by omega)
      have h2 := Int.neg_tmod x (hi + 1)
      have h3 := Int.tmod_lt_of_pos (-x) (show 0 < hi + 1 by omega)
      omega
    rw [w1]
    unfold remP
    rw [if_neg (by omega), Option.bind_some]
    generalize x.tmod (hi + 1) = m at hb
    by_cases hm : m < 0
    · have : decide (m < 0) = true := by simpa using hm
      rw [this, cond_true]
      refine ⟨_, rfl, ?_⟩
      rw [wrap_i64 (n := m + hi) (by omega) (by omega), wrap_i64 (n := m + hi - 0) (by omega) (by omega), wrap_i64 (n := m + hi - 0 + 1) (by omega) (by omega), wrap_i64 (by omega) (by omega)]
      omega
    · have : decide (m < 0) = false := by simpa using hm
      rw [this, cond_false]
      refine ⟨_, rfl, ?_⟩
      rw [wrap_i64 (by omega) (by omega)]
      omega
theorem rids_tail {n : ByteArray} (h1 : 1 ≤ n.size) (h2 : n.size ≤ 16) (x1 : Int) :
    ((p_limelightbook_Within x1 0 12).bind fun r210 =>
(p_ext_Bytes 40 48862 ([((⟨(IntKind.wrap .i64 (2 + r210)), ([110, 111])⟩ : T_api_Elem)), ((⟨1, (bytesS n)⟩ : T_api_Elem))])).bind fun r217 =>
(p_ext_Bytes 40 4096 ([((⟨(IntKind.wrap .i64 (2 + r210)), ([110, 111])⟩ : T_api_Elem)), ((⟨1, (bytesS n)⟩ : T_api_Elem))])).bind fun r224 =>
(p_ext_Rid 40 ((⟨false, 0, 0, 0, 0, (([] : List Int)), 48862, r217.1, (([] : List Int))⟩ : T_api_Rtp))).bind fun r231 =>
(p_ext_Rid 40 ((⟨false, 0, 0, 0, 0, (([] : List Int)), 4096, r224.1, (([] : List Int))⟩ : T_api_Rtp))).bind fun r236 =>
(p_ext_Rid 40 ((⟨false, 0, 0, 0, 0, (([] : List Int)), 0, (([] : List Int)), (([] : List Int))⟩ : T_api_Rtp))).bind fun r241 =>
(bif r217.2 == 0 then (some (r224.2 == 0)) else (some false)).bind fun b246 =>
(bif b246 then (some (r231.2 == r236.2)) else (some false)).bind fun b250 =>
(bif b250 then (some (r231.1.toList == r236.1.toList)) else (some false)).bind fun b254 =>
(bif b254 then ((bif !r231.2 then (some true) else (some (r231.1.toList == n.toList))).bind fun b258 =>
some b258) else (some false)).bind fun b262 =>
(bif b262 then (some (!r241.2)) else (some false)).bind fun b266 =>
(bif b266 then ((p_limelightlaw4_known 40).bind fun r270 =>
some r270) else (some false)).bind fun b275 =>
some (b275)) = some true := by
  obtain ⟨r, hr, r0, r1⟩ := within_lo (x := x1) (hi := 12) (by omega) (by omega)
  have hw : IntKind.wrap .i64 (2 + r) = 2 + r := wrap_i64 (by omega) (by omega)
  rw [hr, Option.bind_some, hw]
  have hb := bytesS_len n
  have hg1 : ∀ e ∈ [(⟨2 + r, [110, 111]⟩ : T_api_Elem), ⟨1, bytesS n⟩], ok1 e := by
    intro e he
    simp only [List.mem_cons, List.not_mem_nil, or_false] at he
    rcases he with rfl | rfl <;> unfold ok1 <;> simp <;> omega
  have hg2 : ∀ e ∈ [(⟨2 + r, [110, 111]⟩ : T_api_Elem), ⟨1, bytesS n⟩], ok2 e := fun e he => (hg1 e he).ok2
  have hf : p_ext_Find 40 [(⟨2 + r, [110, 111]⟩ : T_api_Elem), ⟨1, bytesS n⟩] 1 = some (bytesS n, true) :=
    find_mid (pre := [⟨2 + r, [110, 111]⟩]) (suf := []) (e := ⟨1, bytesS n⟩) rfl (by simp; omega) rfl (by simp) (by simp) (by simp only; omega)
  have q1 := rid_ok (p := ⟨false, 0, 0, 0, 0, [], 48862, padB ([(⟨2 + r, [110, 111]⟩ : T_api_Elem), ⟨1, bytesS n⟩].flatMap enc1), []⟩) (k := 40) (read1 (by omega) (by simp) hg1) hf
  have q2 := rid_ok (p := ⟨false, 0, 0, 0, 0, [], 4096, padB ([(⟨2 + r, [110, 111]⟩ : T_api_Elem), ⟨1, bytesS n⟩].flatMap enc2), []⟩) (k := 40) (read2 (by omega) (by simp) hg2) hf
  have q3 : p_ext_Rid 40 ((⟨false, 0, 0, 0, 0, (([] : List Int)), 0, (([] : List Int)), (([] : List Int))⟩ : T_api_Rtp)) = some (⟨#[]⟩, false) := rfl
  rw [strB_bytesS] at q1 q2
  rw [bytes1 (by omega) (by simp) hg1, Option.bind_some, bytes2 (by omega) (by simp) hg2, Option.bind_some, q1, Option.bind_some, q2, Option.bind_some, q3, Option.bind_some, known4]
  cases RidX.rightB n <;> simp
theorem extRids_true (x0 : ByteArray) (x1 : Int) : p_limelightlaw4_ExtRids 40 x0 x1 = some true := by
  unfold p_limelightlaw4_ExtRids
  by_cases h : x0.size > 16
  · have e1 : decide ((x0.size : Int) > 16) = true := by simp; omega
    have e2 : subS x0 0 16 = some (x0.extract 0 16) := by
      unfold subS
      rw [if_pos ⟨by omega, by omega, by omega⟩]
      rfl
    have e3 : (x0.extract 0 16).size = 16 := by rw [ByteArray.size_extract]; omega
    rw [e1, cond_true, e2, Option.bind_some]
    cases ((x0.extract 0 16).toList == ((⟨#[]⟩ : ByteArray)).toList) with
    | true => exact rids_tail (n := ⟨#[120]⟩) (by decide) (by decide) x1
    | false => exact rids_tail (n := x0.extract 0 16) (by omega) (by omega) x1
  · have e1 : decide ((x0.size : Int) > 16) = false := by simp; omega
    rw [e1, cond_false]
    cases h0 : (x0.toList == ((⟨#[]⟩ : ByteArray)).toList) with
    | true => exact rids_tail (n := ⟨#[120]⟩) (by decide) (by decide) x1
    | false =>
      have : 1 ≤ x0.size := by
        rcases Nat.eq_zero_or_pos x0.size with h1 | h1
        · exfalso
          have : x0 = ⟨#[]⟩ := by
            obtain ⟨a⟩ := x0
            congr
            exact Array.eq_empty_of_size_eq_zero h1
          subst this
          simp at h0
        · exact h1
      exact rids_tail (n := x0) this (by omega) x1
theorem extRids_ev (a0 : ByteArray) (a1 : Int) : ev G X0 7 [] [.p (.string a0), .p (.int .i64 a1)] [] = some ([.v (bV true)], []) := by
  obtain ⟨_, h1, rfl⟩ := limelightlaw4_ExtRids_ok 40 (h := []) (σ := []) a0 a1 _ (extRids_true a0 a1)
  exact h1
end Go.Ev
