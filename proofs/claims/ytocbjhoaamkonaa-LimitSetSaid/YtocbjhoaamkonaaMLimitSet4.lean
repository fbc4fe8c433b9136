/- A part of the proof that follows: Whatever the asks: what bounds is of the tuples that hold, and each owner has one. -/
import Derived.Test.YtocbjhoaamkonaaMLimitSet3
import Derived.KernelRfl
namespace Go.Ev
namespace Alm
open Srt
def dropK (l : List D) (key : Int) : List D:=l.filter fun x => x.Key != key
structure TOk (l : List D) : Prop where
 ok : OkDs l
 od : Od l 0 l.length
 nd : (l.map fun x => x.Key).Nodup
theorem getD_get {l : List D} {q : Nat} (h : q < l.length) : l.getD q z0 = l[q]:=by rw [List.getD_eq_getElem?_getD,List.getElem?_eq_getElem h]; rfl
theorem dropK_none {l : List D} {key : Int} (h : ∀ x ∈ l,x.Key ≠ key) : dropK l key = l:=List.filter_eq_self.2 fun x hx => bne_iff_ne.2 (h x hx)
theorem dropK_at {key : Int} : ∀ (l : List D) (i : Nat),(l.map fun x => x.Key).Nodup→i < l.length→(l.getD i z0).Key = key→dropK l key = l.take i ++ l.drop (i + 1)
 | [],i,_,h,_ => by simp at h
 | x::xs,0,hn,_,hk => by
  have hx : x.Key = key:=hk
  rw [List.map_cons,List.nodup_cons] at hn
  unfold dropK
  rw [List.filter_cons,hx,bne_self_eq_false]
  simp only [Bool.false_eq_true,if_false,List.take_zero,List.nil_append,List.drop_succ_cons,List.drop_zero]
  exact dropK_none fun y hy e => hn.1 (by rw [hx,← e]; exact List.mem_map_of_mem (f:=fun x : D => x.Key) hy)
 | x::xs,i + 1,hn,hi,hk => by
  rw [List.map_cons,List.nodup_cons] at hn
  have hk' : (xs.getD i z0).Key = key:=hk
  have hi' : i < xs.length:=by simpa using hi
  have hne : x.Key ≠ key:=fun e => hn.1 (by
   rw [e,← hk',getD_get hi']
   exact List.mem_map_of_mem (f:=fun x : D => x.Key) (List.getElem_mem hi'))
  have ih:=dropK_at xs i hn.2 hi' hk'
  unfold dropK at ih ⊢
  rw [List.filter_cons,show (x.Key != key) = true from bne_iff_ne.2 hne,if_pos rfl,ih]
  rfl
theorem find_l0 {l : List D} {key : Int} (h1000 : l.length ≤ 1000) : ∀ m i k : Nat,i + m = l.length→m + 5 ≤ k→(∀ q,q < i→(l.getD q z0).Key ≠ key) →
  ∃ r,p_slices_IndexFunc_Lalarm_Due_alarm_Due_alarm_Table_find_1_l0 k (fun (_ : Unit) => some (-1)) (fun r => some r) l key (l.length : Int) (i : Int) = some r∧((r = -1∧∀ x ∈ l,x.Key ≠ key) ∨ ∃ j : Nat,r = (j : Int)∧j < l.length∧(l.getD j z0).Key = key):=by
 intro m
 induction m with
 | zero =>
  intro i k hi hk hq
  obtain ⟨k,rfl⟩ : ∃ j,k = j + 1:=⟨k - 1,by omega⟩
  rw [p_slices_IndexFunc_Lalarm_Due_alarm_Due_alarm_Table_find_1_l0,decide_eq_false (by omega),cond_false]
  refine ⟨_,rfl,.inl ⟨rfl,fun x hx => ?_⟩⟩
  obtain ⟨q,hq1,rfl⟩:=List.mem_iff_getElem.1 hx
  have:=hq q (by omega)
  rwa [getD_get hq1] at this
 | succ m ih =>
  intro i k hi hk hq
  obtain ⟨k,rfl⟩ : ∃ j,k = j + 1:=⟨k - 1,by omega⟩
  rw [p_slices_IndexFunc_Lalarm_Due_alarm_Due_alarm_Table_find_1_l0,decide_eq_true (by omega),cond_true,ix_g (by omega),Option.bind_some]
  unfold p_alarm_Table_find_1
  rw [Option.bind_some]
  by_cases h : (l.getD i z0).Key = key
  ·rw [show ((l.getD i z0).Key == key) = true from beq_iff_eq.2 h,cond_true]
   exact ⟨_,rfl,.inr ⟨i,rfl,by omega,h⟩⟩
  ·rw [show ((l.getD i z0).Key == key) = false from beq_eq_false_iff_ne.2 h,cond_false,wS (by omega)]
   exact ih (i + 1) k (by omega) (by omega) fun q hq2 => by
    by_cases e : q = i
    ·rw [e]; exact h
    ·exact hq q (by omega)
theorem find_ok {l : List D} {key : Int} (h1000 : l.length ≤ 1000) {k : Nat} (hk : 1100 ≤ k) : ∃ r,p_alarm_Table_find_o k ⟨l⟩ key = some r∧((r = -1∧∀ x ∈ l,x.Key ≠ key) ∨ ∃ j : Nat,r = (j : Int)∧j < l.length∧(l.getD j z0).Key = key):=by
 obtain ⟨r,e,h⟩:=find_l0 (key:=key) h1000 l.length 0 k (by omega) (by omega) (fun q hq => by omega)
 refine ⟨r,?_,h⟩
 unfold p_alarm_Table_find_o p_slices_IndexFunc_Lalarm_Due_alarm_Due_alarm_Table_find_1
 have e' : p_slices_IndexFunc_Lalarm_Due_alarm_Due_alarm_Table_find_1_l0 k (fun (_ : Unit) => some (-1)) (fun r => some r) l key (l.length : Int) 0 = some r:=e
 rw [e',Option.bind_some]
theorem clear_ok {l : List D} {key : Int} (ht : TOk l) (h1000 : l.length ≤ 1000) {k : Nat} (hk : 1100 ≤ k) : p_alarm_Table_Clear k ⟨l⟩ key = some (decide ((dropK l key).length < l.length),⟨dropK l key⟩):=by
 unfold p_alarm_Table_Clear
 obtain ⟨r,e,h⟩:=find_ok (l:=l) (key:=key) h1000 hk
 rw [e,Option.bind_some]
 rcases h with ⟨rfl,h⟩ | ⟨j,rfl,hj,hkey⟩
 ·rw [dropK_none h,decide_eq_false (show ¬ ((-1 : Int) ≥ 0) by omega),cond_false,decide_eq_false (Nat.lt_irrefl _)]
 ·have hd:=dropK_at l j ht.nd hj hkey
  have hlen : (dropK l key).length < l.length:=by rw [hd,List.length_append,List.length_take,List.length_drop]; omega
  have hdel : del l (j : Int) ((j + 1 : Nat) : Int) = some (dropK l key):=by
   unfold del
   rw [if_pos ⟨by omega,by omega,by omega⟩,hd]; rfl
  rw [decide_eq_true (show ((j : Int) ≥ 0) by omega),cond_true,wS (by omega),hdel,Option.bind_some,decide_eq_true hlen]
theorem TOk.perm {l l' : List D} (ht : TOk l) (hp : l'.Perm l) (ho : Od l' 0 l'.length) : TOk l':=⟨fun x hx => ht.ok x (hp.mem_iff.1 hx),ho,(hp.map _).nodup_iff.2 ht.nd⟩
theorem set_ok {l : List D} {key t : Int} (ht : TOk l) (hl : l.length < 900) (h0 : 0 ≤ key) (h1 : key < 18446744073709551616) {k : Nat} (hk : 4000 ≤ k) : ∃ l',p_alarm_Table_Set k ⟨l⟩ key t = some ⟨l'⟩∧TOk l'∧l'.Perm (dropK l key ++ [⟨t,key⟩]):=by
 unfold p_alarm_Table_Set
 have hdl : (dropK l key).length ≤ l.length:=List.length_filter_le ..
 rw [clear_ok ht (by omega) (by omega),Option.bind_some]
 simp only
 rw [ap_eq (by omega) (by simp; omega),Option.bind_some]
 have hok : OkDs (dropK l key ++ [⟨t,key⟩]):=fun x hx => by
  rcases List.mem_append.1 hx with h | h
  ·exact ht.ok x (List.mem_filter.1 h).1
  ·rw [List.mem_singleton.1 h]; exact ⟨h0,h1⟩
 have hne : neO (dropK l key ++ [(⟨t,key⟩ : D)]) = some ():=by
  unfold neO
  cases dropK l key <;> rfl
 obtain ⟨ys,e1,e2,e3⟩:=sort_ok hok (by simp; omega) hk
 rw [hne,Option.bind_some,e1,Option.bind_some]
 refine ⟨ys,rfl,⟨fun x hx => hok x (e2.mem_iff.1 hx),e3,?_⟩,e2⟩
 refine (e2.map _).nodup_iff.2 ?_
 rw [List.map_append,List.map_singleton]
 refine List.nodup_append.2 ⟨?_,by simp,fun a ha b hb => ?_⟩
 ·exact ht.nd.sublist (List.Sublist.map _ (List.filter_sublist))
 ·rw [List.mem_singleton] at hb
  obtain ⟨x,hx,rfl⟩:=List.mem_map.1 ha
  rw [hb]
  exact bne_iff_ne.1 (List.mem_filter.1 hx).2
end Alm
end Go.Ev
namespace Go.Ev
open Go.Proofs
set_option linter.unusedVariables false
set_option linter.unusedSimpArgs false
set_option maxRecDepth 100000
noncomputable section
abbrev KT16:=Exit→Env→H→Option (List C × H)
variable (rec : CallF) (loop : LoopV) (σ : Stamp)
theorem limit_Limit_Tmmbr_entry (x0 : V) (x1 : V) (x2 : Int) (h : H) : cvBody G rec loop 36 σ [x0,x1,(.p (.int .i64 x2))] h =
(boxO false (0::0::0::σ) 4 (List.replicate 55 []::h) x1).bind fun q1 =>
(nilChk x0).bind fun t2 =>
(fA t2 3).bind fun t3 =>
(ldO false 1 q1.2 t3).bind fun t4 =>
(ldO true 3 q1.2 q1.1).bind fun t5 =>
(callO rec 70 (5::0::1::0::σ) [t4,t5,(.clo 71 [])] q1.2 (some 15)).bind fun q6 =>
(extV q6.1 0).bind fun t7 =>
(castI .i64 t7).bind fun n8 =>
(extV q6.1 1).bind fun t9 =>
(asB t9).bind fun b10 =>
bif b10 then (
(nilChk x0).bind fun t11 =>
(fA t11 3).bind fun t12 =>
(ldO false 1 q6.2 t12).bind fun t13 =>
(ldO true 3 q6.2 q1.1).bind fun t14 =>
(iS 3 t13 n8).bind fun t15 =>
((stO false 3 (7::1::0::1::1::0::σ) q6.2 t15 t14).map fun h => (udf,h)).bind fun q16 =>
(nilChk x0).bind fun t17 =>
(fA t17 4).bind fun t18 =>
(ldO false 1 q16.2 t18).bind fun t19 =>
(fA q1.1 0).bind fun t20 =>
(ldO false 1 q16.2 t20).bind fun t21 =>
(castI .u32 t21).bind fun n22 =>
(callO rec 75 (8::0::1::1::1::0::σ) [(.p (.int .i64 x2))] q16.2 (some 53)).bind fun q23 =>
(castI .i64 q23.1).bind fun n24 =>
need ((some (.p (.int .u64 (IntKind.wrap .u64 n22))) : Option V) = some (.p (.int .u64 (IntKind.wrap .u64 n22)))) (
need (ldO false 1 q23.2 t20 = some (.p (.int .u32 n22))) (
need (ldO false 1 q23.2 t18 = some t19) (
(callO rec 74 (9::0::1::1::1::0::σ) [t19,(.p (.int .u64 (IntKind.wrap .u64 n22))),(.p (.int .i64 n24))] q23.2 (some 54)).bind fun q25 =>
fin false σ q25.2 [(.p (.bool true))]))))
else (
(nilChk x0).bind fun t26 =>
(fA t26 3).bind fun t27 =>
(ldO false 1 q6.2 t27).bind fun t28 =>
(lenO t28).bind fun t29 =>
(castI .i64 t29).bind fun n30 =>
bif decide (n30 ≥ 6) then (
fin false σ q6.2 [(.p (.bool false))])
else (
(nilChk x0).bind fun t31 =>
(fA t31 3).bind fun t32 =>
(ldO false 1 q6.2 t32).bind fun t33 =>
(ldO true 3 q6.2 q1.1).bind fun t34 =>
(bSV Try.prog 28 1 [(0,t34)]).bind fun t35 =>
(callO rec 73 (8::1::1::0::1::1::0::σ) [t33,(.p (.int .i64 n8)),t35] q6.2 (some 26)).bind fun q36 =>
(nilChk x0).bind fun t37 =>
(fA t37 3).bind fun t38 =>
((stO true 1 (11::1::1::0::1::1::0::σ) q36.2 t38 q36.1).map fun h => (udf,h)).bind fun q39 =>
(nilChk x0).bind fun t40 =>
(fA t40 4).bind fun t41 =>
(ldO false 1 q39.2 t41).bind fun t42 =>
(fA q1.1 0).bind fun t43 =>
(ldO false 1 q39.2 t43).bind fun t44 =>
(castI .u32 t44).bind fun n45 =>
(callO rec 75 (8::0::1::1::1::0::σ) [(.p (.int .i64 x2))] q39.2 (some 53)).bind fun q46 =>
(castI .i64 q46.1).bind fun n47 =>
need ((some (.p (.int .u64 (IntKind.wrap .u64 n45))) : Option V) = some (.p (.int .u64 (IntKind.wrap .u64 n45)))) (
need (ldO false 1 q46.2 t43 = some (.p (.int .u32 n45))) (
need (ldO false 1 q46.2 t41 = some t42) (
(callO rec 74 (9::0::1::1::1::0::σ) [t42,(.p (.int .u64 (IntKind.wrap .u64 n45))),(.p (.int .i64 n47))] q46.2 (some 54)).bind fun q48 =>
fin false σ q48.2 [(.p (.bool true))]))))):=by kernel_rfl
theorem limit_until_entry (x0 : Int) (h : H) : cvBody G rec loop 75 σ [(.p (.int .i64 x0))] h =
bif decide (x0 < 0) then (
fin false σ (List.replicate 9 []::h) [(.p (.int .i64 (IntKind.wrap .i64 (x0 + 1000000))))])
else (
(callO rec 118 (1::0::1::1::0::σ) [(.p (.int .i64 x0)),(.p (.int .i64 1000000))] (List.replicate 9 []::h) (some 8)).bind fun q1 =>
(castI .i64 q1.1).bind fun n2 =>
fin false σ q1.2 [(.p (.int .i64 n2))]):=by kernel_rfl
theorem clock_Add_entry (x0 : Int) (x1 : Int) (h : H) : cvBody G rec loop 118 σ [(.p (.int .i64 x0)),(.p (.int .i64 x1))] h =
(callO rec 146 (1::0::1::0::σ) [(.p (.int .i64 x0))] (List.replicate 12 []::h) (some 6)).bind fun q1 =>
(castI .u64 q1.1).bind fun n2 =>
(callO rec 146 (3::0::1::0::σ) [(.p (.int .i64 x1))] q1.2 (some 8)).bind fun q3 =>
(castI .u64 q3.1).bind fun n4 =>
fin false σ q3.2 [(.p (.int .i64 (IntKind.wrap .i64 ((if 9223372036854775807 < (IntKind.wrap .u64 (n2 + n4)) then 9223372036854775807 else (IntKind.wrap .u64 (n2 + n4)))))))]:=by kernel_rfl
theorem clock_up_entry (x0 : Int) (h : H) : cvBody G rec loop 146 σ [(.p (.int .i64 x0))] h =
fin false σ (List.replicate 6 []::h) [(.p (.int .u64 (IntKind.wrap .u64 ((if x0 > 0 then x0 else 0)))))]:=by kernel_rfl
end
end Go.Ev
namespace Go.Ev
open Go.Proofs
set_option linter.unusedVariables false
set_option linter.unusedSimpArgs false
set_option maxRecDepth 100000
section
variable {β α : Type} {Q : β→α→Prop} {K : Exit × Env × H→Option α}
def p_clock_up (x0 : Int) : Option (Int) :=
some ((IntKind.wrap .u64 ((if x0 > 0 then x0 else 0))))
theorem clock_up_ok {h : H} {σ : Stamp} (x0 : Int) : Sim (p_clock_up x0) (ev G X0 146 σ [(.p (.int .i64 x0))] h) (fun r s => s = ([.v (.p (.int .u64 r))],h)):=by
 refine .ev rfl (Sim.ext (clock_up_entry _ _ _ _ _) ?_)
 rw [p_clock_up]
 have S0 : Fm 6 h [] [] [] (List.replicate 6 []::h):=Fm.start0
 exact .fin (S0.finN (lC (sI _ _).lv lN)) rfl
def p_clock_Add (x0 : Int) (x1 : Int) : Option (Int) :=
(p_clock_up x0).bind fun r1 =>
(p_clock_up x1).bind fun r6 =>
some ((IntKind.wrap .i64 ((if 9223372036854775807 < (IntKind.wrap .u64 (r1 + r6)) then 9223372036854775807 else (IntKind.wrap .u64 (r1 + r6))))))
theorem clock_Add_ok {h : H} {σ : Stamp} (x0 : Int) (x1 : Int) : Sim (p_clock_Add x0 x1) (ev G X0 118 σ [(.p (.int .i64 x0)),(.p (.int .i64 x1))] h) (fun r s => s = ([.v (.p (.int .i64 r))],h)):=by
 refine .ev rfl (Sim.ext (clock_Add_entry _ _ _ _ _ _) ?_)
 rw [p_clock_Add]
 have S0 : Fm 12 h [] [] [] (List.replicate 12 []::h):=Fm.start0
 refine .call (clock_up_ok x0) fun r1 cs2 H3 h4 q5 => ?_
 cases q5
 refine .ci ?_
 refine .call (clock_up_ok x1) fun r6 cs7 H8 h9 q10 => ?_
 cases q10
 refine .ci ?_
 exact .fin (S0.finN (lC (sI _ _).lv lN)) rfl
def p_limit_until (x0 : Int) : Option (Int) :=
bif decide (x0 < 0) then (
some ((IntKind.wrap .i64 (x0 + 1000000))))
else (
(p_clock_Add x0 1000000).bind fun r2 =>
some (r2))
theorem limit_until_ok {h : H} {σ : Stamp} (x0 : Int) : Sim (p_limit_until x0) (ev G X0 75 σ [(.p (.int .i64 x0))] h) (fun r s => s = ([.v (.p (.int .i64 r))],h)):=by
 refine .ev rfl (Sim.ext (limit_until_entry _ _ _ _ _) ?_)
 rw [p_limit_until]
 have S0 : Fm 9 h [] [] [] (List.replicate 9 []::h):=Fm.start0
 refine .cq ?_ ?_
 ·exact .fin (S0.finN (lC (sI _ _).lv lN)) rfl
 refine .call (clock_Add_ok x0 1000000) fun r2 cs3 H4 h5 q6 => ?_
 cases q6
 refine .ci ?_
 exact .fin (S0.finN (lC (sI _ _).lv lN)) rfl
end
end Go.Ev
namespace Go.Ev
open Go.Proofs
set_option linter.unusedVariables false
set_option linter.unusedSimpArgs false
set_option maxRecDepth 100000
noncomputable section
abbrev KT17:=Exit→Env→H→Option (List C × H)
variable (rec : CallF) (loop : LoopV) (σ : Stamp)
def slices_BinarySearchFunc_Lapi_Tuple_api_Tuple_api_Tuple_c0 : Code:=(codeAt (bodyOf Try.f70) [1,1,1,0,0,0])
def slices_BinarySearchFunc_Lapi_Tuple_api_Tuple_api_Tuple_l0 : Lv:=⟨789,192,[(0,789)]⟩
def slices_BinarySearchFunc_Lapi_Tuple_api_Tuple_api_Tuple_k0 : KT17:=(kBlock 0 (kSeq G rec loop (codeAt (bodyOf Try.f70) [1,1,1,1]) ⟨192,192,[]⟩ (1::1::1::0::σ) (finC G false Try.f70 (1::σ))))
theorem slices_BinarySearchFunc_Lapi_Tuple_api_Tuple_api_Tuple_entry (x0 : V) (x1 : V) (x2 : V) (h : H) : cvBody G rec loop 70 σ [x0,x1,x2] h =
(boxO false (0::0::0::σ) 4 (List.replicate 49 []::h) x1).bind fun q1 =>
(lenO x0).bind fun t2 =>
(castI .i64 t2).bind fun n3 =>
(loop slices_BinarySearchFunc_Lapi_Tuple_api_Tuple_api_Tuple_c0 slices_BinarySearchFunc_Lapi_Tuple_api_Tuple_api_Tuple_l0 (0::1::1::1::0::σ) (envL [(0,x0),(2,x2),(4,q1.1),(8,(.p (.int .i64 n3))),(9,(.p (.int .i64 0))),(10,(.p (.int .i64 n3)))]) q1.2).bind fun r4 => slices_BinarySearchFunc_Lapi_Tuple_api_Tuple_api_Tuple_k0 rec loop σ r4.1 r4.2.1 r4.2.2:=by kernel_rfl
theorem slices_BinarySearchFunc_Lapi_Tuple_api_Tuple_api_Tuple_r0 (x0 : V) (x2 : V) (x4 : V) (x8 : Int) (x9 : Int) (x10 : Int) (h : H) : cvRound G rec loop slices_BinarySearchFunc_Lapi_Tuple_api_Tuple_api_Tuple_c0 slices_BinarySearchFunc_Lapi_Tuple_api_Tuple_api_Tuple_l0 σ (envL [(0,x0),(2,x2),(4,x4),(8,(.p (.int .i64 x8))),(9,(.p (.int .i64 x9))),(10,(.p (.int .i64 x10)))]) h =
bif decide (x9 < x10) then (
(iS 3 x0 (IntKind.wrap .i64 (Int.fdiv (IntKind.wrap .u64 (IntKind.wrap .i64 (x9 + x10))) (2 ^ 1)))).bind fun t5 =>
(ldO true 3 h t5).bind fun t6 =>
(ldO true 3 h x4).bind fun t7 =>
(cloO rec x2 (6::0::1::1::0::σ) [t6,t7] h (some 30)).bind fun q8 =>
(castI .i64 q8.1).bind fun n9 =>
bif decide (n9 < 0) then (
loop slices_BinarySearchFunc_Lapi_Tuple_api_Tuple_api_Tuple_c0 slices_BinarySearchFunc_Lapi_Tuple_api_Tuple_api_Tuple_l0 (1::σ) (envL [(0,x0),(2,x2),(4,x4),(8,(.p (.int .i64 x8))),(9,(.p (.int .i64 (IntKind.wrap .i64 ((IntKind.wrap .i64 (Int.fdiv (IntKind.wrap .u64 (IntKind.wrap .i64 (x9 + x10))) (2 ^ 1))) + 1))))),(10,(.p (.int .i64 x10)))]) q8.2)
else (
loop slices_BinarySearchFunc_Lapi_Tuple_api_Tuple_api_Tuple_c0 slices_BinarySearchFunc_Lapi_Tuple_api_Tuple_api_Tuple_l0 (1::σ) (envL [(0,x0),(2,x2),(4,x4),(8,(.p (.int .i64 x8))),(9,(.p (.int .i64 x9))),(10,(.p (.int .i64 (IntKind.wrap .i64 (Int.fdiv (IntKind.wrap .u64 (IntKind.wrap .i64 (x9 + x10))) (2 ^ 1))))))]) q8.2))
else (
some ((.exit 0),(envL [(0,x0),(2,x2),(4,x4),(8,(.p (.int .i64 x8))),(9,(.p (.int .i64 x9)))]),h)):=by kernel_rfl
theorem slices_BinarySearchFunc_Lapi_Tuple_api_Tuple_api_Tuple_a0_0 (x0 : V) (x2 : V) (x4 : V) (x8 : Int) (x9 : Int) (h : H) : slices_BinarySearchFunc_Lapi_Tuple_api_Tuple_api_Tuple_k0 rec loop σ (.exit 0) (envL [(0,x0),(2,x2),(4,x4),(8,(.p (.int .i64 x8))),(9,(.p (.int .i64 x9)))]) h =
(bif decide (x9 < x8) then ((iS 3 x0 x9).bind fun t10 =>
(ldO true 3 h t10).bind fun t11 =>
(ldO true 3 h x4).bind fun t12 =>
(cloO rec x2 (11::0::1::1::1::1::0::σ) [t11,t12] h (some 46)).bind fun q13 =>
(castI .i64 q13.1).bind fun n14 =>
some ((.p (.bool (n14 == 0))),q13.2)) else (some ((.p (.bool false)),h))).bind fun q15 =>
(asB q15.1).bind fun b16 =>
fin false σ q15.2 [(.p (.int .i64 x9)),(.p (.bool b16))]:=by kernel_rfl
theorem limit_Limit_Tmmbr_1_entry (x0 : V) (x1 : V) (h : H) : cvBody G rec loop 71 σ [x0,x1] h =
(boxO false (0::0::0::σ) 2 (List.replicate 10 []::h) x0).bind fun q1 =>
(boxO false (1::0::0::σ) 3 q1.2 x1).bind fun q2 =>
(fA q1.1 0).bind fun t3 =>
(ldO false 1 q2.2 t3).bind fun t4 =>
(castI .u32 t4).bind fun n5 =>
(fA q2.1 0).bind fun t6 =>
(ldO false 1 q2.2 t6).bind fun t7 =>
(castI .u32 t7).bind fun n8 =>
(callO rec 72 (4::0::1::0::σ) [(.p (.int .u32 n5)),(.p (.int .u32 n8))] q2.2 (some 9)).bind fun q9 =>
(castI .i64 q9.1).bind fun n10 =>
fin false σ q9.2 [(.p (.int .i64 n10))]:=by kernel_rfl
theorem cmp_Compare_uint32_entry (x0 : Int) (x1 : Int) (h : H) : cvBody G rec loop 72 σ [(.p (.int .u32 x0)),(.p (.int .u32 x1))] h =
(callO rec 109 (1::0::1::0::σ) [(.p (.int .u32 x0))] (List.replicate 20 []::h) (some 8)).bind fun q1 =>
(asB q1.1).bind fun b2 =>
(callO rec 109 (1::0::1::1::0::σ) [(.p (.int .u32 x1))] q1.2 (some 10)).bind fun q3 =>
(asB q3.1).bind fun b4 =>
bif b2 then (
bif b4 then (
fin false σ q3.2 [(.p (.int .i64 0))])
else (
fin false σ q3.2 [(.p (.int .i64 (-1)))]))
else (
bif b4 then (
fin false σ q3.2 [(.p (.int .i64 1))])
else (
bif decide (x0 < x1) then (
fin false σ q3.2 [(.p (.int .i64 (-1)))])
else (
bif decide (x0 > x1) then (
fin false σ q3.2 [(.p (.int .i64 1))])
else (
fin false σ q3.2 [(.p (.int .i64 0))])))):=by kernel_rfl
theorem cmp_isNaN_uint32_entry (x0 : Int) (h : H) : cvBody G rec loop 109 σ [(.p (.int .u32 x0))] h =
fin false σ (List.replicate 6 []::h) [(.p (.bool (x0 != x0)))]:=by kernel_rfl
end
end Go.Ev
namespace Go.Ev
open Go.Proofs
set_option linter.unusedVariables false
set_option linter.unusedSimpArgs false
set_option maxRecDepth 100000
section
variable {β α : Type} {Q : β→α→Prop} {K : Exit × Env × H→Option α}
def p_cmp_isNaN_uint32 (x0 : Int) : Option (Bool) :=
some ((x0 != x0))
theorem cmp_isNaN_uint32_ok {h : H} {σ : Stamp} (x0 : Int) : Sim (p_cmp_isNaN_uint32 x0) (ev G X0 109 σ [(.p (.int .u32 x0))] h) (fun r s => s = ([.v (.p (.bool r))],h)):=by
 refine .ev rfl (Sim.ext (cmp_isNaN_uint32_entry _ _ _ _ _) ?_)
 rw [p_cmp_isNaN_uint32]
 have S0 : Fm 6 h [] [] [] (List.replicate 6 []::h):=Fm.start0
 exact .fin (S0.finN (lC (sB _).lv lN)) rfl
def p_cmp_Compare_uint32 (x0 : Int) (x1 : Int) : Option (Int) :=
(p_cmp_isNaN_uint32 x0).bind fun r1 =>
(p_cmp_isNaN_uint32 x1).bind fun r6 =>
bif r1 then (
bif r6 then (
some (0))
else (
some ((-1))))
else (
bif r6 then (
some (1))
else (
bif decide (x0 < x1) then (
some ((-1)))
else (
bif decide (x0 > x1) then (
some (1))
else (
some (0)))))
theorem cmp_Compare_uint32_ok {h : H} {σ : Stamp} (x0 : Int) (x1 : Int) : Sim (p_cmp_Compare_uint32 x0 x1) (ev G X0 72 σ [(.p (.int .u32 x0)),(.p (.int .u32 x1))] h) (fun r s => s = ([.v (.p (.int .i64 r))],h)):=by
 refine .ev rfl (Sim.ext (cmp_Compare_uint32_entry _ _ _ _ _ _) ?_)
 rw [p_cmp_Compare_uint32]
 have S0 : Fm 20 h [] [] [] (List.replicate 20 []::h):=Fm.start0
 refine .call (cmp_isNaN_uint32_ok x0) fun r1 cs2 H3 h4 q5 => ?_
 cases q5
 refine .ab ?_
 refine .call (cmp_isNaN_uint32_ok x1) fun r6 cs7 H8 h9 q10 => ?_
 cases q10
 refine .ab ?_
 refine .cq ?_ ?_
 ·refine .cq ?_ ?_
  ·exact .fin (S0.finN (lC (sI _ _).lv lN)) rfl
  exact .fin (S0.finN (lC (sI _ _).lv lN)) rfl
 refine .cq ?_ ?_
 ·exact .fin (S0.finN (lC (sI _ _).lv lN)) rfl
 refine .cq ?_ ?_
 ·exact .fin (S0.finN (lC (sI _ _).lv lN)) rfl
 refine .cq ?_ ?_
 ·exact .fin (S0.finN (lC (sI _ _).lv lN)) rfl
 exact .fin (S0.finN (lC (sI _ _).lv lN)) rfl
def p_limit_Limit_Tmmbr_1 (x0 : TaiTuple) (x1 : TaiTuple) : Option (Int) :=
(p_cmp_Compare_uint32 x0.Owner x1.Owner).bind fun r9 =>
some (r9)
theorem limit_Limit_Tmmbr_1_ok {h : H} {σ : Stamp} (x0 : TaiTuple) {u0 : List V} (hu0 : dTaiTuple.R x0 u0) (x1 : TaiTuple) {u1 : List V} (hu1 : dTaiTuple.R x1 u1) : Sim (p_limit_Limit_Tmmbr_1 x0 x1) (ev G X0 71 σ [(.agg u0),(.agg u1)] h) (fun r s => s = ([.v (.p (.int .i64 r))],h)):=by
 refine .ev rfl (Sim.ext (limit_Limit_Tmmbr_1_entry _ _ _ _ _ _) ?_)
 rw [p_limit_Limit_Tmmbr_1]
 obtain rfl:=dTaiTuple.inv hu0
 obtain rfl:=dTaiTuple.inv hu1
 have S0 : Fm 10 h [] [] [] (List.replicate 10 []::h):=Fm.start0
 obtain ⟨H1,e2,S3⟩:=S0.box (own:=false) (d:=2) (s:=(0::0::0::σ)) (xs:=[(.p (.int .u32 x0.Owner)),(.p (.int .u64 x0.Rate)),(.p (.int .i64 x0.Over))]) (sC (sI _ _) (sC (sI _ _) (sC (sI _ _) sN))) (by decide) rfl
 refine .op (e2) ?_
 obtain ⟨H5,e6,S7⟩:=S3.box (own:=false) (d:=3) (s:=(1::0::0::σ)) (xs:=[(.p (.int .u32 x1.Owner)),(.p (.int .u64 x1.Rate)),(.p (.int .i64 x1.Over))]) (sC (sI _ _) (sC (sI _ _) (sC (sI _ _) sN))) (by decide) rfl
 refine .op (e6) ?_
 refine .fa ?_
 refine .op ((S7.atG (i:=1) rfl).ld (j:=0) rfl) ?_
 refine .ci ?_
 refine .fa ?_
 refine .op ((S7.atG (i:=0) rfl).ld (j:=0) rfl) ?_
 refine .ci ?_
 refine .call (cmp_Compare_uint32_ok x0.Owner x1.Owner) fun r9 cs10 H11 h12 q13 => ?_
 cases q13
 refine .ci ?_
 exact .fin (S7.finN (lC (sI _ _).lv lN)) rfl
def p_slices_BinarySearchFunc_Lapi_Tuple_api_Tuple_api_Tuple_limit_Limit_Tmmbr_1_l0 {β : Type} (k : Nat) (kE0 : (List TaiTuple)→Int→Int→TaiTuple→Option β) (x0 : (List TaiTuple)) (x8 : Int) (x9 : Int) (x10 : Int) (yg4 : TaiTuple) : Option β:=match k with
| 0 => none
| k + 1 =>
bif decide (x9 < x10) then (
(ix x0 (IntKind.wrap .i64 (Int.fdiv (IntKind.wrap .u64 (IntKind.wrap .i64 (x9 + x10))) (2 ^ 1)))).bind fun a12 =>
(p_limit_Limit_Tmmbr_1 a12 yg4).bind fun r17 =>
bif decide (r17 < 0) then (
p_slices_BinarySearchFunc_Lapi_Tuple_api_Tuple_api_Tuple_limit_Limit_Tmmbr_1_l0 k kE0 x0 x8 (IntKind.wrap .i64 ((IntKind.wrap .i64 (Int.fdiv (IntKind.wrap .u64 (IntKind.wrap .i64 (x9 + x10))) (2 ^ 1))) + 1)) x10 yg4)
else (
p_slices_BinarySearchFunc_Lapi_Tuple_api_Tuple_api_Tuple_limit_Limit_Tmmbr_1_l0 k kE0 x0 x8 x9 (IntKind.wrap .i64 (Int.fdiv (IntKind.wrap .u64 (IntKind.wrap .i64 (x9 + x10))) (2 ^ 1))) yg4))
else (
kE0 x0 x8 x9 yg4)
def p_slices_BinarySearchFunc_Lapi_Tuple_api_Tuple_api_Tuple_limit_Limit_Tmmbr_1 (k : Nat) (x0 : (List TaiTuple)) (x1 : TaiTuple) : Option (Int × Bool) :=
p_slices_BinarySearchFunc_Lapi_Tuple_api_Tuple_api_Tuple_limit_Limit_Tmmbr_1_l0 k (fun r29_0 r29_8 r29_9 yg10 =>
(bif decide (r29_9 < r29_8) then ((ix r29_0 r29_9).bind fun a36 =>
(p_limit_Limit_Tmmbr_1 a36 yg10).bind fun r41 =>
some (r41 == 0)) else (some false)).bind fun b46 =>
some (r29_9,b46)) x0 ((x0.length : Int)) 0 ((x0.length : Int)) x1
theorem slices_BinarySearchFunc_Lapi_Tuple_api_Tuple_api_Tuple_limit_Limit_Tmmbr_1_l0_ok {h : H}  {kE0 : (List TaiTuple)→Int→Int→TaiTuple→Option β} (hE0 : ∀ (q0 : (List TaiTuple)) (q8 : Int) (q9 : Int) (yg10 : TaiTuple) (v25 : V) (h26 : SlH h dTaiTuple q0 v25) (s27 : Stamp) (H23 : Go.Ev.H) (_ : Fm 49 h [] [(4,s27,List.map C.v [(.p (.int .u32 yg10.Owner)),(.p (.int .u64 yg10.Rate)),(.p (.int .i64 yg10.Over))])] [] H23),Sim (kE0 q0 q8 q9 yg10) (K ((.exit 0),(envL [(0,v25),(2,(.clo 71 [])),(4,(.ref ⟨h.length,4,0,s27,[]⟩ 0)),(8,(.p (.int .i64 q8))),(9,(.p (.int .i64 q9)))]),H23)) Q) (k : Nat) : ∀ (x0 : (List TaiTuple)) (x8 : Int) (x9 : Int) (x10 : Int) (yg4 : TaiTuple) (v7 : V) (h8 : SlH h dTaiTuple x0 v7) (s9 : Stamp) (H5 : Go.Ev.H) (_ : Fm 49 h [] [(4,s9,List.map C.v [(.p (.int .u32 yg4.Owner)),(.p (.int .u64 yg4.Rate)),(.p (.int .i64 yg4.Over))])] [] H5) {σ : Stamp},Sim (p_slices_BinarySearchFunc_Lapi_Tuple_api_Tuple_api_Tuple_limit_Limit_Tmmbr_1_l0 k kE0 x0 x8 x9 x10 yg4) ((cvL G X0 slices_BinarySearchFunc_Lapi_Tuple_api_Tuple_api_Tuple_c0 slices_BinarySearchFunc_Lapi_Tuple_api_Tuple_api_Tuple_l0 σ (envL [(0,v7),(2,(.clo 71 [])),(4,(.ref ⟨h.length,4,0,s9,[]⟩ 0)),(8,(.p (.int .i64 x8))),(9,(.p (.int .i64 x9))),(10,(.p (.int .i64 x10)))]) H5).bind K) Q:=by
 induction k with
 | zero => intros; exact .no
 | succ k ih =>
  intro x0 x8 x9 x10 yg4 v7 h8 s9 H5 S6 σ
  rw [p_slices_BinarySearchFunc_Lapi_Tuple_api_Tuple_api_Tuple_limit_Limit_Tmmbr_1_l0]
  refine .round (Sim.ext (slices_BinarySearchFunc_Lapi_Tuple_api_Tuple_api_Tuple_r0 _ _ _ _ _ _ _ _ _ _) ?_)
  refine .cq ?_ ?_
  ·refine .bd fun a12 h13 => ?_
   refine .op ((S6.low h8).iS h13 rfl) ?_
   obtain ⟨w15,h16,hE14⟩:=(S6.low h8).el h13 rfl
   obtain rfl:=dTaiTuple.inv h16
   refine .op (hE14.all (by simp)) ?_
   refine .op ((S6.atG (i:=0) rfl).ldVs (j:=0) (xs:=[.p (.int .u32 yg4.Owner),.p (.int .u64 yg4.Rate),.p (.int .i64 yg4.Over)]) rfl rfl (by decide)) ?_
   refine .clo ?_
   refine .call (limit_Limit_Tmmbr_1_ok a12 (show dTaiTuple.R a12 [.p (.int .u32 a12.Owner),.p (.int .u64 a12.Rate),.p (.int .i64 a12.Over)] from (dTaiTuple.mk)) yg4 (show dTaiTuple.R yg4 [.p (.int .u32 yg4.Owner),.p (.int .u64 yg4.Rate),.p (.int .i64 yg4.Over)] from (dTaiTuple.mk))) fun r17 cs18 H19 h20 q21 => ?_
   cases q21
   refine .ci ?_
   refine .cq ?_ ?_
   ·exact ih x0 x8 (IntKind.wrap .i64 ((IntKind.wrap .i64 (Int.fdiv (IntKind.wrap .u64 (IntKind.wrap .i64 (x9 + x10))) (2 ^ 1))) + 1)) x10 yg4 v7 h8 s9 H5 (S6.wk2 (aC (aM 0 rfl) aN) aN)
   exact ih x0 x8 x9 (IntKind.wrap .i64 (Int.fdiv (IntKind.wrap .u64 (IntKind.wrap .i64 (x9 + x10))) (2 ^ 1))) yg4 v7 h8 s9 H5 (S6.wk2 (aC (aM 0 rfl) aN) aN)
  exact hE0 x0 x8 x9 yg4 v7 h8 s9 H5 (S6.wk2 (aC (aM 0 rfl) aN) aN)
theorem slices_BinarySearchFunc_Lapi_Tuple_api_Tuple_api_Tuple_limit_Limit_Tmmbr_1_ok (k : Nat) {h : H} {σ : Stamp} (x0 : List TaiTuple) {u0 : V} (hu0 : SlH h dTaiTuple x0 u0) (x1 : TaiTuple) {u1 : List V} (hu1 : dTaiTuple.R x1 u1) : Sim (p_slices_BinarySearchFunc_Lapi_Tuple_api_Tuple_api_Tuple_limit_Limit_Tmmbr_1 k x0 x1) (ev G X0 70 σ [u0,(.agg u1),(.clo 71 [])] h) (fun r s => s = ([.v (.p (.int .i64 r.1)),.v (.p (.bool r.2))],h)):=by
 refine .ev rfl (Sim.ext (slices_BinarySearchFunc_Lapi_Tuple_api_Tuple_api_Tuple_entry _ _ _ _ _ _ _) ?_)
 rw [p_slices_BinarySearchFunc_Lapi_Tuple_api_Tuple_api_Tuple_limit_Limit_Tmmbr_1]
 obtain rfl:=dTaiTuple.inv hu1
 have S0 : Fm 49 h [] [] [] (List.replicate 49 []::h):=Fm.start0
 obtain ⟨H1,e2,S3⟩:=S0.box (own:=false) (d:=4) (s:=(0::0::0::σ)) (xs:=[(.p (.int .u32 x1.Owner)),(.p (.int .u64 x1.Rate)),(.p (.int .i64 x1.Over))]) (sC (sI _ _) (sC (sI _ _) (sC (sI _ _) sN))) (by decide) rfl
 refine .op (e2) ?_
 refine .op ((S3.low hu0).len) ?_
 refine .ci ?_
 refine .as (slices_BinarySearchFunc_Lapi_Tuple_api_Tuple_api_Tuple_limit_Limit_Tmmbr_1_l0_ok ?_ k x0 ((x0.length : Int)) 0 ((x0.length : Int)) x1 u0 hu0 (0::0::0::σ) H1 (S3.wk2 (aC (aM 0 rfl) aN) aN))
 ·intro r29_0 r29_8 r29_9 yg10 v32 h33 s34 H30 S31
  refine .ext (slices_BinarySearchFunc_Lapi_Tuple_api_Tuple_api_Tuple_a0_0 _ _ _ _ _ _ _ _ _) ?_
  refine .ch (P:=fun r y => (.p (.bool r),H30) = y) ?_ (fun b46 y47 h48 h49 => ?_)
  ·refine .cq ?_ ?_
   ·refine .bd fun a36 h37 => ?_
    refine .op ((S31.low h33).iS h37 rfl) ?_
    obtain ⟨w39,h40,hE38⟩:=(S31.low h33).el h37 rfl
    obtain rfl:=dTaiTuple.inv h40
    refine .op (hE38.all (by simp)) ?_
    refine .op ((S31.atG (i:=0) rfl).ldVs (j:=0) (xs:=[.p (.int .u32 yg10.Owner),.p (.int .u64 yg10.Rate),.p (.int .i64 yg10.Over)]) rfl rfl (by decide)) ?_
    refine .clo ?_
    refine .call (limit_Limit_Tmmbr_1_ok a36 (show dTaiTuple.R a36 [.p (.int .u32 a36.Owner),.p (.int .u64 a36.Rate),.p (.int .i64 a36.Over)] from (dTaiTuple.mk)) yg10 (show dTaiTuple.R yg10 [.p (.int .u32 yg10.Owner),.p (.int .u64 yg10.Rate),.p (.int .i64 yg10.Over)] from (dTaiTuple.mk))) fun r41 cs42 H43 h44 q45 => ?_
    cases q45
    refine .ci ?_
    exact .ret rfl rfl
   ·exact .ret rfl rfl
  subst h49
  refine .ab ?_
  exact .fin (S31.finN (lC (sI _ _).lv (lC (sB _).lv lN))) rfl
def p_limit_Limit_Tmmbr (k : Nat) (x0 : T_limit_Limit) (x1 : TaiTuple) (x2 : Int) : Option (Bool × T_limit_Limit) :=
(p_slices_BinarySearchFunc_Lapi_Tuple_api_Tuple_api_Tuple_limit_Limit_Tmmbr_1 k x0.tuples x1).bind fun r5 =>
bif r5.2 then (
(ix x0.tuples r5.1).bind fun a11 =>
(stx x0.tuples r5.1 x1).bind fun a16 =>
(p_limit_until x2).bind fun r21 =>
(p_alarm_Table_Set k x0.ends (IntKind.wrap .u64 x1.Owner) r21).bind fun r26 =>
some (true,(⟨x0.cap,x0.remb,x0.told,a16,r26⟩ : T_limit_Limit)))
else (
bif decide (((x0.tuples.length : Int)) ≥ 6) then (
some (false,x0))
else (
(ins 24 x0.tuples r5.1 ([x1])).bind fun a37 =>
(p_limit_until x2).bind fun r51 =>
(p_alarm_Table_Set k x0.ends (IntKind.wrap .u64 x1.Owner) r51).bind fun r56 =>
some (true,(⟨x0.cap,x0.remb,x0.told,a37,r56⟩ : T_limit_Limit))))
theorem limit_Limit_Tmmbr_ok (k : Nat) {h : H} {σ : Stamp} (x0 : T_limit_Limit) {c0_3 : C} (hc0_3 : SoC dTaiTuple x0.tuples c0_3) (hn0_3 : Nn c0_3 3) {s0_4 : Stamp} {c0_4_0 : C} (hc0_4_0 : SoC dT_alarm_Due x0.ends.l c0_4_0) (hn0_4_0 : Nn c0_4_0 2) {l0 : Loc} {o0 : Nat} (ha0 : AtC h l0 o0 ([.v (.p (.int .i64 x0.cap)),.v (.p (.int .u64 x0.remb)),.v (.p (.bool x0.told)),c0_3,.own s0_4 ([c0_4_0])])) (x1 : TaiTuple) {u1 : List V} (hu1 : dTaiTuple.R x1 u1) (x2 : Int) : Sim (p_limit_Limit_Tmmbr k x0 x1 x2) (ev G X0 36 σ [(.ref l0 o0),(.agg u1),(.p (.int .i64 x2))] h) (fun r s => ∃ (cb0_3 : C),∃ (sb0_4 : Stamp),∃ (cb0_4_0 : C),SoC dTaiTuple r.2.tuples cb0_3∧Nn cb0_3 3∧SoC dT_alarm_Due r.2.ends.l cb0_4_0∧Nn cb0_4_0 2∧s = ([.v (.p (.bool r.1))],pts h [⟨l0,o0,[.v (.p (.int .i64 r.2.cap)),.v (.p (.int .u64 r.2.remb)),.v (.p (.bool r.2.told)),cb0_3,.own sb0_4 ([cb0_4_0])]⟩])):=by
 refine .ev rfl (Sim.ext (limit_Limit_Tmmbr_entry _ _ _ _ _ _ _) ?_)
 rw [p_limit_Limit_Tmmbr]
 obtain rfl:=dTaiTuple.inv hu1
 have S0 : Fm 55 h [⟨l0,o0,[.v (.p (.int .i64 x0.cap)),.v (.p (.int .u64 x0.remb)),.v (.p (.bool x0.told)),c0_3,.own s0_4 ([c0_4_0])]⟩] [] [] (List.replicate 55 []::h):=Fm.start1 ha0
 obtain ⟨H1,e2,S3⟩:=S0.box (own:=false) (d:=4) (s:=(0::0::0::σ)) (xs:=[(.p (.int .u32 x1.Owner)),(.p (.int .u64 x1.Rate)),(.p (.int .i64 x1.Over))]) (sC (sI _ _) (sC (sI _ _) (sC (sI _ _) sN))) (by decide) rfl
 refine .op (e2) ?_
 refine .nc ?_
 refine .fa ?_
 refine .op (hc0_3.ld (S3.atB (i:=0) rfl) (j:=3) rfl) ?_
 refine .op ((S3.atG (i:=0) rfl).ldVs (j:=0) (xs:=[(.p (.int .u32 x1.Owner)),(.p (.int .u64 x1.Rate)),(.p (.int .i64 x1.Over))]) rfl rfl (by decide)) ?_
 refine .call (slices_BinarySearchFunc_Lapi_Tuple_api_Tuple_api_Tuple_limit_Limit_Tmmbr_1_ok k x0.tuples (hc0_3.sl (S3.atB (i:=0) rfl) (j:=3) rfl) x1 hu1) fun r5 cs6 H7 h8 q9 => ?_
 cases q9
 refine .or ?_
 refine .ci ?_
 refine .or ?_
 refine .ab ?_
 refine .cq ?_ ?_
 ·refine .nc ?_
  refine .fa ?_
  refine .op (hc0_3.ld (S3.atB (i:=0) rfl) (j:=3) rfl) ?_
  refine .op ((S3.atG (i:=0) rfl).ldVs (j:=0) (xs:=[(.p (.int .u32 x1.Owner)),(.p (.int .u64 x1.Rate)),(.p (.int .i64 x1.Over))]) rfl rfl (by decide)) ?_
  refine .bd fun a11 h12 => ?_
  refine .op ((hc0_3.sl (S3.atB (i:=0) rfl) (j:=3) rfl).iS h12 rfl) ?_
  refine .bd fun a16 h17 => ?_
  obtain ⟨c18,H13,e14,h19,h20,S15⟩:=S3.seB (i:=0) (j:=3) (own:=false) (σ:=(7::1::0::1::1::0::σ)) (nv:=[(.p (.int .u32 x1.Owner)),(.p (.int .u64 x1.Rate)),(.p (.int .i64 x1.Over))]) (xv:=(.agg [(.p (.int .u32 x1.Owner)),(.p (.int .u64 x1.Rate)),(.p (.int .i64 x1.Over))])) (n:=3) (e:=3) (off:=0) rfl rfl hc0_3 hn0_3 h12 h17 rfl rfl (by decide) (stN_agg (sC (sI _ _) (sC (sI _ _) (sC (sI _ _) sN)))) (Dt.whole (show dTaiTuple.R x1 [(.p (.int .u32 x1.Owner)),(.p (.int .u64 x1.Rate)),(.p (.int .i64 x1.Over))] from hu1) rfl)
  refine .op (sM e14) ?_
  refine .nc ?_
  refine .fa ?_
  refine .op ((S15.atB (i:=0) rfl).ldOwn (j:=4) rfl) ?_
  refine .fa ?_
  refine .op ((S15.atG (i:=0) rfl).ld (j:=0) rfl) ?_
  refine .ci ?_
  refine .call (limit_until_ok x2) fun r21 cs22 H23 h24 q25 => ?_
  cases q25
  refine .ci ?_
  refine .nd (rfl) ?_
  refine .nd ((S15.atG (i:=0) rfl).ld (j:=0) rfl) ?_
  refine .nd ((S15.atB (i:=0) rfl).ldOwn (j:=4) rfl) ?_
  refine .call (alarm_Table_Set_ok k x0.ends hc0_4_0 hn0_4_0 (S15.subB (i:=0) (j:=4) rfl rfl).1 (IntKind.wrap .u64 x1.Owner) r21) fun r26 cs27 H28 h29 q30 => ?_
  obtain ⟨c31,h32,h33,q30⟩:=q30
  cases q30
  have S34:=(S15.subB (i:=0) (j:=4) rfl rfl).2 ([c31]) rfl
  exact .fin (S34.finN (lC (sB _).lv lN)) ⟨c18,s0_4,c31,h19,(Nq.nn h20),h32,h33,rfl⟩
 refine .nc ?_
 refine .fa ?_
 refine .op (hc0_3.ld (S3.atB (i:=0) rfl) (j:=3) rfl) ?_
 refine .op ((hc0_3.sl (S3.atB (i:=0) rfl) (j:=3) rfl).len) ?_
 refine .ci ?_
 refine .cq ?_ ?_
 ·exact .fin (S3.finN (lC (sB _).lv lN)) ⟨c0_3,s0_4,c0_4_0,hc0_3,hn0_3,hc0_4_0,hn0_4_0,rfl⟩
 refine .nc ?_
 refine .fa ?_
 refine .op (hc0_3.ld (S3.atB (i:=0) rfl) (j:=3) rfl) ?_
 refine .op ((S3.atG (i:=0) rfl).ldVs (j:=0) (xs:=[(.p (.int .u32 x1.Owner)),(.p (.int .u64 x1.Rate)),(.p (.int .i64 x1.Over))]) rfl rfl (by decide)) ?_
 have h36 : SlF dTaiTuple [x1] (.fz [(.p (.int .u32 x1.Owner)),(.p (.int .u64 x1.Rate)),(.p (.int .i64 x1.Over))] 1 3 true):=SlF.lit (cs:=[(.p (.int .u32 x1.Owner)),(.p (.int .u64 x1.Rate)),(.p (.int .i64 x1.Over))]) (RL.cons hu1 RL.nil) rfl rfl true
 refine .op (bldS (pC (c:=[(.p (.int .u32 x1.Owner)),(.p (.int .u64 x1.Rate)),(.p (.int .i64 x1.Over))]) rfl pN) (by kernel_rfl : _ = some (vOf h36))) ?_
 refine .bd fun a37 h38 => ?_
 obtain ⟨v39,c40,H41,e42,S43⟩:=S3.insB (G:=G) (X:=X0) (f:=73) (ii:=0) (j:=3) (d:=26) (e:=3) (own:=false) (σ:=(8::1::1::0::1::1::0::σ)) (t:=true) (m:=1) (ys:=[x1]) (us:=[(.p (.int .u32 x1.Owner)),(.p (.int .u64 x1.Rate)),(.p (.int .i64 x1.Over))]) (fun _ _ _ _ _ => rfl) rfl rfl hc0_3 hn0_3 (RL.cons hu1 RL.nil) rfl (by decide) rfl h38 rfl (by decide) (by decide) rfl
 refine .op (e42) ?_
 refine .nc ?_
 refine .fa ?_
 obtain ⟨c48,H45,e46,h49,h50,S47⟩:=S43.mvB (i:=0) (j:=3) (k:=0) (σ:=(11::1::1::0::1::1::0::σ)) rfl rfl rfl rfl rfl
 refine .op (sM e46) ?_
 refine .nc ?_
 refine .fa ?_
 refine .op ((S47.atB (i:=0) rfl).ldOwn (j:=4) rfl) ?_
 refine .fa ?_
 refine .op ((S47.atG (i:=0) rfl).ld (j:=0) rfl) ?_
 refine .ci ?_
 refine .call (limit_until_ok x2) fun r51 cs52 H53 h54 q55 => ?_
 cases q55
 refine .ci ?_
 refine .nd (rfl) ?_
 refine .nd ((S47.atG (i:=0) rfl).ld (j:=0) rfl) ?_
 refine .nd ((S47.atB (i:=0) rfl).ldOwn (j:=4) rfl) ?_
 refine .call (alarm_Table_Set_ok k x0.ends hc0_4_0 hn0_4_0 (S47.subB (i:=0) (j:=4) rfl rfl).1 (IntKind.wrap .u64 x1.Owner) r51) fun r56 cs57 H58 h59 q60 => ?_
 obtain ⟨c61,h62,h63,q60⟩:=q60
 cases q60
 have S64:=(S47.subB (i:=0) (j:=4) rfl rfl).2 ([c61]) rfl
 exact .fin (S64.finN (lC (sB _).lv lN)) ⟨c48,s0_4,c61,h49,h50,h62,h63,rfl⟩
end
end Go.Ev
namespace Go.Ev
open Go.Proofs
set_option linter.unusedVariables false
set_option linter.unusedSimpArgs false
set_option maxRecDepth 100000
noncomputable section
abbrev KT18:=Exit→Env→H→Option (List C × H)
variable (rec : CallF) (loop : LoopV) (σ : Stamp)
def limit_Limit_Tick_c0 : Code:=(codeAt (bodyOf Try.f39) [1,1,0,1,0,0])
def limit_Limit_Tick_l0 : Lv:=⟨32,16,[(0,32)]⟩
def limit_Limit_Tick_k0 : KT18:=(kBlock 0 (kSeq G rec loop (codeAt (bodyOf Try.f39) [1,1,1]) ⟨16,16,[]⟩ (1::1::0::σ) (finC G false Try.f39 (1::σ))))
theorem limit_Limit_Tick_entry (x0 : V) (x1 : Int) (h : H) : cvBody G rec loop 39 σ [x0,(.p (.int .i64 x1))] h =
(nilChk x0).bind fun t1 =>
(fA t1 4).bind fun t2 =>
(ldO false 1 (List.replicate 32 []::h) t2).bind fun t3 =>
(callO rec 78 (5::0::1::0::σ) [t3,(.p (.int .i64 x1))] (List.replicate 32 []::h) (some 13)).bind fun q4 =>
(lenO q4.1).bind fun t5 =>
(castI .i64 t5).bind fun n6 =>
(loop limit_Limit_Tick_c0 limit_Limit_Tick_l0 (1::0::1::1::0::σ) (envL [(0,x0),(5,q4.1),(14,q4.1),(15,(.p (.int .i64 n6))),(16,(.p (.int .i64 0)))]) q4.2).bind fun r7 => limit_Limit_Tick_k0 rec loop σ r7.1 r7.2.1 r7.2.2:=by kernel_rfl
theorem limit_Limit_Tick_r0 (x0 : V) (x5 : V) (x14 : V) (x15 : Int) (x16 : Int) (h : H) : cvRound G rec loop limit_Limit_Tick_c0 limit_Limit_Tick_l0 σ (envL [(0,x0),(5,x5),(14,x14),(15,(.p (.int .i64 x15))),(16,(.p (.int .i64 x16)))]) h =
bif decide (x16 < x15) then (
(iS 2 x14 x16).bind fun t8 =>
(ldO true 2 h t8).bind fun t9 =>
(some (alO [.p (.int .i64 0),.p (.int .u64 0)] (2::0::0::1::1::0::σ) 7 h)).bind fun q10 =>
((stO false 2 (3::0::0::1::1::0::σ) q10.2 q10.1 t9).map fun h => (udf,h)).bind fun q11 =>
(nilChk x0).bind fun t12 =>
(fA t12 3).bind fun t13 =>
(ldO false 1 q11.2 t13).bind fun t14 =>
(callO rec 79 (6::1::0::1::1::0::σ) [t14,(.clo 80 [q10.1])] q11.2 (some 26)).bind fun q15 =>
(nilChk x0).bind fun t16 =>
(fA t16 3).bind fun t17 =>
((stO true 1 (9::1::0::1::1::0::σ) q15.2 t17 q15.1).map fun h => (udf,h)).bind fun q18 =>
loop limit_Limit_Tick_c0 limit_Limit_Tick_l0 (1::σ) (envL [(0,x0),(5,x5),(14,x14),(15,(.p (.int .i64 x15))),(16,(.p (.int .i64 (IntKind.wrap .i64 (x16 + 1)))))]) q18.2)
else (
some ((.exit 0),(envL [(5,x5)]),h)):=by kernel_rfl
theorem limit_Limit_Tick_a0_0 (x5 : V) (h : H) : limit_Limit_Tick_k0 rec loop σ (.exit 0) (envL [(5,x5)]) h =
(lenO x5).bind fun t19 =>
(castI .i64 t19).bind fun n20 =>
fin false σ h [(.p (.int .i64 n20))]:=by kernel_rfl
def slices_DeleteFunc_Lapi_Tuple_api_Tuple_c0 : Code:=(codeAt (bodyOf Try.f79) [1,1,1,0,1,0,0])
def slices_DeleteFunc_Lapi_Tuple_api_Tuple_l0 : Lv:=⟨33,16,[(0,33)]⟩
def slices_DeleteFunc_Lapi_Tuple_api_Tuple_k0 : KT18:=(kBlock 0 (kSeq G rec loop (codeAt (bodyOf Try.f79) [1,1,1,1]) ⟨16,16,[]⟩ (1::1::1::0::σ) (finC G false Try.f79 (1::σ))))
theorem slices_DeleteFunc_Lapi_Tuple_api_Tuple_entry (x0 : V) (x1 : V) (h : H) : cvBody G rec loop 79 σ [x0,x1] h =
(callO rec 120 (2::0::1::0::σ) [x0,x1] (List.replicate 42 []::h) (some 10)).bind fun q1 =>
(castI .i64 q1.1).bind fun n2 =>
bif n2 == (-1) then (
fin false σ q1.2 [x0])
else (
(loop slices_DeleteFunc_Lapi_Tuple_api_Tuple_c0 slices_DeleteFunc_Lapi_Tuple_api_Tuple_l0 (1::0::1::1::1::0::σ) (envL [(0,x0),(1,x1),(5,(.p (.int .i64 n2))),(6,(.p (.int .i64 (IntKind.wrap .i64 (n2 + 1)))))]) q1.2).bind fun r3 => slices_DeleteFunc_Lapi_Tuple_api_Tuple_k0 rec loop σ r3.1 r3.2.1 r3.2.2):=by kernel_rfl
theorem slices_DeleteFunc_Lapi_Tuple_api_Tuple_r0 (x0 : V) (x1 : V) (x5 : Int) (x6 : Int) (h : H) : cvRound G rec loop slices_DeleteFunc_Lapi_Tuple_api_Tuple_c0 slices_DeleteFunc_Lapi_Tuple_api_Tuple_l0 σ (envL [(0,x0),(1,x1),(5,(.p (.int .i64 x5))),(6,(.p (.int .i64 x6)))]) h =
(lenO x0).bind fun t4 =>
(castI .i64 t4).bind fun n5 =>
bif decide (x6 < n5) then (
(iS 3 x0 x6).bind fun t6 =>
(ldO true 3 h t6).bind fun t7 =>
(some (alO [.p (.int .u32 0),.p (.int .u64 0),.p (.int .i64 0)] (4::0::0::1::0::σ) 7 h)).bind fun q8 =>
((stO false 3 (5::0::0::1::0::σ) q8.2 q8.1 t7).map fun h => (udf,h)).bind fun q9 =>
(ldO true 3 q9.2 q8.1).bind fun t10 =>
(cloO rec x1 (2::0::1::0::1::0::σ) [t10] q9.2 (some 28)).bind fun q11 =>
(asB q11.1).bind fun b12 =>
bif !b12 then (
(ldO true 3 q11.2 q8.1).bind fun t13 =>
(iS 3 x0 x5).bind fun t14 =>
((stO false 3 (4::0::1::1::0::1::0::σ) q11.2 t14 t13).map fun h => (udf,h)).bind fun q15 =>
loop slices_DeleteFunc_Lapi_Tuple_api_Tuple_c0 slices_DeleteFunc_Lapi_Tuple_api_Tuple_l0 (1::σ) (envL [(0,x0),(1,x1),(5,(.p (.int .i64 (IntKind.wrap .i64 (x5 + 1))))),(6,(.p (.int .i64 (IntKind.wrap .i64 (x6 + 1)))))]) q15.2)
else (
loop slices_DeleteFunc_Lapi_Tuple_api_Tuple_c0 slices_DeleteFunc_Lapi_Tuple_api_Tuple_l0 (1::σ) (envL [(0,x0),(1,x1),(5,(.p (.int .i64 x5))),(6,(.p (.int .i64 (IntKind.wrap .i64 (x6 + 1)))))]) q11.2))
else (
some ((.exit 0),(envL [(0,x0),(5,(.p (.int .i64 x5)))]),h)):=by kernel_rfl
theorem slices_DeleteFunc_Lapi_Tuple_api_Tuple_a0_0 (x0 : V) (x5 : Int) (h : H) : slices_DeleteFunc_Lapi_Tuple_api_Tuple_k0 rec loop σ (.exit 0) (envL [(0,x0),(5,(.p (.int .i64 x5)))]) h =
(slS 3 x0 (some x5) none none).bind fun t16 =>
(clearV G h 28 t16).bind fun q17 =>
(slS 3 x0 none (some x5) none).bind fun t18 =>
fin false σ q17.2 [t18]:=by kernel_rfl
theorem limit_Limit_Tick_1_entry (x0 : V) (x1 : V) (h : H) : cvBody G rec loop 80 σ [x0,x1] h =
(boxO false (0::0::0::σ) 2 (List.replicate 10 []::h) x0).bind fun q1 =>
(fA q1.1 0).bind fun t2 =>
(ldO false 1 q1.2 t2).bind fun t3 =>
(castI .u32 t3).bind fun n4 =>
(fA x1 1).bind fun t5 =>
(ldO false 1 q1.2 t5).bind fun t6 =>
(castI .u64 t6).bind fun n7 =>
fin false σ q1.2 [(.p (.bool ((IntKind.wrap .u64 n4) == n7)))]:=by kernel_rfl
end
end Go.Ev
namespace Go.Ev
open Go.Proofs
set_option linter.unusedVariables false
set_option linter.unusedSimpArgs false
set_option maxRecDepth 100000
section
variable {β α : Type} {Q : β→α→Prop} {K : Exit × Env × H→Option α}
def p_limit_Limit_Tick_1 (x0 : TaiTuple) (x1 : T_alarm_Due) : Option (Bool) :=
some (((IntKind.wrap .u64 x0.Owner) == x1.Key))
theorem limit_Limit_Tick_1_ok {h : H} {σ : Stamp} (x0 : TaiTuple) {u0 : List V} (hu0 : dTaiTuple.R x0 u0) (x1 : T_alarm_Due)  {l1 : Loc} {o1 : Nat} (ha1 : AtC h l1 o1 (List.map C.v [(.p (.int .i64 x1.f_At)),(.p (.int .u64 x1.Key))])) : Sim (p_limit_Limit_Tick_1 x0 x1) (ev G X0 80 σ [(.agg u0),(.ref l1 o1)] h) (fun r s => s = ([.v (.p (.bool r))],h)):=by
 refine .ev rfl (Sim.ext (limit_Limit_Tick_1_entry _ _ _ _ _ _) ?_)
 rw [p_limit_Limit_Tick_1]
 obtain rfl:=dTaiTuple.inv hu0
 have S0 : Fm 10 h [] [] [] (List.replicate 10 []::h):=Fm.start0
 obtain ⟨H1,e2,S3⟩:=S0.box (own:=false) (d:=2) (s:=(0::0::0::σ)) (xs:=[(.p (.int .u32 x0.Owner)),(.p (.int .u64 x0.Rate)),(.p (.int .i64 x0.Over))]) (sC (sI _ _) (sC (sI _ _) (sC (sI _ _) sN))) (by decide) rfl
 refine .op (e2) ?_
 refine .fa ?_
 refine .op ((S3.atG (i:=0) rfl).ld (j:=0) rfl) ?_
 refine .ci ?_
 refine .fa ?_
 refine .op ((S3.lowA ha1).ld (j:=1) rfl) ?_
 refine .ci ?_
 exact .fin (S3.finN (lC (sB _).lv lN)) rfl
end
end Go.Ev
namespace Go.Ev
open Go.Proofs
set_option linter.unusedVariables false
set_option linter.unusedSimpArgs false
set_option maxRecDepth 100000
noncomputable section
abbrev KT19:=Exit→Env→H→Option (List C × H)
variable (rec : CallF) (loop : LoopV) (σ : Stamp)
def slices_IndexFunc_Lapi_Tuple_api_Tuple_c0 : Code:=(codeAt (bodyOf Try.f120) [1,0,1,0,0])
def slices_IndexFunc_Lapi_Tuple_api_Tuple_l0 : Lv:=⟨0,16,[(0,0)]⟩
def slices_IndexFunc_Lapi_Tuple_api_Tuple_k0 : KT19:=(kBlock 0 (kSeq G rec loop (codeAt (bodyOf Try.f120) [1,1]) ⟨16,16,[]⟩ (1::0::σ) (finC G false Try.f120 (1::σ))))
theorem slices_IndexFunc_Lapi_Tuple_api_Tuple_entry (x0 : V) (x1 : V) (h : H) : cvBody G rec loop 120 σ [x0,x1] h =
(lenO x0).bind fun t1 =>
(castI .i64 t1).bind fun n2 =>
(loop slices_IndexFunc_Lapi_Tuple_api_Tuple_c0 slices_IndexFunc_Lapi_Tuple_api_Tuple_l0 (1::0::1::0::σ) (envL [(0,x0),(1,x1),(7,(.p (.int .i64 n2))),(8,(.p (.int .i64 0)))]) (List.replicate 19 []::h)).bind fun r3 => slices_IndexFunc_Lapi_Tuple_api_Tuple_k0 rec loop σ r3.1 r3.2.1 r3.2.2:=by kernel_rfl
theorem slices_IndexFunc_Lapi_Tuple_api_Tuple_r0 (x0 : V) (x1 : V) (x7 : Int) (x8 : Int) (h : H) : cvRound G rec loop slices_IndexFunc_Lapi_Tuple_api_Tuple_c0 slices_IndexFunc_Lapi_Tuple_api_Tuple_l0 σ (envL [(0,x0),(1,x1),(7,(.p (.int .i64 x7))),(8,(.p (.int .i64 x8)))]) h =
bif decide (x8 < x7) then (
(iS 3 x0 x8).bind fun t4 =>
(ldO true 3 h t4).bind fun t5 =>
(cloO rec x1 (5::0::1::0::1::1::0::σ) [t5] h (some 16)).bind fun q6 =>
(asB q6.1).bind fun b7 =>
bif b7 then (
some (.ret,(envL [(4,(.p (.int .i64 x8)))]),q6.2))
else (
loop slices_IndexFunc_Lapi_Tuple_api_Tuple_c0 slices_IndexFunc_Lapi_Tuple_api_Tuple_l0 (1::σ) (envL [(0,x0),(1,x1),(7,(.p (.int .i64 x7))),(8,(.p (.int .i64 (IntKind.wrap .i64 (x8 + 1)))))]) q6.2))
else (
some ((.exit 0),(envL []),h)):=by kernel_rfl
theorem slices_IndexFunc_Lapi_Tuple_api_Tuple_a0_0  (h : H) : slices_IndexFunc_Lapi_Tuple_api_Tuple_k0 rec loop σ (.exit 0) (envL []) h =
fin false σ h [(.p (.int .i64 (-1)))]:=by kernel_rfl
theorem slices_IndexFunc_Lapi_Tuple_api_Tuple_a0_ret (x4 : Int) (h : H) : slices_IndexFunc_Lapi_Tuple_api_Tuple_k0 rec loop σ .ret (envL [(4,(.p (.int .i64 x4)))]) h =
fin false σ h [(.p (.int .i64 x4))]:=by kernel_rfl
end
end Go.Ev
namespace Go.Ev
open Go.Proofs
set_option linter.unusedVariables false
set_option linter.unusedSimpArgs false
set_option maxRecDepth 100000
section
variable {β α : Type} {Q : β→α→Prop} {K : Exit × Env × H→Option α}
def p_slices_IndexFunc_Lapi_Tuple_api_Tuple_limit_Limit_Tick_1_l0 {β : Type} (k : Nat) (kE0 : Unit→Option β) (kE1 : Int→Option β) (x0 : (List TaiTuple)) (x1c0 : T_alarm_Due) (x7 : Int) (x8 : Int) : Option β:=match k with
| 0 => none
| k + 1 =>
bif decide (x8 < x7) then (
(ix x0 x8).bind fun a10 =>
(p_limit_Limit_Tick_1 a10 x1c0).bind fun r15 =>
bif r15 then (
kE1 x8)
else (
p_slices_IndexFunc_Lapi_Tuple_api_Tuple_limit_Limit_Tick_1_l0 k kE0 kE1 x0 x1c0 x7 (IntKind.wrap .i64 (x8 + 1))))
else (
kE0 ())
def p_slices_IndexFunc_Lapi_Tuple_api_Tuple_limit_Limit_Tick_1 (k : Nat) (x0 : (List TaiTuple)) (x1c0 : T_alarm_Due) : Option (Int) :=
p_slices_IndexFunc_Lapi_Tuple_api_Tuple_limit_Limit_Tick_1_l0 k (fun (_ : Unit) =>
some ((-1))) (fun r28_4 =>
some (r28_4)) x0 x1c0 ((x0.length : Int)) 0
theorem slices_IndexFunc_Lapi_Tuple_api_Tuple_limit_Limit_Tick_1_l0_ok {h : H}  {kE0 : Unit→Option β} {kE1 : Int→Option β} (hE0 : ∀ (_u : Unit) (H21 : Go.Ev.H) (_ : Fm 19 h [] [] [] H21),Sim (kE0 ()) (K ((.exit 0),(envL []),H21)) Q) (hE1 : ∀ (q4 : Int) (H23 : Go.Ev.H) (_ : Fm 19 h [] [] [] H23),Sim (kE1 q4) (K (.ret,(envL [(4,(.p (.int .i64 q4)))]),H23)) Q) (k : Nat) : ∀ (x0 : (List TaiTuple)) (x1c0 : T_alarm_Due) (x7 : Int) (x8 : Int) (v3 : V) (h4 : SlH h dTaiTuple x0 v3) (lr5 : Loc) (or6 : Nat) (har7 : AtC h lr5 or6 (List.map C.v [(.p (.int .i64 x1c0.f_At)),(.p (.int .u64 x1c0.Key))])) (H1 : Go.Ev.H) (_ : Fm 19 h [] [] [] H1) {σ : Stamp},Sim (p_slices_IndexFunc_Lapi_Tuple_api_Tuple_limit_Limit_Tick_1_l0 k kE0 kE1 x0 x1c0 x7 x8) ((cvL G X0 slices_IndexFunc_Lapi_Tuple_api_Tuple_c0 slices_IndexFunc_Lapi_Tuple_api_Tuple_l0 σ (envL [(0,v3),(1,(.clo 80 [(.ref lr5 or6)])),(7,(.p (.int .i64 x7))),(8,(.p (.int .i64 x8)))]) H1).bind K) Q:=by
 induction k with
 | zero => intros; exact .no
 | succ k ih =>
  intro x0 x1c0 x7 x8 v3 h4 lr5 or6 har7 H1 S2 σ
  rw [p_slices_IndexFunc_Lapi_Tuple_api_Tuple_limit_Limit_Tick_1_l0]
  refine .round (Sim.ext (slices_IndexFunc_Lapi_Tuple_api_Tuple_r0 _ _ _ _ _ _ _ _) ?_)
  refine .cq ?_ ?_
  ·refine .bd fun a10 h11 => ?_
   refine .op ((S2.low h4).iS h11 rfl) ?_
   obtain ⟨w13,h14,hE12⟩:=(S2.low h4).el h11 rfl
   obtain rfl:=dTaiTuple.inv h14
   refine .op (hE12.all (by simp)) ?_
   refine .clo ?_
   refine .call (limit_Limit_Tick_1_ok a10 (show dTaiTuple.R a10 [.p (.int .u32 a10.Owner),.p (.int .u64 a10.Rate),.p (.int .i64 a10.Over)] from (dTaiTuple.mk)) x1c0 (S2.lowA har7)) fun r15 cs16 H17 h18 q19 => ?_
   cases q19
   refine .ab ?_
   refine .cq ?_ ?_
   ·exact hE1 x8 H1 (S2.wk2 aN aN)
   exact ih x0 x1c0 x7 (IntKind.wrap .i64 (x8 + 1)) v3 h4 lr5 or6 har7 H1 (S2.wk2 aN aN)
  exact hE0 () H1 (S2.wk2 aN aN)
theorem slices_IndexFunc_Lapi_Tuple_api_Tuple_limit_Limit_Tick_1_ok (k : Nat) {h : H} {σ : Stamp} (x0 : List TaiTuple) {u0 : V} (hu0 : SlH h dTaiTuple x0 u0) (x1c0 : T_alarm_Due)  {l1c0 : Loc} {o1c0 : Nat} (ha1c0 : AtC h l1c0 o1c0 (List.map C.v [(.p (.int .i64 x1c0.f_At)),(.p (.int .u64 x1c0.Key))])) : Sim (p_slices_IndexFunc_Lapi_Tuple_api_Tuple_limit_Limit_Tick_1 k x0 x1c0) (ev G X0 120 σ [u0,(.clo 80 [(.ref l1c0 o1c0)])] h) (fun r s => s = ([.v (.p (.int .i64 r))],h)):=by
 refine .ev rfl (Sim.ext (slices_IndexFunc_Lapi_Tuple_api_Tuple_entry _ _ _ _ _ _) ?_)
 rw [p_slices_IndexFunc_Lapi_Tuple_api_Tuple_limit_Limit_Tick_1]
 have S0 : Fm 19 h [] [] [] (List.replicate 19 []::h):=Fm.start0
 refine .op ((S0.low hu0).len) ?_
 refine .ci ?_
 refine .as (slices_IndexFunc_Lapi_Tuple_api_Tuple_limit_Limit_Tick_1_l0_ok ?_ ?_ k x0 x1c0 ((x0.length : Int)) 0 u0 hu0 l1c0 o1c0 ha1c0 (List.replicate 19 []::h) (S0.wk2 aN aN))
 ·intro _u H26 S27
  refine .ext (slices_IndexFunc_Lapi_Tuple_api_Tuple_a0_0 _ _ _ _) ?_
  exact .fin (S27.finN (lC (sI _ _).lv lN)) rfl
 ·intro r28_4 H29 S30
  refine .ext (slices_IndexFunc_Lapi_Tuple_api_Tuple_a0_ret _ _ _ _ _) ?_
  exact .fin (S30.finN (lC (sI _ _).lv lN)) rfl
def p_limit_Limit_Tick_l0 {β : Type} (k : Nat) (kE0 : (List T_alarm_Due)→T_limit_Limit→Option β) (x5 : (List T_alarm_Due)) (x14 : (List T_alarm_Due)) (x15 : Int) (x16 : Int) (zp0 : T_limit_Limit) : Option β:=match k with
| 0 => none
| k + 1 =>
bif decide (x16 < x15) then (
(ix x14 x16).bind fun a23 =>
(delC (p_slices_IndexFunc_Lapi_Tuple_api_Tuple_limit_Limit_Tick_1 k zp0.tuples a23) (fun a => p_limit_Limit_Tick_1 a a23) zp0.tuples).bind fun a35 =>
p_limit_Limit_Tick_l0 k kE0 x5 x14 x15 (IntKind.wrap .i64 (x16 + 1)) ((⟨zp0.cap,zp0.remb,zp0.told,a35,zp0.ends⟩ : T_limit_Limit)))
else (
kE0 x5 zp0)
def p_limit_Limit_Tick (k : Nat) (x0 : T_limit_Limit) (x1 : Int) : Option (Int × T_limit_Limit) :=
(p_alarm_Table_Due k x0.ends x1).bind fun r1 =>
p_limit_Limit_Tick_l0 k (fun r57_5 zp0 =>
some (((r57_5.length : Int)),zp0)) r1.1 r1.1 ((r1.1.length : Int)) 0 ((⟨x0.cap,x0.remb,x0.told,x0.tuples,r1.2⟩ : T_limit_Limit))
theorem limit_Limit_Tick_l0_ok {h : H} {l0 : Loc} {o0 : Nat} {kE0 : (List T_alarm_Due)→T_limit_Limit→Option β} (hE0 : ∀ (q5 : (List T_alarm_Due)) (zp0 : T_limit_Limit) (v51 : V) (h52 : SlF dT_alarm_Due q5 v51) (c53 : C) (h54 : SoC dTaiTuple zp0.tuples c53) (h55 : Nn c53 3) (s55 : Stamp) (c55_0 : C) (hc55_0 : SoC dT_alarm_Due zp0.ends.l c55_0) (hn55_0 : Nn c55_0 2) (H49 : Go.Ev.H) (_ : Fm 32 h [⟨l0,o0,[.v (.p (.int .i64 zp0.cap)),.v (.p (.int .u64 zp0.remb)),.v (.p (.bool zp0.told)),c53,.own s55 ([c55_0])]⟩] [] [] H49),Sim (kE0 q5 zp0) (K ((.exit 0),(envL [(5,v51)]),H49)) Q) (k : Nat) : ∀ (x5 : (List T_alarm_Due)) (x14 : (List T_alarm_Due)) (x15 : Int) (x16 : Int) (zp0 : T_limit_Limit) (v14 : V) (h15 : SlF dT_alarm_Due x5 v14) (v16 : V) (h17 : SlF dT_alarm_Due x14 v16) (c18 : C) (h19 : SoC dTaiTuple zp0.tuples c18) (h20 : Nn c18 3) (s20 : Stamp) (c20_0 : C) (hc20_0 : SoC dT_alarm_Due zp0.ends.l c20_0) (hn20_0 : Nn c20_0 2) (H12 : Go.Ev.H) (_ : Fm 32 h [⟨l0,o0,[.v (.p (.int .i64 zp0.cap)),.v (.p (.int .u64 zp0.remb)),.v (.p (.bool zp0.told)),c18,.own s20 ([c20_0])]⟩] [] [] H12) {σ : Stamp},Sim (p_limit_Limit_Tick_l0 k kE0 x5 x14 x15 x16 zp0) ((cvL G X0 limit_Limit_Tick_c0 limit_Limit_Tick_l0 σ (envL [(0,(.ref l0 o0)),(5,v14),(14,v16),(15,(.p (.int .i64 x15))),(16,(.p (.int .i64 x16)))]) H12).bind K) Q:=by
 induction k with
 | zero => intros; exact .no
 | succ k ih =>
  intro x5 x14 x15 x16 zp0 v14 h15 v16 h17 c18 h19 h20 s20 c20_0 hc20_0 hn20_0 H12 S13 σ
  rw [p_limit_Limit_Tick_l0]
  refine .round (Sim.ext (limit_Limit_Tick_r0 _ _ _ _ _ _ _ _ _) ?_)
  refine .cq ?_ ?_
  ·refine .bd fun a23 h24 => ?_
   refine .op ((h17.h H12).iS h24 rfl) ?_
   obtain ⟨w26,h27,hE25⟩:=(h17.h H12).el h24 rfl
   obtain rfl:=dT_alarm_Due.inv h27
   refine .op (hE25.all (by simp)) ?_
   obtain ⟨H28,e29,S30⟩:=S13.al (d:=7) (s:=(2::0::0::1::1::0::σ)) (z:=[(.p (.int .i64 0)),(.p (.int .u64 0))]) (by decide) rfl
   refine .op (congrArg some e29) ?_
   obtain ⟨H32,e33,S34⟩:=S30.stGv (i:=0) (j:=0) (own:=false) (σ:=(3::0::0::1::1::0::σ)) (xs:=[.p (.int .i64 a23.f_At),.p (.int .u64 a23.Key)]) rfl rfl (sC (sI _ _) (sC (sI _ _) sN)) rfl rfl
   refine .op (sM e33) ?_
   refine .nc ?_
   refine .fa ?_
   refine .op (h19.ld (S34.atB (i:=0) rfl) (j:=3) rfl) ?_
   refine .bd fun a35 h36 => ?_
   obtain ⟨v37,c38,H39,e40,S41,h42⟩:=S34.dfB (G:=G) (X:=X0) (F:=79) (IF:=120) (ii:=0) (jj:=3) (d:=26) (te:=57) (z:=[.p (.int .u32 0),.p (.int .u64 0),.p (.int .i64 0)]) (pI:=(p_slices_IndexFunc_Lapi_Tuple_api_Tuple_limit_Limit_Tick_1 k zp0.tuples a23)) (p:=(fun a => p_limit_Limit_Tick_1 a a23)) (f:=80) (caps:=[(.ref ⟨h.length,7,0,(2::0::0::1::1::0::σ),[]⟩ 0)]) (kf:=slices_DeleteFunc_Lapi_Tuple_api_Tuple_k0 (ev G X0) (cvL G X0) ((6::1::0::1::1::0::σ))) (c:=slices_DeleteFunc_Lapi_Tuple_api_Tuple_c0) (lv:=slices_DeleteFunc_Lapi_Tuple_api_Tuple_l0) (fun x0 x1 h => slices_DeleteFunc_Lapi_Tuple_api_Tuple_entry _ _ _ x0 x1 h) (fun _ => rfl) (fun σ x0 x1 x5 x6 h => slices_DeleteFunc_Lapi_Tuple_api_Tuple_r0 _ _ σ x0 x1 x5 x6 h) (fun x0 x5 h => slices_DeleteFunc_Lapi_Tuple_api_Tuple_a0_0 _ _ _ x0 x5 h) rfl rfl h19 h20 rfl (by decide) rfl (by decide) (by kernel_rfl) (by kernel_rfl) (by kernel_rfl) (sC (sI _ _) (sC (sI _ _) (sC (sI _ _) sN))) (fun l' L w a xv τ hk hR => limit_Limit_Tick_1_ok a hR a23 (AtC.by_ (S34.atG (i:=0) rfl) L (S34.keyB (i:=0) rfl hk))) (fun τ => slices_IndexFunc_Lapi_Tuple_api_Tuple_limit_Limit_Tick_1_ok k zp0.tuples (SlH.up1 (h19.sl (S34.atB (i:=0) rfl) (j:=3) rfl)) a23 (AtC.up (S34.atG (i:=0) rfl) _)) h36
   refine .op (e40) ?_
   refine .nc ?_
   refine .fa ?_
   obtain ⟨c46,H43,e44,h47,h48,S45⟩:=h42 true (9::1::0::1::1::0::σ)
   refine .op (sM e44) ?_
   exact ih x5 x14 x15 (IntKind.wrap .i64 (x16 + 1)) ((⟨zp0.cap,zp0.remb,zp0.told,a35,zp0.ends⟩ : T_limit_Limit)) v14 h15 v16 h17 c46 h47 h48 s20 c20_0 hc20_0 hn20_0 H43 (S45.wk2 aN aN)
  exact hE0 x5 zp0 v14 h15 c18 h19 h20 s20 c20_0 hc20_0 hn20_0 H12 (S13.wk2 aN aN)
theorem limit_Limit_Tick_ok (k : Nat) {h : H} {σ : Stamp} (x0 : T_limit_Limit) {c0_3 : C} (hc0_3 : SoC dTaiTuple x0.tuples c0_3) (hn0_3 : Nn c0_3 3) {s0_4 : Stamp} {c0_4_0 : C} (hc0_4_0 : SoC dT_alarm_Due x0.ends.l c0_4_0) (hn0_4_0 : Nn c0_4_0 2) {l0 : Loc} {o0 : Nat} (ha0 : AtC h l0 o0 ([.v (.p (.int .i64 x0.cap)),.v (.p (.int .u64 x0.remb)),.v (.p (.bool x0.told)),c0_3,.own s0_4 ([c0_4_0])])) (x1 : Int) : Sim (p_limit_Limit_Tick k x0 x1) (ev G X0 39 σ [(.ref l0 o0),(.p (.int .i64 x1))] h) (fun r s => ∃ (cb0_3 : C),∃ (sb0_4 : Stamp),∃ (cb0_4_0 : C),SoC dTaiTuple r.2.tuples cb0_3∧Nn cb0_3 3∧SoC dT_alarm_Due r.2.ends.l cb0_4_0∧Nn cb0_4_0 2∧s = ([.v (.p (.int .i64 r.1))],pts h [⟨l0,o0,[.v (.p (.int .i64 r.2.cap)),.v (.p (.int .u64 r.2.remb)),.v (.p (.bool r.2.told)),cb0_3,.own sb0_4 ([cb0_4_0])]⟩])):=by
 refine .ev rfl (Sim.ext (limit_Limit_Tick_entry _ _ _ _ _ _) ?_)
 rw [p_limit_Limit_Tick]
 have S0 : Fm 32 h [⟨l0,o0,[.v (.p (.int .i64 x0.cap)),.v (.p (.int .u64 x0.remb)),.v (.p (.bool x0.told)),c0_3,.own s0_4 ([c0_4_0])]⟩] [] [] (List.replicate 32 []::h):=Fm.start1 ha0
 refine .nc ?_
 refine .fa ?_
 refine .op ((S0.atB (i:=0) rfl).ldOwn (j:=4) rfl) ?_
 refine .call (alarm_Table_Due_ok k x0.ends hc0_4_0 hn0_4_0 (S0.subB (i:=0) (j:=4) rfl rfl).1 x1) fun r1 cs2 H3 h4 q5 => ?_
 obtain ⟨v6,c8,h7,h9,h10,q5⟩:=q5
 cases q5
 have S11:=(S0.subB (i:=0) (j:=4) rfl rfl).2 ([c8]) rfl
 refine .op ((h7.h (pts (List.replicate 32 []::h) [⟨(l0.hop (o0 + 4) s0_4),0,[c8]⟩])).len) ?_
 refine .ci ?_
 refine .as (limit_Limit_Tick_l0_ok ?_ k r1.1 r1.1 ((r1.1.length : Int)) 0 ((⟨x0.cap,x0.remb,x0.told,x0.tuples,r1.2⟩ : T_limit_Limit)) v6 h7 v6 h7 c0_3 hc0_3 hn0_3 s0_4 c8 h9 h10 (pts (List.replicate 32 []::h) [⟨(l0.hop (o0 + 4) s0_4),0,[c8]⟩]) (S11.wk2 aN aN))
 ·intro r57_5 zp0 v60 h61 c62 h63 h64 s64 c64_0 hc64_0 hn64_0 H58 S59
  refine .ext (limit_Limit_Tick_a0_0 _ _ _ _ _) ?_
  refine .op ((h61.h H58).len) ?_
  refine .ci ?_
  exact .fin (S59.finN (lC (sI _ _).lv lN)) ⟨c62,s64,c64_0,h63,h64,hc64_0,hn64_0,rfl⟩
end
end Go.Ev
namespace Go.Ev
open Go.Proofs
set_option linter.unusedVariables false
set_option linter.unusedSimpArgs false
set_option maxRecDepth 100000
noncomputable section
abbrev KT20:=Exit→Env→H→Option (List C × H)
variable (rec : CallF) (loop : LoopV) (σ : Stamp)
theorem limit_Limit_Rate_entry (x0 : V) (h : H) : cvBody G rec loop 37 σ [x0] h =
(nilChk x0).bind fun t1 =>
(fA t1 0).bind fun t2 =>
(ldO false 1 (List.replicate 35 []::h) t2).bind fun t3 =>
(castI .i64 t3).bind fun n4 =>
(nilChk x0).bind fun t5 =>
(fA t5 2).bind fun t6 =>
(ldO false 1 (List.replicate 35 []::h) t6).bind fun t7 =>
(asB t7).bind fun b8 =>
bif b8 then (
(nilChk x0).bind fun t9 =>
(fA t9 1).bind fun t10 =>
(ldO false 1 (List.replicate 35 []::h) t10).bind fun t11 =>
(castI .u64 t11).bind fun n12 =>
(callO rec 76 (5::1::0::1::1::0::σ) [(.p (.int .u64 n12))] (List.replicate 35 []::h) (some 19)).bind fun q13 =>
(castI .i64 q13.1).bind fun n14 =>
(nilChk x0).bind fun t15 =>
(fA t15 3).bind fun t16 =>
(ldO false 1 q13.2 t16).bind fun t17 =>
(callO rec 77 (4::0::0::1::1::1::0::σ) [t17] q13.2 (some 26)).bind fun q18 =>
(extV q18.1 0).bind fun t19 =>
(castI .u64 t19).bind fun n20 =>
(extV q18.1 1).bind fun t21 =>
(asB t21).bind fun b22 =>
bif b22 then (
(callO rec 76 (2::1::1::0::1::1::1::0::σ) [(.p (.int .u64 n20))] q18.2 (some 32)).bind fun q23 =>
(castI .i64 q23.1).bind fun n24 =>
fin false σ q23.2 [(.p (.int .i64 ((if n24 < ((if n14 < n4 then n14 else n4)) then n24 else ((if n14 < n4 then n14 else n4))))))])
else (
fin false σ q18.2 [(.p (.int .i64 ((if n14 < n4 then n14 else n4))))]))
else (
(nilChk x0).bind fun t25 =>
(fA t25 3).bind fun t26 =>
(ldO false 1 (List.replicate 35 []::h) t26).bind fun t27 =>
(callO rec 77 (4::0::0::1::1::1::0::σ) [t27] (List.replicate 35 []::h) (some 26)).bind fun q28 =>
(extV q28.1 0).bind fun t29 =>
(castI .u64 t29).bind fun n30 =>
(extV q28.1 1).bind fun t31 =>
(asB t31).bind fun b32 =>
bif b32 then (
(callO rec 76 (2::1::1::0::1::1::1::0::σ) [(.p (.int .u64 n30))] q28.2 (some 32)).bind fun q33 =>
(castI .i64 q33.1).bind fun n34 =>
fin false σ q33.2 [(.p (.int .i64 ((if n34 < n4 then n34 else n4))))])
else (
fin false σ q28.2 [(.p (.int .i64 n4))])):=by kernel_rfl
def bound_Rate_c0 : Code:=(codeAt (bodyOf Try.f77) [1,1,0,1,0,0])
def bound_Rate_l0 : Lv:=⟨17,12,[(0,17)]⟩
def bound_Rate_k0 : KT20:=(kBlock 0 (kSeq G rec loop (codeAt (bodyOf Try.f77) [1,1,1]) ⟨12,12,[]⟩ (1::1::0::σ) (finC G false Try.f77 (1::σ))))
theorem bound_Rate_entry (x0 : V) (h : H) : cvBody G rec loop 77 σ [x0] h =
(lenO x0).bind fun t1 =>
(castI .i64 t1).bind fun n2 =>
(loop bound_Rate_c0 bound_Rate_l0 (1::0::1::1::0::σ) (envL [(0,x0),(4,(.p (.int .u64 1099511627776))),(7,x0),(8,(.p (.int .i64 n2))),(9,(.p (.int .i64 0)))]) (List.replicate 22 []::h)).bind fun r3 => bound_Rate_k0 rec loop σ r3.1 r3.2.1 r3.2.2:=by kernel_rfl
theorem bound_Rate_r0 (x0 : V) (x4 : Int) (x7 : V) (x8 : Int) (x9 : Int) (h : H) : cvRound G rec loop bound_Rate_c0 bound_Rate_l0 σ (envL [(0,x0),(4,(.p (.int .u64 x4))),(7,x7),(8,(.p (.int .i64 x8))),(9,(.p (.int .i64 x9)))]) h =
bif decide (x9 < x8) then (
(iS 3 x7 x9).bind fun t4 =>
(ldO true 3 h t4).bind fun t5 =>
(some (alO [.p (.int .u32 0),.p (.int .u64 0),.p (.int .i64 0)] (2::0::0::1::1::0::σ) 6 h)).bind fun q6 =>
((stO false 3 (3::0::0::1::1::0::σ) q6.2 q6.1 t5).map fun h => (udf,h)).bind fun q7 =>
(fA q6.1 1).bind fun t8 =>
(ldO false 1 q7.2 t8).bind fun t9 =>
(castI .u64 t9).bind fun n10 =>
loop bound_Rate_c0 bound_Rate_l0 (1::σ) (envL [(0,x0),(4,(.p (.int .u64 ((if n10 < x4 then n10 else x4))))),(7,x7),(8,(.p (.int .i64 x8))),(9,(.p (.int .i64 (IntKind.wrap .i64 (x9 + 1)))))]) q7.2)
else (
some ((.exit 0),(envL [(0,x0),(4,(.p (.int .u64 x4)))]),h)):=by kernel_rfl
theorem bound_Rate_a0_0 (x0 : V) (x4 : Int) (h : H) : bound_Rate_k0 rec loop σ (.exit 0) (envL [(0,x0),(4,(.p (.int .u64 x4)))]) h =
(lenO x0).bind fun t11 =>
(castI .i64 t11).bind fun n12 =>
bif n12 == 0 then (
fin false σ h [(.p (.int .u64 0)),(.p (.bool false))])
else (
fin false σ h [(.p (.int .u64 x4)),(.p (.bool true))]):=by kernel_rfl
end
end Go.Ev
namespace Go.Ev
open Go.Proofs
set_option linter.unusedVariables false
set_option linter.unusedSimpArgs false
set_option maxRecDepth 100000
section
variable {β α : Type} {Q : β→α→Prop} {K : Exit × Env × H→Option α}
def p_bound_Rate_l0 {β : Type} (k : Nat) (kE0 : (List TaiTuple)→Int→Option β) (x0 : (List TaiTuple)) (x4 : Int) (x7 : (List TaiTuple)) (x8 : Int) (x9 : Int) : Option β:=match k with
| 0 => none
| k + 1 =>
bif decide (x9 < x8) then (
(ix x7 x9).bind fun a8 =>
p_bound_Rate_l0 k kE0 x0 ((if a8.Rate < x4 then a8.Rate else x4)) x7 x8 (IntKind.wrap .i64 (x9 + 1)))
else (
kE0 x0 x4)
def p_bound_Rate (k : Nat) (x0 : (List TaiTuple)) : Option (Int × Bool) :=
p_bound_Rate_l0 k (fun r24_0 r24_4 =>
bif ((r24_0.length : Int)) == 0 then (
some (0,false))
else (
some (r24_4,true))) x0 1099511627776 x0 ((x0.length : Int)) 0
theorem bound_Rate_l0_ok {h : H}  {kE0 : (List TaiTuple)→Int→Option β} (hE0 : ∀ (q0 : (List TaiTuple)) (q4 : Int) (v22 : V) (h23 : SlH h dTaiTuple q0 v22) (H20 : Go.Ev.H) (_ : Fm 22 h [] [] [] H20),Sim (kE0 q0 q4) (K ((.exit 0),(envL [(0,v22),(4,(.p (.int .u64 q4)))]),H20)) Q) (k : Nat) : ∀ (x0 : (List TaiTuple)) (x4 : Int) (x7 : (List TaiTuple)) (x8 : Int) (x9 : Int) (v3 : V) (h4 : SlH h dTaiTuple x0 v3) (v5 : V) (h6 : SlH h dTaiTuple x7 v5) (H1 : Go.Ev.H) (_ : Fm 22 h [] [] [] H1) {σ : Stamp},Sim (p_bound_Rate_l0 k kE0 x0 x4 x7 x8 x9) ((cvL G X0 bound_Rate_c0 bound_Rate_l0 σ (envL [(0,v3),(4,(.p (.int .u64 x4))),(7,v5),(8,(.p (.int .i64 x8))),(9,(.p (.int .i64 x9)))]) H1).bind K) Q:=by
 induction k with
 | zero => intros; exact .no
 | succ k ih =>
  intro x0 x4 x7 x8 x9 v3 h4 v5 h6 H1 S2 σ
  rw [p_bound_Rate_l0]
  refine .round (Sim.ext (bound_Rate_r0 _ _ _ _ _ _ _ _ _) ?_)
  refine .cq ?_ ?_
  ·refine .bd fun a8 h9 => ?_
   refine .op ((S2.low h6).iS h9 rfl) ?_
   obtain ⟨w11,h12,hE10⟩:=(S2.low h6).el h9 rfl
   obtain rfl:=dTaiTuple.inv h12
   refine .op (hE10.all (by simp)) ?_
   obtain ⟨H13,e14,S15⟩:=S2.al (d:=6) (s:=(2::0::0::1::1::0::σ)) (z:=[(.p (.int .u32 0)),(.p (.int .u64 0)),(.p (.int .i64 0))]) (by decide) rfl
   refine .op (congrArg some e14) ?_
   obtain ⟨H17,e18,S19⟩:=S15.stGv (i:=0) (j:=0) (own:=false) (σ:=(3::0::0::1::1::0::σ)) (xs:=[.p (.int .u32 a8.Owner),.p (.int .u64 a8.Rate),.p (.int .i64 a8.Over)]) rfl rfl (sC (sI _ _) (sC (sI _ _) (sC (sI _ _) sN))) rfl rfl
   refine .op (sM e18) ?_
   refine .fa ?_
   refine .op ((S19.atG (i:=0) rfl).ld (j:=1) rfl) ?_
   refine .ci ?_
   exact ih x0 ((if a8.Rate < x4 then a8.Rate else x4)) x7 x8 (IntKind.wrap .i64 (x9 + 1)) v3 h4 v5 h6 H17 (S19.wk2 aN aN)
  exact hE0 x0 x4 v3 h4 H1 (S2.wk2 aN aN)
theorem bound_Rate_ok (k : Nat) {h : H} {σ : Stamp} (x0 : List TaiTuple) {u0 : V} (hu0 : SlH h dTaiTuple x0 u0) : Sim (p_bound_Rate k x0) (ev G X0 77 σ [u0] h) (fun r s => s = ([.v (.p (.int .u64 r.1)),.v (.p (.bool r.2))],h)):=by
 refine .ev rfl (Sim.ext (bound_Rate_entry _ _ _ _ _) ?_)
 rw [p_bound_Rate]
 have S0 : Fm 22 h [] [] [] (List.replicate 22 []::h):=Fm.start0
 refine .op ((S0.low hu0).len) ?_
 refine .ci ?_
 refine .as (bound_Rate_l0_ok ?_ k x0 1099511627776 x0 ((x0.length : Int)) 0 u0 hu0 u0 hu0 (List.replicate 22 []::h) (S0.wk2 aN aN))
 ·intro r24_0 r24_4 v27 h28 H25 S26
  refine .ext (bound_Rate_a0_0 _ _ _ _ _ _) ?_
  refine .op ((S26.low h28).len) ?_
  refine .ci ?_
  refine .cq ?_ ?_
  ·exact .fin (S26.finN (lC (sI _ _).lv (lC (sB _).lv lN))) rfl
  exact .fin (S26.finN (lC (sI _ _).lv (lC (sB _).lv lN))) rfl
end
end Go.Ev
namespace Go.Ev
open Go.Proofs
set_option linter.unusedVariables false
set_option linter.unusedSimpArgs false
set_option maxRecDepth 100000
noncomputable section
abbrev KT21:=Exit→Env→H→Option (List C × H)
variable (rec : CallF) (loop : LoopV) (σ : Stamp)
theorem rate_Bytes_entry (x0 : Int) (h : H) : cvBody G rec loop 76 σ [(.p (.int .u64 x0))] h =
fin false σ (List.replicate 7 []::h) [(.p (.int .i64 (IntKind.wrap .i64 ((if 1099511627776 < (IntKind.wrap .u64 (Int.tdiv x0 8)) then 1099511627776 else (IntKind.wrap .u64 (Int.tdiv x0 8)))))))]:=by kernel_rfl
end
end Go.Ev
namespace Go.Ev
open Go.Proofs
set_option linter.unusedVariables false
set_option linter.unusedSimpArgs false
set_option maxRecDepth 100000
section
variable {β α : Type} {Q : β→α→Prop} {K : Exit × Env × H→Option α}
def p_rate_Bytes (x0 : Int) : Option (Int) :=
some ((IntKind.wrap .i64 ((if 1099511627776 < (IntKind.wrap .u64 (Int.tdiv x0 8)) then 1099511627776 else (IntKind.wrap .u64 (Int.tdiv x0 8))))))
theorem rate_Bytes_ok {h : H} {σ : Stamp} (x0 : Int) : Sim (p_rate_Bytes x0) (ev G X0 76 σ [(.p (.int .u64 x0))] h) (fun r s => s = ([.v (.p (.int .i64 r))],h)):=by
 refine .ev rfl (Sim.ext (rate_Bytes_entry _ _ _ _ _) ?_)
 rw [p_rate_Bytes]
 have S0 : Fm 7 h [] [] [] (List.replicate 7 []::h):=Fm.start0
 exact .fin (S0.finN (lC (sI _ _).lv lN)) rfl
def p_limit_Limit_Rate_o (k : Nat) (x0 : T_limit_Limit) : Option (Int) :=
bif x0.told then (
(p_rate_Bytes x0.remb).bind fun r2 =>
(p_bound_Rate k x0.tuples).bind fun r7 =>
bif r7.2 then (
(p_rate_Bytes r7.1).bind fun r13 =>
some (((if r13 < ((if r2 < x0.cap then r2 else x0.cap)) then r13 else ((if r2 < x0.cap then r2 else x0.cap))))))
else (
some (((if r2 < x0.cap then r2 else x0.cap)))))
else (
(p_bound_Rate k x0.tuples).bind fun r18 =>
bif r18.2 then (
(p_rate_Bytes r18.1).bind fun r24 =>
some (((if r24 < x0.cap then r24 else x0.cap))))
else (
some (x0.cap)))
theorem limit_Limit_Rate_o_ok (k : Nat) {h : H} {σ : Stamp} (x0 : T_limit_Limit) {c0_3 : C} (hc0_3 : SoC dTaiTuple x0.tuples c0_3) (hn0_3 : Nn c0_3 3) {s0_4 : Stamp} {c0_4_0 : C} (hc0_4_0 : SoC dT_alarm_Due x0.ends.l c0_4_0) (hn0_4_0 : Nn c0_4_0 2) {l0 : Loc} {o0 : Nat} (ha0 : AtC h l0 o0 ([.v (.p (.int .i64 x0.cap)),.v (.p (.int .u64 x0.remb)),.v (.p (.bool x0.told)),c0_3,.own s0_4 ([c0_4_0])])) : Sim (p_limit_Limit_Rate_o k x0) (ev G X0 37 σ [(.ref l0 o0)] h) (fun r s => s = ([.v (.p (.int .i64 r))],h)):=by
 refine .ev rfl (Sim.ext (limit_Limit_Rate_entry _ _ _ _ _) ?_)
 rw [p_limit_Limit_Rate_o]
 have S0 : Fm 35 h [] [] [] (List.replicate 35 []::h):=Fm.start0
 refine .nc ?_
 refine .fa ?_
 refine .op ((S0.lowA ha0).ld (j:=0) rfl) ?_
 refine .ci ?_
 refine .nc ?_
 refine .fa ?_
 refine .op ((S0.lowA ha0).ld (j:=2) rfl) ?_
 refine .ab ?_
 refine .cq ?_ ?_
 ·refine .nc ?_
  refine .fa ?_
  refine .op ((S0.lowA ha0).ld (j:=1) rfl) ?_
  refine .ci ?_
  refine .call (rate_Bytes_ok x0.remb) fun r2 cs3 H4 h5 q6 => ?_
  cases q6
  refine .ci ?_
  refine .nc ?_
  refine .fa ?_
  refine .op (hc0_3.ld (S0.lowA ha0) (j:=3) rfl) ?_
  refine .call (bound_Rate_ok k x0.tuples (hc0_3.sl (S0.lowA ha0) (j:=3) rfl)) fun r7 cs8 H9 h10 q11 => ?_
  cases q11
  refine .or ?_
  refine .ci ?_
  refine .or ?_
  refine .ab ?_
  refine .cq ?_ ?_
  ·refine .call (rate_Bytes_ok r7.1) fun r13 cs14 H15 h16 q17 => ?_
   cases q17
   refine .ci ?_
   exact .fin (S0.finN (lC (sI _ _).lv lN)) rfl
  exact .fin (S0.finN (lC (sI _ _).lv lN)) rfl
 refine .nc ?_
 refine .fa ?_
 refine .op (hc0_3.ld (S0.lowA ha0) (j:=3) rfl) ?_
 refine .call (bound_Rate_ok k x0.tuples (hc0_3.sl (S0.lowA ha0) (j:=3) rfl)) fun r18 cs19 H20 h21 q22 => ?_
 cases q22
 refine .or ?_
 refine .ci ?_
 refine .or ?_
 refine .ab ?_
 refine .cq ?_ ?_
 ·refine .call (rate_Bytes_ok r18.1) fun r24 cs25 H26 h27 q28 => ?_
  cases q28
  refine .ci ?_
  exact .fin (S0.finN (lC (sI _ _).lv lN)) rfl
 exact .fin (S0.finN (lC (sI _ _).lv lN)) rfl
end
end Go.Ev
namespace Go.Ev
open Go.Proofs
set_option linter.unusedVariables false
set_option linter.unusedSimpArgs false
set_option maxRecDepth 100000
noncomputable section
abbrev KT22:=Exit→Env→H→Option (List C × H)
variable (rec : CallF) (loop : LoopV) (σ : Stamp)
theorem limit_Limit_Tuples_entry (x0 : V) (h : H) : cvBody G rec loop 40 σ [x0] h =
(nilChk x0).bind fun t1 =>
(fA t1 3).bind fun t2 =>
(ldO false 1 (List.replicate 9 []::h) t2).bind fun t3 =>
(callO rec 82 (4::0::1::0::σ) [t3] (List.replicate 9 []::h) (some 7)).bind fun q4 =>
(callO rec 81 (5::0::1::0::σ) [q4.1] q4.2 (some 8)).bind fun q5 =>
fin true σ q5.2 [q5.1]:=by kernel_rfl
theorem slices_Clip_Lapi_Tuple_api_Tuple_entry (x0 : V) (h : H) : cvBody G rec loop 81 σ [x0] h =
(lenO x0).bind fun t1 =>
(castI .i64 t1).bind fun n2 =>
(lenO x0).bind fun t3 =>
(castI .i64 t3).bind fun n4 =>
(slS 3 x0 none (some n2) (some n4)).bind fun t5 =>
fin false σ (List.replicate 9 []::h) [t5]:=by kernel_rfl
theorem slices_Clone_Lapi_Tuple_api_Tuple_entry (x0 : V) (h : H) : cvBody G rec loop 82 σ [x0] h =
(binV Try.prog (List.replicate 8 []::h) .eql 28 x0 (.p (.slice .none 0 0))).bind fun t1 =>
(asB t1).bind fun b2 =>
bif b2 then (
fin false σ (List.replicate 8 []::h) [(.p (.slice .none 0 0))])
else (
(bSV Try.prog 28 0 []).bind fun t3 =>
(apO false 3 24 (2::0::1::1::0::σ) 7 (List.replicate 8 []::h) t3 x0).bind fun q4 =>
fin false σ q4.2 [q4.1]):=by kernel_rfl
end
end Go.Ev
namespace Go.Ev
open Go.Proofs
set_option linter.unusedVariables false
set_option linter.unusedSimpArgs false
set_option maxRecDepth 100000
section
variable {β α : Type} {Q : β→α→Prop} {K : Exit × Env × H→Option α}
def p_limit_Limit_Tuples_o (x0 : T_limit_Limit) : Option ((List TaiTuple)) :=
(p_clone 24 x0.tuples).bind fun r1 =>
some (r1)
theorem limit_Limit_Tuples_o_ok {h : H} {σ : Stamp} (x0 : T_limit_Limit) {c0_3 : C} (hc0_3 : SoC dTaiTuple x0.tuples c0_3) (hn0_3 : Nn c0_3 3) {s0_4 : Stamp} {c0_4_0 : C} (hc0_4_0 : SoC dT_alarm_Due x0.ends.l c0_4_0) (hn0_4_0 : Nn c0_4_0 2) {l0 : Loc} {o0 : Nat} (ha0 : AtC h l0 o0 ([.v (.p (.int .i64 x0.cap)),.v (.p (.int .u64 x0.remb)),.v (.p (.bool x0.told)),c0_3,.own s0_4 ([c0_4_0])])) : Sim (p_limit_Limit_Tuples_o x0) (ev G X0 40 σ [(.ref l0 o0)] h) (fun r s => ∃ (v0 : V),SlF dTaiTuple r v0∧s = ([.v v0],h)):=by
 refine .ev rfl (Sim.ext (limit_Limit_Tuples_entry _ _ _ _ _) ?_)
 rw [p_limit_Limit_Tuples_o]
 have S0 : Fm 9 h [] [] [] (List.replicate 9 []::h):=Fm.start0
 refine .nc ?_
 refine .fa ?_
 refine .op (hc0_3.ld (S0.lowA ha0) (j:=3) rfl) ?_
 refine .call (clone_ok (b:=24) (f:=82) (tt:=57) (e:=3) (τ:=fun σ => _::_::_::_::_::σ) (fun x h => slices_Clone_Lapi_Tuple_api_Tuple_entry _ _ _ x h) (hc0_3.sl (S0.lowA ha0) (j:=3) rfl) rfl (by decide) (by decide) (by decide) (by kernel_rfl) (by kernel_rfl) rfl) fun r1 cs2 H3 h4 q5 => ?_
 obtain ⟨c6,cs7,h8,h9,q5⟩:=q5
 cases q5
 obtain ⟨v10,H11,e12,S13⟩:=S0.land (dt:=dTaiTuple) (d:=7) (e:=0) (n:=0) h8 h9 (by decide) rfl
 erw [e12]
 obtain ⟨v15,e16,S17⟩:=clip_D (G:=G) (X:=X0) (i:=0) (f:=81) (fun x h => slices_Clip_Lapi_Tuple_api_Tuple_entry _ _ _ x h) S13 rfl rfl rfl
 refine .op (e16) ?_
 obtain ⟨v23,H18,e19,h21,S20⟩:=S17.expFrz (i:=0) (τ:=0::1::σ) rfl rfl
 exact .fin (S20.finE (Ex.st e19 Ex.nil)) ⟨v23,h21,rfl⟩
end
end Go.Ev
namespace Go.Ev
open Go.Proofs
set_option linter.unusedVariables false
set_option linter.unusedSimpArgs false
set_option maxRecDepth 100000
noncomputable section
abbrev KT23:=Exit→Env→H→Option (List C × H)
variable (rec : CallF) (loop : LoopV) (σ : Stamp)
theorem limit_Limit_Remb_entry (x0 : V) (x1 : Int) (h : H) : cvBody G rec loop 38 σ [x0,(.p (.int .u64 x1))] h =
(nilChk x0).bind fun t1 =>
(fA t1 1).bind fun t2 =>
((stO true 1 (5::0::σ) (List.replicate 11 []::h) t2 (.p (.int .u64 x1))).map fun h => (udf,h)).bind fun q3 =>
(nilChk x0).bind fun t4 =>
(fA t4 2).bind fun t5 =>
((stO true 1 (8::0::σ) q3.2 t5 (.p (.bool true))).map fun h => (udf,h)).bind fun q6 =>
fin false σ q6.2 []:=by kernel_rfl
end
end Go.Ev
namespace Go.Ev
open Go.Proofs
set_option linter.unusedVariables false
set_option linter.unusedSimpArgs false
set_option maxRecDepth 100000
section
variable {β α : Type} {Q : β→α→Prop} {K : Exit × Env × H→Option α}
def p_limit_Limit_Remb_o (x0 : T_limit_Limit) (x1 : Int) : Option (T_limit_Limit) :=
some ((⟨x0.cap,x1,true,x0.tuples,x0.ends⟩ : T_limit_Limit))
theorem limit_Limit_Remb_o_ok {h : H} {σ : Stamp} (x0 : T_limit_Limit) {c0_3 : C} (hc0_3 : SoC dTaiTuple x0.tuples c0_3) (hn0_3 : Nn c0_3 3) {s0_4 : Stamp} {c0_4_0 : C} (hc0_4_0 : SoC dT_alarm_Due x0.ends.l c0_4_0) (hn0_4_0 : Nn c0_4_0 2) {l0 : Loc} {o0 : Nat} (ha0 : AtC h l0 o0 ([.v (.p (.int .i64 x0.cap)),.v (.p (.int .u64 x0.remb)),.v (.p (.bool x0.told)),c0_3,.own s0_4 ([c0_4_0])])) (x1 : Int) : Sim (p_limit_Limit_Remb_o x0 x1) (ev G X0 38 σ [(.ref l0 o0),(.p (.int .u64 x1))] h) (fun r s => ∃ (cb0_3 : C),∃ (sb0_4 : Stamp),∃ (cb0_4_0 : C),SoC dTaiTuple r.tuples cb0_3∧Nn cb0_3 3∧SoC dT_alarm_Due r.ends.l cb0_4_0∧Nn cb0_4_0 2∧s = ([],pts h [⟨l0,o0,[.v (.p (.int .i64 r.cap)),.v (.p (.int .u64 r.remb)),.v (.p (.bool r.told)),cb0_3,.own sb0_4 ([cb0_4_0])]⟩])):=by
 refine .ev rfl (Sim.ext (limit_Limit_Remb_entry _ _ _ _ _ _) ?_)
 rw [p_limit_Limit_Remb_o]
 have S0 : Fm 11 h [⟨l0,o0,[.v (.p (.int .i64 x0.cap)),.v (.p (.int .u64 x0.remb)),.v (.p (.bool x0.told)),c0_3,.own s0_4 ([c0_4_0])]⟩] [] [] (List.replicate 11 []::h):=Fm.start1 ha0
 refine .nc ?_
 refine .fa ?_
 obtain ⟨H1,e2,S3⟩:=S0.stB (i:=0) (j:=1) (own:=true) (σ:=(5::0::σ)) (x:=(.p (.int .u64 x1))) rfl (sI _ _) rfl
 refine .op (sM e2) ?_
 refine .nc ?_
 refine .fa ?_
 obtain ⟨H4,e5,S6⟩:=S3.stB (i:=0) (j:=2) (own:=true) (σ:=(8::0::σ)) (x:=(.p (.bool true))) rfl (sB _) rfl
 refine .op (sM e5) ?_
 exact .fin (S6.finN lN) ⟨c0_3,s0_4,c0_4_0,hc0_3,hn0_3,hc0_4_0,hn0_4_0,rfl⟩
end
end Go.Ev
namespace Go.Ev
open Go.Proofs
set_option linter.unusedVariables false
set_option linter.unusedSimpArgs false
set_option maxRecDepth 100000
noncomputable section
abbrev KT24:=Exit→Env→H→Option (List C × H)
variable (rec : CallF) (loop : LoopV) (σ : Stamp)
theorem limit_New_entry (x0 : Int) (h : H) : cvBody G rec loop 35 σ [(.p (.int .i64 x0))] h =
(callO rec 69 (3::0::1::0::σ) [] (List.replicate 9 []::h) (some 6)).bind fun q1 =>
(buildV Try.prog 100 [(0,(.p (.int .i64 ((if ((if 1099511627776 < x0 then 1099511627776 else x0)) > 1 then ((if 1099511627776 < x0 then 1099511627776 else x0)) else 1))))),(4,q1.1)]).bind fun t2 =>
(boxO true (5::0::1::0::σ) 8 q1.2 t2).bind fun q3 =>
fin false σ q3.2 [q3.1]:=by kernel_rfl
theorem alarm_New_entry  (h : H) : cvBody G rec loop 69 σ [] h =
(buildV Try.prog 139 []).bind fun t1 =>
(boxO true (1::0::1::0::σ) 2 (List.replicate 3 []::h) t1).bind fun q2 =>
fin false σ q2.2 [q2.1]:=by kernel_rfl
end
end Go.Ev
namespace Go.Ev
open Go.Proofs
set_option linter.unusedVariables false
set_option linter.unusedSimpArgs false
set_option maxRecDepth 100000
section
variable {β α : Type} {Q : β→α→Prop} {K : Exit × Env × H→Option α}
def p_alarm_New  : Option (T_alarm_Table) :=
some ((⟨(([] : List T_alarm_Due))⟩ : T_alarm_Table))
theorem alarm_New_ok {h : H} {σ : Stamp}  : Sim (p_alarm_New ) (ev G X0 69 σ [] h) (fun r s => ∃ (s0 : Stamp),∃ (cr0_0 : C),SoC dT_alarm_Due r.l cr0_0∧Nn cr0_0 2∧s = ([.own s0 [cr0_0]],h)):=by
 refine .ev rfl (Sim.ext (alarm_New_entry _ _ _ _) ?_)
 rw [p_alarm_New]
 have S0 : Fm 3 h [] [] [] (List.replicate 3 []::h):=Fm.start0
 refine .op (bldV pN (by kernel_rfl : _ = some (.agg [.p (.slice none 0 0)]))) ?_
 obtain ⟨H1,e2,S3⟩:=S0.box (own:=true) (d:=2) (s:=(1::0::1::0::σ)) (xs:=[.p (.slice none 0 0)]) (sC (SlF.nil dT_alarm_Due).still sN) (by decide) rfl
 refine .op (e2) ?_
 obtain ⟨H5,e6,S7⟩:=S3.expG (i:=0) (τ:=0::1::σ) rfl rfl
 exact .fin (S7.finE (Ex.st e6 Ex.nil)) ⟨(1::0::1::0::σ),(.v (.p (.slice none 0 0))),(SoC.frz (SlF.nil dT_alarm_Due)),(fun v h => by cases h; simp),rfl⟩
def p_limit_New (x0 : Int) : Option (T_limit_Limit) :=
(p_alarm_New).bind fun r1 =>
some ((⟨((if ((if 1099511627776 < x0 then 1099511627776 else x0)) > 1 then ((if 1099511627776 < x0 then 1099511627776 else x0)) else 1)),0,false,(([] : List TaiTuple)),r1⟩ : T_limit_Limit))
theorem limit_New_ok {h : H} {σ : Stamp} (x0 : Int) : Sim (p_limit_New x0) (ev G X0 35 σ [(.p (.int .i64 x0))] h) (fun r s => ∃ (s0 : Stamp),∃ (cr0_3 : C),∃ (sr0_4 : Stamp),∃ (cr0_4_0 : C),SoC dTaiTuple r.tuples cr0_3∧Nn cr0_3 3∧SoC dT_alarm_Due r.ends.l cr0_4_0∧Nn cr0_4_0 2∧s = ([.own s0 [.v (.p (.int .i64 r.cap)),.v (.p (.int .u64 r.remb)),.v (.p (.bool r.told)),cr0_3,.own sr0_4 ([cr0_4_0])]],h)):=by
 refine .ev rfl (Sim.ext (limit_New_entry _ _ _ _ _) ?_)
 rw [p_limit_New]
 have S0 : Fm 9 h [] [] [] (List.replicate 9 []::h):=Fm.start0
 refine .call (alarm_New_ok ) fun r1 cs2 H3 h4 q5 => ?_
 obtain ⟨s6,c7,h8,h9,q5⟩:=q5
 cases q5
 obtain ⟨H10,e11,S12⟩:=S0.landG (d:=6) (s:=s6) (cs:=[c7]) (by decide) rfl
 erw [e11]
 refine .op (bldV (pC rfl (pC rfl pN)) (by kernel_rfl : _ = some (.agg [(.p (.int .i64 ((if ((if 1099511627776 < x0 then 1099511627776 else x0)) > 1 then ((if 1099511627776 < x0 then 1099511627776 else x0)) else 1)))),(.p (.int .u64 0)),(.p (.bool false)),(.p (.slice none 0 0)),(.ref ⟨h.length,6,0,s6,[]⟩ 0)]))) ?_
 obtain ⟨H17,e18,S19⟩:=S12.layR (i:=0) (own:=true) rfl rfl
 obtain ⟨H14,e15,S16⟩:=S19.boxL (d:=8) (s:=(5::0::1::0::σ)) (xs:=[(.p (.int .i64 ((if ((if 1099511627776 < x0 then 1099511627776 else x0)) > 1 then ((if 1099511627776 < x0 then 1099511627776 else x0)) else 1)))),(.p (.int .u64 0)),(.p (.bool false)),(.p (.slice none 0 0)),(.ref ⟨h.length,6,0,s6,[]⟩ 0)]) (lo_pl (sI _ _) (lo_pl (sI _ _) (lo_pl (sB _) (lo_pl (SlF.nil dTaiTuple).still (lo_ow e18 lo_nil))))) (by decide) rfl
 refine .op (e15) ?_
 obtain ⟨H21,e22,S23⟩:=S16.expG (i:=0) (τ:=0::1::σ) rfl rfl
 exact .fin (S23.finE (Ex.st e22 Ex.nil)) ⟨(5::0::1::0::σ),(.v (.p (.slice none 0 0))),s6,c7,(SoC.frz (SlF.nil dTaiTuple)),(fun v h => by cases h; simp),h8,h9,rfl⟩
end
end Go.Ev
namespace Go.Ev
namespace Lim
open Srt Alm
abbrev Tu:=TaiTuple
abbrev Li:=T_limit_Limit
def t0 : Tu:=⟨0,0,0⟩
def OkT (t : Tu) : Prop:=(0 ≤ t.Owner∧t.Owner < 4294967296)∧0 ≤ t.Rate∧t.Rate < 18446744073709551616
def So (l : List Tu) : Prop:=l.Pairwise fun a b => a.Owner < b.Owner
def cut (l : List Tu) (o : Int) : List Tu:=l.filter fun x => x.Owner != o
structure Ok (L : Li) : Prop where
 so : So L.tuples
 okt : ∀ t ∈ L.tuples,OkT t
 tok : TOk L.ends.l
 keys : (L.ends.l.map fun d => d.Key).Perm (L.tuples.map fun t => t.Owner)
 len : L.tuples.length ≤ 6
theorem Ok.len2 {L : Li} (h : Ok L) : L.ends.l.length ≤ 6:=by
 have:=h.keys.length_eq
 simp only [List.length_map] at this
 have:=h.len
 omega
theorem wU {n : Int} (h0 : 0 ≤ n) (h1 : n < 18446744073709551616) : IntKind.wrap .u64 n = n:=by
 simp only [IntKind.wrap,IntKind.signed,IntKind.bits]
 simp
 omega
theorem tget {l : List Tu} {q : Nat} (h : q < l.length) : l.getD q t0 = l[q]:=by rw [List.getD_eq_getElem?_getD,List.getElem?_eq_getElem h]; rfl
theorem tix {l : List Tu} {q : Nat} (h : q < l.length) : ix l (q : Int) = some (l.getD q t0):=by
 rw [tget h]; exact ix_at (List.getElem?_eq_getElem h)
theorem cmp32 (a b : Int) : p_cmp_Compare_uint32 a b = some (if a < b then -1 else if b < a then 1 else 0):=by
 unfold p_cmp_Compare_uint32 p_cmp_isNaN_uint32
 by_cases h1 : a < b
 ·simp [h1]
 ·by_cases h2 : b < a
  ·simp [h1,h2]
  ·simp [h1,h2]
theorem cmpT (a b : Tu) : p_limit_Limit_Tmmbr_1 a b = some (if a.Owner < b.Owner then -1 else if b.Owner < a.Owner then 1 else 0):=by
 unfold p_limit_Limit_Tmmbr_1
 rw [cmp32]; rfl
theorem mid {i j : Nat} (h : i + j < 1000000) : IntKind.wrap .i64 (Int.fdiv (IntKind.wrap .u64 (IntKind.wrap .i64 ((i : Int) + (j : Int)))) (2 ^ 1)) = (((i + j) / 2 : Nat) : Int):=by
 have h1 : IntKind.wrap .i64 ((i : Int) + (j : Int)) = (i : Int) + (j : Int):=wrap_i64 (by omega) (by omega)
 rw [h1,wU (by omega) (by omega),Int.fdiv_eq_ediv_of_nonneg _ (by decide),show ((2 : Int) ^ 1) = 2 from rfl]
 have h2 : ((i : Int) + (j : Int)) / 2 = (((i + j) / 2 : Nat) : Int):=by omega
 rw [h2]
 exact wrap_i64 (by omega) (by omega)
theorem So.get {l : List Tu} (h : So l) {p q : Nat} (hpq : p < q) (hq : q < l.length) : (l.getD p t0).Owner < (l.getD q t0).Owner:=by
 rw [tget (by omega),tget hq]
 exact List.pairwise_iff_getElem.1 h p q (by omega) hq hpq
theorem bs_l0 {β : Type} {l : List Tu} {t : Tu} (hs : So l) (kE : List Tu→Int→Int→Tu→Option β) (h1000 : l.length ≤ 1000) : ∀ m i j k : Nat,j ≤ i + m→m + 2 ≤ k→i ≤ j→j ≤ l.length→(∀ q,q < i→(l.getD q t0).Owner < t.Owner)→(∀ q,j ≤ q→q < l.length→t.Owner ≤ (l.getD q t0).Owner) →
  ∃ n : Nat,p_slices_BinarySearchFunc_Lapi_Tuple_api_Tuple_api_Tuple_limit_Limit_Tmmbr_1_l0 k kE l (l.length : Int) (i : Int) (j : Int) t = kE l (l.length : Int) (n : Int) t∧n ≤ l.length∧(∀ q,q < n→(l.getD q t0).Owner < t.Owner)∧(∀ q,n ≤ q→q < l.length→t.Owner ≤ (l.getD q t0).Owner):=by
 intro m
 induction m with
 | zero =>
  intro i j k hm hk hij hj h1 h2
  obtain ⟨k,rfl⟩ : ∃ j,k = j + 1:=⟨k - 1,by omega⟩
  rw [p_slices_BinarySearchFunc_Lapi_Tuple_api_Tuple_api_Tuple_limit_Limit_Tmmbr_1_l0,decide_eq_false (by omega),cond_false]
  exact ⟨i,rfl,by omega,h1,fun q a b => h2 q (by omega) b⟩
 | succ m ih =>
  intro i j k hm hk hij hj h1 h2
  obtain ⟨k,rfl⟩ : ∃ j,k = j + 1:=⟨k - 1,by omega⟩
  rw [p_slices_BinarySearchFunc_Lapi_Tuple_api_Tuple_api_Tuple_limit_Limit_Tmmbr_1_l0]
  by_cases hlt : i < j
  ·rw [decide_eq_true (by omega),cond_true,mid (by omega)]
   obtain ⟨c,hc⟩ : ∃ c,c = (i + j) / 2:=⟨_,rfl⟩
   rw [← hc,tix (by omega),Option.bind_some,cmpT,Option.bind_some]
   by_cases h : (l.getD c t0).Owner < t.Owner
   ·rw [if_pos h,decide_eq_true (by decide),cond_true,show IntKind.wrap .i64 ((c : Int) + 1) = ((c + 1 : Nat) : Int) from wrap_i64 (by omega) (by omega)]
    refine ih (c + 1) j k (by omega) (by omega) (by omega) hj (fun q hq => ?_) h2
    by_cases e : q = c
    ·rw [e]; exact h
    ·have:=hs.get (p:=q) (q:=c) (by omega) (by omega)
     omega
   ·have : decide ((if (l.getD c t0).Owner < t.Owner then (-1 : Int) else if t.Owner < (l.getD c t0).Owner then 1 else 0) < 0) = false:=by
     rw [if_neg h]; split <;> rfl
    rw [this,cond_false]
    refine ih i c k (by omega) (by omega) (by omega) (by omega) h1 (fun q hq hq2 => ?_)
    by_cases e : q = c
    ·rw [e]; omega
    ·have:=hs.get (p:=c) (q:=q) (by omega) hq2
     omega
  ·rw [decide_eq_false (by omega),cond_false]
   exact ⟨i,rfl,by omega,h1,fun q a b => h2 q (by omega) b⟩
theorem bs_ok {l : List Tu} {t : Tu} (hs : So l) (h1000 : l.length ≤ 1000) {k : Nat} (hk : 1100 ≤ k) : ∃ (n : Nat) (b : Bool),p_slices_BinarySearchFunc_Lapi_Tuple_api_Tuple_api_Tuple_limit_Limit_Tmmbr_1 k l t = some ((n : Int),b)∧n ≤ l.length∧(∀ q,q < n→(l.getD q t0).Owner < t.Owner)∧(∀ q,n ≤ q→q < l.length→t.Owner ≤ (l.getD q t0).Owner) ∧
  (b = true→n < l.length∧(l.getD n t0).Owner = t.Owner)∧(b = false→n < l.length→t.Owner < (l.getD n t0).Owner):=by
 unfold p_slices_BinarySearchFunc_Lapi_Tuple_api_Tuple_api_Tuple_limit_Limit_Tmmbr_1
 generalize hK : (fun (a : List TaiTuple) (b c : Int) (d : TaiTuple) => _) = K
 obtain ⟨n,e,h0,h1,h2⟩:=bs_l0 (t:=t) hs K h1000 l.length 0 l.length k (by omega) (by omega) (by omega) (by omega) (fun q hq => by omega) (fun q a b => by omega)
 have e' : p_slices_BinarySearchFunc_Lapi_Tuple_api_Tuple_api_Tuple_limit_Limit_Tmmbr_1_l0 k K l (l.length : Int) 0 (l.length : Int) t = K l (l.length : Int) (n : Int) t:=e
 rw [e',← hK]
 simp only
 by_cases hn : n < l.length
 ·rw [decide_eq_true (by omega),cond_true,tix hn,Option.bind_some,cmpT,Option.bind_some,Option.bind_some]
  refine ⟨n,_,rfl,h0,h1,h2,fun h => ⟨hn,?_⟩,fun h _ => ?_⟩
  ·have:=h2 n (Nat.le_refl _) hn
   rw [beq_iff_eq] at h
   split at h
   ·cases h
   ·split at h
    ·cases h
    ·omega
  ·have:=h2 n (Nat.le_refl _) hn
   rw [beq_eq_false_iff_ne] at h
   split at h
   ·omega
   ·split at h
    ·assumption
    ·exact absurd rfl h
 ·rw [decide_eq_false (by omega),cond_false,Option.bind_some]
  exact ⟨n,false,rfl,h0,h1,h2,(fun h => nomatch h),fun _ h => absurd h hn⟩
def unt (now : Int) : Int:=(p_limit_until now).getD 0
theorem unt_eq (now : Int) : p_limit_until now = some (unt now):=by
 unfold unt p_limit_until p_clock_Add p_clock_up
 cases hb : decide (now < 0) <;> rfl
theorem set_cell {l : List Tu} {n : Nat} {t : Tu} (hn : n < l.length) : l.set n t = l.take n ++ t::l.drop (n + 1):=by
 rw [List.set_eq_take_append_cons_drop,if_pos hn]
theorem So.cons_mid {A B : List Tu} {t : Tu} (ha : So A) (hb : So B) (h1 : ∀ a ∈ A,a.Owner < t.Owner) (h2 : ∀ b ∈ B,t.Owner < b.Owner) : So (A ++ t::B):=by
 refine List.pairwise_append.2 ⟨ha,List.pairwise_cons.2 ⟨h2,hb⟩,fun a hA b hB => ?_⟩
 rcases List.mem_cons.1 hB with rfl | hB
 ·exact h1 a hA
 ·have:=h1 a hA; have:=h2 b hB; omega
theorem cut_none {l : List Tu} {o : Int} (h : ∀ x ∈ l,x.Owner ≠ o) : cut l o = l:=List.filter_eq_self.2 fun x hx => bne_iff_ne.2 (h x hx)
theorem dropK_keys (l : List D) (o : Int) : (dropK l o).map (fun d => d.Key) = (l.map fun d => d.Key).filter (fun x => x != o):=by
 unfold dropK
 rw [List.filter_map]; rfl
theorem cut_owners (l : List Tu) (o : Int) : (cut l o).map (fun t => t.Owner) = (l.map fun t => t.Owner).filter (fun x => x != o):=by
 unfold cut
 rw [List.filter_map]; rfl
structure Told (L L' : Li) (t : Tu) (now : Int) : Prop where
 ok : Ok L'
 cap : L'.cap = L.cap
 remb : L'.remb = L.remb
 told : L'.told = L.told
 tuples : L'.tuples.Perm (cut L.tuples t.Owner ++ [t])
 ends : L'.ends.l.Perm (dropK L.ends.l t.Owner ++ [⟨unt now,t.Owner⟩])
theorem told_mk {L : Li} {A B : List Tu} {t : Tu} {now : Int} (hL : Ok L) (ht : OkT t) (hc : cut L.tuples t.Owner = A ++ B) (ha : So A) (hb : So B) (h1 : ∀ a ∈ A,a.Owner < t.Owner) (h2 : ∀ b ∈ B,t.Owner < b.Owner) (hlen : A.length + B.length + 1 ≤ 6) {k : Nat} (hk : 4000 ≤ k) :
  ∃ e',p_alarm_Table_Set k L.ends (IntKind.wrap .u64 t.Owner) (unt now) = some e'∧Told L ⟨L.cap,L.remb,L.told,A ++ t::B,e'⟩ t now:=by
 obtain ⟨⟨o0,o1⟩,_,_⟩:=ht
 have hl2:=hL.len2
 obtain ⟨e',q1,q2,q3⟩:=set_ok (key:=t.Owner) (t:=unt now) hL.tok (by omega) o0 (by omega) hk
 rw [wU o0 (by omega)]
 have hsub : ∀ x ∈ A ++ B,x ∈ L.tuples:=fun x hx => by rw [← hc] at hx; exact (List.mem_filter.1 hx).1
 have hp : (A ++ t::B).Perm (cut L.tuples t.Owner ++ [t]):=by
  rw [hc]
  exact List.perm_middle.trans (List.perm_append_singleton t (A ++ B)).symm
 refine ⟨⟨e'⟩,q1,⟨⟨ha.cons_mid hb h1 h2,fun x hx => ?_,q2,?_,?_⟩,rfl,rfl,rfl,hp,q3⟩⟩
 ·rcases List.mem_append.1 hx with h | h
  ·exact hL.okt x (hsub x (List.mem_append_left _ h))
  ·rcases List.mem_cons.1 h with rfl | h
   ·exact ⟨⟨o0,o1⟩,by assumption,by assumption⟩
   ·exact hL.okt x (hsub x (List.mem_append_right _ h))
 ·refine (q3.map _).trans (List.Perm.trans ?_ (hp.map _).symm)
  rw [List.map_append,List.map_append,dropK_keys,cut_owners]
  exact (hL.keys.filter _).append_right _
 ·simp only [List.length_append,List.length_cons]; omega
theorem tmmbr_ok {L : Li} {t : Tu} {now : Int} (hL : Ok L) (ht : OkT t) {k : Nat} (hk : 4000 ≤ k) : ∃ r L',p_limit_Limit_Tmmbr k L t now = some (r,L') ∧
  ((r = false∧L' = L∧L.tuples.length = 6∧∀ x ∈ L.tuples,x.Owner ≠ t.Owner) ∨ (r = true∧Told L L' t now)):=by
 have hl:=hL.len
 unfold p_limit_Limit_Tmmbr
 obtain ⟨n,b,e,h0,h1,h2,h3,h4⟩:=bs_ok (t:=t) hL.so (by omega) (k:=k) (by omega)
 rw [e,Option.bind_some]
 have m1 : ∀ a ∈ L.tuples.take n,a.Owner < t.Owner:=fun a ha => by
  obtain ⟨q,hq,rfl⟩:=List.mem_iff_getElem.1 ha
  rw [List.length_take] at hq
  have:=h1 q (by omega)
  rwa [tget (by omega),← List.getElem_take (h:=by simpa using hq)] at this
 have sA : So (L.tuples.take n):=hL.so.sublist (List.take_sublist ..)
 cases b with
 | true =>
  obtain ⟨hn,ho⟩:=h3 rfl
  simp only [cond_true]
  rw [tix hn,Option.bind_some]
  have hst : stx L.tuples (n : Int) t = some (L.tuples.take n ++ t::L.tuples.drop (n + 1)):=by
   unfold stx
   rw [if_pos ⟨by omega,by omega⟩,Int.toNat_natCast,set_cell hn]
  have m2 : ∀ b ∈ L.tuples.drop (n + 1),t.Owner < b.Owner:=fun b hb => by
   obtain ⟨q,hq,rfl⟩:=List.mem_iff_getElem.1 hb
   rw [List.length_drop] at hq
   have:=hL.so.get (p:=n) (q:=n + 1 + q) (by omega) (by omega)
   rw [ho,tget (q:=n + 1 + q) (by omega)] at this
   rwa [List.getElem_drop]
  have hc : cut L.tuples t.Owner = L.tuples.take n ++ L.tuples.drop (n + 1):=by
   have hsp : L.tuples = L.tuples.take n ++ L.tuples.getD n t0::L.tuples.drop (n + 1):=by
    rw [tget hn,← List.drop_eq_getElem_cons hn,List.take_append_drop]
   have c1 : cut (L.tuples.take n) t.Owner = L.tuples.take n:=cut_none fun x hx e => by have:=m1 x hx; omega
   have c2 : cut (L.tuples.drop (n + 1)) t.Owner = L.tuples.drop (n + 1):=cut_none fun x hx e => by have:=m2 x hx; omega
   have c3 : cut (L.tuples.getD n t0::L.tuples.drop (n + 1)) t.Owner = cut (L.tuples.drop (n + 1)) t.Owner:=by
    unfold cut
    rw [List.filter_cons,ho,bne_self_eq_false]; rfl
   have c4 : cut L.tuples t.Owner = cut (L.tuples.take n ++ L.tuples.getD n t0::L.tuples.drop (n + 1)) t.Owner:=by rw [← hsp]
   rw [c4]
   unfold cut at c1 c2 c3 ⊢
   rw [List.filter_append,c1,c3,c2]
  obtain ⟨e',q1,q2⟩:=told_mk (now:=now) hL ht hc sA (hL.so.sublist (List.drop_sublist ..)) m1 m2 (by rw [List.length_take,List.length_drop]; omega) hk
  rw [hst,Option.bind_some,unt_eq,Option.bind_some,q1,Option.bind_some]
  exact ⟨_,_,rfl,.inr ⟨rfl,q2⟩⟩
 | false =>
  simp only [cond_false]
  have m2 : ∀ b ∈ L.tuples.drop n,t.Owner < b.Owner:=fun b hb => by
   obtain ⟨q,hq,rfl⟩:=List.mem_iff_getElem.1 hb
   rw [List.length_drop] at hq
   rw [List.getElem_drop,← tget (q:=n + q) (by omega)]
   have h5:=h4 rfl (by omega)
   by_cases e : q = 0
   ·subst e; exact h5
   ·have:=hL.so.get (p:=n) (q:=n + q) (by omega) (by omega)
    omega
  have hne : ∀ x ∈ L.tuples,x.Owner ≠ t.Owner:=fun x hx e => by
   rw [← List.take_append_drop n L.tuples] at hx
   rcases List.mem_append.1 hx with h | h
   ·have:=m1 x h; omega
   ·have:=m2 x h; omega
  by_cases hfull : L.tuples.length ≥ 6
  ·rw [decide_eq_true (by omega),cond_true]
   exact ⟨_,_,rfl,.inl ⟨rfl,rfl,by omega,hne⟩⟩
  ·rw [decide_eq_false (by omega),cond_false]
   have hin : ins 24 L.tuples (n : Int) [t] = some (L.tuples.take n ++ t::L.tuples.drop n):=by
    unfold ins
    rw [if_pos ⟨by omega,by omega,by simp only [List.length_cons,List.length_nil]; omega,by simp only [List.length_cons,List.length_nil]; omega⟩,Int.toNat_natCast,List.append_assoc]
    rfl
   have hc : cut L.tuples t.Owner = L.tuples.take n ++ L.tuples.drop n:=by rw [List.take_append_drop]; exact cut_none hne
   obtain ⟨e',q1,q2⟩:=told_mk (now:=now) hL ht hc sA (hL.so.sublist (List.drop_sublist ..)) m1 m2 (by rw [List.length_take,List.length_drop]; omega) hk
   rw [hin,Option.bind_some,unt_eq,Option.bind_some,q1,Option.bind_some]
   exact ⟨_,_,rfl,.inr ⟨rfl,q2⟩⟩
def rest (l : List D) (now : Int) : List D:=l.filter fun d => !decide (d.f_At ≤ now)
def rb (x : Int) : Int:=if 1099511627776 < x / 8 then 1099511627776 else x / 8
structure IsLo (l : List Tu) (m : Int) : Prop where
 top : m ≤ 1099511627776
 le : ∀ t ∈ l,m ≤ t.Rate
 one : m = 1099511627776 ∨ ∃ t ∈ l,m = t.Rate
def rv (L : Li) (m : Int) : Int :=
 let c:=if L.told = true then (if rb L.remb < L.cap then rb L.remb else L.cap) else L.cap
 if L.tuples = [] then c else if rb m < c then rb m else c
theorem ok_new {c r : Int} {b : Bool} : Ok ⟨c,r,b,[],⟨[]⟩⟩:=⟨List.Pairwise.nil,fun t ht => (by cases ht),⟨fun x hx => (by cases hx),fun p q _ _ h => absurd h (Nat.not_lt_zero _),List.Pairwise.nil⟩,.refl _,Nat.zero_le _⟩
end Lim
end Go.Ev
namespace Go.Ev
open Go.Proofs
set_option linter.unusedVariables false
set_option linter.unusedSimpArgs false
set_option maxRecDepth 100000
noncomputable section
abbrev KT25:=Exit→Env→H→Option (List C × H)
variable (rec : CallF) (loop : LoopV) (σ : Stamp)

theorem zl14_known_entry  (h : H) : cvBody G rec loop 34 σ [] h =
(callO rec 35 (0::0::1::0::σ) [(.p (.int .i64 5000))] (List.replicate 64 []::h) (some 8)).bind fun q1 =>
(binV Try.prog q1.2 .eql 66 q1.1 (.p (.pointer .none))).bind fun t2 =>
(asB t2).bind fun b3 =>
bif b3 then (
fin false σ q1.2 [(.p (.bool false))])
else (
(callO rec 37 (1::0::1::1::1::0::σ) [q1.1] q1.2 (some 12)).bind fun q4 =>
(castI .i64 q4.1).bind fun n5 =>
(callO rec 38 (1::0::1::1::1::1::0::σ) [q1.1,(.p (.int .u64 80))] q4.2 (some 14)).bind fun q6 =>
(callO rec 37 (1::0::1::1::1::1::1::0::σ) [q1.1] q6.2 (some 16)).bind fun q7 =>
(castI .i64 q7.1).bind fun n8 =>
(buildV Try.prog 57 [(0,(.p (.int .u32 3))),(1,(.p (.int .u64 16))),(2,(.p (.int .i64 1)))]).bind fun t9 =>
(callO rec 36 (2::0::1::1::1::1::1::1::0::σ) [q1.1,t9,(.p (.int .i64 0))] q7.2 (some 19)).bind fun q10 =>
(asB q10.1).bind fun b11 =>
(callO rec 37 (1::0::1::1::1::1::1::1::1::0::σ) [q1.1] q10.2 (some 21)).bind fun q12 =>
(castI .i64 q12.1).bind fun n13 =>
(callO rec 39 (1::0::1::1::1::1::1::1::1::1::0::σ) [q1.1,(.p (.int .i64 999999))] q12.2 (some 23)).bind fun q14 =>
(castI .i64 q14.1).bind fun n15 =>
(callO rec 39 (1::0::1::1::1::1::1::1::1::1::1::0::σ) [q1.1,(.p (.int .i64 1000000))] q14.2 (some 25)).bind fun q16 =>
(castI .i64 q16.1).bind fun n17 =>
(bif n5 == 5000 then (some (n8 == 10)) else (some false)).bind fun b18 =>
(bif b18 then (some b11) else (some false)).bind fun b19 =>
(bif b19 then (some (n13 == 2)) else (some false)).bind fun b20 =>
(bif b20 then (some (n15 == 0)) else (some false)).bind fun b21 =>
(bif b21 then (some (n17 == 1)) else (some false)).bind fun b22 =>
(bif b22 then ((callO rec 37 (23::0::1::1::1::1::1::1::1::1::1::1::0::σ) [q1.1] q16.2 (some 49)).bind fun q23 =>
(castI .i64 q23.1).bind fun n24 =>
some ((.p (.bool (n24 == 10))),q23.2)) else (some ((.p (.bool false)),q16.2))).bind fun q25 =>
(asB q25.1).bind fun b26 =>
(bif b26 then ((callO rec 40 (28::0::1::1::1::1::1::1::1::1::1::1::0::σ) [q1.1] q25.2 (some 54)).bind fun q27 =>
(lenO q27.1).bind fun t28 =>
(castI .i64 t28).bind fun n29 =>
some ((.p (.bool (n29 == 0))),q27.2)) else (some ((.p (.bool false)),q25.2))).bind fun q30 =>
(asB q30.1).bind fun b31 =>
(bif b31 then ((callO rec 41 (34::0::1::1::1::1::1::1::1::1::1::1::0::σ) [q1.1] q30.2 (some 60)).bind fun q32 =>
(lenO q32.1).bind fun t33 =>
(castI .i64 t33).bind fun n34 =>
some ((.p (.bool (n34 == 0))),q32.2)) else (some ((.p (.bool false)),q30.2))).bind fun q35 =>
(asB q35.1).bind fun b36 =>
fin false σ q35.2 [(.p (.bool b36))]):=by kernel_rfl
theorem limit_Limit_Set_entry (x0 : V) (h : H) : cvBody G rec loop 41 σ [x0] h =
(nilChk x0).bind fun t1 =>
(fA t1 3).bind fun t2 =>
(ldO false 1 (List.replicate 8 []::h) t2).bind fun t3 =>
(callO rec 83 (4::0::1::0::σ) [t3] (List.replicate 8 []::h) (some 7)).bind fun q4 =>
fin true σ q4.2 [q4.1]:=by kernel_rfl
def bound_Set_c0 : Code:=(codeAt (bodyOf Try.f83) [1,1,1,1,1,0,1,0,0])
def bound_Set_l0 : Lv:=⟨32,4,[(0,32)]⟩
def bound_Set_k0 : KT25:=(kBlock 0 (kSeq G rec loop (codeAt (bodyOf Try.f83) [1,1,1,1,1,1]) ⟨4,4,[]⟩ (1::1::1::1::1::0::σ) (finC G true Try.f83 (1::σ))))
theorem bound_Set_entry (x0 : V) (h : H) : cvBody G rec loop 83 σ [x0] h =
(callO rec 121 (1::0::1::0::σ) [x0] (List.replicate 27 []::h) (some 8)).bind fun q1 =>
(lenO q1.1).bind fun t2 =>
(castI .i64 t2).bind fun n3 =>
bif n3 == 0 then (
fin true σ q1.2 [(.p (.slice .none 0 0))])
else (
(callO rec 122 (1::0::1::1::1::0::σ) [q1.1,(.clo 123 [])] q1.2 (some 13)).bind fun q4 =>
(some (alO [.p (.int .u32 0),.p (.int .u64 0),.p (.int .i64 0)] (2::0::1::1::1::0::σ) 4 q4.2)).bind fun q5 =>
((stO false 3 (3::0::1::1::1::0::σ) q5.2 q5.1 q4.1).map fun h => (udf,h)).bind fun q6 =>
(loop bound_Set_c0 bound_Set_l0 (1::0::1::1::1::1::1::0::σ) (envL [(3,q1.1),(4,q5.1),(5,(.p (.slice .none 0 0))),(6,(.p (.bool true)))]) q6.2).bind fun r7 => bound_Set_k0 rec loop σ r7.1 r7.2.1 r7.2.2):=by kernel_rfl
theorem bound_Set_r0 (x3 : V) (x4 : V) (x5 : V) (x6 : Bool) (h : H) : cvRound G rec loop bound_Set_c0 bound_Set_l0 σ (envL [(3,x3),(4,x4),(5,x5),(6,(.p (.bool x6)))]) h =
bif x6 then (
(ldO true 3 h x4).bind fun t8 =>
(bSV Try.prog 28 1 [(0,t8)]).bind fun t9 =>
(apO false 3 24 (3::0::1::0::σ) 24 h x5 t9).bind fun q10 =>
(ldO true 3 q10.2 x4).bind fun t11 =>
(callO rec 125 (2::1::1::0::σ) [x3,t11] q10.2 (some 18)).bind fun q12 =>
(extV q12.1 0).bind fun t13 =>
(extV q12.1 1).bind fun t14 =>
(asB t14).bind fun b15 =>
((stO false 3 (6::1::1::0::σ) q12.2 x4 t13).map fun h => (udf,h)).bind fun q16 =>
loop bound_Set_c0 bound_Set_l0 (1::σ) (envL [(3,x3),(4,x4),(5,q10.1),(6,(.p (.bool b15)))]) q16.2)
else (
some ((.exit 0),(envL [(5,x5)]),h)):=by kernel_rfl
theorem bound_Set_a0_0 (x5 : V) (h : H) : bound_Set_k0 rec loop σ (.exit 0) (envL [(5,x5)]) h =
(callO rec 81 (1::0::1::1::1::1::1::1::0::σ) [x5] h (some 26)).bind fun q17 =>
fin true σ q17.2 [q17.1]:=by kernel_rfl
def bound_all_c0 : Code:=(codeAt (bodyOf Try.f121) [1,1,0,1,0,0])
def bound_all_l0 : Lv:=⟨8,4,[(0,8)]⟩
def bound_all_k0 : KT25:=(kBlock 0 (kSeq G rec loop (codeAt (bodyOf Try.f121) [1,1,1]) ⟨4,4,[]⟩ (1::1::0::σ) (finC G true Try.f121 (1::σ))))
theorem bound_all_entry (x0 : V) (h : H) : cvBody G rec loop 121 σ [x0] h =
(lenO x0).bind fun t1 =>
(castI .i64 t1).bind fun n2 =>
(loop bound_all_c0 bound_all_l0 (1::0::1::1::0::σ) (envL [(3,(.p (.slice .none 0 0))),(6,x0),(7,(.p (.int .i64 n2))),(8,(.p (.int .i64 0)))]) (List.replicate 19 []::h)).bind fun r3 => bound_all_k0 rec loop σ r3.1 r3.2.1 r3.2.2:=by kernel_rfl
theorem bound_all_r0 (x3 : V) (x6 : V) (x7 : Int) (x8 : Int) (h : H) : cvRound G rec loop bound_all_c0 bound_all_l0 σ (envL [(3,x3),(6,x6),(7,(.p (.int .i64 x7))),(8,(.p (.int .i64 x8)))]) h =
bif decide (x8 < x7) then (
(iS 3 x6 x8).bind fun t4 =>
(ldO true 3 h t4).bind fun t5 =>
(some (alO [.p (.int .u32 0),.p (.int .u64 0),.p (.int .i64 0)] (2::0::0::1::1::0::σ) 5 h)).bind fun q6 =>
((stO false 3 (3::0::0::1::1::0::σ) q6.2 q6.1 t5).map fun h => (udf,h)).bind fun q7 =>
(ldO true 3 q7.2 q6.1).bind fun t8 =>
(callO rec 147 (2::1::0::1::1::0::σ) [t8] q7.2 (some 14)).bind fun q9 =>
(bSV Try.prog 28 1 [(0,q9.1)]).bind fun t10 =>
(apO false 3 24 (4::1::0::1::1::0::σ) 16 q9.2 x3 t10).bind fun q11 =>
loop bound_all_c0 bound_all_l0 (1::σ) (envL [(3,q11.1),(6,x6),(7,(.p (.int .i64 x7))),(8,(.p (.int .i64 (IntKind.wrap .i64 (x8 + 1)))))]) q11.2)
else (
some ((.exit 0),(envL [(3,x3)]),h)):=by kernel_rfl
theorem bound_all_a0_0 (x3 : V) (h : H) : bound_all_k0 rec loop σ (.exit 0) (envL [(3,x3)]) h =
fin true σ h [x3]:=by kernel_rfl
theorem bound_held_entry (x0 : V) (h : H) : cvBody G rec loop 147 σ [x0] h =
(boxO false (0::0::0::σ) 1 (List.replicate 13 []::h) x0).bind fun q1 =>
(some (alO [.p (.int .u32 0),.p (.int .u64 0),.p (.int .i64 0)] (1::0::0::σ) 2 q1.2)).bind fun q2 =>
(fA q1.1 0).bind fun t3 =>
(ldO false 1 q2.2 t3).bind fun t4 =>
(castI .u32 t4).bind fun n5 =>
(fA q1.1 1).bind fun t6 =>
(ldO false 1 q2.2 t6).bind fun t7 =>
(castI .u64 t7).bind fun n8 =>
(fA q1.1 2).bind fun t9 =>
(ldO false 1 q2.2 t9).bind fun t10 =>
(castI .i64 t10).bind fun n11 =>
(buildV Try.prog 57 [(0,(.p (.int .u32 n5))),(1,(.p (.int .u64 ((if 1099511627776 < n8 then 1099511627776 else n8))))),(2,(.p (.int .i64 ((if ((if 511 < n11 then 511 else n11)) > 0 then ((if 511 < n11 then 511 else n11)) else 0)))))]).bind fun t12 =>
((stO false 3 (10::0::1::0::σ) q2.2 q2.1 t12).map fun h => (udf,h)).bind fun q13 =>
((ldO true 3 q13.2 q2.1).bind fun t14 => (some []).map (t14::·)).bind fun t15 => fin false σ q13.2 t15:=by kernel_rfl
end
end Go.Ev
namespace Go.Ev
open Go.Proofs
set_option linter.unusedVariables false
set_option linter.unusedSimpArgs false
set_option maxRecDepth 100000
section
variable {β α : Type} {Q : β→α→Prop} {K : Exit × Env × H→Option α}
def p_bound_held (x0 : TaiTuple) : Option (TaiTuple) :=
some (((⟨x0.Owner,((if 1099511627776 < x0.Rate then 1099511627776 else x0.Rate)),((if ((if 511 < x0.Over then 511 else x0.Over)) > 0 then ((if 511 < x0.Over then 511 else x0.Over)) else 0))⟩ : TaiTuple)))
theorem bound_held_ok {h : H} {σ : Stamp} (x0 : TaiTuple) {u0 : List V} (hu0 : dTaiTuple.R x0 u0) : Sim (p_bound_held x0) (ev G X0 147 σ [(.agg u0)] h) (fun r s => ∃ (w0 : List V),dTaiTuple.R r w0∧s = ([.v (.agg w0)],h)):=by
 refine .ev rfl (Sim.ext (bound_held_entry _ _ _ _ _) ?_)
 rw [p_bound_held]
 obtain rfl:=dTaiTuple.inv hu0
 have S0 : Fm 13 h [] [] [] (List.replicate 13 []::h):=Fm.start0
 obtain ⟨H1,e2,S3⟩:=S0.box (own:=false) (d:=1) (s:=(0::0::0::σ)) (xs:=[(.p (.int .u32 x0.Owner)),(.p (.int .u64 x0.Rate)),(.p (.int .i64 x0.Over))]) (sC (sI _ _) (sC (sI _ _) (sC (sI _ _) sN))) (by decide) rfl
 refine .op (e2) ?_
 obtain ⟨H5,e6,S7⟩:=S3.al (d:=2) (s:=(1::0::0::σ)) (z:=[(.p (.int .u32 0)),(.p (.int .u64 0)),(.p (.int .i64 0))]) (by decide) rfl
 refine .op (congrArg some e6) ?_
 refine .fa ?_
 refine .op ((S7.atG (i:=1) rfl).ld (j:=0) rfl) ?_
 refine .ci ?_
 refine .fa ?_
 refine .op ((S7.atG (i:=1) rfl).ld (j:=1) rfl) ?_
 refine .ci ?_
 refine .fa ?_
 refine .op ((S7.atG (i:=1) rfl).ld (j:=2) rfl) ?_
 refine .ci ?_
 refine .op (bldV (pC rfl (pC rfl (pC rfl pN))) (by kernel_rfl : _ = some (.agg [.p (.int .u32 x0.Owner),.p (.int .u64 ((if 1099511627776 < x0.Rate then 1099511627776 else x0.Rate))),.p (.int .i64 ((if ((if 511 < x0.Over then 511 else x0.Over)) > 0 then ((if 511 < x0.Over then 511 else x0.Over)) else 0)))]))) ?_
 obtain ⟨H9,e10,S11⟩:=S7.stGv (i:=0) (j:=0) (own:=false) (σ:=(10::0::1::0::σ)) (xs:=[.p (.int .u32 x0.Owner),.p (.int .u64 ((if 1099511627776 < x0.Rate then 1099511627776 else x0.Rate))),.p (.int .i64 ((if ((if 511 < x0.Over then 511 else x0.Over)) > 0 then ((if 511 < x0.Over then 511 else x0.Over)) else 0)))]) rfl rfl (sC (sI _ _) (sC (sI _ _) (sC (sI _ _) sN))) rfl rfl
 refine .op (sM e10) ?_
 have e12 : ldO true 3 H9 (.ref ⟨h.length,2,0,(1::0::0::σ),[]⟩ 0) = some (.agg [.p (.int .u32 x0.Owner),.p (.int .u64 ((if 1099511627776 < x0.Rate then 1099511627776 else x0.Rate))),.p (.int .i64 ((if ((if 511 < x0.Over then 511 else x0.Over)) > 0 then ((if 511 < x0.Over then 511 else x0.Over)) else 0)))]):=(S11.atG (i:=0) rfl).ldVs (j:=0) rfl rfl (by decide)
 refine .op (congrArg (Option.bind · _) e12) ?_
 exact .fin (S11.finN (lC (Stills.lv (dTaiTuple.still (dTaiTuple.mk))) lN)) ⟨_,(dTaiTuple.mk),rfl⟩
def p_bound_all_l0 {β : Type} (k : Nat) (kE0 : (List TaiTuple)→Option β) (x3 : (List TaiTuple)) (x6 : (List TaiTuple)) (x7 : Int) (x8 : Int) : Option β:=match k with
| 0 => none
| k + 1 =>
bif decide (x8 < x7) then (
(ix x6 x8).bind fun a10 =>
(p_bound_held a10).bind fun r22 =>
(ap 24 x3 ([r22])).bind fun a30 =>
p_bound_all_l0 k kE0 a30 x6 x7 (IntKind.wrap .i64 (x8 + 1)))
else (
kE0 x3)
def p_bound_all (k : Nat) (x0 : (List TaiTuple)) : Option ((List TaiTuple)) :=
p_bound_all_l0 k (fun r42_3 =>
some (r42_3)) (([] : List TaiTuple)) x0 ((x0.length : Int)) 0
theorem bound_all_l0_ok {h : H}  {kE0 : (List TaiTuple)→Option β} (hE0 : ∀ (q3 : (List TaiTuple)) (v38 : V) (H36 : Go.Ev.H) (_ : Fm 19 h [] [] [⟨[16],v38,dTaiTuple,q3⟩] H36),Sim (kE0 q3) (K ((.exit 0),(envL [(3,v38)]),H36)) Q) (k : Nat) : ∀ (x3 : (List TaiTuple)) (x6 : (List TaiTuple)) (x7 : Int) (x8 : Int) (v5 : V) (v7 : V) (h8 : SlH h dTaiTuple x6 v7) (H3 : Go.Ev.H) (_ : Fm 19 h [] [] [⟨[16],v5,dTaiTuple,x3⟩] H3) {σ : Stamp},Sim (p_bound_all_l0 k kE0 x3 x6 x7 x8) ((cvL G X0 bound_all_c0 bound_all_l0 σ (envL [(3,v5),(6,v7),(7,(.p (.int .i64 x7))),(8,(.p (.int .i64 x8)))]) H3).bind K) Q:=by
 induction k with
 | zero => intros; exact .no
 | succ k ih =>
  intro x3 x6 x7 x8 v5 v7 h8 H3 S4 σ
  rw [p_bound_all_l0]
  refine .round (Sim.ext (bound_all_r0 _ _ _ _ _ _ _ _) ?_)
  refine .cq ?_ ?_
  ·refine .bd fun a10 h11 => ?_
   refine .op ((S4.low h8).iS h11 rfl) ?_
   obtain ⟨w13,h14,hE12⟩:=(S4.low h8).el h11 rfl
   obtain rfl:=dTaiTuple.inv h14
   refine .op (hE12.all (by simp)) ?_
   obtain ⟨H15,e16,S17⟩:=S4.al (d:=5) (s:=(2::0::0::1::1::0::σ)) (z:=[(.p (.int .u32 0)),(.p (.int .u64 0)),(.p (.int .i64 0))]) (by decide) rfl
   refine .op (congrArg some e16) ?_
   obtain ⟨H19,e20,S21⟩:=S17.stGv (i:=0) (j:=0) (own:=false) (σ:=(3::0::0::1::1::0::σ)) (xs:=[.p (.int .u32 a10.Owner),.p (.int .u64 a10.Rate),.p (.int .i64 a10.Over)]) rfl rfl (sC (sI _ _) (sC (sI _ _) (sC (sI _ _) sN))) rfl rfl
   refine .op (sM e20) ?_
   refine .op ((S21.atG (i:=0) rfl).ldVs (j:=0) (xs:=[.p (.int .u32 a10.Owner),.p (.int .u64 a10.Rate),.p (.int .i64 a10.Over)]) rfl rfl (by decide)) ?_
   refine .call (bound_held_ok a10 (show dTaiTuple.R a10 [.p (.int .u32 a10.Owner),.p (.int .u64 a10.Rate),.p (.int .i64 a10.Over)] from (dTaiTuple.mk))) fun r22 cs23 H24 h25 q26 => ?_
   obtain ⟨w27,h28,q26⟩:=q26
   cases q26
   obtain rfl:=dTaiTuple.inv h28
   have h29 : SlF dTaiTuple [r22] (.fz [(.p (.int .u32 r22.Owner)),(.p (.int .u64 r22.Rate)),(.p (.int .i64 r22.Over))] 1 3 true):=SlF.lit (cs:=[(.p (.int .u32 r22.Owner)),(.p (.int .u64 r22.Rate)),(.p (.int .i64 r22.Over))]) (RL.cons h28 RL.nil) rfl rfl true
   refine .op (bldS (pC (c:=[(.p (.int .u32 r22.Owner)),(.p (.int .u64 r22.Rate)),(.p (.int .i64 r22.Over))]) rfl pN) (by kernel_rfl : _ = some (vOf h29))) ?_
   refine .bd fun a30 h31 => ?_
   obtain ⟨v32,H33,e34,S35⟩:=S21.app (i:=0) (d:=16) (e:=3) (own:=false) (σ:=(4::1::0::1::1::0::σ)) rfl (h29.h H19).y h31 rfl (by decide) (by decide) rfl
   refine .op (e34) ?_
   exact ih a30 x6 x7 (IntKind.wrap .i64 (x8 + 1)) v32 v7 h8 H33 (S35.wk2 aN (aC ⟨[16,16],by simp,aM 0 rfl⟩ aN))
  exact hE0 x3 v5 H3 (S4.wk2 aN (aC ⟨[16],by simp,aM 0 rfl⟩ aN))
theorem bound_all_ok (k : Nat) {h : H} {σ : Stamp} (x0 : List TaiTuple) {u0 : V} (hu0 : SlH h dTaiTuple x0 u0) : Sim (p_bound_all k x0) (ev G X0 121 σ [u0] h) (fun r s => ∃ (v0 : V),SlF dTaiTuple r v0∧s = ([.v v0],h)):=by
 refine .ev rfl (Sim.ext (bound_all_entry _ _ _ _ _) ?_)
 rw [p_bound_all]
 have S0 : Fm 19 h [] [] [] (List.replicate 19 []::h):=Fm.start0
 refine .op ((S0.low hu0).len) ?_
 refine .ci ?_
 have S41:=S0.nil dTaiTuple []
 refine .as (bound_all_l0_ok ?_ k (([] : List TaiTuple)) x0 ((x0.length : Int)) 0 (.p (.slice none 0 0)) u0 hu0 (List.replicate 19 []::h) (S41.wk2 aN (aC ⟨[],by simp,aM 0 rfl⟩ aN)))
 ·intro r42_3 v45 H43 S44
  refine .ext (bound_all_a0_0 _ _ _ _ _) ?_
  obtain ⟨v52,H47,e48,h50,S49⟩:=S44.expFrz (i:=0) (τ:=0::1::σ) rfl rfl
  exact .fin (S49.finE (Ex.st e48 Ex.nil)) ⟨v52,h50,rfl⟩
end
end Go.Ev
namespace Go.Ev
open Go.Proofs
set_option linter.unusedVariables false
set_option linter.unusedSimpArgs false
set_option maxRecDepth 100000
noncomputable section
abbrev KT26:=Exit→Env→H→Option (List C × H)
variable (rec : CallF) (loop : LoopV) (σ : Stamp)
def bound_next_c0 : Code:=(codeAt (bodyOf Try.f125) [1,1,0,1,0,0])
def bound_next_l0 : Lv:=⟨88,48,[(0,88)]⟩
def bound_next_k0 : KT26:=(kBlock 0 (kSeq G rec loop (codeAt (bodyOf Try.f125) [1,1,1]) ⟨48,48,[]⟩ (1::1::0::σ) (finC G false Try.f125 (1::σ))))
theorem bound_next_entry (x0 : V) (x1 : V) (h : H) : cvBody G rec loop 125 σ [x0,x1] h =
(boxO false (0::0::0::σ) 3 (List.replicate 53 []::h) x1).bind fun q1 =>
(some (alO [.p (.int .u32 0),.p (.int .u64 0),.p (.int .i64 0)] (1::0::0::σ) 4 q1.2)).bind fun q2 =>
(lenO x0).bind fun t3 =>
(castI .i64 t3).bind fun n4 =>
(loop bound_next_c0 bound_next_l0 (1::0::1::1::0::σ) (envL [(3,q1.1),(4,q2.1),(6,(.p (.slice .none 0 0))),(10,x0),(11,(.p (.int .i64 n4))),(12,(.p (.int .i64 0)))]) q2.2).bind fun r5 => bound_next_k0 rec loop σ r5.1 r5.2.1 r5.2.2:=by kernel_rfl
theorem bound_next_r0 (x3 : V) (x4 : V) (x6 : V) (x10 : V) (x11 : Int) (x12 : Int) (h : H) : cvRound G rec loop bound_next_c0 bound_next_l0 σ (envL [(3,x3),(4,x4),(6,x6),(10,x10),(11,(.p (.int .i64 x11))),(12,(.p (.int .i64 x12)))]) h =
bif decide (x12 < x11) then (
(iS 3 x10 x12).bind fun t6 =>
(ldO true 3 h t6).bind fun t7 =>
(some (alO [.p (.int .u32 0),.p (.int .u64 0),.p (.int .i64 0)] (2::0::0::1::1::0::σ) 8 h)).bind fun q8 =>
((stO false 3 (3::0::0::1::1::0::σ) q8.2 q8.1 t7).map fun h => (udf,h)).bind fun q9 =>
(fA q8.1 2).bind fun t10 =>
(ldO false 1 q9.2 t10).bind fun t11 =>
(castI .i64 t11).bind fun n12 =>
(fA x3 2).bind fun t13 =>
(ldO false 1 q9.2 t13).bind fun t14 =>
(castI .i64 t14).bind fun n15 =>
bif decide (n12 > n15) then (
(ldO true 3 q9.2 q8.1).bind fun t16 =>
(bSV Try.prog 28 1 [(0,t16)]).bind fun t17 =>
(apO false 3 24 (3::1::1::0::1::1::0::σ) 24 q9.2 x6 t17).bind fun q18 =>
loop bound_next_c0 bound_next_l0 (1::σ) (envL [(3,x3),(4,x4),(6,q18.1),(10,x10),(11,(.p (.int .i64 x11))),(12,(.p (.int .i64 (IntKind.wrap .i64 (x12 + 1)))))]) q18.2)
else (
loop bound_next_c0 bound_next_l0 (1::σ) (envL [(3,x3),(4,x4),(6,x6),(10,x10),(11,(.p (.int .i64 x11))),(12,(.p (.int .i64 (IntKind.wrap .i64 (x12 + 1)))))]) q9.2))
else (
some ((.exit 0),(envL [(3,x3),(4,x4),(6,x6)]),h)):=by kernel_rfl
theorem bound_next_a0_0 (x3 : V) (x4 : V) (x6 : V) (h : H) : bound_next_k0 rec loop σ (.exit 0) (envL [(3,x3),(4,x4),(6,x6)]) h =
(lenO x6).bind fun t19 =>
(castI .i64 t19).bind fun n20 =>
bif n20 == 0 then (
(buildV Try.prog 57 []).bind fun t21 =>
((stO false 3 (1::0::1::0::1::1::1::0::σ) h x4 t21).map fun h => (udf,h)).bind fun q22 =>
((ldO true 3 q22.2 x4).bind fun t23 => ((some []).map ((.p (.bool false))::·)).map (t23::·)).bind fun t24 => fin false σ q22.2 t24)
else (
(callO rec 122 (2::0::1::1::1::1::0::σ) [x6,(.clo 149 [x3])] h (some 32)).bind fun q25 =>
(some (alO [.p (.int .u32 0),.p (.int .u64 0),.p (.int .i64 0)] (3::0::1::1::1::1::0::σ) 9 q25.2)).bind fun q26 =>
((stO false 3 (4::0::1::1::1::1::0::σ) q26.2 q26.1 q25.1).map fun h => (udf,h)).bind fun q27 =>
(ldO true 3 q27.2 q26.1).bind fun t28 =>
(fA x3 1).bind fun t29 =>
(ldO false 1 q27.2 t29).bind fun t30 =>
(castI .u64 t30).bind fun n31 =>
(fA q26.1 2).bind fun t32 =>
(ldO false 1 q27.2 t32).bind fun t33 =>
(castI .i64 t33).bind fun n34 =>
(fA x3 2).bind fun t35 =>
(ldO false 1 q27.2 t35).bind fun t36 =>
(castI .i64 t36).bind fun n37 =>
(fA x3 2).bind fun t38 =>
(ldO false 1 q27.2 t38).bind fun t39 =>
(castI .i64 t39).bind fun n40 =>
(fA q26.1 1).bind fun t41 =>
(ldO false 1 q27.2 t41).bind fun t42 =>
(castI .u64 t42).bind fun n43 =>
(fA x3 1).bind fun t44 =>
(ldO false 1 q27.2 t44).bind fun t45 =>
(castI .u64 t45).bind fun n46 =>
((stO false 3 (20::0::1::1::1::1::1::0::σ) q27.2 x4 t28).map fun h => (udf,h)).bind fun q47 =>
need (ldO false 1 q47.2 t44 = some (.p (.int .u64 n46))) (
need (ldO false 1 q47.2 t41 = some (.p (.int .u64 n43))) (
need ((some (.p (.int .u64 (IntKind.wrap .u64 n40))) : Option V) = some (.p (.int .u64 (IntKind.wrap .u64 n40)))) (
need (ldO false 1 q47.2 t38 = some (.p (.int .i64 n40))) (
need ((some (.p (.int .u64 (IntKind.wrap .u64 (IntKind.wrap .i64 (n34 - n37))))) : Option V) = some (.p (.int .u64 (IntKind.wrap .u64 (IntKind.wrap .i64 (n34 - n37)))))) (
need (ldO false 1 q47.2 t35 = some (.p (.int .i64 n37))) (
need (ldO false 1 q47.2 t32 = some (.p (.int .i64 n34))) (
need (ldO false 1 q47.2 t29 = some (.p (.int .u64 n31))) (
((ldO true 3 q47.2 x4).bind fun t48 => ((some []).map ((.p (.bool (decide ((IntKind.wrap .u64 (n31 * (IntKind.wrap .u64 (IntKind.wrap .i64 (n34 - n37))))) > (IntKind.wrap .u64 ((IntKind.wrap .u64 n40) * (IntKind.wrap .u64 (n43 - n46))))))))::·)).map (t48::·)).bind fun t49 => fin false σ q47.2 t49))))))))):=by kernel_rfl
def slices_MinFunc_Lapi_Tuple_api_Tuple_c0 : Code:=(codeAt (bodyOf Try.f122) [1,1,1,0,1,0,0])
def slices_MinFunc_Lapi_Tuple_api_Tuple_l0 : Lv:=⟨48,16,[(0,48)]⟩
def slices_MinFunc_Lapi_Tuple_api_Tuple_k0 : KT26:=(kBlock 0 (kSeq G rec loop (codeAt (bodyOf Try.f122) [1,1,1,1]) ⟨16,16,[]⟩ (1::1::1::0::σ) (finC G false Try.f122 (1::σ))))
theorem slices_MinFunc_Lapi_Tuple_api_Tuple_entry (x0 : V) (x1 : V) (h : H) : cvBody G rec loop 122 σ [x0,x1] h =
(some (alO [.p (.int .u32 0),.p (.int .u64 0),.p (.int .i64 0)] (0::0::0::σ) 4 (List.replicate 33 []::h))).bind fun q1 =>
(lenO x0).bind fun t2 =>
(castI .i64 t2).bind fun n3 =>
bif decide (n3 < 1) then (
none)
else (
(iS 3 x0 0).bind fun t4 =>
(ldO true 3 q1.2 t4).bind fun t5 =>
(some (alO [.p (.int .u32 0),.p (.int .u64 0),.p (.int .i64 0)] (3::0::1::1::0::σ) 5 q1.2)).bind fun q6 =>
((stO false 3 (4::0::1::1::0::σ) q6.2 q6.1 t5).map fun h => (udf,h)).bind fun q7 =>
(loop slices_MinFunc_Lapi_Tuple_api_Tuple_c0 slices_MinFunc_Lapi_Tuple_api_Tuple_l0 (1::0::1::1::1::0::σ) (envL [(0,x0),(1,x1),(4,q1.1),(5,q6.1),(6,(.p (.int .i64 1)))]) q7.2).bind fun r8 => slices_MinFunc_Lapi_Tuple_api_Tuple_k0 rec loop σ r8.1 r8.2.1 r8.2.2):=by kernel_rfl
theorem slices_MinFunc_Lapi_Tuple_api_Tuple_r0 (x0 : V) (x1 : V) (x4 : V) (x5 : V) (x6 : Int) (h : H) : cvRound G rec loop slices_MinFunc_Lapi_Tuple_api_Tuple_c0 slices_MinFunc_Lapi_Tuple_api_Tuple_l0 σ (envL [(0,x0),(1,x1),(4,x4),(5,x5),(6,(.p (.int .i64 x6)))]) h =
(lenO x0).bind fun t9 =>
(castI .i64 t9).bind fun n10 =>
bif decide (x6 < n10) then (
(iS 3 x0 x6).bind fun t11 =>
(ldO true 3 h t11).bind fun t12 =>
(ldO true 3 h x5).bind fun t13 =>
(cloO rec x1 (6::0::0::1::0::σ) [t12,t13] h (some 26)).bind fun q14 =>
(castI .i64 q14.1).bind fun n15 =>
bif decide (n15 < 0) then (
(iS 3 x0 x6).bind fun t16 =>
(ldO true 3 q14.2 t16).bind fun t17 =>
((stO false 3 (4::1::0::1::0::σ) q14.2 x5 t17).map fun h => (udf,h)).bind fun q18 =>
loop slices_MinFunc_Lapi_Tuple_api_Tuple_c0 slices_MinFunc_Lapi_Tuple_api_Tuple_l0 (1::σ) (envL [(0,x0),(1,x1),(4,x4),(5,x5),(6,(.p (.int .i64 (IntKind.wrap .i64 (x6 + 1)))))]) q18.2)
else (
loop slices_MinFunc_Lapi_Tuple_api_Tuple_c0 slices_MinFunc_Lapi_Tuple_api_Tuple_l0 (1::σ) (envL [(0,x0),(1,x1),(4,x4),(5,x5),(6,(.p (.int .i64 (IntKind.wrap .i64 (x6 + 1)))))]) q14.2))
else (
some ((.exit 0),(envL [(4,x4),(5,x5)]),h)):=by kernel_rfl
theorem slices_MinFunc_Lapi_Tuple_api_Tuple_a0_0 (x4 : V) (x5 : V) (h : H) : slices_MinFunc_Lapi_Tuple_api_Tuple_k0 rec loop σ (.exit 0) (envL [(4,x4),(5,x5)]) h =
(ldO true 3 h x5).bind fun t19 =>
((stO false 3 (1::0::1::1::1::1::0::σ) h x4 t19).map fun h => (udf,h)).bind fun q20 =>
((ldO true 3 q20.2 x4).bind fun t21 => (some []).map (t21::·)).bind fun t22 => fin false σ q20.2 t22:=by kernel_rfl
theorem bound_next_1_entry (x0 : V) (x1 : V) (x2 : V) (h : H) : cvBody G rec loop 149 σ [x0,x1,x2] h =
(boxO false (0::0::0::σ) 3 (List.replicate 36 []::h) x0).bind fun q1 =>
(boxO false (1::0::0::σ) 4 q1.2 x1).bind fun q2 =>
(fA q1.1 1).bind fun t3 =>
(ldO false 1 q2.2 t3).bind fun t4 =>
(castI .u64 t4).bind fun n5 =>
(fA x2 1).bind fun t6 =>
(ldO false 1 q2.2 t6).bind fun t7 =>
(castI .u64 t7).bind fun n8 =>
(fA q2.1 2).bind fun t9 =>
(ldO false 1 q2.2 t9).bind fun t10 =>
(castI .i64 t10).bind fun n11 =>
(fA x2 2).bind fun t12 =>
(ldO false 1 q2.2 t12).bind fun t13 =>
(castI .i64 t13).bind fun n14 =>
(fA q2.1 1).bind fun t15 =>
(ldO false 1 q2.2 t15).bind fun t16 =>
(castI .u64 t16).bind fun n17 =>
(fA x2 1).bind fun t18 =>
(ldO false 1 q2.2 t18).bind fun t19 =>
(castI .u64 t19).bind fun n20 =>
(fA q1.1 2).bind fun t21 =>
(ldO false 1 q2.2 t21).bind fun t22 =>
(castI .i64 t22).bind fun n23 =>
(fA x2 2).bind fun t24 =>
(ldO false 1 q2.2 t24).bind fun t25 =>
(castI .i64 t25).bind fun n26 =>
(ldO true 3 q2.2 q1.1).bind fun t27 =>
(ldO true 3 q2.2 q2.1).bind fun t28 =>
(callO rec 117 (24::0::1::0::σ) [(.p (.int .u64 (IntKind.wrap .u64 ((IntKind.wrap .u64 (n5 - n8)) * (IntKind.wrap .u64 (IntKind.wrap .i64 (n11 - n14))))))),(.p (.int .u64 (IntKind.wrap .u64 ((IntKind.wrap .u64 (n17 - n20)) * (IntKind.wrap .u64 (IntKind.wrap .i64 (n23 - n26)))))))] q2.2 (some 30)).bind fun q29 =>
(castI .i64 q29.1).bind fun n30 =>
need (ldO true 3 q29.2 q2.1 = some t28) (
need (ldO true 3 q29.2 q1.1 = some t27) (
(callO rec 124 (27::0::1::0::σ) [t27,t28] q29.2 (some 33)).bind fun q31 =>
(castI .i64 q31.1).bind fun n32 =>
(bSV Try.prog 23 2 [(0,(.p (.int .i64 n30))),(1,(.p (.int .i64 n32)))]).bind fun t33 =>
(callO rec 115 (29::0::1::0::σ) [t33] q31.2 (some 35)).bind fun q34 =>
(castI .i64 q34.1).bind fun n35 =>
fin false σ q34.2 [(.p (.int .i64 n35))])):=by kernel_rfl
theorem bound_ties_entry (x0 : V) (x1 : V) (h : H) : cvBody G rec loop 124 σ [x0,x1] h =
(boxO false (0::0::0::σ) 2 (List.replicate 17 []::h) x0).bind fun q1 =>
(boxO false (1::0::0::σ) 3 q1.2 x1).bind fun q2 =>
(fA q2.1 2).bind fun t3 =>
(ldO false 1 q2.2 t3).bind fun t4 =>
(castI .i64 t4).bind fun n5 =>
(fA q1.1 2).bind fun t6 =>
(ldO false 1 q2.2 t6).bind fun t7 =>
(castI .i64 t7).bind fun n8 =>
(fA q1.1 0).bind fun t9 =>
(ldO false 1 q2.2 t9).bind fun t10 =>
(castI .u32 t10).bind fun n11 =>
(fA q2.1 0).bind fun t12 =>
(ldO false 1 q2.2 t12).bind fun t13 =>
(castI .u32 t13).bind fun n14 =>
(callO rec 148 (4::0::1::0::σ) [(.p (.int .i64 n5)),(.p (.int .i64 n8))] q2.2 (some 9)).bind fun q15 =>
(castI .i64 q15.1).bind fun n16 =>
need (ldO false 1 q15.2 t12 = some (.p (.int .u32 n14))) (
need (ldO false 1 q15.2 t9 = some (.p (.int .u32 n11))) (
(callO rec 72 (9::0::1::0::σ) [(.p (.int .u32 n11)),(.p (.int .u32 n14))] q15.2 (some 14)).bind fun q17 =>
(castI .i64 q17.1).bind fun n18 =>
(bSV Try.prog 23 2 [(0,(.p (.int .i64 n16))),(1,(.p (.int .i64 n18)))]).bind fun t19 =>
(callO rec 115 (11::0::1::0::σ) [t19] q17.2 (some 16)).bind fun q20 =>
(castI .i64 q20.1).bind fun n21 =>
fin false σ q20.2 [(.p (.int .i64 n21))])):=by kernel_rfl
theorem cmp_Compare_int_entry (x0 : Int) (x1 : Int) (h : H) : cvBody G rec loop 148 σ [(.p (.int .i64 x0)),(.p (.int .i64 x1))] h =
(callO rec 166 (1::0::1::0::σ) [(.p (.int .i64 x0))] (List.replicate 20 []::h) (some 8)).bind fun q1 =>
(asB q1.1).bind fun b2 =>
(callO rec 166 (1::0::1::1::0::σ) [(.p (.int .i64 x1))] q1.2 (some 10)).bind fun q3 =>
(asB q3.1).bind fun b4 =>
bif b2 then (
bif b4 then (
fin false σ q3.2 [(.p (.int .i64 0))])
else (
fin false σ q3.2 [(.p (.int .i64 (-1)))]))
else (
bif b4 then (
fin false σ q3.2 [(.p (.int .i64 1))])
else (
bif decide (x0 < x1) then (
fin false σ q3.2 [(.p (.int .i64 (-1)))])
else (
bif decide (x0 > x1) then (
fin false σ q3.2 [(.p (.int .i64 1))])
else (
fin false σ q3.2 [(.p (.int .i64 0))])))):=by kernel_rfl
theorem cmp_isNaN_int_entry (x0 : Int) (h : H) : cvBody G rec loop 166 σ [(.p (.int .i64 x0))] h =
fin false σ (List.replicate 6 []::h) [(.p (.bool (x0 != x0)))]:=by kernel_rfl
end
end Go.Ev
namespace Go.Ev
open Go.Proofs
set_option linter.unusedVariables false
set_option linter.unusedSimpArgs false
set_option maxRecDepth 100000
section
variable {β α : Type} {Q : β→α→Prop} {K : Exit × Env × H→Option α}
def p_cmp_isNaN_int (x0 : Int) : Option (Bool) :=
some ((x0 != x0))
theorem cmp_isNaN_int_ok {h : H} {σ : Stamp} (x0 : Int) : Sim (p_cmp_isNaN_int x0) (ev G X0 166 σ [(.p (.int .i64 x0))] h) (fun r s => s = ([.v (.p (.bool r))],h)):=by
 refine .ev rfl (Sim.ext (cmp_isNaN_int_entry _ _ _ _ _) ?_)
 rw [p_cmp_isNaN_int]
 have S0 : Fm 6 h [] [] [] (List.replicate 6 []::h):=Fm.start0
 exact .fin (S0.finN (lC (sB _).lv lN)) rfl
def p_cmp_Compare_int (x0 : Int) (x1 : Int) : Option (Int) :=
(p_cmp_isNaN_int x0).bind fun r1 =>
(p_cmp_isNaN_int x1).bind fun r6 =>
bif r1 then (
bif r6 then (
some (0))
else (
some ((-1))))
else (
bif r6 then (
some (1))
else (
bif decide (x0 < x1) then (
some ((-1)))
else (
bif decide (x0 > x1) then (
some (1))
else (
some (0)))))
theorem cmp_Compare_int_ok {h : H} {σ : Stamp} (x0 : Int) (x1 : Int) : Sim (p_cmp_Compare_int x0 x1) (ev G X0 148 σ [(.p (.int .i64 x0)),(.p (.int .i64 x1))] h) (fun r s => s = ([.v (.p (.int .i64 r))],h)):=by
 refine .ev rfl (Sim.ext (cmp_Compare_int_entry _ _ _ _ _ _) ?_)
 rw [p_cmp_Compare_int]
 have S0 : Fm 20 h [] [] [] (List.replicate 20 []::h):=Fm.start0
 refine .call (cmp_isNaN_int_ok x0) fun r1 cs2 H3 h4 q5 => ?_
 cases q5
 refine .ab ?_
 refine .call (cmp_isNaN_int_ok x1) fun r6 cs7 H8 h9 q10 => ?_
 cases q10
 refine .ab ?_
 refine .cq ?_ ?_
 ·refine .cq ?_ ?_
  ·exact .fin (S0.finN (lC (sI _ _).lv lN)) rfl
  exact .fin (S0.finN (lC (sI _ _).lv lN)) rfl
 refine .cq ?_ ?_
 ·exact .fin (S0.finN (lC (sI _ _).lv lN)) rfl
 refine .cq ?_ ?_
 ·exact .fin (S0.finN (lC (sI _ _).lv lN)) rfl
 refine .cq ?_ ?_
 ·exact .fin (S0.finN (lC (sI _ _).lv lN)) rfl
 exact .fin (S0.finN (lC (sI _ _).lv lN)) rfl
def p_bound_ties (k : Nat) (x0 : TaiTuple) (x1 : TaiTuple) : Option (Int) :=
(p_cmp_Compare_int x1.Over x0.Over).bind fun r9 =>
(p_cmp_Compare_uint32 x0.Owner x1.Owner).bind fun r14 =>
(p_cmp_Or_int k ([r9,r14])).bind fun r20 =>
some (r20)
theorem bound_ties_ok (k : Nat) {h : H} {σ : Stamp} (x0 : TaiTuple) {u0 : List V} (hu0 : dTaiTuple.R x0 u0) (x1 : TaiTuple) {u1 : List V} (hu1 : dTaiTuple.R x1 u1) : Sim (p_bound_ties k x0 x1) (ev G X0 124 σ [(.agg u0),(.agg u1)] h) (fun r s => s = ([.v (.p (.int .i64 r))],h)):=by
 refine .ev rfl (Sim.ext (bound_ties_entry _ _ _ _ _ _) ?_)
 rw [p_bound_ties]
 obtain rfl:=dTaiTuple.inv hu0
 obtain rfl:=dTaiTuple.inv hu1
 have S0 : Fm 17 h [] [] [] (List.replicate 17 []::h):=Fm.start0
 obtain ⟨H1,e2,S3⟩:=S0.box (own:=false) (d:=2) (s:=(0::0::0::σ)) (xs:=[(.p (.int .u32 x0.Owner)),(.p (.int .u64 x0.Rate)),(.p (.int .i64 x0.Over))]) (sC (sI _ _) (sC (sI _ _) (sC (sI _ _) sN))) (by decide) rfl
 refine .op (e2) ?_
 obtain ⟨H5,e6,S7⟩:=S3.box (own:=false) (d:=3) (s:=(1::0::0::σ)) (xs:=[(.p (.int .u32 x1.Owner)),(.p (.int .u64 x1.Rate)),(.p (.int .i64 x1.Over))]) (sC (sI _ _) (sC (sI _ _) (sC (sI _ _) sN))) (by decide) rfl
 refine .op (e6) ?_
 refine .fa ?_
 refine .op ((S7.atG (i:=0) rfl).ld (j:=2) rfl) ?_
 refine .ci ?_
 refine .fa ?_
 refine .op ((S7.atG (i:=1) rfl).ld (j:=2) rfl) ?_
 refine .ci ?_
 refine .fa ?_
 refine .op ((S7.atG (i:=1) rfl).ld (j:=0) rfl) ?_
 refine .ci ?_
 refine .fa ?_
 refine .op ((S7.atG (i:=0) rfl).ld (j:=0) rfl) ?_
 refine .ci ?_
 refine .call (cmp_Compare_int_ok x1.Over x0.Over) fun r9 cs10 H11 h12 q13 => ?_
 cases q13
 refine .ci ?_
 refine .nd ((S7.atG (i:=0) rfl).ld (j:=0) rfl) ?_
 refine .nd ((S7.atG (i:=1) rfl).ld (j:=0) rfl) ?_
 refine .call (cmp_Compare_uint32_ok x0.Owner x1.Owner) fun r14 cs15 H16 h17 q18 => ?_
 cases q18
 refine .ci ?_
 have h19 : SlF (dI .i64) [r9,r14] (.fz [(.p (.int .i64 r9)),(.p (.int .i64 r14))] 2 1 true):=SlF.lit (cs:=[(.p (.int .i64 r9)),(.p (.int .i64 r14))]) (RL.cons (show (dI .i64).R r9 [(.p (.int .i64 r9))] from rfl) (RL.cons (show (dI .i64).R r14 [(.p (.int .i64 r14))] from rfl) RL.nil)) rfl rfl true
 refine .op (bldS (pC rfl (pC rfl pN)) (by kernel_rfl : _ = some (vOf h19))) ?_
 refine .call (cmp_Or_int_ok k ([r9,r14]) (h19.h H5)) fun r20 cs21 H22 h23 q24 => ?_
 cases q24
 refine .ci ?_
 exact .fin (S7.finN (lC (sI _ _).lv lN)) rfl
def p_bound_next_1 (k : Nat) (x0 : TaiTuple) (x1 : TaiTuple) (x2 : TaiTuple) : Option (Int) :=
(p_cmp_Compare_uint64 (IntKind.wrap .u64 ((IntKind.wrap .u64 (x0.Rate - x2.Rate)) * (IntKind.wrap .u64 (IntKind.wrap .i64 (x1.Over - x2.Over))))) (IntKind.wrap .u64 ((IntKind.wrap .u64 (x1.Rate - x2.Rate)) * (IntKind.wrap .u64 (IntKind.wrap .i64 (x0.Over - x2.Over)))))).bind fun r9 =>
(p_bound_ties k x0 x1).bind fun r14 =>
(p_cmp_Or_int k ([r9,r14])).bind fun r20 =>
some (r20)
theorem bound_next_1_ok (k : Nat) {h : H} {σ : Stamp} (x0 : TaiTuple) {u0 : List V} (hu0 : dTaiTuple.R x0 u0) (x1 : TaiTuple) {u1 : List V} (hu1 : dTaiTuple.R x1 u1) (x2 : TaiTuple)  {l2 : Loc} {o2 : Nat} (ha2 : AtC h l2 o2 (List.map C.v [(.p (.int .u32 x2.Owner)),(.p (.int .u64 x2.Rate)),(.p (.int .i64 x2.Over))])) : Sim (p_bound_next_1 k x0 x1 x2) (ev G X0 149 σ [(.agg u0),(.agg u1),(.ref l2 o2)] h) (fun r s => s = ([.v (.p (.int .i64 r))],h)):=by
 refine .ev rfl (Sim.ext (bound_next_1_entry _ _ _ _ _ _ _) ?_)
 rw [p_bound_next_1]
 obtain rfl:=dTaiTuple.inv hu0
 obtain rfl:=dTaiTuple.inv hu1
 have S0 : Fm 36 h [] [] [] (List.replicate 36 []::h):=Fm.start0
 obtain ⟨H1,e2,S3⟩:=S0.box (own:=false) (d:=3) (s:=(0::0::0::σ)) (xs:=[(.p (.int .u32 x0.Owner)),(.p (.int .u64 x0.Rate)),(.p (.int .i64 x0.Over))]) (sC (sI _ _) (sC (sI _ _) (sC (sI _ _) sN))) (by decide) rfl
 refine .op (e2) ?_
 obtain ⟨H5,e6,S7⟩:=S3.box (own:=false) (d:=4) (s:=(1::0::0::σ)) (xs:=[(.p (.int .u32 x1.Owner)),(.p (.int .u64 x1.Rate)),(.p (.int .i64 x1.Over))]) (sC (sI _ _) (sC (sI _ _) (sC (sI _ _) sN))) (by decide) rfl
 refine .op (e6) ?_
 refine .fa ?_
 refine .op ((S7.atG (i:=1) rfl).ld (j:=1) rfl) ?_
 refine .ci ?_
 refine .fa ?_
 refine .op ((S7.lowA ha2).ld (j:=1) rfl) ?_
 refine .ci ?_
 refine .fa ?_
 refine .op ((S7.atG (i:=0) rfl).ld (j:=2) rfl) ?_
 refine .ci ?_
 refine .fa ?_
 refine .op ((S7.lowA ha2).ld (j:=2) rfl) ?_
 refine .ci ?_
 refine .fa ?_
 refine .op ((S7.atG (i:=0) rfl).ld (j:=1) rfl) ?_
 refine .ci ?_
 refine .fa ?_
 refine .op ((S7.lowA ha2).ld (j:=1) rfl) ?_
 refine .ci ?_
 refine .fa ?_
 refine .op ((S7.atG (i:=1) rfl).ld (j:=2) rfl) ?_
 refine .ci ?_
 refine .fa ?_
 refine .op ((S7.lowA ha2).ld (j:=2) rfl) ?_
 refine .ci ?_
 refine .op ((S7.atG (i:=1) rfl).ldVs (j:=0) (xs:=[(.p (.int .u32 x0.Owner)),(.p (.int .u64 x0.Rate)),(.p (.int .i64 x0.Over))]) rfl rfl (by decide)) ?_
 refine .op ((S7.atG (i:=0) rfl).ldVs (j:=0) (xs:=[(.p (.int .u32 x1.Owner)),(.p (.int .u64 x1.Rate)),(.p (.int .i64 x1.Over))]) rfl rfl (by decide)) ?_
 refine .call (cmp_Compare_uint64_ok (IntKind.wrap .u64 ((IntKind.wrap .u64 (x0.Rate - x2.Rate)) * (IntKind.wrap .u64 (IntKind.wrap .i64 (x1.Over - x2.Over))))) (IntKind.wrap .u64 ((IntKind.wrap .u64 (x1.Rate - x2.Rate)) * (IntKind.wrap .u64 (IntKind.wrap .i64 (x0.Over - x2.Over)))))) fun r9 cs10 H11 h12 q13 => ?_
 cases q13
 refine .ci ?_
 refine .nd ((S7.atG (i:=0) rfl).ldVs (j:=0) (xs:=[(.p (.int .u32 x1.Owner)),(.p (.int .u64 x1.Rate)),(.p (.int .i64 x1.Over))]) rfl rfl (by decide)) ?_
 refine .nd ((S7.atG (i:=1) rfl).ldVs (j:=0) (xs:=[(.p (.int .u32 x0.Owner)),(.p (.int .u64 x0.Rate)),(.p (.int .i64 x0.Over))]) rfl rfl (by decide)) ?_
 refine .call (bound_ties_ok k x0 hu0 x1 hu1) fun r14 cs15 H16 h17 q18 => ?_
 cases q18
 refine .ci ?_
 have h19 : SlF (dI .i64) [r9,r14] (.fz [(.p (.int .i64 r9)),(.p (.int .i64 r14))] 2 1 true):=SlF.lit (cs:=[(.p (.int .i64 r9)),(.p (.int .i64 r14))]) (RL.cons (show (dI .i64).R r9 [(.p (.int .i64 r9))] from rfl) (RL.cons (show (dI .i64).R r14 [(.p (.int .i64 r14))] from rfl) RL.nil)) rfl rfl true
 refine .op (bldS (pC rfl (pC rfl pN)) (by kernel_rfl : _ = some (vOf h19))) ?_
 refine .call (cmp_Or_int_ok k ([r9,r14]) (h19.h H5)) fun r20 cs21 H22 h23 q24 => ?_
 cases q24
 refine .ci ?_
 exact .fin (S7.finN (lC (sI _ _).lv lN)) rfl
def p_slices_MinFunc_Lapi_Tuple_api_Tuple_bound_next_1_l0 {β : Type} (k : Nat) (kE0 : TaiTuple→TaiTuple→Option β) (x0 : (List TaiTuple)) (x1c0 : TaiTuple) (x6 : Int) (yg4 : TaiTuple) (yg14 : TaiTuple) : Option β:=match k with
| 0 => none
| k + 1 =>
bif decide (x6 < ((x0.length : Int))) then (
(ix x0 x6).bind fun a31 =>
(p_bound_next_1 k a31 yg14 x1c0).bind fun r36 =>
bif decide (r36 < 0) then (
(ix x0 x6).bind fun a42 =>
p_slices_MinFunc_Lapi_Tuple_api_Tuple_bound_next_1_l0 k kE0 x0 x1c0 (IntKind.wrap .i64 (x6 + 1)) yg4 a42)
else (
p_slices_MinFunc_Lapi_Tuple_api_Tuple_bound_next_1_l0 k kE0 x0 x1c0 (IntKind.wrap .i64 (x6 + 1)) yg4 yg14))
else (
kE0 yg4 yg14)
def p_slices_MinFunc_Lapi_Tuple_api_Tuple_bound_next_1 (k : Nat) (x0 : (List TaiTuple)) (x1c0 : TaiTuple) : Option (TaiTuple) :=
bif decide (((x0.length : Int)) < 1) then (
none)
else (
(ix x0 0).bind fun a6 =>
p_slices_MinFunc_Lapi_Tuple_api_Tuple_bound_next_1_l0 k (fun yg27 yg29 =>
some (yg29)) x0 x1c0 1 ((⟨0,0,0⟩ : TaiTuple)) a6)
theorem slices_MinFunc_Lapi_Tuple_api_Tuple_bound_next_1_l0_ok {h : H}  {kE0 : TaiTuple→TaiTuple→Option β} (hE0 : ∀ (yg27 : TaiTuple) (yg29 : TaiTuple) (s52 : Stamp) (s54 : Stamp) (H50 : Go.Ev.H) (_ : Fm 33 h [] [(4,s52,List.map C.v [(.p (.int .u32 yg27.Owner)),(.p (.int .u64 yg27.Rate)),(.p (.int .i64 yg27.Over))]),(5,s54,List.map C.v [(.p (.int .u32 yg29.Owner)),(.p (.int .u64 yg29.Rate)),(.p (.int .i64 yg29.Over))])] [] H50),Sim (kE0 yg27 yg29) (K ((.exit 0),(envL [(4,(.ref ⟨h.length,4,0,s52,[]⟩ 0)),(5,(.ref ⟨h.length,5,0,s54,[]⟩ 0))]),H50)) Q) (k : Nat) : ∀ (x0 : (List TaiTuple)) (x1c0 : TaiTuple) (x6 : Int) (yg4 : TaiTuple) (yg14 : TaiTuple) (v20 : V) (h21 : SlH h dTaiTuple x0 v20) (lr22 : Loc) (or23 : Nat) (har24 : AtC h lr22 or23 (List.map C.v [(.p (.int .u32 x1c0.Owner)),(.p (.int .u64 x1c0.Rate)),(.p (.int .i64 x1c0.Over))])) (s26 : Stamp) (s28 : Stamp) (H18 : Go.Ev.H) (_ : Fm 33 h [] [(4,s26,List.map C.v [(.p (.int .u32 yg4.Owner)),(.p (.int .u64 yg4.Rate)),(.p (.int .i64 yg4.Over))]),(5,s28,List.map C.v [(.p (.int .u32 yg14.Owner)),(.p (.int .u64 yg14.Rate)),(.p (.int .i64 yg14.Over))])] [] H18) {σ : Stamp},Sim (p_slices_MinFunc_Lapi_Tuple_api_Tuple_bound_next_1_l0 k kE0 x0 x1c0 x6 yg4 yg14) ((cvL G X0 slices_MinFunc_Lapi_Tuple_api_Tuple_c0 slices_MinFunc_Lapi_Tuple_api_Tuple_l0 σ (envL [(0,v20),(1,(.clo 149 [(.ref lr22 or23)])),(4,(.ref ⟨h.length,4,0,s26,[]⟩ 0)),(5,(.ref ⟨h.length,5,0,s28,[]⟩ 0)),(6,(.p (.int .i64 x6)))]) H18).bind K) Q:=by
 induction k with
 | zero => intros; exact .no
 | succ k ih =>
  intro x0 x1c0 x6 yg4 yg14 v20 h21 lr22 or23 har24 s26 s28 H18 S19 σ
  rw [p_slices_MinFunc_Lapi_Tuple_api_Tuple_bound_next_1_l0]
  refine .round (Sim.ext (slices_MinFunc_Lapi_Tuple_api_Tuple_r0 _ _ _ _ _ _ _ _ _) ?_)
  refine .op ((S19.low h21).len) ?_
  refine .ci ?_
  refine .cq ?_ ?_
  ·refine .bd fun a31 h32 => ?_
   refine .op ((S19.low h21).iS h32 rfl) ?_
   obtain ⟨w34,h35,hE33⟩:=(S19.low h21).el h32 rfl
   obtain rfl:=dTaiTuple.inv h35
   refine .op (hE33.all (by simp)) ?_
   refine .op ((S19.atG (i:=1) rfl).ldVs (j:=0) (xs:=[.p (.int .u32 yg14.Owner),.p (.int .u64 yg14.Rate),.p (.int .i64 yg14.Over)]) rfl rfl (by decide)) ?_
   refine .clo ?_
   refine .call (bound_next_1_ok k a31 (show dTaiTuple.R a31 [.p (.int .u32 a31.Owner),.p (.int .u64 a31.Rate),.p (.int .i64 a31.Over)] from (dTaiTuple.mk)) yg14 (show dTaiTuple.R yg14 [.p (.int .u32 yg14.Owner),.p (.int .u64 yg14.Rate),.p (.int .i64 yg14.Over)] from (dTaiTuple.mk)) x1c0 (S19.lowA har24)) fun r36 cs37 H38 h39 q40 => ?_
   cases q40
   refine .ci ?_
   refine .cq ?_ ?_
   ·refine .bd fun a42 h43 => ?_
    refine .op ((S19.low h21).iS h43 rfl) ?_
    obtain ⟨w45,h46,hE44⟩:=(S19.low h21).el h43 rfl
    obtain rfl:=dTaiTuple.inv h46
    refine .op (hE44.all (by simp)) ?_
    obtain ⟨H47,e48,S49⟩:=S19.stGv (i:=1) (j:=0) (own:=false) (σ:=(4::1::0::1::0::σ)) (xs:=[.p (.int .u32 a42.Owner),.p (.int .u64 a42.Rate),.p (.int .i64 a42.Over)]) rfl rfl (sC (sI _ _) (sC (sI _ _) (sC (sI _ _) sN))) rfl rfl
    refine .op (sM e48) ?_
    exact ih x0 x1c0 (IntKind.wrap .i64 (x6 + 1)) yg4 a42 v20 h21 lr22 or23 har24 s26 s28 H47 (S49.wk2 (aC (aM 0 rfl) (aC (aM 1 rfl) aN)) aN)
   exact ih x0 x1c0 (IntKind.wrap .i64 (x6 + 1)) yg4 yg14 v20 h21 lr22 or23 har24 s26 s28 H18 (S19.wk2 (aC (aM 0 rfl) (aC (aM 1 rfl) aN)) aN)
  exact hE0 yg4 yg14 s26 s28 H18 (S19.wk2 (aC (aM 0 rfl) (aC (aM 1 rfl) aN)) aN)
theorem slices_MinFunc_Lapi_Tuple_api_Tuple_bound_next_1_ok (k : Nat) {h : H} {σ : Stamp} (x0 : List TaiTuple) {u0 : V} (hu0 : SlH h dTaiTuple x0 u0) (x1c0 : TaiTuple)  {l1c0 : Loc} {o1c0 : Nat} (ha1c0 : AtC h l1c0 o1c0 (List.map C.v [(.p (.int .u32 x1c0.Owner)),(.p (.int .u64 x1c0.Rate)),(.p (.int .i64 x1c0.Over))])) : Sim (p_slices_MinFunc_Lapi_Tuple_api_Tuple_bound_next_1 k x0 x1c0) (ev G X0 122 σ [u0,(.clo 149 [(.ref l1c0 o1c0)])] h) (fun r s => ∃ (w0 : List V),dTaiTuple.R r w0∧s = ([.v (.agg w0)],h)):=by
 refine .ev rfl (Sim.ext (slices_MinFunc_Lapi_Tuple_api_Tuple_entry _ _ _ _ _ _) ?_)
 rw [p_slices_MinFunc_Lapi_Tuple_api_Tuple_bound_next_1]
 have S0 : Fm 33 h [] [] [] (List.replicate 33 []::h):=Fm.start0
 obtain ⟨H1,e2,S3⟩:=S0.al (d:=4) (s:=(0::0::0::σ)) (z:=[(.p (.int .u32 0)),(.p (.int .u64 0)),(.p (.int .i64 0))]) (by decide) rfl
 refine .op (congrArg some e2) ?_
 refine .op ((S3.low hu0).len) ?_
 refine .ci ?_
 refine .cq ?_ ?_
 ·exact .no
 refine .bd fun a6 h7 => ?_
 refine .op ((S3.low hu0).iS h7 rfl) ?_
 obtain ⟨w9,h10,hE8⟩:=(S3.low hu0).el h7 rfl
 obtain rfl:=dTaiTuple.inv h10
 refine .op (hE8.all (by simp)) ?_
 obtain ⟨H11,e12,S13⟩:=S3.al (d:=5) (s:=(3::0::1::1::0::σ)) (z:=[(.p (.int .u32 0)),(.p (.int .u64 0)),(.p (.int .i64 0))]) (by decide) rfl
 refine .op (congrArg some e12) ?_
 obtain ⟨H15,e16,S17⟩:=S13.stGv (i:=0) (j:=0) (own:=false) (σ:=(4::0::1::1::0::σ)) (xs:=[.p (.int .u32 a6.Owner),.p (.int .u64 a6.Rate),.p (.int .i64 a6.Over)]) rfl rfl (sC (sI _ _) (sC (sI _ _) (sC (sI _ _) sN))) rfl rfl
 refine .op (sM e16) ?_
 refine .as (slices_MinFunc_Lapi_Tuple_api_Tuple_bound_next_1_l0_ok ?_ k x0 x1c0 1 ((⟨0,0,0⟩ : TaiTuple)) a6 u0 hu0 l1c0 o1c0 ha1c0 (0::0::0::σ) (3::0::1::1::0::σ) H15 (S17.wk2 (aC (aM 1 rfl) (aC (aM 0 rfl) aN)) aN))
 ·intro yg27 yg29 s59 s61 H57 S58
  refine .ext (slices_MinFunc_Lapi_Tuple_api_Tuple_a0_0 _ _ _ _ _ _) ?_
  refine .op ((S58.atG (i:=1) rfl).ldVs (j:=0) (xs:=[.p (.int .u32 yg29.Owner),.p (.int .u64 yg29.Rate),.p (.int .i64 yg29.Over)]) rfl rfl (by decide)) ?_
  obtain ⟨H63,e64,S65⟩:=S58.stGv (i:=0) (j:=0) (own:=false) (σ:=(1::0::1::1::1::1::0::σ)) (xs:=[.p (.int .u32 yg29.Owner),.p (.int .u64 yg29.Rate),.p (.int .i64 yg29.Over)]) rfl rfl (sC (sI _ _) (sC (sI _ _) (sC (sI _ _) sN))) rfl rfl
  refine .op (sM e64) ?_
  have e66 : ldO true 3 H63 (.ref ⟨h.length,4,0,s59,[]⟩ 0) = some (.agg [.p (.int .u32 yg29.Owner),.p (.int .u64 yg29.Rate),.p (.int .i64 yg29.Over)]):=(S65.atG (i:=0) rfl).ldVs (j:=0) rfl rfl (by decide)
  refine .op (congrArg (Option.bind · _) e66) ?_
  exact .fin (S65.finN (lC (Stills.lv (dTaiTuple.still (dTaiTuple.mk))) lN)) ⟨_,(dTaiTuple.mk),rfl⟩
def p_bound_next_l0 {β : Type} (k : Nat) (kE0 : (List TaiTuple)→TaiTuple→TaiTuple→Option β) (x6 : (List TaiTuple)) (x10 : (List TaiTuple)) (x11 : Int) (x12 : Int) (yg4 : TaiTuple) (yg8 : TaiTuple) : Option β:=match k with
| 0 => none
| k + 1 =>
bif decide (x12 < x11) then (
(ix x10 x12).bind fun a22 =>
bif decide (a22.Over > yg4.Over) then (
(ap 24 x6 ([a22])).bind fun a36 =>
p_bound_next_l0 k kE0 a36 x10 x11 (IntKind.wrap .i64 (x12 + 1)) yg4 yg8)
else (
p_bound_next_l0 k kE0 x6 x10 x11 (IntKind.wrap .i64 (x12 + 1)) yg4 yg8))
else (
kE0 x6 yg4 yg8)
def p_bound_next (k : Nat) (x0 : (List TaiTuple)) (x1 : TaiTuple) : Option (TaiTuple × Bool) :=
p_bound_next_l0 k (fun r52_6 yg18 yg20 =>
bif ((r52_6.length : Int)) == 0 then (
some (((⟨0,0,0⟩ : TaiTuple)),false))
else (
(p_slices_MinFunc_Lapi_Tuple_api_Tuple_bound_next_1 k r52_6 yg18).bind fun r66 =>
some (r66,(decide ((IntKind.wrap .u64 (yg18.Rate * (IntKind.wrap .u64 (IntKind.wrap .i64 (r66.Over - yg18.Over))))) > (IntKind.wrap .u64 ((IntKind.wrap .u64 yg18.Over) * (IntKind.wrap .u64 (r66.Rate - yg18.Rate))))))))) (([] : List TaiTuple)) x0 ((x0.length : Int)) 0 x1 ((⟨0,0,0⟩ : TaiTuple))
theorem bound_next_l0_ok {h : H}  {kE0 : (List TaiTuple)→TaiTuple→TaiTuple→Option β} (hE0 : ∀ (q6 : (List TaiTuple)) (yg18 : TaiTuple) (yg20 : TaiTuple) (v44 : V) (s46 : Stamp) (s48 : Stamp) (H42 : Go.Ev.H) (_ : Fm 53 h [] [(3,s46,List.map C.v [(.p (.int .u32 yg18.Owner)),(.p (.int .u64 yg18.Rate)),(.p (.int .i64 yg18.Over))]),(4,s48,List.map C.v [(.p (.int .u32 yg20.Owner)),(.p (.int .u64 yg20.Rate)),(.p (.int .i64 yg20.Over))])] [⟨[24],v44,dTaiTuple,q6⟩] H42),Sim (kE0 q6 yg18 yg20) (K ((.exit 0),(envL [(3,(.ref ⟨h.length,3,0,s46,[]⟩ 0)),(4,(.ref ⟨h.length,4,0,s48,[]⟩ 0)),(6,v44)]),H42)) Q) (k : Nat) : ∀ (x6 : (List TaiTuple)) (x10 : (List TaiTuple)) (x11 : Int) (x12 : Int) (yg4 : TaiTuple) (yg8 : TaiTuple) (v13 : V) (v15 : V) (h16 : SlH h dTaiTuple x10 v15) (s17 : Stamp) (s19 : Stamp) (H11 : Go.Ev.H) (_ : Fm 53 h [] [(3,s17,List.map C.v [(.p (.int .u32 yg4.Owner)),(.p (.int .u64 yg4.Rate)),(.p (.int .i64 yg4.Over))]),(4,s19,List.map C.v [(.p (.int .u32 yg8.Owner)),(.p (.int .u64 yg8.Rate)),(.p (.int .i64 yg8.Over))])] [⟨[24],v13,dTaiTuple,x6⟩] H11) {σ : Stamp},Sim (p_bound_next_l0 k kE0 x6 x10 x11 x12 yg4 yg8) ((cvL G X0 bound_next_c0 bound_next_l0 σ (envL [(3,(.ref ⟨h.length,3,0,s17,[]⟩ 0)),(4,(.ref ⟨h.length,4,0,s19,[]⟩ 0)),(6,v13),(10,v15),(11,(.p (.int .i64 x11))),(12,(.p (.int .i64 x12)))]) H11).bind K) Q:=by
 induction k with
 | zero => intros; exact .no
 | succ k ih =>
  intro x6 x10 x11 x12 yg4 yg8 v13 v15 h16 s17 s19 H11 S12 σ
  rw [p_bound_next_l0]
  refine .round (Sim.ext (bound_next_r0 _ _ _ _ _ _ _ _ _ _) ?_)
  refine .cq ?_ ?_
  ·refine .bd fun a22 h23 => ?_
   refine .op ((S12.low h16).iS h23 rfl) ?_
   obtain ⟨w25,h26,hE24⟩:=(S12.low h16).el h23 rfl
   obtain rfl:=dTaiTuple.inv h26
   refine .op (hE24.all (by simp)) ?_
   obtain ⟨H27,e28,S29⟩:=S12.al (d:=8) (s:=(2::0::0::1::1::0::σ)) (z:=[(.p (.int .u32 0)),(.p (.int .u64 0)),(.p (.int .i64 0))]) (by decide) rfl
   refine .op (congrArg some e28) ?_
   obtain ⟨H31,e32,S33⟩:=S29.stGv (i:=0) (j:=0) (own:=false) (σ:=(3::0::0::1::1::0::σ)) (xs:=[.p (.int .u32 a22.Owner),.p (.int .u64 a22.Rate),.p (.int .i64 a22.Over)]) rfl rfl (sC (sI _ _) (sC (sI _ _) (sC (sI _ _) sN))) rfl rfl
   refine .op (sM e32) ?_
   refine .fa ?_
   refine .op ((S33.atG (i:=0) rfl).ld (j:=2) rfl) ?_
   refine .ci ?_
   refine .fa ?_
   refine .op ((S33.atG (i:=1) rfl).ld (j:=2) rfl) ?_
   refine .ci ?_
   refine .cq ?_ ?_
   ·refine .op ((S33.atG (i:=0) rfl).ldVs (j:=0) (xs:=[.p (.int .u32 a22.Owner),.p (.int .u64 a22.Rate),.p (.int .i64 a22.Over)]) rfl rfl (by decide)) ?_
    have h35 : SlF dTaiTuple [a22] (.fz [(.p (.int .u32 a22.Owner)),(.p (.int .u64 a22.Rate)),(.p (.int .i64 a22.Over))] 1 3 true):=SlF.lit (cs:=[(.p (.int .u32 a22.Owner)),(.p (.int .u64 a22.Rate)),(.p (.int .i64 a22.Over))]) (RL.cons (show dTaiTuple.R a22 [.p (.int .u32 a22.Owner),.p (.int .u64 a22.Rate),.p (.int .i64 a22.Over)] from (dTaiTuple.mk)) RL.nil) rfl rfl true
    refine .op (bldS (pC (c:=[.p (.int .u32 a22.Owner),.p (.int .u64 a22.Rate),.p (.int .i64 a22.Over)]) rfl pN) (by kernel_rfl : _ = some (vOf h35))) ?_
    refine .bd fun a36 h37 => ?_
    obtain ⟨v38,H39,e40,S41⟩:=S33.app (i:=0) (d:=24) (e:=3) (own:=false) (σ:=(3::1::1::0::1::1::0::σ)) rfl (h35.h H31).y h37 rfl (by decide) (by decide) rfl
    refine .op (e40) ?_
    exact ih a36 x10 x11 (IntKind.wrap .i64 (x12 + 1)) yg4 yg8 v38 v15 h16 s17 s19 H39 (S41.wk2 (aC (aM 1 rfl) (aC (aM 2 rfl) aN)) (aC ⟨[24,24],by simp,aM 0 rfl⟩ aN))
   exact ih x6 x10 x11 (IntKind.wrap .i64 (x12 + 1)) yg4 yg8 v13 v15 h16 s17 s19 H31 (S33.wk2 (aC (aM 1 rfl) (aC (aM 2 rfl) aN)) (aC ⟨[24],by simp,aM 0 rfl⟩ aN))
  exact hE0 x6 yg4 yg8 v13 s17 s19 H11 (S12.wk2 (aC (aM 0 rfl) (aC (aM 1 rfl) aN)) (aC ⟨[24],by simp,aM 0 rfl⟩ aN))
theorem bound_next_ok (k : Nat) {h : H} {σ : Stamp} (x0 : List TaiTuple) {u0 : V} (hu0 : SlH h dTaiTuple x0 u0) (x1 : TaiTuple) {u1 : List V} (hu1 : dTaiTuple.R x1 u1) : Sim (p_bound_next k x0 x1) (ev G X0 125 σ [u0,(.agg u1)] h) (fun r s => ∃ (w0 : List V),dTaiTuple.R r.1 w0∧s = ([.v (.agg w0),.v (.p (.bool r.2))],h)):=by
 refine .ev rfl (Sim.ext (bound_next_entry _ _ _ _ _ _) ?_)
 rw [p_bound_next]
 obtain rfl:=dTaiTuple.inv hu1
 have S0 : Fm 53 h [] [] [] (List.replicate 53 []::h):=Fm.start0
 obtain ⟨H1,e2,S3⟩:=S0.box (own:=false) (d:=3) (s:=(0::0::0::σ)) (xs:=[(.p (.int .u32 x1.Owner)),(.p (.int .u64 x1.Rate)),(.p (.int .i64 x1.Over))]) (sC (sI _ _) (sC (sI _ _) (sC (sI _ _) sN))) (by decide) rfl
 refine .op (e2) ?_
 obtain ⟨H5,e6,S7⟩:=S3.al (d:=4) (s:=(1::0::0::σ)) (z:=[(.p (.int .u32 0)),(.p (.int .u64 0)),(.p (.int .i64 0))]) (by decide) rfl
 refine .op (congrArg some e6) ?_
 refine .op ((S7.low hu0).len) ?_
 refine .ci ?_
 have S51:=S7.nil dTaiTuple []
 refine .as (bound_next_l0_ok ?_ k (([] : List TaiTuple)) x0 ((x0.length : Int)) 0 x1 ((⟨0,0,0⟩ : TaiTuple)) (.p (.slice none 0 0)) u0 hu0 (0::0::0::σ) (1::0::0::σ) H5 (S51.wk2 (aC (aM 1 rfl) (aC (aM 0 rfl) aN)) (aC ⟨[],by simp,aM 0 rfl⟩ aN)))
 ·intro r52_6 yg18 yg20 v55 s57 s59 H53 S54
  refine .ext (bound_next_a0_0 _ _ _ _ _ _ _) ?_
  refine .op ((S54.sl (i:=0) rfl).len) ?_
  refine .ci ?_
  refine .cq ?_ ?_
  ·refine .op (bldV pN (by kernel_rfl : _ = some (.agg [.p (.int .u32 0),.p (.int .u64 0),.p (.int .i64 0)]))) ?_
   obtain ⟨H62,e63,S64⟩:=S54.stGv (i:=1) (j:=0) (own:=false) (σ:=(1::0::1::0::1::1::1::0::σ)) (xs:=[.p (.int .u32 0),.p (.int .u64 0),.p (.int .i64 0)]) rfl rfl (sC (sI _ _) (sC (sI _ _) (sC (sI _ _) sN))) rfl rfl
   refine .op (sM e63) ?_
   have e65 : ldO true 3 H62 (.ref ⟨h.length,4,0,s59,[]⟩ 0) = some (.agg [.p (.int .u32 0),.p (.int .u64 0),.p (.int .i64 0)]):=(S64.atG (i:=1) rfl).ldVs (j:=0) rfl rfl (by decide)
   refine .op (congrArg (Option.bind · _) e65) ?_
   exact .fin (S64.finN (lC (Stills.lv (dTaiTuple.still (dTaiTuple.mk))) (lC (sB _).lv lN))) ⟨_,(dTaiTuple.mk),rfl⟩
  refine .call (slices_MinFunc_Lapi_Tuple_api_Tuple_bound_next_1_ok k r52_6 (S54.sl (i:=0) rfl) yg18 (S54.atG (i:=0) rfl)) fun r66 cs67 H68 h69 q70 => ?_
  obtain ⟨w71,h72,q70⟩:=q70
  cases q70
  obtain rfl:=dTaiTuple.inv h72
  obtain ⟨H73,e74,S75⟩:=S54.al (d:=9) (s:=(3::0::1::1::1::1::0::σ)) (z:=[(.p (.int .u32 0)),(.p (.int .u64 0)),(.p (.int .i64 0))]) (by decide) rfl
  refine .op (congrArg some e74) ?_
  obtain ⟨H77,e78,S79⟩:=S75.stGv (i:=0) (j:=0) (own:=false) (σ:=(4::0::1::1::1::1::0::σ)) (xs:=[(.p (.int .u32 r66.Owner)),(.p (.int .u64 r66.Rate)),(.p (.int .i64 r66.Over))]) rfl rfl (sC (sI _ _) (sC (sI _ _) (sC (sI _ _) sN))) rfl rfl
  refine .op (sM e78) ?_
  refine .op ((S79.atG (i:=0) rfl).ldVs (j:=0) (xs:=[(.p (.int .u32 r66.Owner)),(.p (.int .u64 r66.Rate)),(.p (.int .i64 r66.Over))]) rfl rfl (by decide)) ?_
  refine .fa ?_
  refine .op ((S79.atG (i:=1) rfl).ld (j:=1) rfl) ?_
  refine .ci ?_
  refine .fa ?_
  refine .op ((S79.atG (i:=0) rfl).ld (j:=2) rfl) ?_
  refine .ci ?_
  refine .fa ?_
  refine .op ((S79.atG (i:=1) rfl).ld (j:=2) rfl) ?_
  refine .ci ?_
  refine .fa ?_
  refine .op ((S79.atG (i:=1) rfl).ld (j:=2) rfl) ?_
  refine .ci ?_
  refine .fa ?_
  refine .op ((S79.atG (i:=0) rfl).ld (j:=1) rfl) ?_
  refine .ci ?_
  refine .fa ?_
  refine .op ((S79.atG (i:=1) rfl).ld (j:=1) rfl) ?_
  refine .ci ?_
  obtain ⟨H80,e81,S82⟩:=S79.stGv (i:=2) (j:=0) (own:=false) (σ:=(20::0::1::1::1::1::1::0::σ)) (xs:=[(.p (.int .u32 r66.Owner)),(.p (.int .u64 r66.Rate)),(.p (.int .i64 r66.Over))]) rfl rfl (sC (sI _ _) (sC (sI _ _) (sC (sI _ _) sN))) rfl rfl
  refine .op (sM e81) ?_
  refine .nd ((S82.atG (i:=1) rfl).ld (j:=1) rfl) ?_
  refine .nd ((S82.atG (i:=0) rfl).ld (j:=1) rfl) ?_
  refine .nd (rfl) ?_
  refine .nd ((S82.atG (i:=1) rfl).ld (j:=2) rfl) ?_
  refine .nd (rfl) ?_
  refine .nd ((S82.atG (i:=1) rfl).ld (j:=2) rfl) ?_
  refine .nd ((S82.atG (i:=0) rfl).ld (j:=2) rfl) ?_
  refine .nd ((S82.atG (i:=1) rfl).ld (j:=1) rfl) ?_
  have e83 : ldO true 3 H80 (.ref ⟨h.length,4,0,s59,[]⟩ 0) = some (.agg [(.p (.int .u32 r66.Owner)),(.p (.int .u64 r66.Rate)),(.p (.int .i64 r66.Over))]):=(S82.atG (i:=2) rfl).ldVs (j:=0) rfl rfl (by decide)
  refine .op (congrArg (Option.bind · _) e83) ?_
  exact .fin (S82.finN (lC (Stills.lv (dTaiTuple.still h72)) (lC (sB _).lv lN))) ⟨_,h72,rfl⟩
end
end Go.Ev
namespace Go.Ev
open Go.Proofs
set_option linter.unusedVariables false
set_option linter.unusedSimpArgs false
set_option maxRecDepth 100000
noncomputable section
abbrev KT27:=Exit→Env→H→Option (List C × H)
variable (rec : CallF) (loop : LoopV) (σ : Stamp)
theorem bound_Set_1_entry (x0 : V) (x1 : V) (h : H) : cvBody G rec loop 123 σ [x0,x1] h =
(boxO false (0::0::0::σ) 2 (List.replicate 15 []::h) x0).bind fun q1 =>
(boxO false (1::0::0::σ) 3 q1.2 x1).bind fun q2 =>
(fA q1.1 1).bind fun t3 =>
(ldO false 1 q2.2 t3).bind fun t4 =>
(castI .u64 t4).bind fun n5 =>
(fA q2.1 1).bind fun t6 =>
(ldO false 1 q2.2 t6).bind fun t7 =>
(castI .u64 t7).bind fun n8 =>
(ldO true 3 q2.2 q1.1).bind fun t9 =>
(ldO true 3 q2.2 q2.1).bind fun t10 =>
(callO rec 117 (4::0::1::0::σ) [(.p (.int .u64 n5)),(.p (.int .u64 n8))] q2.2 (some 9)).bind fun q11 =>
(castI .i64 q11.1).bind fun n12 =>
need (ldO true 3 q11.2 q2.1 = some t10) (
need (ldO true 3 q11.2 q1.1 = some t9) (
(callO rec 124 (7::0::1::0::σ) [t9,t10] q11.2 (some 12)).bind fun q13 =>
(castI .i64 q13.1).bind fun n14 =>
(bSV Try.prog 23 2 [(0,(.p (.int .i64 n12))),(1,(.p (.int .i64 n14)))]).bind fun t15 =>
(callO rec 115 (9::0::1::0::σ) [t15] q13.2 (some 14)).bind fun q16 =>
(castI .i64 q16.1).bind fun n17 =>
fin false σ q16.2 [(.p (.int .i64 n17))])):=by kernel_rfl
end
end Go.Ev
namespace Go.Ev
open Go.Proofs
set_option linter.unusedVariables false
set_option linter.unusedSimpArgs false
set_option maxRecDepth 100000
section
variable {β α : Type} {Q : β→α→Prop} {K : Exit × Env × H→Option α}
def p_bound_Set_1 (k : Nat) (x0 : TaiTuple) (x1 : TaiTuple) : Option (Int) :=
(p_cmp_Compare_uint64 x0.Rate x1.Rate).bind fun r9 =>
(p_bound_ties k x0 x1).bind fun r14 =>
(p_cmp_Or_int k ([r9,r14])).bind fun r20 =>
some (r20)
theorem bound_Set_1_ok (k : Nat) {h : H} {σ : Stamp} (x0 : TaiTuple) {u0 : List V} (hu0 : dTaiTuple.R x0 u0) (x1 : TaiTuple) {u1 : List V} (hu1 : dTaiTuple.R x1 u1) : Sim (p_bound_Set_1 k x0 x1) (ev G X0 123 σ [(.agg u0),(.agg u1)] h) (fun r s => s = ([.v (.p (.int .i64 r))],h)):=by
 refine .ev rfl (Sim.ext (bound_Set_1_entry _ _ _ _ _ _) ?_)
 rw [p_bound_Set_1]
 obtain rfl:=dTaiTuple.inv hu0
 obtain rfl:=dTaiTuple.inv hu1
 have S0 : Fm 15 h [] [] [] (List.replicate 15 []::h):=Fm.start0
 obtain ⟨H1,e2,S3⟩:=S0.box (own:=false) (d:=2) (s:=(0::0::0::σ)) (xs:=[(.p (.int .u32 x0.Owner)),(.p (.int .u64 x0.Rate)),(.p (.int .i64 x0.Over))]) (sC (sI _ _) (sC (sI _ _) (sC (sI _ _) sN))) (by decide) rfl
 refine .op (e2) ?_
 obtain ⟨H5,e6,S7⟩:=S3.box (own:=false) (d:=3) (s:=(1::0::0::σ)) (xs:=[(.p (.int .u32 x1.Owner)),(.p (.int .u64 x1.Rate)),(.p (.int .i64 x1.Over))]) (sC (sI _ _) (sC (sI _ _) (sC (sI _ _) sN))) (by decide) rfl
 refine .op (e6) ?_
 refine .fa ?_
 refine .op ((S7.atG (i:=1) rfl).ld (j:=1) rfl) ?_
 refine .ci ?_
 refine .fa ?_
 refine .op ((S7.atG (i:=0) rfl).ld (j:=1) rfl) ?_
 refine .ci ?_
 refine .op ((S7.atG (i:=1) rfl).ldVs (j:=0) (xs:=[(.p (.int .u32 x0.Owner)),(.p (.int .u64 x0.Rate)),(.p (.int .i64 x0.Over))]) rfl rfl (by decide)) ?_
 refine .op ((S7.atG (i:=0) rfl).ldVs (j:=0) (xs:=[(.p (.int .u32 x1.Owner)),(.p (.int .u64 x1.Rate)),(.p (.int .i64 x1.Over))]) rfl rfl (by decide)) ?_
 refine .call (cmp_Compare_uint64_ok x0.Rate x1.Rate) fun r9 cs10 H11 h12 q13 => ?_
 cases q13
 refine .ci ?_
 refine .nd ((S7.atG (i:=0) rfl).ldVs (j:=0) (xs:=[(.p (.int .u32 x1.Owner)),(.p (.int .u64 x1.Rate)),(.p (.int .i64 x1.Over))]) rfl rfl (by decide)) ?_
 refine .nd ((S7.atG (i:=1) rfl).ldVs (j:=0) (xs:=[(.p (.int .u32 x0.Owner)),(.p (.int .u64 x0.Rate)),(.p (.int .i64 x0.Over))]) rfl rfl (by decide)) ?_
 refine .call (bound_ties_ok k x0 hu0 x1 hu1) fun r14 cs15 H16 h17 q18 => ?_
 cases q18
 refine .ci ?_
 have h19 : SlF (dI .i64) [r9,r14] (.fz [(.p (.int .i64 r9)),(.p (.int .i64 r14))] 2 1 true):=SlF.lit (cs:=[(.p (.int .i64 r9)),(.p (.int .i64 r14))]) (RL.cons (show (dI .i64).R r9 [(.p (.int .i64 r9))] from rfl) (RL.cons (show (dI .i64).R r14 [(.p (.int .i64 r14))] from rfl) RL.nil)) rfl rfl true
 refine .op (bldS (pC rfl (pC rfl pN)) (by kernel_rfl : _ = some (vOf h19))) ?_
 refine .call (cmp_Or_int_ok k ([r9,r14]) (h19.h H5)) fun r20 cs21 H22 h23 q24 => ?_
 cases q24
 refine .ci ?_
 exact .fin (S7.finN (lC (sI _ _).lv lN)) rfl
def p_slices_MinFunc_Lapi_Tuple_api_Tuple_bound_Set_1_l0 {β : Type} (k : Nat) (kE0 : TaiTuple→TaiTuple→Option β) (x0 : (List TaiTuple)) (x6 : Int) (yg4 : TaiTuple) (yg14 : TaiTuple) : Option β:=match k with
| 0 => none
| k + 1 =>
bif decide (x6 < ((x0.length : Int))) then (
(ix x0 x6).bind fun a27 =>
(p_bound_Set_1 k a27 yg14).bind fun r32 =>
bif decide (r32 < 0) then (
(ix x0 x6).bind fun a38 =>
p_slices_MinFunc_Lapi_Tuple_api_Tuple_bound_Set_1_l0 k kE0 x0 (IntKind.wrap .i64 (x6 + 1)) yg4 a38)
else (
p_slices_MinFunc_Lapi_Tuple_api_Tuple_bound_Set_1_l0 k kE0 x0 (IntKind.wrap .i64 (x6 + 1)) yg4 yg14))
else (
kE0 yg4 yg14)
def p_slices_MinFunc_Lapi_Tuple_api_Tuple_bound_Set_1 (k : Nat) (x0 : (List TaiTuple)) : Option (TaiTuple) :=
bif decide (((x0.length : Int)) < 1) then (
none)
else (
(ix x0 0).bind fun a6 =>
p_slices_MinFunc_Lapi_Tuple_api_Tuple_bound_Set_1_l0 k (fun yg23 yg25 =>
some (yg25)) x0 1 ((⟨0,0,0⟩ : TaiTuple)) a6)
theorem slices_MinFunc_Lapi_Tuple_api_Tuple_bound_Set_1_l0_ok {h : H}  {kE0 : TaiTuple→TaiTuple→Option β} (hE0 : ∀ (yg23 : TaiTuple) (yg25 : TaiTuple) (s48 : Stamp) (s50 : Stamp) (H46 : Go.Ev.H) (_ : Fm 33 h [] [(4,s48,List.map C.v [(.p (.int .u32 yg23.Owner)),(.p (.int .u64 yg23.Rate)),(.p (.int .i64 yg23.Over))]),(5,s50,List.map C.v [(.p (.int .u32 yg25.Owner)),(.p (.int .u64 yg25.Rate)),(.p (.int .i64 yg25.Over))])] [] H46),Sim (kE0 yg23 yg25) (K ((.exit 0),(envL [(4,(.ref ⟨h.length,4,0,s48,[]⟩ 0)),(5,(.ref ⟨h.length,5,0,s50,[]⟩ 0))]),H46)) Q) (k : Nat) : ∀ (x0 : (List TaiTuple)) (x6 : Int) (yg4 : TaiTuple) (yg14 : TaiTuple) (v20 : V) (h21 : SlH h dTaiTuple x0 v20) (s22 : Stamp) (s24 : Stamp) (H18 : Go.Ev.H) (_ : Fm 33 h [] [(4,s22,List.map C.v [(.p (.int .u32 yg4.Owner)),(.p (.int .u64 yg4.Rate)),(.p (.int .i64 yg4.Over))]),(5,s24,List.map C.v [(.p (.int .u32 yg14.Owner)),(.p (.int .u64 yg14.Rate)),(.p (.int .i64 yg14.Over))])] [] H18) {σ : Stamp},Sim (p_slices_MinFunc_Lapi_Tuple_api_Tuple_bound_Set_1_l0 k kE0 x0 x6 yg4 yg14) ((cvL G X0 slices_MinFunc_Lapi_Tuple_api_Tuple_c0 slices_MinFunc_Lapi_Tuple_api_Tuple_l0 σ (envL [(0,v20),(1,(.clo 123 [])),(4,(.ref ⟨h.length,4,0,s22,[]⟩ 0)),(5,(.ref ⟨h.length,5,0,s24,[]⟩ 0)),(6,(.p (.int .i64 x6)))]) H18).bind K) Q:=by
 induction k with
 | zero => intros; exact .no
 | succ k ih =>
  intro x0 x6 yg4 yg14 v20 h21 s22 s24 H18 S19 σ
  rw [p_slices_MinFunc_Lapi_Tuple_api_Tuple_bound_Set_1_l0]
  refine .round (Sim.ext (slices_MinFunc_Lapi_Tuple_api_Tuple_r0 _ _ _ _ _ _ _ _ _) ?_)
  refine .op ((S19.low h21).len) ?_
  refine .ci ?_
  refine .cq ?_ ?_
  ·refine .bd fun a27 h28 => ?_
   refine .op ((S19.low h21).iS h28 rfl) ?_
   obtain ⟨w30,h31,hE29⟩:=(S19.low h21).el h28 rfl
   obtain rfl:=dTaiTuple.inv h31
   refine .op (hE29.all (by simp)) ?_
   refine .op ((S19.atG (i:=1) rfl).ldVs (j:=0) (xs:=[.p (.int .u32 yg14.Owner),.p (.int .u64 yg14.Rate),.p (.int .i64 yg14.Over)]) rfl rfl (by decide)) ?_
   refine .clo ?_
   refine .call (bound_Set_1_ok k a27 (show dTaiTuple.R a27 [.p (.int .u32 a27.Owner),.p (.int .u64 a27.Rate),.p (.int .i64 a27.Over)] from (dTaiTuple.mk)) yg14 (show dTaiTuple.R yg14 [.p (.int .u32 yg14.Owner),.p (.int .u64 yg14.Rate),.p (.int .i64 yg14.Over)] from (dTaiTuple.mk))) fun r32 cs33 H34 h35 q36 => ?_
   cases q36
   refine .ci ?_
   refine .cq ?_ ?_
   ·refine .bd fun a38 h39 => ?_
    refine .op ((S19.low h21).iS h39 rfl) ?_
    obtain ⟨w41,h42,hE40⟩:=(S19.low h21).el h39 rfl
    obtain rfl:=dTaiTuple.inv h42
    refine .op (hE40.all (by simp)) ?_
    obtain ⟨H43,e44,S45⟩:=S19.stGv (i:=1) (j:=0) (own:=false) (σ:=(4::1::0::1::0::σ)) (xs:=[.p (.int .u32 a38.Owner),.p (.int .u64 a38.Rate),.p (.int .i64 a38.Over)]) rfl rfl (sC (sI _ _) (sC (sI _ _) (sC (sI _ _) sN))) rfl rfl
    refine .op (sM e44) ?_
    exact ih x0 (IntKind.wrap .i64 (x6 + 1)) yg4 a38 v20 h21 s22 s24 H43 (S45.wk2 (aC (aM 0 rfl) (aC (aM 1 rfl) aN)) aN)
   exact ih x0 (IntKind.wrap .i64 (x6 + 1)) yg4 yg14 v20 h21 s22 s24 H18 (S19.wk2 (aC (aM 0 rfl) (aC (aM 1 rfl) aN)) aN)
  exact hE0 yg4 yg14 s22 s24 H18 (S19.wk2 (aC (aM 0 rfl) (aC (aM 1 rfl) aN)) aN)
theorem slices_MinFunc_Lapi_Tuple_api_Tuple_bound_Set_1_ok (k : Nat) {h : H} {σ : Stamp} (x0 : List TaiTuple) {u0 : V} (hu0 : SlH h dTaiTuple x0 u0) : Sim (p_slices_MinFunc_Lapi_Tuple_api_Tuple_bound_Set_1 k x0) (ev G X0 122 σ [u0,(.clo 123 [])] h) (fun r s => ∃ (w0 : List V),dTaiTuple.R r w0∧s = ([.v (.agg w0)],h)):=by
 refine .ev rfl (Sim.ext (slices_MinFunc_Lapi_Tuple_api_Tuple_entry _ _ _ _ _ _) ?_)
 rw [p_slices_MinFunc_Lapi_Tuple_api_Tuple_bound_Set_1]
 have S0 : Fm 33 h [] [] [] (List.replicate 33 []::h):=Fm.start0
 obtain ⟨H1,e2,S3⟩:=S0.al (d:=4) (s:=(0::0::0::σ)) (z:=[(.p (.int .u32 0)),(.p (.int .u64 0)),(.p (.int .i64 0))]) (by decide) rfl
 refine .op (congrArg some e2) ?_
 refine .op ((S3.low hu0).len) ?_
 refine .ci ?_
 refine .cq ?_ ?_
 ·exact .no
 refine .bd fun a6 h7 => ?_
 refine .op ((S3.low hu0).iS h7 rfl) ?_
 obtain ⟨w9,h10,hE8⟩:=(S3.low hu0).el h7 rfl
 obtain rfl:=dTaiTuple.inv h10
 refine .op (hE8.all (by simp)) ?_
 obtain ⟨H11,e12,S13⟩:=S3.al (d:=5) (s:=(3::0::1::1::0::σ)) (z:=[(.p (.int .u32 0)),(.p (.int .u64 0)),(.p (.int .i64 0))]) (by decide) rfl
 refine .op (congrArg some e12) ?_
 obtain ⟨H15,e16,S17⟩:=S13.stGv (i:=0) (j:=0) (own:=false) (σ:=(4::0::1::1::0::σ)) (xs:=[.p (.int .u32 a6.Owner),.p (.int .u64 a6.Rate),.p (.int .i64 a6.Over)]) rfl rfl (sC (sI _ _) (sC (sI _ _) (sC (sI _ _) sN))) rfl rfl
 refine .op (sM e16) ?_
 refine .as (slices_MinFunc_Lapi_Tuple_api_Tuple_bound_Set_1_l0_ok ?_ k x0 1 ((⟨0,0,0⟩ : TaiTuple)) a6 u0 hu0 (0::0::0::σ) (3::0::1::1::0::σ) H15 (S17.wk2 (aC (aM 1 rfl) (aC (aM 0 rfl) aN)) aN))
 ·intro yg23 yg25 s55 s57 H53 S54
  refine .ext (slices_MinFunc_Lapi_Tuple_api_Tuple_a0_0 _ _ _ _ _ _) ?_
  refine .op ((S54.atG (i:=1) rfl).ldVs (j:=0) (xs:=[.p (.int .u32 yg25.Owner),.p (.int .u64 yg25.Rate),.p (.int .i64 yg25.Over)]) rfl rfl (by decide)) ?_
  obtain ⟨H59,e60,S61⟩:=S54.stGv (i:=0) (j:=0) (own:=false) (σ:=(1::0::1::1::1::1::0::σ)) (xs:=[.p (.int .u32 yg25.Owner),.p (.int .u64 yg25.Rate),.p (.int .i64 yg25.Over)]) rfl rfl (sC (sI _ _) (sC (sI _ _) (sC (sI _ _) sN))) rfl rfl
  refine .op (sM e60) ?_
  have e62 : ldO true 3 H59 (.ref ⟨h.length,4,0,s55,[]⟩ 0) = some (.agg [.p (.int .u32 yg25.Owner),.p (.int .u64 yg25.Rate),.p (.int .i64 yg25.Over)]):=(S61.atG (i:=0) rfl).ldVs (j:=0) rfl rfl (by decide)
  refine .op (congrArg (Option.bind · _) e62) ?_
  exact .fin (S61.finN (lC (Stills.lv (dTaiTuple.still (dTaiTuple.mk))) lN)) ⟨_,(dTaiTuple.mk),rfl⟩
def p_bound_Set_l0 {β : Type} (k : Nat) (kE0 : (List TaiTuple)→Option β) (x3 : (List TaiTuple)) (x5 : (List TaiTuple)) (x6 : Bool) (yg19 : TaiTuple) : Option β:=match k with
| 0 => none
| k + 1 =>
bif x6 then (
(ap 24 x5 ([yg19])).bind fun a35 =>
(p_bound_next k x3 yg19).bind fun r41 =>
p_bound_Set_l0 k kE0 x3 a35 r41.2 r41.1)
else (
kE0 x5)
def p_bound_Set (k : Nat) (x0 : (List TaiTuple)) : Option ((List TaiTuple)) :=
(p_bound_all k x0).bind fun r1 =>
bif ((r1.length : Int)) == 0 then (
some ((([] : List TaiTuple))))
else (
(p_slices_MinFunc_Lapi_Tuple_api_Tuple_bound_Set_1 k r1).bind fun r9 =>
p_bound_Set_l0 k (fun r57_5 =>
some (r57_5)) r1 (([] : List TaiTuple)) true r9)
theorem bound_Set_l0_ok {h : H}  {kE0 : (List TaiTuple)→Option β} (hE0 : ∀ (q5 : (List TaiTuple)) (v53 : V) (H51 : Go.Ev.H) (_ : Fm 27 h [] [] [⟨[24],v53,dTaiTuple,q5⟩] H51),Sim (kE0 q5) (K ((.exit 0),(envL [(5,v53)]),H51)) Q) (k : Nat) : ∀ (x3 : (List TaiTuple)) (x5 : (List TaiTuple)) (x6 : Bool) (yg19 : TaiTuple) (v27 : V) (h28 : SlF dTaiTuple x3 v27) (v29 : V) (s31 : Stamp) (H25 : Go.Ev.H) (_ : Fm 27 h [] [(4,s31,List.map C.v [(.p (.int .u32 yg19.Owner)),(.p (.int .u64 yg19.Rate)),(.p (.int .i64 yg19.Over))])] [⟨[24],v29,dTaiTuple,x5⟩] H25) {σ : Stamp},Sim (p_bound_Set_l0 k kE0 x3 x5 x6 yg19) ((cvL G X0 bound_Set_c0 bound_Set_l0 σ (envL [(3,v27),(4,(.ref ⟨h.length,4,0,s31,[]⟩ 0)),(5,v29),(6,(.p (.bool x6)))]) H25).bind K) Q:=by
 induction k with
 | zero => intros; exact .no
 | succ k ih =>
  intro x3 x5 x6 yg19 v27 h28 v29 s31 H25 S26 σ
  rw [p_bound_Set_l0]
  refine .round (Sim.ext (bound_Set_r0 _ _ _ _ _ _ _ _) ?_)
  refine .cq ?_ ?_
  ·refine .op ((S26.atG (i:=0) rfl).ldVs (j:=0) (xs:=[.p (.int .u32 yg19.Owner),.p (.int .u64 yg19.Rate),.p (.int .i64 yg19.Over)]) rfl rfl (by decide)) ?_
   have h34 : SlF dTaiTuple [yg19] (.fz [(.p (.int .u32 yg19.Owner)),(.p (.int .u64 yg19.Rate)),(.p (.int .i64 yg19.Over))] 1 3 true):=SlF.lit (cs:=[(.p (.int .u32 yg19.Owner)),(.p (.int .u64 yg19.Rate)),(.p (.int .i64 yg19.Over))]) (RL.cons (show dTaiTuple.R yg19 [.p (.int .u32 yg19.Owner),.p (.int .u64 yg19.Rate),.p (.int .i64 yg19.Over)] from (dTaiTuple.mk)) RL.nil) rfl rfl true
   refine .op (bldS (pC (c:=[.p (.int .u32 yg19.Owner),.p (.int .u64 yg19.Rate),.p (.int .i64 yg19.Over)]) rfl pN) (by kernel_rfl : _ = some (vOf h34))) ?_
   refine .bd fun a35 h36 => ?_
   obtain ⟨v37,H38,e39,S40⟩:=S26.app (i:=0) (d:=24) (e:=3) (own:=false) (σ:=(3::0::1::0::σ)) rfl (h34.h H25).y h36 rfl (by decide) (by decide) rfl
   refine .op (e39) ?_
   refine .op ((S40.atG (i:=0) rfl).ldVs (j:=0) (xs:=[.p (.int .u32 yg19.Owner),.p (.int .u64 yg19.Rate),.p (.int .i64 yg19.Over)]) rfl rfl (by decide)) ?_
   refine .call (bound_next_ok k x3 (h28.h H38) yg19 (show dTaiTuple.R yg19 [.p (.int .u32 yg19.Owner),.p (.int .u64 yg19.Rate),.p (.int .i64 yg19.Over)] from (dTaiTuple.mk))) fun r41 cs42 H43 h44 q45 => ?_
   obtain ⟨w46,h47,q45⟩:=q45
   cases q45
   obtain rfl:=dTaiTuple.inv h47
   refine .or ?_
   refine .or ?_
   refine .ab ?_
   obtain ⟨H48,e49,S50⟩:=S40.stGv (i:=0) (j:=0) (own:=false) (σ:=(6::1::1::0::σ)) (xs:=[(.p (.int .u32 r41.1.Owner)),(.p (.int .u64 r41.1.Rate)),(.p (.int .i64 r41.1.Over))]) rfl rfl (sC (sI _ _) (sC (sI _ _) (sC (sI _ _) sN))) rfl rfl
   refine .op (sM e49) ?_
   exact ih x3 a35 r41.2 r41.1 v27 h28 v37 s31 H48 (S50.wk2 (aC (aM 0 rfl) aN) (aC ⟨[24,24],by simp,aM 0 rfl⟩ aN))
  exact hE0 x5 v29 H25 (S26.wk2 aN (aC ⟨[24],by simp,aM 0 rfl⟩ aN))
theorem bound_Set_ok (k : Nat) {h : H} {σ : Stamp} (x0 : List TaiTuple) {u0 : V} (hu0 : SlH h dTaiTuple x0 u0) : Sim (p_bound_Set k x0) (ev G X0 83 σ [u0] h) (fun r s => ∃ (v0 : V),SlF dTaiTuple r v0∧s = ([.v v0],h)):=by
 refine .ev rfl (Sim.ext (bound_Set_entry _ _ _ _ _) ?_)
 rw [p_bound_Set]
 have S0 : Fm 27 h [] [] [] (List.replicate 27 []::h):=Fm.start0
 refine .call (bound_all_ok k x0 (S0.low hu0)) fun r1 cs2 H3 h4 q5 => ?_
 obtain ⟨v6,h7,q5⟩:=q5
 cases q5
 refine .op ((h7.h (List.replicate 27 []::h)).len) ?_
 refine .ci ?_
 refine .cq ?_ ?_
 ·exact .fin (S0.finN (lC (SlF.nil dTaiTuple).still.lv lN)) ⟨(.p (.slice none 0 0)),(SlF.nil dTaiTuple),rfl⟩
 refine .call (slices_MinFunc_Lapi_Tuple_api_Tuple_bound_Set_1_ok k r1 (h7.h (List.replicate 27 []::h))) fun r9 cs10 H11 h12 q13 => ?_
 obtain ⟨w14,h15,q13⟩:=q13
 cases q13
 obtain rfl:=dTaiTuple.inv h15
 obtain ⟨H16,e17,S18⟩:=S0.al (d:=4) (s:=(2::0::1::1::1::0::σ)) (z:=[(.p (.int .u32 0)),(.p (.int .u64 0)),(.p (.int .i64 0))]) (by decide) rfl
 refine .op (congrArg some e17) ?_
 obtain ⟨H20,e21,S22⟩:=S18.stGv (i:=0) (j:=0) (own:=false) (σ:=(3::0::1::1::1::0::σ)) (xs:=[(.p (.int .u32 r9.Owner)),(.p (.int .u64 r9.Rate)),(.p (.int .i64 r9.Over))]) rfl rfl (sC (sI _ _) (sC (sI _ _) (sC (sI _ _) sN))) rfl rfl
 refine .op (sM e21) ?_
 have S56:=S22.nil dTaiTuple []
 refine .as (bound_Set_l0_ok ?_ k r1 (([] : List TaiTuple)) true r9 v6 h7 (.p (.slice none 0 0)) (2::0::1::1::1::0::σ) H20 (S56.wk2 (aC (aM 0 rfl) aN) (aC ⟨[],by simp,aM 0 rfl⟩ aN)))
 ·intro r57_5 v60 H58 S59
  refine .ext (bound_Set_a0_0 _ _ _ _ _) ?_
  obtain ⟨v62,e63,S64⟩:=clip_D (G:=G) (X:=X0) (i:=0) (f:=81) (fun x h => slices_Clip_Lapi_Tuple_api_Tuple_entry _ _ _ x h) S59 rfl rfl rfl
  refine .op (e63) ?_
  obtain ⟨v70,H65,e66,h68,S67⟩:=S64.expFrz (i:=0) (τ:=0::1::σ) rfl rfl
  exact .fin (S67.finE (Ex.st e66 Ex.nil)) ⟨v70,h68,rfl⟩
def p_limit_Limit_Set_o (k : Nat) (x0 : T_limit_Limit) : Option ((List TaiTuple)) :=
(p_bound_Set k x0.tuples).bind fun r1 =>
some (r1)
theorem limit_Limit_Set_o_ok (k : Nat) {h : H} {σ : Stamp} (x0 : T_limit_Limit) {c0_3 : C} (hc0_3 : SoC dTaiTuple x0.tuples c0_3) (hn0_3 : Nn c0_3 3) {s0_4 : Stamp} {c0_4_0 : C} (hc0_4_0 : SoC dT_alarm_Due x0.ends.l c0_4_0) (hn0_4_0 : Nn c0_4_0 2) {l0 : Loc} {o0 : Nat} (ha0 : AtC h l0 o0 ([.v (.p (.int .i64 x0.cap)),.v (.p (.int .u64 x0.remb)),.v (.p (.bool x0.told)),c0_3,.own s0_4 ([c0_4_0])])) : Sim (p_limit_Limit_Set_o k x0) (ev G X0 41 σ [(.ref l0 o0)] h) (fun r s => ∃ (v0 : V),SlF dTaiTuple r v0∧s = ([.v v0],h)):=by
 refine .ev rfl (Sim.ext (limit_Limit_Set_entry _ _ _ _ _) ?_)
 rw [p_limit_Limit_Set_o]
 have S0 : Fm 8 h [] [] [] (List.replicate 8 []::h):=Fm.start0
 refine .nc ?_
 refine .fa ?_
 refine .op (hc0_3.ld (S0.lowA ha0) (j:=3) rfl) ?_
 refine .call (bound_Set_ok k x0.tuples (hc0_3.sl (S0.lowA ha0) (j:=3) rfl)) fun r1 cs2 H3 h4 q5 => ?_
 obtain ⟨v6,h7,q5⟩:=q5
 cases q5
 exact .fin (S0.finN (lC h7.still.lv lN)) ⟨v6,h7,rfl⟩
def p_zl14_known (k : Nat)  : Option (Bool) :=
(p_limit_New 5000).bind fun r1 =>
(p_limit_Limit_Rate_o k r1).bind fun r15 =>
(p_limit_Limit_Remb_o r1 80).bind fun r20 =>
(p_limit_Limit_Rate_o k r20).bind fun r30 =>
(p_limit_Limit_Tmmbr k r20 ((⟨3,16,1⟩ : TaiTuple)) 0).bind fun r35 =>
(p_limit_Limit_Rate_o k r35.2).bind fun r45 =>
(p_limit_Limit_Tick k r35.2 999999).bind fun r50 =>
(p_limit_Limit_Tick k r50.2 1000000).bind fun r60 =>
(bif r15 == 5000 then (some (r30 == 10)) else (some false)).bind fun b70 =>
(bif b70 then (some r35.1) else (some false)).bind fun b74 =>
(bif b74 then (some (r45 == 2)) else (some false)).bind fun b78 =>
(bif b78 then (some (r50.1 == 0)) else (some false)).bind fun b82 =>
(bif b82 then (some (r60.1 == 1)) else (some false)).bind fun b86 =>
(bif b86 then ((p_limit_Limit_Rate_o k r60.2).bind fun r90 =>
some (r90 == 10)) else (some false)).bind fun b95 =>
(bif b95 then ((p_limit_Limit_Tuples_o r60.2).bind fun r99 =>
some (((r99.length : Int)) == 0)) else (some false)).bind fun b106 =>
(bif b106 then ((p_limit_Limit_Set_o k r60.2).bind fun r110 =>
some (((r110.length : Int)) == 0)) else (some false)).bind fun b117 =>
some (b117)
theorem zl14_known_ok (k : Nat) {h : H} {σ : Stamp}  : Sim (p_zl14_known k ) (ev G X0 34 σ [] h) (fun r s => s = ([.v (.p (.bool r))],h)):=by
 refine .ev rfl (Sim.ext (zl14_known_entry _ _ _ _) ?_)
 rw [p_zl14_known]
 have S0 : Fm 64 h [] [] [] (List.replicate 64 []::h):=Fm.start0
 refine .call (limit_New_ok 5000) fun r1 cs2 H3 h4 q5 => ?_
 obtain ⟨s6,c7,s9,c9_0,h8,h9,hc9_0,hn9_0,q5⟩:=q5
 cases q5
 obtain ⟨H11,e12,S13⟩:=S0.landG (d:=8) (s:=s6) (cs:=[.v (.p (.int .i64 r1.cap)),.v (.p (.int .u64 r1.remb)),.v (.p (.bool r1.told)),c7,.own s9 ([c9_0])]) (by decide) rfl
 erw [e12]
 refine .op ((by kernel_rfl : _ = some (.p (.bool false)))) ?_
 refine .ab ?_
 refine .cdf rfl ?_
 refine .call (limit_Limit_Rate_o_ok k r1 h8 h9 hc9_0 hn9_0 (S13.atG (i:=0) rfl)) fun r15 cs16 H17 h18 q19 => ?_
 cases q19
 refine .ci ?_
 refine .call (limit_Limit_Remb_o_ok r1 h8 h9 hc9_0 hn9_0 (S13.atG (i:=0) rfl) 80) fun r20 cs21 H22 h23 q24 => ?_
 obtain ⟨c25,s27,c27_0,h26,h27,hc27_0,hn27_0,q24⟩:=q24
 cases q24
 have S29:=S13.setG (i:=0) (cs':=[.v (.p (.int .i64 r20.cap)),.v (.p (.int .u64 r20.remb)),.v (.p (.bool r20.told)),c25,.own s27 ([c27_0])]) rfl rfl rfl
 refine .call (limit_Limit_Rate_o_ok k r20 h26 h27 hc27_0 hn27_0 (S29.atG (i:=0) rfl)) fun r30 cs31 H32 h33 q34 => ?_
 cases q34
 refine .ci ?_
 refine .op (bldV (pC rfl (pC rfl (pC rfl pN))) (by kernel_rfl : _ = some (.agg [.p (.int .u32 3),.p (.int .u64 16),.p (.int .i64 1)]))) ?_
 refine .call (limit_Limit_Tmmbr_ok k r20 h26 h27 hc27_0 hn27_0 (S29.atG (i:=0) rfl) ((⟨3,16,1⟩ : TaiTuple)) (show dTaiTuple.R ((⟨3,16,1⟩ : TaiTuple)) [.p (.int .u32 3),.p (.int .u64 16),.p (.int .i64 1)] from (dTaiTuple.mk)) 0) fun r35 cs36 H37 h38 q39 => ?_
 obtain ⟨c40,s42,c42_0,h41,h42,hc42_0,hn42_0,q39⟩:=q39
 cases q39
 have S44:=S29.setG (i:=0) (cs':=[.v (.p (.int .i64 r35.2.cap)),.v (.p (.int .u64 r35.2.remb)),.v (.p (.bool r35.2.told)),c40,.own s42 ([c42_0])]) rfl rfl rfl
 refine .ab ?_
 refine .call (limit_Limit_Rate_o_ok k r35.2 h41 h42 hc42_0 hn42_0 (S44.atG (i:=0) rfl)) fun r45 cs46 H47 h48 q49 => ?_
 cases q49
 refine .ci ?_
 refine .call (limit_Limit_Tick_ok k r35.2 h41 h42 hc42_0 hn42_0 (S44.atG (i:=0) rfl) 999999) fun r50 cs51 H52 h53 q54 => ?_
 obtain ⟨c55,s57,c57_0,h56,h57,hc57_0,hn57_0,q54⟩:=q54
 cases q54
 have S59:=S44.setG (i:=0) (cs':=[.v (.p (.int .i64 r50.2.cap)),.v (.p (.int .u64 r50.2.remb)),.v (.p (.bool r50.2.told)),c55,.own s57 ([c57_0])]) rfl rfl rfl
 refine .ci ?_
 refine .call (limit_Limit_Tick_ok k r50.2 h56 h57 hc57_0 hn57_0 (S59.atG (i:=0) rfl) 1000000) fun r60 cs61 H62 h63 q64 => ?_
 obtain ⟨c65,s67,c67_0,h66,h67,hc67_0,hn67_0,q64⟩:=q64
 cases q64
 have S69:=S59.setG (i:=0) (cs':=[.v (.p (.int .i64 r60.2.cap)),.v (.p (.int .u64 r60.2.remb)),.v (.p (.bool r60.2.told)),c65,.own s67 ([c67_0])]) rfl rfl rfl
 refine .ci ?_
 refine .ch (P:=fun r y => r = y) ?_ (fun b70 y71 h72 h73 => ?_)
 ·refine .cq ?_ ?_
  ·exact .ret rfl rfl
  ·exact .ret rfl rfl
 subst h73
 refine .ch (P:=fun r y => r = y) ?_ (fun b74 y75 h76 h77 => ?_)
 ·refine .cq ?_ ?_
  ·exact .ret rfl rfl
  ·exact .ret rfl rfl
 subst h77
 refine .ch (P:=fun r y => r = y) ?_ (fun b78 y79 h80 h81 => ?_)
 ·refine .cq ?_ ?_
  ·exact .ret rfl rfl
  ·exact .ret rfl rfl
 subst h81
 refine .ch (P:=fun r y => r = y) ?_ (fun b82 y83 h84 h85 => ?_)
 ·refine .cq ?_ ?_
  ·exact .ret rfl rfl
  ·exact .ret rfl rfl
 subst h85
 refine .ch (P:=fun r y => r = y) ?_ (fun b86 y87 h88 h89 => ?_)
 ·refine .cq ?_ ?_
  ·exact .ret rfl rfl
  ·exact .ret rfl rfl
 subst h89
 refine .ch (P:=fun r y => (.p (.bool r),(ptC (ptC (ptC (ptC H11 ⟨h.length,8,0,s6,[]⟩ 0 ([.v (.p (.int .i64 r20.cap)),.v (.p (.int .u64 r20.remb)),.v (.p (.bool r20.told)),c25,.own s27 ([c27_0])])) ⟨h.length,8,0,s6,[]⟩ 0 ([.v (.p (.int .i64 r35.2.cap)),.v (.p (.int .u64 r35.2.remb)),.v (.p (.bool r35.2.told)),c40,.own s42 ([c42_0])])) ⟨h.length,8,0,s6,[]⟩ 0 ([.v (.p (.int .i64 r50.2.cap)),.v (.p (.int .u64 r50.2.remb)),.v (.p (.bool r50.2.told)),c55,.own s57 ([c57_0])])) ⟨h.length,8,0,s6,[]⟩ 0 ([.v (.p (.int .i64 r60.2.cap)),.v (.p (.int .u64 r60.2.remb)),.v (.p (.bool r60.2.told)),c65,.own s67 ([c67_0])]))) = y) ?_ (fun b95 y96 h97 h98 => ?_)
 ·refine .cq ?_ ?_
  ·refine .call (limit_Limit_Rate_o_ok k r60.2 h66 h67 hc67_0 hn67_0 (S69.atG (i:=0) rfl)) fun r90 cs91 H92 h93 q94 => ?_
   cases q94
   refine .ci ?_
   exact .ret rfl rfl
  ·exact .ret rfl rfl
 subst h98
 refine .ab ?_
 refine .ch (P:=fun r y => (.p (.bool r),(ptC (ptC (ptC (ptC H11 ⟨h.length,8,0,s6,[]⟩ 0 ([.v (.p (.int .i64 r20.cap)),.v (.p (.int .u64 r20.remb)),.v (.p (.bool r20.told)),c25,.own s27 ([c27_0])])) ⟨h.length,8,0,s6,[]⟩ 0 ([.v (.p (.int .i64 r35.2.cap)),.v (.p (.int .u64 r35.2.remb)),.v (.p (.bool r35.2.told)),c40,.own s42 ([c42_0])])) ⟨h.length,8,0,s6,[]⟩ 0 ([.v (.p (.int .i64 r50.2.cap)),.v (.p (.int .u64 r50.2.remb)),.v (.p (.bool r50.2.told)),c55,.own s57 ([c57_0])])) ⟨h.length,8,0,s6,[]⟩ 0 ([.v (.p (.int .i64 r60.2.cap)),.v (.p (.int .u64 r60.2.remb)),.v (.p (.bool r60.2.told)),c65,.own s67 ([c67_0])]))) = y) ?_ (fun b106 y107 h108 h109 => ?_)
 ·refine .cq ?_ ?_
  ·refine .call (limit_Limit_Tuples_o_ok r60.2 h66 h67 hc67_0 hn67_0 (S69.atG (i:=0) rfl)) fun r99 cs100 H101 h102 q103 => ?_
   obtain ⟨v104,h105,q103⟩:=q103
   cases q103
   refine .op ((h105.h (ptC (ptC (ptC (ptC H11 ⟨h.length,8,0,s6,[]⟩ 0 ([.v (.p (.int .i64 r20.cap)),.v (.p (.int .u64 r20.remb)),.v (.p (.bool r20.told)),c25,.own s27 ([c27_0])])) ⟨h.length,8,0,s6,[]⟩ 0 ([.v (.p (.int .i64 r35.2.cap)),.v (.p (.int .u64 r35.2.remb)),.v (.p (.bool r35.2.told)),c40,.own s42 ([c42_0])])) ⟨h.length,8,0,s6,[]⟩ 0 ([.v (.p (.int .i64 r50.2.cap)),.v (.p (.int .u64 r50.2.remb)),.v (.p (.bool r50.2.told)),c55,.own s57 ([c57_0])])) ⟨h.length,8,0,s6,[]⟩ 0 ([.v (.p (.int .i64 r60.2.cap)),.v (.p (.int .u64 r60.2.remb)),.v (.p (.bool r60.2.told)),c65,.own s67 ([c67_0])]))).len) ?_
   refine .ci ?_
   exact .ret rfl rfl
  ·exact .ret rfl rfl
 subst h109
 refine .ab ?_
 refine .ch (P:=fun r y => (.p (.bool r),(ptC (ptC (ptC (ptC H11 ⟨h.length,8,0,s6,[]⟩ 0 ([.v (.p (.int .i64 r20.cap)),.v (.p (.int .u64 r20.remb)),.v (.p (.bool r20.told)),c25,.own s27 ([c27_0])])) ⟨h.length,8,0,s6,[]⟩ 0 ([.v (.p (.int .i64 r35.2.cap)),.v (.p (.int .u64 r35.2.remb)),.v (.p (.bool r35.2.told)),c40,.own s42 ([c42_0])])) ⟨h.length,8,0,s6,[]⟩ 0 ([.v (.p (.int .i64 r50.2.cap)),.v (.p (.int .u64 r50.2.remb)),.v (.p (.bool r50.2.told)),c55,.own s57 ([c57_0])])) ⟨h.length,8,0,s6,[]⟩ 0 ([.v (.p (.int .i64 r60.2.cap)),.v (.p (.int .u64 r60.2.remb)),.v (.p (.bool r60.2.told)),c65,.own s67 ([c67_0])]))) = y) ?_ (fun b117 y118 h119 h120 => ?_)
 ·refine .cq ?_ ?_
  ·refine .call (limit_Limit_Set_o_ok k r60.2 h66 h67 hc67_0 hn67_0 (S69.atG (i:=0) rfl)) fun r110 cs111 H112 h113 q114 => ?_
   obtain ⟨v115,h116,q114⟩:=q114
   cases q114
   refine .op ((h116.h (ptC (ptC (ptC (ptC H11 ⟨h.length,8,0,s6,[]⟩ 0 ([.v (.p (.int .i64 r20.cap)),.v (.p (.int .u64 r20.remb)),.v (.p (.bool r20.told)),c25,.own s27 ([c27_0])])) ⟨h.length,8,0,s6,[]⟩ 0 ([.v (.p (.int .i64 r35.2.cap)),.v (.p (.int .u64 r35.2.remb)),.v (.p (.bool r35.2.told)),c40,.own s42 ([c42_0])])) ⟨h.length,8,0,s6,[]⟩ 0 ([.v (.p (.int .i64 r50.2.cap)),.v (.p (.int .u64 r50.2.remb)),.v (.p (.bool r50.2.told)),c55,.own s57 ([c57_0])])) ⟨h.length,8,0,s6,[]⟩ 0 ([.v (.p (.int .i64 r60.2.cap)),.v (.p (.int .u64 r60.2.remb)),.v (.p (.bool r60.2.told)),c65,.own s67 ([c67_0])]))).len) ?_
   refine .ci ?_
   exact .ret rfl rfl
  ·exact .ret rfl rfl
 subst h120
 refine .ab ?_
 exact .fin (S69.finN (lC (sB _).lv lN)) rfl

end
end Go.Ev
namespace Go.Ev
namespace Lim
open Srt Alm
theorem known : p_zl14_known 5000 = some true:=by kernel_rfl
end Lim
end Go.Ev
namespace Go.Ev
namespace Lim
open Srt Alm
def sg (a b : Int) : Int:=if a < b then -1 else if b < a then 1 else 0
def orI (a b : Int) : Int:=if a = 0 then b else a
def tiesI (a b : Tu) : Int:=orI (sg b.Over a.Over) (sg a.Owner b.Owner)
def cS (a b : Tu) : Int:=orI (sg a.Rate b.Rate) (tiesI a b)
def cN (l a b : Tu) : Int:=orI (sg (IntKind.wrap .u64 (IntKind.wrap .u64 (a.Rate - l.Rate) * IntKind.wrap .u64 (IntKind.wrap .i64 (b.Over - l.Over)))) (IntKind.wrap .u64 (IntKind.wrap .u64 (b.Rate - l.Rate) * IntKind.wrap .u64 (IntKind.wrap .i64 (a.Over - l.Over))))) (tiesI a b)
theorem cmpi (a b : Int) : p_cmp_Compare_int a b = some (sg a b):=by
 unfold p_cmp_Compare_int p_cmp_isNaN_int sg
 by_cases h1 : a < b
 ·simp [h1]
 ·by_cases h2 : b < a
  ·simp [h1,h2]
  ·simp [h1,h2]
theorem ties_ok {a b : Tu} {k : Nat} (hk : 3 ≤ k) : p_bound_ties k a b = some (tiesI a b):=by
 unfold p_bound_ties tiesI
 rw [cmpi,Option.bind_some,cmp32,Option.bind_some,or2 hk]; rfl
theorem cS_ok {a b : Tu} {k : Nat} (hk : 3 ≤ k) : p_bound_Set_1 k a b = some (cS a b):=by
 unfold p_bound_Set_1 cS
 rw [cmpu,Option.bind_some,ties_ok hk,Option.bind_some,or2 hk]; rfl
theorem cN_ok {a b l : Tu} {k : Nat} (hk : 3 ≤ k) : p_bound_next_1 k a b l = some (cN l a b):=by
 unfold p_bound_next_1 cN
 rw [cmpu,Option.bind_some,ties_ok hk,Option.bind_some,or2 hk]; rfl
def pick (c : Tu→Tu→Int) (b a : Tu) : Tu:=if c a b < 0 then a else b
theorem minS_l0 {l : List Tu} (h1000 : l.length ≤ 1000) (kE : Tu→Tu→Option Tu) (y : Tu) : ∀ m i k : Nat,∀ b : Tu,i + m = l.length→m + 5 ≤ k →
  p_slices_MinFunc_Lapi_Tuple_api_Tuple_bound_Set_1_l0 k kE l (i : Int) y b = kE y ((l.drop i).foldl (pick cS) b):=by
 intro m
 induction m with
 | zero =>
  intro i k b hi hk
  obtain ⟨k,rfl⟩ : ∃ j,k = j + 1:=⟨k - 1,by omega⟩
  rw [p_slices_MinFunc_Lapi_Tuple_api_Tuple_bound_Set_1_l0,decide_eq_false (by omega),cond_false,List.drop_of_length_le (by omega)]; rfl
 | succ m ih =>
  intro i k b hi hk
  obtain ⟨k,rfl⟩ : ∃ j,k = j + 1:=⟨k - 1,by omega⟩
  rw [p_slices_MinFunc_Lapi_Tuple_api_Tuple_bound_Set_1_l0,decide_eq_true (by omega),cond_true,tix (by omega),Option.bind_some,cS_ok (by omega),Option.bind_some,List.drop_eq_getElem_cons (by omega : i < l.length),List.foldl_cons,tget (by omega),show IntKind.wrap .i64 ((i : Int) + 1) = ((i + 1 : Nat) : Int) from wrap_i64 (by omega) (by omega)]
  unfold pick
  by_cases h : cS l[i] b < 0
  ·rw [decide_eq_true h,cond_true,if_pos h]
   exact ih (i + 1) k _ (by omega) (by omega)
  ·rw [decide_eq_false h,cond_false,if_neg h]
   exact ih (i + 1) k _ (by omega) (by omega)
theorem minS_ok {x : Tu} {xs : List Tu} (h1000 : xs.length < 1000) {k : Nat} (hk : 1100 ≤ k) : p_slices_MinFunc_Lapi_Tuple_api_Tuple_bound_Set_1 k (x::xs) = some (xs.foldl (pick cS) x):=by
 unfold p_slices_MinFunc_Lapi_Tuple_api_Tuple_bound_Set_1
 rw [decide_eq_false (by simp only [List.length_cons]; omega),cond_false,show ix (x::xs) 0 = some x from rfl,Option.bind_some]
 have:=minS_l0 (l:=x::xs) (by simp only [List.length_cons]; omega) (fun yg23 yg25 => some (yg25)) ⟨0,0,0⟩ xs.length 1 k x (by simp only [List.length_cons]; omega) (by omega)
 exact this
theorem minN_l0 {l : List Tu} {la : Tu} (h1000 : l.length ≤ 1000) (kE : Tu→Tu→Option Tu) (y : Tu) : ∀ m i k : Nat,∀ b : Tu,i + m = l.length→m + 5 ≤ k →
  p_slices_MinFunc_Lapi_Tuple_api_Tuple_bound_next_1_l0 k kE l la (i : Int) y b = kE y ((l.drop i).foldl (pick (cN la)) b):=by
 intro m
 induction m with
 | zero =>
  intro i k b hi hk
  obtain ⟨k,rfl⟩ : ∃ j,k = j + 1:=⟨k - 1,by omega⟩
  rw [p_slices_MinFunc_Lapi_Tuple_api_Tuple_bound_next_1_l0,decide_eq_false (by omega),cond_false,List.drop_of_length_le (by omega)]; rfl
 | succ m ih =>
  intro i k b hi hk
  obtain ⟨k,rfl⟩ : ∃ j,k = j + 1:=⟨k - 1,by omega⟩
  rw [p_slices_MinFunc_Lapi_Tuple_api_Tuple_bound_next_1_l0,decide_eq_true (by omega),cond_true,tix (by omega),Option.bind_some,cN_ok (by omega),Option.bind_some,List.drop_eq_getElem_cons (by omega : i < l.length),List.foldl_cons,tget (by omega),show IntKind.wrap .i64 ((i : Int) + 1) = ((i + 1 : Nat) : Int) from wrap_i64 (by omega) (by omega)]
  unfold pick
  by_cases h : cN la l[i] b < 0
  ·rw [decide_eq_true h,cond_true,if_pos h]
   exact ih (i + 1) k _ (by omega) (by omega)
  ·rw [decide_eq_false h,cond_false,if_neg h]
   exact ih (i + 1) k _ (by omega) (by omega)
theorem minN_ok {x la : Tu} {xs : List Tu} (h1000 : xs.length < 1000) {k : Nat} (hk : 1100 ≤ k) : p_slices_MinFunc_Lapi_Tuple_api_Tuple_bound_next_1 k (x::xs) la = some (xs.foldl (pick (cN la)) x):=by
 unfold p_slices_MinFunc_Lapi_Tuple_api_Tuple_bound_next_1
 rw [decide_eq_false (by simp only [List.length_cons]; omega),cond_false,show ix (x::xs) 0 = some x from rfl,Option.bind_some]
 have:=minN_l0 (l:=x::xs) (la:=la) (by simp only [List.length_cons]; omega) (fun yg27 yg29 => some (yg29)) ⟨0,0,0⟩ xs.length 1 k x (by simp only [List.length_cons]; omega) (by omega)
 exact this
theorem pick_mem {c : Tu→Tu→Int} : ∀ (xs : List Tu) (x : Tu),xs.foldl (pick c) x = x ∨ xs.foldl (pick c) x ∈ xs
 | [],_ => .inl rfl
 | a::xs,x => by
  rw [List.foldl_cons]
  rcases pick_mem xs (pick c x a) with h | h
  ·rw [h]; unfold pick; split
   ·exact .inr (List.mem_cons_self ..)
   ·exact .inl rfl
  ·exact .inr (List.mem_cons_of_mem _ h)
theorem pick_mem' {c : Tu→Tu→Int} {xs : List Tu} {x : Tu} : xs.foldl (pick c) x ∈ x::xs:=by
 rcases pick_mem (c:=c) xs x with h | h
 ·rw [h]; exact List.mem_cons_self ..
 ·exact List.mem_cons_of_mem _ h
def heldT (t : Tu) : Tu:=⟨t.Owner,if 1099511627776 < t.Rate then 1099511627776 else t.Rate,if (if 511 < t.Over then 511 else t.Over) > 0 then (if 511 < t.Over then 511 else t.Over) else 0⟩
theorem all_l0 {l : List Tu} (h1000 : l.length ≤ 1000) (kE : List Tu→Option (List Tu)) : ∀ m i k : Nat,∀ o : List Tu,i + m = l.length→m + 5 ≤ k→o.length = i →
  p_bound_all_l0 k kE o l (l.length : Int) (i : Int) = kE (o ++ (l.drop i).map heldT):=by
 intro m
 induction m with
 | zero =>
  intro i k o hi hk ho
  obtain ⟨k,rfl⟩ : ∃ j,k = j + 1:=⟨k - 1,by omega⟩
  rw [p_bound_all_l0,decide_eq_false (by omega),cond_false,List.drop_of_length_le (by omega),List.map_nil,List.append_nil]
 | succ m ih =>
  intro i k o hi hk ho
  obtain ⟨k,rfl⟩ : ∃ j,k = j + 1:=⟨k - 1,by omega⟩
  rw [p_bound_all_l0,decide_eq_true (by omega),cond_true,tix (by omega),Option.bind_some,List.drop_eq_getElem_cons (by omega : i < l.length),tget (by omega),show IntKind.wrap .i64 ((i : Int) + 1) = ((i + 1 : Nat) : Int) from wrap_i64 (by omega) (by omega)]
  have hh : p_bound_held l[i] = some (heldT l[i]):=rfl
  rw [hh,Option.bind_some,ap_eq (by omega) (by simp only [List.length_cons,List.length_nil]; omega),Option.bind_some,ih (i + 1) k _ (by omega) (by omega) (by rw [List.length_append,ho]; rfl),List.map_cons,List.append_assoc]
  rfl
theorem all_ok {l : List Tu} (h1000 : l.length ≤ 1000) {k : Nat} (hk : 1100 ≤ k) : p_bound_all k l = some (l.map heldT):=by
 unfold p_bound_all
 have:=all_l0 h1000 (fun r42_3 => some (r42_3)) l.length 0 k [] (by omega) (by omega) rfl
 rw [List.drop_zero,List.nil_append] at this
 exact this
def above (l : List Tu) (o : Int) : List Tu:=l.filter fun t => decide (t.Over > o)
theorem next_l0 {l : List Tu} {la : Tu} (h1000 : l.length ≤ 1000) (kE : List Tu→Tu→Tu→Option (Tu × Bool)) (y : Tu) : ∀ m i k : Nat,∀ o : List Tu,i + m = l.length→m + 5 ≤ k→o.length ≤ i →
  p_bound_next_l0 k kE o l (l.length : Int) (i : Int) la y = kE (o ++ above (l.drop i) la.Over) la y:=by
 intro m
 induction m with
 | zero =>
  intro i k o hi hk ho
  obtain ⟨k,rfl⟩ : ∃ j,k = j + 1:=⟨k - 1,by omega⟩
  rw [p_bound_next_l0,decide_eq_false (by omega),cond_false,List.drop_of_length_le (by omega)]
  unfold above
  rw [List.filter_nil,List.append_nil]
 | succ m ih =>
  intro i k o hi hk ho
  obtain ⟨k,rfl⟩ : ∃ j,k = j + 1:=⟨k - 1,by omega⟩
  rw [p_bound_next_l0,decide_eq_true (by omega),cond_true,tix (by omega),Option.bind_some,List.drop_eq_getElem_cons (by omega : i < l.length),tget (by omega),show IntKind.wrap .i64 ((i : Int) + 1) = ((i + 1 : Nat) : Int) from wrap_i64 (by omega) (by omega)]
  by_cases h : l[i].Over > la.Over
  ·have : above (l[i]::l.drop (i + 1)) la.Over = l[i]::above (l.drop (i + 1)) la.Over:=by
    unfold above; rw [List.filter_cons,decide_eq_true h]; rfl
   rw [this,decide_eq_true h,cond_true,ap_eq (by omega) (by simp only [List.length_cons,List.length_nil]; omega),Option.bind_some,ih (i + 1) k _ (by omega) (by omega) (by rw [List.length_append]; simp only [List.length_cons,List.length_nil]; omega),List.append_assoc]
   rfl
  ·have : above (l[i]::l.drop (i + 1)) la.Over = above (l.drop (i + 1)) la.Over:=by
    unfold above; rw [List.filter_cons,decide_eq_false h]; rfl
   rw [this,decide_eq_false h,cond_false,ih (i + 1) k _ (by omega) (by omega) (by omega)]
def nextT (l : List Tu) (la : Tu) : Tu × Bool:=match above l la.Over with
 | [] => (⟨0,0,0⟩,false)
 | x::xs => let b:=xs.foldl (pick (cN la)) x
  (b,decide (IntKind.wrap .u64 (la.Rate * IntKind.wrap .u64 (IntKind.wrap .i64 (b.Over - la.Over))) > IntKind.wrap .u64 (IntKind.wrap .u64 la.Over * IntKind.wrap .u64 (b.Rate - la.Rate))))
theorem next_ok {l : List Tu} {la : Tu} (h1000 : l.length ≤ 1000) {k : Nat} (hk : 1100 ≤ k) : p_bound_next k l la = some (nextT l la):=by
 unfold p_bound_next
 generalize hK : (fun (r52_6 : List TaiTuple) (yg18 yg20 : TaiTuple) => _) = K
 have e:=next_l0 (la:=la) h1000 K ⟨0,0,0⟩ l.length 0 k [] (by omega) (by omega) (Nat.le_refl _)
 rw [List.drop_zero,List.nil_append] at e
 refine Eq.trans e ?_
 rw [← hK]
 unfold nextT
 have hla : (above l la.Over).length ≤ l.length:=List.length_filter_le ..
 cases ha : above l la.Over with
 | nil => rfl
 | cons x xs =>
  rw [ha] at hla
  simp only [List.length_cons] at hla
  have : (((x::xs).length : Int) == 0) = false:=beq_eq_false_iff_ne.2 (by simp only [List.length_cons]; omega)
  simp only
  rw [this,cond_false,minN_ok (by omega) hk,Option.bind_some]
theorem nextT_mem {l : List Tu} {la : Tu} (h : (nextT l la).2 = true) : (nextT l la).1 ∈ above l la.Over:=by
 unfold nextT at h ⊢
 cases ha : above l la.Over with
 | nil => rw [ha] at h; cases h
 | cons x xs => exact pick_mem'
theorem above_lt {l : List Tu} {a b : Tu} (h : b ∈ above l a.Over) : (above l b.Over).length < (above l a.Over).length:=by
 obtain ⟨h1,h2⟩:=List.mem_filter.1 h
 have h2 : b.Over > a.Over:=of_decide_eq_true h2
 have e : above l b.Over = above (above l a.Over) b.Over:=by
  unfold above
  rw [List.filter_filter]
  refine List.filter_congr fun t _ => ?_
  rw [Bool.eq_iff_iff]
  simp only [Bool.and_eq_true,decide_eq_true_eq]
  omega
 rw [e]
 refine Nat.lt_of_le_of_ne (List.length_filter_le ..) fun e2 => ?_
 have:=List.length_filter_eq_length_iff.1 e2 b h
 simp at this
def setL (l : List Tu) : Nat→Tu→List Tu
 | 0,_ => []
 | n + 1,la => la::(if (nextT l la).2 = true then setL l n (nextT l la).1 else [])
theorem set_l0 {l : List Tu} (h1000 : l.length ≤ 1000) (kE : List Tu→Option (List Tu)) : ∀ n k : Nat,∀ (o : List Tu) (la : Tu),(above l la.Over).length < n→n ≤ 1001→n + 1110 ≤ k→o.length + n ≤ 2000 →
  p_bound_Set_l0 k kE l o true la = kE (o ++ setL l n la):=by
 intro n
 induction n with
 | zero => intro k o la h; omega
 | succ n ih =>
  intro k o la h hn hk ho
  obtain ⟨k,rfl⟩ : ∃ j,k = j + 1 + 1:=⟨k - 2,by omega⟩
  rw [p_bound_Set_l0,cond_true,ap_eq (by omega) (by simp only [List.length_cons,List.length_nil]; omega),Option.bind_some,next_ok h1000 (by omega),Option.bind_some]
  unfold setL
  cases hb : (nextT l la).2 with
  | true =>
   have hm:=nextT_mem hb
   have:=above_lt hm
   rw [ih (k + 1) _ _ (by omega) (by omega) (by omega) (by rw [List.length_append]; simp only [List.length_cons,List.length_nil]; omega),if_pos rfl,List.append_assoc]
   rfl
  | false =>
   rw [p_bound_Set_l0,cond_false,if_neg (by simp)]
def boundS (l : List Tu) : List Tu:=match l.map heldT with
 | [] => []
 | x::xs => setL (x::xs) 1001 (xs.foldl (pick cS) x)
theorem set_all {l : List Tu} (h1000 : l.length < 1000) {k : Nat} (hk : 4000 ≤ k) : p_bound_Set k l = some (boundS l):=by
 unfold p_bound_Set
 rw [all_ok (by omega) (by omega),Option.bind_some]
 unfold boundS
 have hlen : (l.map heldT).length = l.length:=List.length_map ..
 cases hm : l.map heldT with
 | nil => rfl
 | cons x xs =>
  rw [hm] at hlen
  simp only [List.length_cons] at hlen
  have : (((x::xs).length : Int) == 0) = false:=beq_eq_false_iff_ne.2 (by simp only [List.length_cons]; omega)
  rw [this,cond_false,minS_ok (by omega) (by omega),Option.bind_some]
  have hab : (above (x::xs) (xs.foldl (pick cS) x).Over).length ≤ (x::xs).length:=List.length_filter_le ..
  simp only [List.length_cons] at hab
  have:=set_l0 (l:=x::xs) (by simp only [List.length_cons]; omega) (fun r57_5 => some (r57_5)) 1001 k [] (xs.foldl (pick cS) x) (by omega) (by omega) (by omega) (by simp)
  rw [List.nil_append] at this
  exact this
theorem setL_mem {l : List Tu} : ∀ (n : Nat) (la : Tu),la ∈ l→∀ s ∈ setL l n la,s ∈ l
 | 0,_,_,s,hs => by cases hs
 | n + 1,la,hl,s,hs => by
  unfold setL at hs
  rcases List.mem_cons.1 hs with rfl | hs
  ·exact hl
  ·split at hs
   ·rename_i hb
    exact setL_mem n _ (List.mem_filter.1 (nextT_mem hb)).1 s hs
   ·cases hs
theorem boundS_mem {l : List Tu} {s : Tu} (h : s ∈ boundS l) : s ∈ l.map heldT:=by
 unfold boundS at h
 cases hm : l.map heldT with
 | nil => rw [hm] at h; cases h
 | cons x xs => rw [hm] at h; exact setL_mem _ _ pick_mem' s h
end Lim
end Go.Ev
namespace Go.Ev
open Go.Proofs
set_option linter.unusedVariables false
set_option linter.unusedSimpArgs false
set_option maxRecDepth 100000
noncomputable section
abbrev KT28:=Exit→Env→H→Option (List C × H)
variable (rec : CallF) (loop : LoopV) (σ : Stamp)
def zl14_LimitSet_c0 : Code:=(codeAt (bodyOf Try.f12) [1,1,1,0,1,0,0])
def zl14_LimitSet_l0 : Lv:=⟨0,4,[(0,0)]⟩
def zl14_LimitSet_k0 : KT28:=(kBlock 0 (kSeq G rec loop (codeAt (bodyOf Try.f12) [1,1,1,1]) ⟨4,4,[]⟩ (1::1::1::0::σ) (finC G false Try.f12 (1::σ))))
def zl14_LimitSet_c1 : Code:=(codeAt (bodyOf Try.f12) [1,1,1,0,1,0,0,1,0,0,1,1,1,1,0,1,0,0])
def zl14_LimitSet_l1 : Lv:=⟨89,4,[(2,89),(1,25),(0,0)]⟩
def zl14_LimitSet_k1 : Exit→Env→H→Option (Exit × Env × H):=(kBlock 2 (kSeq G rec loop (codeAt (bodyOf Try.f12) [1,1,1,0,1,0,0,1,0,0,1,1,1,1,1]) ⟨25,4,[(1,25),(0,0)]⟩ (1::1::1::1::0::1::0::σ) (kBlock 1 (kSeq G rec loop (codeAt (bodyOf Try.f12) [1,1,1,0,1,0,0,1,1]) ⟨25,4,[(0,0)]⟩ (1::0::σ) (kRound loop (codeAt (bodyOf Try.f12) [1,1,1,0,1,0,0]) ⟨0,4,[(0,0)]⟩ σ)))))
def zl14_LimitSet_c2 : Code:=(codeAt (bodyOf Try.f12) [1,1,1,0,1,0,0,1,0,0,1,1,1,1,1,0,1,0,0])
def zl14_LimitSet_l2 : Lv:=⟨89,4,[(4,89),(1,25),(0,0)]⟩
def zl14_LimitSet_k2 : Exit→Env→H→Option (Exit × Env × H):=(kBlock 4 (kSeq G rec loop (codeAt (bodyOf Try.f12) [1,1,1,0,1,0,0,1,0,0,1,1,1,1,1,1]) ⟨25,4,[(1,25),(0,0)]⟩ (1::1::1::1::1::0::1::0::σ) (kBlock 1 (kSeq G rec loop (codeAt (bodyOf Try.f12) [1,1,1,0,1,0,0,1,1]) ⟨25,4,[(0,0)]⟩ (1::0::σ) (kRound loop (codeAt (bodyOf Try.f12) [1,1,1,0,1,0,0]) ⟨0,4,[(0,0)]⟩ σ)))))
def zl14_LimitSet_c3 : Code:=(codeAt (bodyOf Try.f12) [1,1,1,0,1,0,0,1,0,0,1,1,1,1,1,0,1,0,0,1,1,0,0,1,1,0,1,0,0])
def zl14_LimitSet_l3 : Lv:=⟨33056565380087516496985,4,[(6,33056565380087516496985),(5,33056565380087516495961),(4,89),(1,25),(0,0)]⟩
def zl14_LimitSet_k3 : Exit→Env→H→Option (Exit × Env × H):=(kBlock 6 (kSeq G rec loop (codeAt (bodyOf Try.f12) [1,1,1,0,1,0,0,1,0,0,1,1,1,1,1,0,1,0,0,1,1,0,0,1,1,1]) ⟨33056565380087516495961,4,[(5,33056565380087516495961),(4,89),(1,25),(0,0)]⟩ (1::1::0::1::1::0::σ) (kBlock 5 (kSeq G rec loop (codeAt (bodyOf Try.f12) [1,1,1,0,1,0,0,1,0,0,1,1,1,1,1,0,1,0,0,1,1,1]) ⟨33056565380087516495961,4,[(4,89),(1,25),(0,0)]⟩ (1::1::0::σ) (kRound loop (codeAt (bodyOf Try.f12) [1,1,1,0,1,0,0,1,0,0,1,1,1,1,1,0,1,0,0]) ⟨89,4,[(4,89),(1,25),(0,0)]⟩ σ)))))
theorem zl14_LimitSet_entry (x0 : V) (h : H) : cvBody G rec loop 12 σ [x0] h =
(callO rec 35 (0::0::1::0::σ) [(.p (.int .i64 1099511627776))] (List.replicate 98 []::h) (some 13)).bind fun q1 =>
(binV Try.prog q1.2 .eql 66 q1.1 (.p (.pointer .none))).bind fun t2 =>
(asB t2).bind fun b3 =>
bif b3 then (
fin false σ q1.2 [(.p (.bool false))])
else (
(loop zl14_LimitSet_c0 zl14_LimitSet_l0 (1::0::1::1::1::0::σ) (envL [(0,x0),(3,q1.1),(4,(.p (.int .i64 0)))]) q1.2).bind fun r4 => zl14_LimitSet_k0 rec loop σ r4.1 r4.2.1 r4.2.2):=by kernel_rfl
theorem zl14_LimitSet_r0 (x0 : V) (x3 : V) (x4 : Int) (h : H) : cvRound G rec loop zl14_LimitSet_c0 zl14_LimitSet_l0 σ (envL [(0,x0),(3,x3),(4,(.p (.int .i64 x4)))]) h =
(lenO x0).bind fun t5 =>
(castI .i64 t5).bind fun n6 =>
(bif decide (x4 < n6) then (some (decide (x4 < 40))) else (some false)).bind fun b7 =>
bif b7 then (
(iS 5 x0 x4).bind fun t8 =>
(fA t8 1).bind fun t9 =>
(ldO true 3 h t9).bind fun t10 =>
(some (alO [.p (.int .u32 0),.p (.int .u64 0),.p (.int .i64 0)] (5::0::0::1::0::σ) 5 h)).bind fun q11 =>
((stO false 3 (6::0::0::1::0::σ) q11.2 q11.1 t10).map fun h => (udf,h)).bind fun q12 =>
(fA q11.1 0).bind fun t13 =>
(ldO false 1 q12.2 t13).bind fun t14 =>
(castI .u32 t14).bind fun n15 =>
(fA q11.1 1).bind fun t16 =>
(ldO false 1 q12.2 t16).bind fun t17 =>
(castI .u64 t17).bind fun n18 =>
(fA q11.1 2).bind fun t19 =>
(ldO false 1 q12.2 t19).bind fun t20 =>
(castI .i64 t20).bind fun n21 =>
(fA q11.1 0).bind fun t22 =>
((stO true 1 (10::0::1::0::1::0::σ) q12.2 t22 (.p (.int .u32 (intBits .and .u32 n15 7)))).map fun h => (udf,h)).bind fun q23 =>
(fA q11.1 1).bind fun t24 =>
((stO true 1 (12::0::1::0::1::0::σ) q23.2 t24 (.p (.int .u64 (intBits .and .u64 n18 65535)))).map fun h => (udf,h)).bind fun q25 =>
(fA q11.1 2).bind fun t26 =>
((stO true 1 (14::0::1::0::1::0::σ) q25.2 t26 (.p (.int .i64 (intBits .and .i64 n21 63)))).map fun h => (udf,h)).bind fun q27 =>
(ldO true 3 q27.2 q11.1).bind fun t28 =>
(callO rec 36 (3::0::1::1::0::1::0::σ) [x3,t28,(.p (.int .i64 x4))] q27.2 (some 46)).bind fun q29 =>
(asB q29.1).bind fun b30 =>
(callO rec 40 (1::0::1::1::1::0::1::0::σ) [x3] q29.2 (some 48)).bind fun q31 =>
(lenO q31.1).bind fun t32 =>
(castI .i64 t32).bind fun n33 =>
(loop zl14_LimitSet_c1 zl14_LimitSet_l1 (1::0::1::1::1::1::0::1::0::σ) (envL [(0,x0),(3,x3),(4,(.p (.int .i64 x4))),(6,q31.1),(50,(.p (.int .i64 n33))),(51,(.p (.int .i64 0)))]) q31.2).bind fun r34 => zl14_LimitSet_k1 rec loop σ r34.1 r34.2.1 r34.2.2)
else (
some ((.exit 0),(envL []),h)):=by kernel_rfl
theorem zl14_LimitSet_a0_0  (h : H) : zl14_LimitSet_k0 rec loop σ (.exit 0) (envL []) h =
(callO rec 34 (0::0::1::1::1::1::0::σ) [] h (some 97)).bind fun q35 =>
(asB q35.1).bind fun b36 =>
fin false σ q35.2 [(.p (.bool b36))]:=by kernel_rfl
theorem zl14_LimitSet_a0_ret (x2 : Bool) (h : H) : zl14_LimitSet_k0 rec loop σ .ret (envL [(2,(.p (.bool x2)))]) h =
fin false σ h [(.p (.bool x2))]:=by kernel_rfl
theorem zl14_LimitSet_r1 (x0 : V) (x3 : V) (x4 : Int) (x6 : V) (x50 : Int) (x51 : Int) (h : H) : cvRound G rec loop zl14_LimitSet_c1 zl14_LimitSet_l1 σ (envL [(0,x0),(3,x3),(4,(.p (.int .i64 x4))),(6,x6),(50,(.p (.int .i64 x50))),(51,(.p (.int .i64 x51)))]) h =
bif decide (x51 < x50) then (
(bif decide (x51 > 0) then ((iS 3 x6 x51).bind fun t37 =>
(fA t37 0).bind fun t38 =>
(ldO false 1 h t38).bind fun t39 =>
(castI .u32 t39).bind fun n40 =>
(iS 3 x6 (IntKind.wrap .i64 (x51 - 1))).bind fun t41 =>
(fA t41 0).bind fun t42 =>
(ldO false 1 h t42).bind fun t43 =>
(castI .u32 t43).bind fun n44 =>
some (decide (n40 ≤ n44))) else (some false)).bind fun b45 =>
bif b45 then (
some (.ret,(envL [(2,(.p (.bool false)))]),h))
else (
loop zl14_LimitSet_c1 zl14_LimitSet_l1 (1::σ) (envL [(0,x0),(3,x3),(4,(.p (.int .i64 x4))),(6,x6),(50,(.p (.int .i64 x50))),(51,(.p (.int .i64 (IntKind.wrap .i64 (x51 + 1)))))]) h))
else (
some ((.exit 2),(envL [(0,x0),(3,x3),(4,(.p (.int .i64 x4))),(6,x6)]),h)):=by kernel_rfl
theorem zl14_LimitSet_a1_2 (x0 : V) (x3 : V) (x4 : Int) (x6 : V) (h : H) : zl14_LimitSet_k1 rec loop σ (.exit 2) (envL [(0,x0),(3,x3),(4,(.p (.int .i64 x4))),(6,x6)]) h =
(callO rec 41 (1::0::0::1::1::1::1::1::0::1::0::σ) [x3] h (some 72)).bind fun q46 =>
(lenO q46.1).bind fun t47 =>
(castI .i64 t47).bind fun n48 =>
(loop zl14_LimitSet_c2 zl14_LimitSet_l2 (1::0::1::1::1::1::1::0::1::0::σ) (envL [(0,x0),(3,x3),(4,(.p (.int .i64 x4))),(6,x6),(72,q46.1),(73,(.p (.int .i64 n48))),(74,(.p (.int .i64 0)))]) q46.2).bind fun r49 => zl14_LimitSet_k2 rec loop σ r49.1 r49.2.1 r49.2.2:=by kernel_rfl
theorem zl14_LimitSet_a1_ret (x2 : Bool) (h : H) : zl14_LimitSet_k1 rec loop σ .ret (envL [(2,(.p (.bool x2)))]) h =
some (.ret,(envL [(2,(.p (.bool x2)))]),h):=by kernel_rfl
theorem zl14_LimitSet_r2 (x0 : V) (x3 : V) (x4 : Int) (x6 : V) (x72 : V) (x73 : Int) (x74 : Int) (h : H) : cvRound G rec loop zl14_LimitSet_c2 zl14_LimitSet_l2 σ (envL [(0,x0),(3,x3),(4,(.p (.int .i64 x4))),(6,x6),(72,x72),(73,(.p (.int .i64 x73))),(74,(.p (.int .i64 x74)))]) h =
bif decide (x74 < x73) then (
(iS 3 x72 x74).bind fun t50 =>
(ldO true 3 h t50).bind fun t51 =>
(some (alO [.p (.int .u32 0),.p (.int .u64 0),.p (.int .i64 0)] (2::0::0::1::1::0::σ) 9 h)).bind fun q52 =>
((stO false 3 (3::0::0::1::1::0::σ) q52.2 q52.1 t51).map fun h => (udf,h)).bind fun q53 =>
(lenO x6).bind fun t54 =>
(castI .i64 t54).bind fun n55 =>
(loop zl14_LimitSet_c3 zl14_LimitSet_l3 (1::0::1::1::0::1::1::0::σ) (envL [(0,x0),(3,x3),(4,(.p (.int .i64 x4))),(6,x6),(9,q52.1),(10,(.p (.bool false))),(72,x72),(73,(.p (.int .i64 x73))),(74,(.p (.int .i64 x74))),(78,x6),(79,(.p (.int .i64 n55))),(80,(.p (.int .i64 0)))]) q53.2).bind fun r56 => zl14_LimitSet_k3 rec loop σ r56.1 r56.2.1 r56.2.2)
else (
some ((.exit 4),(envL [(0,x0),(3,x3),(4,(.p (.int .i64 x4))),(6,x6)]),h)):=by kernel_rfl
theorem zl14_LimitSet_a2_4 (x0 : V) (x3 : V) (x4 : Int) (x6 : V) (h : H) : zl14_LimitSet_k2 rec loop σ (.exit 4) (envL [(0,x0),(3,x3),(4,(.p (.int .i64 x4))),(6,x6)]) h =
(lenO x6).bind fun t57 =>
(castI .i64 t57).bind fun n58 =>
bif decide (n58 > 6) then (
some (.ret,(envL [(2,(.p (.bool false)))]),h))
else (
loop zl14_LimitSet_c0 zl14_LimitSet_l0 (1::σ) (envL [(0,x0),(3,x3),(4,(.p (.int .i64 (IntKind.wrap .i64 (x4 + 1)))))]) h):=by kernel_rfl
theorem zl14_LimitSet_a2_ret (x2 : Bool) (h : H) : zl14_LimitSet_k2 rec loop σ .ret (envL [(2,(.p (.bool x2)))]) h =
some (.ret,(envL [(2,(.p (.bool x2)))]),h):=by kernel_rfl
theorem zl14_LimitSet_r3 (x0 : V) (x3 : V) (x4 : Int) (x6 : V) (x9 : V) (x10 : Bool) (x72 : V) (x73 : Int) (x74 : Int) (x78 : V) (x79 : Int) (x80 : Int) (h : H) : cvRound G rec loop zl14_LimitSet_c3 zl14_LimitSet_l3 σ (envL [(0,x0),(3,x3),(4,(.p (.int .i64 x4))),(6,x6),(9,x9),(10,(.p (.bool x10))),(72,x72),(73,(.p (.int .i64 x73))),(74,(.p (.int .i64 x74))),(78,x78),(79,(.p (.int .i64 x79))),(80,(.p (.int .i64 x80)))]) h =
bif decide (x80 < x79) then (
(iS 3 x78 x80).bind fun t59 =>
(ldO true 3 h t59).bind fun t60 =>
(some (alO [.p (.int .u32 0),.p (.int .u64 0),.p (.int .i64 0)] (2::0::0::1::1::0::σ) 12 h)).bind fun q61 =>
((stO false 3 (3::0::0::1::1::0::σ) q61.2 q61.1 t60).map fun h => (udf,h)).bind fun q62 =>
(bif x10 then (some true) else ((ldO true 3 q62.2 q61.1).bind fun t63 =>
(ldO true 3 q62.2 x9).bind fun t64 =>
(binV Try.prog q62.2 .eql 57 t63 t64).bind fun t65 =>
(asB t65).bind fun b66 =>
some b66)).bind fun b67 =>
loop zl14_LimitSet_c3 zl14_LimitSet_l3 (1::σ) (envL [(0,x0),(3,x3),(4,(.p (.int .i64 x4))),(6,x6),(9,x9),(10,(.p (.bool b67))),(72,x72),(73,(.p (.int .i64 x73))),(74,(.p (.int .i64 x74))),(78,x78),(79,(.p (.int .i64 x79))),(80,(.p (.int .i64 (IntKind.wrap .i64 (x80 + 1)))))]) q62.2)
else (
some ((.exit 6),(envL [(0,x0),(3,x3),(4,(.p (.int .i64 x4))),(6,x6),(10,(.p (.bool x10))),(72,x72),(73,(.p (.int .i64 x73))),(74,(.p (.int .i64 x74)))]),h)):=by kernel_rfl
theorem zl14_LimitSet_a3_6 (x0 : V) (x3 : V) (x4 : Int) (x6 : V) (x10 : Bool) (x72 : V) (x73 : Int) (x74 : Int) (h : H) : zl14_LimitSet_k3 rec loop σ (.exit 6) (envL [(0,x0),(3,x3),(4,(.p (.int .i64 x4))),(6,x6),(10,(.p (.bool x10))),(72,x72),(73,(.p (.int .i64 x73))),(74,(.p (.int .i64 x74)))]) h =
bif !x10 then (
some (.ret,(envL [(2,(.p (.bool false)))]),h))
else (
loop zl14_LimitSet_c2 zl14_LimitSet_l2 (1::σ) (envL [(0,x0),(3,x3),(4,(.p (.int .i64 x4))),(6,x6),(72,x72),(73,(.p (.int .i64 x73))),(74,(.p (.int .i64 (IntKind.wrap .i64 (x74 + 1)))))]) h):=by kernel_rfl
end
end Go.Ev
namespace Go.Ev
open Go.Proofs
set_option linter.unusedVariables false
set_option linter.unusedSimpArgs false
set_option maxRecDepth 100000
section
variable {β α : Type} {Q : β→α→Prop} {K : Exit × Env × H→Option α}
def p_zl14_LimitSet_l1 {β : Type} (k : Nat) (kE0 : (List Tz14Ask)→Int→(List TaiTuple)→T_limit_Limit→Option β) (kE1 : Bool→Option β) (x0 : (List Tz14Ask)) (x4 : Int) (x6 : (List TaiTuple)) (x50 : Int) (x51 : Int) (yg24 : T_limit_Limit) : Option β:=match k with
| 0 => none
| k + 1 =>
bif decide (x51 < x50) then (
(bif decide (x51 > 0) then ((ix x6 x51).bind fun a84 =>
(ix x6 (IntKind.wrap .i64 (x51 - 1))).bind fun a92 =>
some (decide (a84.Owner ≤ a92.Owner))) else (some false)).bind fun b100 =>
bif b100 then (
kE1 false)
else (
p_zl14_LimitSet_l1 k kE0 kE1 x0 x4 x6 x50 (IntKind.wrap .i64 (x51 + 1)) yg24))
else (
kE0 x0 x4 x6 yg24)
def p_zl14_LimitSet_l3 {β : Type} (k : Nat) (kE0 : (List Tz14Ask)→Int→(List TaiTuple)→Bool→(List TaiTuple)→Int→Int→T_limit_Limit→Option β) (x0 : (List Tz14Ask)) (x4 : Int) (x6 : (List TaiTuple)) (x10 : Bool) (x72 : (List TaiTuple)) (x73 : Int) (x74 : Int) (x78 : (List TaiTuple)) (x79 : Int) (x80 : Int) (yg152 : T_limit_Limit) (yg162 : TaiTuple) : Option β:=match k with
| 0 => none
| k + 1 =>
bif decide (x80 < x79) then (
(ix x78 x80).bind fun a185 =>
(bif x10 then (some true) else (some (andB [a185.Owner == yg162.Owner,a185.Rate == yg162.Rate,a185.Over == yg162.Over]))).bind fun b197 =>
p_zl14_LimitSet_l3 k kE0 x0 x4 x6 b197 x72 x73 x74 x78 x79 (IntKind.wrap .i64 (x80 + 1)) yg152 yg162)
else (
kE0 x0 x4 x6 x10 x72 x73 x74 yg152)
def p_zl14_LimitSet_l2 {β : Type} (k : Nat) (kE0 : (List Tz14Ask)→Int→(List TaiTuple)→T_limit_Limit→Option β) (kE1 : Bool→Option β) (x0 : (List Tz14Ask)) (x4 : Int) (x6 : (List TaiTuple)) (x72 : (List TaiTuple)) (x73 : Int) (x74 : Int) (yg131 : T_limit_Limit) : Option β:=match k with
| 0 => none
| k + 1 =>
bif decide (x74 < x73) then (
(ix x72 x74).bind fun a154 =>
p_zl14_LimitSet_l3 k (fun r215_0 r215_4 r215_6 r215_10 r215_72 r215_73 r215_74 yg181 =>
bif !r215_10 then (
kE1 false)
else (
p_zl14_LimitSet_l2 k kE0 kE1 r215_0 r215_4 r215_6 r215_72 r215_73 (IntKind.wrap .i64 (r215_74 + 1)) yg181)) x0 x4 x6 false x72 x73 x74 x6 ((x6.length : Int)) 0 yg131 a154)
else (
kE0 x0 x4 x6 yg131)
def p_zl14_LimitSet_l0 {β : Type} (k : Nat) (kE0 : Unit→Option β) (kE1 : Bool→Option β) (x0 : (List Tz14Ask)) (x4 : Int) (yg14 : T_limit_Limit) : Option β:=match k with
| 0 => none
| k + 1 =>
(bif decide (x4 < ((x0.length : Int))) then (some (decide (x4 < 40))) else (some false)).bind fun b25 =>
bif b25 then (
(ix x0 x4).bind fun a30 =>
(p_limit_Limit_Tmmbr k yg14 ((⟨(intBits .and .u32 a30.T.Owner 7),(intBits .and .u64 a30.T.Rate 65535),(intBits .and .i64 a30.T.Over 63)⟩ : TaiTuple)) x4).bind fun r54 =>
(p_limit_Limit_Tuples_o r54.2).bind fun r64 =>
p_zl14_LimitSet_l1 k (fun r119_0 r119_4 r119_6 yg82 =>
(p_limit_Limit_Set_o k yg82).bind fun r132 =>
p_zl14_LimitSet_l2 k (fun r245_0 r245_4 r245_6 yg152 =>
bif decide (((r245_6.length : Int)) > 6) then (
kE1 false)
else (
p_zl14_LimitSet_l0 k kE0 kE1 r245_0 (IntKind.wrap .i64 (r245_4 + 1)) yg152)) (fun r259_2 =>
kE1 r259_2) r119_0 r119_4 r119_6 r132 ((r132.length : Int)) 0 yg82) (fun r262_2 =>
kE1 r262_2) x0 x4 r64 ((r64.length : Int)) 0 r54.2)
else (
kE0 ())
def p_zl14_LimitSet (k : Nat) (x0 : (List Tz14Ask)) : Option (Bool) :=
(p_limit_New 1099511627776).bind fun r1 =>
p_zl14_LimitSet_l0 k (fun (_ : Unit) =>
(p_zl14_known k).bind fun r272 =>
some (r272)) (fun r277_2 =>
some (r277_2)) x0 0 r1
theorem zl14_LimitSet_l1_ok {h : H}  {kE0 : (List Tz14Ask)→Int→(List TaiTuple)→T_limit_Limit→Option β} {kE1 : Bool→Option β} (hE0 : ∀ (q0 : (List Tz14Ask)) (q4 : Int) (q6 : (List TaiTuple)) (yg82 : T_limit_Limit) (v107 : V) (h108 : SlH h dTz14Ask q0 v107) (v109 : V) (h110 : SlF dTaiTuple q6 v109) (c111 : C) (h112 : SoC dTaiTuple yg82.tuples c111) (h113 : Nn c111 3) (s113 : Stamp) (c113_0 : C) (hc113_0 : SoC dT_alarm_Due yg82.ends.l c113_0) (hn113_0 : Nn c113_0 2) (s115 : Stamp) (H105 : Go.Ev.H) (_ : Fm 98 h [] [(13,s115,[.v (.p (.int .i64 yg82.cap)),.v (.p (.int .u64 yg82.remb)),.v (.p (.bool yg82.told)),c111,.own s113 ([c113_0])])] [] H105),Sim (kE0 q0 q4 q6 yg82) (K ((.exit 2),(envL [(0,v107),(3,(.ref ⟨h.length,13,0,s115,[]⟩ 0)),(4,(.p (.int .i64 q4))),(6,v109)]),H105)) Q) (hE1 : ∀ (q2 : Bool) (H117 : Go.Ev.H) (_ : Fm 98 h [] [] [] H117),Sim (kE1 q2) (K (.ret,(envL [(2,(.p (.bool q2)))]),H117)) Q) (k : Nat) : ∀ (x0 : (List Tz14Ask)) (x4 : Int) (x6 : (List TaiTuple)) (x50 : Int) (x51 : Int) (yg24 : T_limit_Limit) (v73 : V) (h74 : SlH h dTz14Ask x0 v73) (v75 : V) (h76 : SlF dTaiTuple x6 v75) (c77 : C) (h78 : SoC dTaiTuple yg24.tuples c77) (h79 : Nn c77 3) (s79 : Stamp) (c79_0 : C) (hc79_0 : SoC dT_alarm_Due yg24.ends.l c79_0) (hn79_0 : Nn c79_0 2) (s81 : Stamp) (H71 : Go.Ev.H) (_ : Fm 98 h [] [(13,s81,[.v (.p (.int .i64 yg24.cap)),.v (.p (.int .u64 yg24.remb)),.v (.p (.bool yg24.told)),c77,.own s79 ([c79_0])])] [] H71) {σ : Stamp},Sim (p_zl14_LimitSet_l1 k kE0 kE1 x0 x4 x6 x50 x51 yg24) ((cvL G X0 zl14_LimitSet_c1 zl14_LimitSet_l1 σ (envL [(0,v73),(3,(.ref ⟨h.length,13,0,s81,[]⟩ 0)),(4,(.p (.int .i64 x4))),(6,v75),(50,(.p (.int .i64 x50))),(51,(.p (.int .i64 x51)))]) H71).bind K) Q:=by
 induction k with
 | zero => intros; exact .no
 | succ k ih =>
  intro x0 x4 x6 x50 x51 yg24 v73 h74 v75 h76 c77 h78 h79 s79 c79_0 hc79_0 hn79_0 s81 H71 S72 σ
  rw [p_zl14_LimitSet_l1]
  refine .round (Sim.ext (zl14_LimitSet_r1 _ _ _ _ _ _ _ _ _ _) ?_)
  refine .cq ?_ ?_
  ·refine .ch (P:=fun r y => r = y) ?_ (fun b100 y101 h102 h103 => ?_)
   ·refine .cq ?_ ?_
    ·refine .bd fun a84 h85 => ?_
     refine .op ((h76.h H71).iS h85 rfl) ?_
     obtain ⟨w87,h88,hE86⟩:=(h76.h H71).el h85 rfl
     obtain rfl:=dTaiTuple.inv h88
     refine .op (hE86.fa (j:=0) (by simp)) ?_
     obtain ⟨w90,h91,hE89⟩:=(h76.h H71).el h85 rfl
     obtain rfl:=dTaiTuple.inv h91
     refine .op (hE89.ld (j:=0) rfl) ?_
     refine .ci ?_
     refine .bd fun a92 h93 => ?_
     refine .op ((h76.h H71).iS h93 rfl) ?_
     obtain ⟨w95,h96,hE94⟩:=(h76.h H71).el h93 rfl
     obtain rfl:=dTaiTuple.inv h96
     refine .op (hE94.fa (j:=0) (by simp)) ?_
     obtain ⟨w98,h99,hE97⟩:=(h76.h H71).el h93 rfl
     obtain rfl:=dTaiTuple.inv h99
     refine .op (hE97.ld (j:=0) rfl) ?_
     refine .ci ?_
     exact .ret rfl rfl
    ·exact .ret rfl rfl
   subst h103
   refine .cq ?_ ?_
   ·exact hE1 false H71 (S72.wk2 aN aN)
   exact ih x0 x4 x6 x50 (IntKind.wrap .i64 (x51 + 1)) yg24 v73 h74 v75 h76 c77 h78 h79 s79 c79_0 hc79_0 hn79_0 s81 H71 (S72.wk2 (aC (aM 0 rfl) aN) aN)
  exact hE0 x0 x4 x6 yg24 v73 h74 v75 h76 c77 h78 h79 s79 c79_0 hc79_0 hn79_0 s81 H71 (S72.wk2 (aC (aM 0 rfl) aN) aN)
theorem zl14_LimitSet_l3_ok {h : H}  {kE0 : (List Tz14Ask)→Int→(List TaiTuple)→Bool→(List TaiTuple)→Int→Int→T_limit_Limit→Option β} (hE0 : ∀ (q0 : (List Tz14Ask)) (q4 : Int) (q6 : (List TaiTuple)) (q10 : Bool) (q72 : (List TaiTuple)) (q73 : Int) (q74 : Int) (yg181 : T_limit_Limit) (v203 : V) (h204 : SlH h dTz14Ask q0 v203) (v205 : V) (h206 : SlF dTaiTuple q6 v205) (v207 : V) (h208 : SlF dTaiTuple q72 v207) (c209 : C) (h210 : SoC dTaiTuple yg181.tuples c209) (h211 : Nn c209 3) (s211 : Stamp) (c211_0 : C) (hc211_0 : SoC dT_alarm_Due yg181.ends.l c211_0) (hn211_0 : Nn c211_0 2) (s213 : Stamp) (H201 : Go.Ev.H) (_ : Fm 98 h [] [(13,s213,[.v (.p (.int .i64 yg181.cap)),.v (.p (.int .u64 yg181.remb)),.v (.p (.bool yg181.told)),c209,.own s211 ([c211_0])])] [] H201),Sim (kE0 q0 q4 q6 q10 q72 q73 q74 yg181) (K ((.exit 6),(envL [(0,v203),(3,(.ref ⟨h.length,13,0,s213,[]⟩ 0)),(4,(.p (.int .i64 q4))),(6,v205),(10,(.p (.bool q10))),(72,v207),(73,(.p (.int .i64 q73))),(74,(.p (.int .i64 q74)))]),H201)) Q) (k : Nat) : ∀ (x0 : (List Tz14Ask)) (x4 : Int) (x6 : (List TaiTuple)) (x10 : Bool) (x72 : (List TaiTuple)) (x73 : Int) (x74 : Int) (x78 : (List TaiTuple)) (x79 : Int) (x80 : Int) (yg152 : T_limit_Limit) (yg162 : TaiTuple) (v168 : V) (h169 : SlH h dTz14Ask x0 v168) (v170 : V) (h171 : SlF dTaiTuple x6 v170) (v172 : V) (h173 : SlF dTaiTuple x72 v172) (v174 : V) (h175 : SlF dTaiTuple x78 v174) (c176 : C) (h177 : SoC dTaiTuple yg152.tuples c176) (h178 : Nn c176 3) (s178 : Stamp) (c178_0 : C) (hc178_0 : SoC dT_alarm_Due yg152.ends.l c178_0) (hn178_0 : Nn c178_0 2) (s180 : Stamp) (s182 : Stamp) (H166 : Go.Ev.H) (_ : Fm 98 h [] [(13,s180,[.v (.p (.int .i64 yg152.cap)),.v (.p (.int .u64 yg152.remb)),.v (.p (.bool yg152.told)),c176,.own s178 ([c178_0])]),(9,s182,List.map C.v [(.p (.int .u32 yg162.Owner)),(.p (.int .u64 yg162.Rate)),(.p (.int .i64 yg162.Over))])] [] H166) {σ : Stamp},Sim (p_zl14_LimitSet_l3 k kE0 x0 x4 x6 x10 x72 x73 x74 x78 x79 x80 yg152 yg162) ((cvL G X0 zl14_LimitSet_c3 zl14_LimitSet_l3 σ (envL [(0,v168),(3,(.ref ⟨h.length,13,0,s180,[]⟩ 0)),(4,(.p (.int .i64 x4))),(6,v170),(9,(.ref ⟨h.length,9,0,s182,[]⟩ 0)),(10,(.p (.bool x10))),(72,v172),(73,(.p (.int .i64 x73))),(74,(.p (.int .i64 x74))),(78,v174),(79,(.p (.int .i64 x79))),(80,(.p (.int .i64 x80)))]) H166).bind K) Q:=by
 induction k with
 | zero => intros; exact .no
 | succ k ih =>
  intro x0 x4 x6 x10 x72 x73 x74 x78 x79 x80 yg152 yg162 v168 h169 v170 h171 v172 h173 v174 h175 c176 h177 h178 s178 c178_0 hc178_0 hn178_0 s180 s182 H166 S167 σ
  rw [p_zl14_LimitSet_l3]
  refine .round (Sim.ext (zl14_LimitSet_r3 _ _ _ _ _ _ _ _ _ _ _ _ _ _ _ _) ?_)
  refine .cq ?_ ?_
  ·refine .bd fun a185 h186 => ?_
   refine .op ((h175.h H166).iS h186 rfl) ?_
   obtain ⟨w188,h189,hE187⟩:=(h175.h H166).el h186 rfl
   obtain rfl:=dTaiTuple.inv h189
   refine .op (hE187.all (by simp)) ?_
   obtain ⟨H190,e191,S192⟩:=S167.al (d:=12) (s:=(2::0::0::1::1::0::σ)) (z:=[(.p (.int .u32 0)),(.p (.int .u64 0)),(.p (.int .i64 0))]) (by decide) rfl
   refine .op (congrArg some e191) ?_
   obtain ⟨H194,e195,S196⟩:=S192.stGv (i:=0) (j:=0) (own:=false) (σ:=(3::0::0::1::1::0::σ)) (xs:=[.p (.int .u32 a185.Owner),.p (.int .u64 a185.Rate),.p (.int .i64 a185.Over)]) rfl rfl (sC (sI _ _) (sC (sI _ _) (sC (sI _ _) sN))) rfl rfl
   refine .op (sM e195) ?_
   refine .ch (P:=fun r y => r = y) ?_ (fun b197 y198 h199 h200 => ?_)
   ·refine .cq ?_ ?_
    ·exact .ret rfl rfl
    ·refine .op ((S196.atG (i:=0) rfl).ldVs (j:=0) (xs:=[.p (.int .u32 a185.Owner),.p (.int .u64 a185.Rate),.p (.int .i64 a185.Over)]) rfl rfl (by decide)) ?_
     refine .op ((S196.atG (i:=2) rfl).ldVs (j:=0) (xs:=[.p (.int .u32 yg162.Owner),.p (.int .u64 yg162.Rate),.p (.int .i64 yg162.Over)]) rfl rfl (by decide)) ?_
     refine .op (eqS_ok (by kernel_rfl : _ = andL [a185.Owner == yg162.Owner,a185.Rate == yg162.Rate,a185.Over == yg162.Over])) ?_
     refine .ab ?_
     exact .ret rfl rfl
   subst h200
   exact ih x0 x4 x6 b197 x72 x73 x74 x78 x79 (IntKind.wrap .i64 (x80 + 1)) yg152 yg162 v168 h169 v170 h171 v172 h173 v174 h175 c176 h177 h178 s178 c178_0 hc178_0 hn178_0 s180 s182 H194 (S196.wk2 (aC (aM 1 rfl) (aC (aM 2 rfl) aN)) aN)
  exact hE0 x0 x4 x6 x10 x72 x73 x74 yg152 v168 h169 v170 h171 v172 h173 c176 h177 h178 s178 c178_0 hc178_0 hn178_0 s180 H166 (S167.wk2 (aC (aM 0 rfl) aN) aN)
theorem zl14_LimitSet_l2_ok {h : H}  {kE0 : (List Tz14Ask)→Int→(List TaiTuple)→T_limit_Limit→Option β} {kE1 : Bool→Option β} (hE0 : ∀ (q0 : (List Tz14Ask)) (q4 : Int) (q6 : (List TaiTuple)) (yg152 : T_limit_Limit) (v233 : V) (h234 : SlH h dTz14Ask q0 v233) (v235 : V) (h236 : SlF dTaiTuple q6 v235) (c237 : C) (h238 : SoC dTaiTuple yg152.tuples c237) (h239 : Nn c237 3) (s239 : Stamp) (c239_0 : C) (hc239_0 : SoC dT_alarm_Due yg152.ends.l c239_0) (hn239_0 : Nn c239_0 2) (s241 : Stamp) (H231 : Go.Ev.H) (_ : Fm 98 h [] [(13,s241,[.v (.p (.int .i64 yg152.cap)),.v (.p (.int .u64 yg152.remb)),.v (.p (.bool yg152.told)),c237,.own s239 ([c239_0])])] [] H231),Sim (kE0 q0 q4 q6 yg152) (K ((.exit 4),(envL [(0,v233),(3,(.ref ⟨h.length,13,0,s241,[]⟩ 0)),(4,(.p (.int .i64 q4))),(6,v235)]),H231)) Q) (hE1 : ∀ (q2 : Bool) (H243 : Go.Ev.H) (_ : Fm 98 h [] [] [] H243),Sim (kE1 q2) (K (.ret,(envL [(2,(.p (.bool q2)))]),H243)) Q) (k : Nat) : ∀ (x0 : (List Tz14Ask)) (x4 : Int) (x6 : (List TaiTuple)) (x72 : (List TaiTuple)) (x73 : Int) (x74 : Int) (yg131 : T_limit_Limit) (v141 : V) (h142 : SlH h dTz14Ask x0 v141) (v143 : V) (h144 : SlF dTaiTuple x6 v143) (v145 : V) (h146 : SlF dTaiTuple x72 v145) (c147 : C) (h148 : SoC dTaiTuple yg131.tuples c147) (h149 : Nn c147 3) (s149 : Stamp) (c149_0 : C) (hc149_0 : SoC dT_alarm_Due yg131.ends.l c149_0) (hn149_0 : Nn c149_0 2) (s151 : Stamp) (H139 : Go.Ev.H) (_ : Fm 98 h [] [(13,s151,[.v (.p (.int .i64 yg131.cap)),.v (.p (.int .u64 yg131.remb)),.v (.p (.bool yg131.told)),c147,.own s149 ([c149_0])])] [] H139) {σ : Stamp},Sim (p_zl14_LimitSet_l2 k kE0 kE1 x0 x4 x6 x72 x73 x74 yg131) ((cvL G X0 zl14_LimitSet_c2 zl14_LimitSet_l2 σ (envL [(0,v141),(3,(.ref ⟨h.length,13,0,s151,[]⟩ 0)),(4,(.p (.int .i64 x4))),(6,v143),(72,v145),(73,(.p (.int .i64 x73))),(74,(.p (.int .i64 x74)))]) H139).bind K) Q:=by
 induction k with
 | zero => intros; exact .no
 | succ k ih =>
  intro x0 x4 x6 x72 x73 x74 yg131 v141 h142 v143 h144 v145 h146 c147 h148 h149 s149 c149_0 hc149_0 hn149_0 s151 H139 S140 σ
  rw [p_zl14_LimitSet_l2]
  refine .round (Sim.ext (zl14_LimitSet_r2 _ _ _ _ _ _ _ _ _ _ _) ?_)
  refine .cq ?_ ?_
  ·refine .bd fun a154 h155 => ?_
   refine .op ((h146.h H139).iS h155 rfl) ?_
   obtain ⟨w157,h158,hE156⟩:=(h146.h H139).el h155 rfl
   obtain rfl:=dTaiTuple.inv h158
   refine .op (hE156.all (by simp)) ?_
   obtain ⟨H159,e160,S161⟩:=S140.al (d:=9) (s:=(2::0::0::1::1::0::σ)) (z:=[(.p (.int .u32 0)),(.p (.int .u64 0)),(.p (.int .i64 0))]) (by decide) rfl
   refine .op (congrArg some e160) ?_
   obtain ⟨H163,e164,S165⟩:=S161.stGv (i:=0) (j:=0) (own:=false) (σ:=(3::0::0::1::1::0::σ)) (xs:=[.p (.int .u32 a154.Owner),.p (.int .u64 a154.Rate),.p (.int .i64 a154.Over)]) rfl rfl (sC (sI _ _) (sC (sI _ _) (sC (sI _ _) sN))) rfl rfl
   refine .op (sM e164) ?_
   refine .op ((h144.h H163).len) ?_
   refine .ci ?_
   refine .as (zl14_LimitSet_l3_ok ?_ k x0 x4 x6 false x72 x73 x74 x6 ((x6.length : Int)) 0 yg131 a154 v141 h142 v143 h144 v145 h146 v143 h144 c147 h148 h149 s149 c149_0 hc149_0 hn149_0 s151 (2::0::0::1::1::0::σ) H163 (S165.wk2 (aC (aM 1 rfl) (aC (aM 0 rfl) aN)) aN))
   ·intro r215_0 r215_4 r215_6 r215_10 r215_72 r215_73 r215_74 yg181 v218 h219 v220 h221 v222 h223 c224 h225 h226 s226 c226_0 hc226_0 hn226_0 s228 H216 S217
    refine .ext (zl14_LimitSet_a3_6 _ _ _ _ _ _ _ _ _ _ _ _) ?_
    refine .cq ?_ ?_
    ·exact hE1 false H216 (S217.wk2 aN aN)
    exact ih r215_0 r215_4 r215_6 r215_72 r215_73 (IntKind.wrap .i64 (r215_74 + 1)) yg181 v218 h219 v220 h221 v222 h223 c224 h225 h226 s226 c226_0 hc226_0 hn226_0 s228 H216 (S217.wk2 (aC (aM 0 rfl) aN) aN)
  exact hE0 x0 x4 x6 yg131 v141 h142 v143 h144 c147 h148 h149 s149 c149_0 hc149_0 hn149_0 s151 H139 (S140.wk2 (aC (aM 0 rfl) aN) aN)
theorem zl14_LimitSet_l0_ok {h : H}  {kE0 : Unit→Option β} {kE1 : Bool→Option β} (hE0 : ∀ (_u : Unit) (H265 : Go.Ev.H) (_ : Fm 98 h [] [] [] H265),Sim (kE0 ()) (K ((.exit 0),(envL []),H265)) Q) (hE1 : ∀ (q2 : Bool) (H267 : Go.Ev.H) (_ : Fm 98 h [] [] [] H267),Sim (kE1 q2) (K (.ret,(envL [(2,(.p (.bool q2)))]),H267)) Q) (k : Nat) : ∀ (x0 : (List Tz14Ask)) (x4 : Int) (yg14 : T_limit_Limit) (v17 : V) (h18 : SlH h dTz14Ask x0 v17) (c19 : C) (h20 : SoC dTaiTuple yg14.tuples c19) (h21 : Nn c19 3) (s21 : Stamp) (c21_0 : C) (hc21_0 : SoC dT_alarm_Due yg14.ends.l c21_0) (hn21_0 : Nn c21_0 2) (s23 : Stamp) (H15 : Go.Ev.H) (_ : Fm 98 h [] [(13,s23,[.v (.p (.int .i64 yg14.cap)),.v (.p (.int .u64 yg14.remb)),.v (.p (.bool yg14.told)),c19,.own s21 ([c21_0])])] [] H15) {σ : Stamp},Sim (p_zl14_LimitSet_l0 k kE0 kE1 x0 x4 yg14) ((cvL G X0 zl14_LimitSet_c0 zl14_LimitSet_l0 σ (envL [(0,v17),(3,(.ref ⟨h.length,13,0,s23,[]⟩ 0)),(4,(.p (.int .i64 x4)))]) H15).bind K) Q:=by
 induction k with
 | zero => intros; exact .no
 | succ k ih =>
  intro x0 x4 yg14 v17 h18 c19 h20 h21 s21 c21_0 hc21_0 hn21_0 s23 H15 S16 σ
  rw [p_zl14_LimitSet_l0]
  refine .round (Sim.ext (zl14_LimitSet_r0 _ _ _ _ _ _ _) ?_)
  refine .op ((S16.low h18).len) ?_
  refine .ci ?_
  refine .ch (P:=fun r y => r = y) ?_ (fun b25 y26 h27 h28 => ?_)
  ·refine .cq ?_ ?_
   ·exact .ret rfl rfl
   ·exact .ret rfl rfl
  subst h28
  refine .cq ?_ ?_
  ·refine .bd fun a30 h31 => ?_
   refine .op ((S16.low h18).iS h31 rfl) ?_
   obtain ⟨w33,h34,hE32⟩:=(S16.low h18).el h31 rfl
   obtain rfl:=dTz14Ask.inv h34
   refine .op (hE32.fa (j:=1) (by simp)) ?_
   obtain ⟨w36,h37,hE35⟩:=(S16.low h18).el h31 rfl
   obtain rfl:=dTz14Ask.inv h37
   refine .op (hE35.ldn (j:=1) (by decide) (by simp)) ?_
   obtain ⟨H38,e39,S40⟩:=S16.al (d:=5) (s:=(5::0::0::1::0::σ)) (z:=[(.p (.int .u32 0)),(.p (.int .u64 0)),(.p (.int .i64 0))]) (by decide) rfl
   refine .op (congrArg some e39) ?_
   obtain ⟨H42,e43,S44⟩:=S40.stGv (i:=0) (j:=0) (own:=false) (σ:=(6::0::0::1::0::σ)) (xs:=[.p (.int .u32 a30.T.Owner),.p (.int .u64 a30.T.Rate),.p (.int .i64 a30.T.Over)]) rfl rfl (sC (sI _ _) (sC (sI _ _) (sC (sI _ _) sN))) rfl rfl
   refine .op (sM e43) ?_
   refine .fa ?_
   refine .op ((S44.atG (i:=0) rfl).ld (j:=0) rfl) ?_
   refine .ci ?_
   refine .fa ?_
   refine .op ((S44.atG (i:=0) rfl).ld (j:=1) rfl) ?_
   refine .ci ?_
   refine .fa ?_
   refine .op ((S44.atG (i:=0) rfl).ld (j:=2) rfl) ?_
   refine .ci ?_
   refine .fa ?_
   obtain ⟨H45,e46,S47⟩:=S44.stG (i:=0) (j:=0) (own:=true) (σ:=(10::0::1::0::1::0::σ)) (x:=(.p (.int .u32 (intBits .and .u32 a30.T.Owner 7)))) rfl rfl (sI _ _) rfl
   refine .op (sM e46) ?_
   refine .fa ?_
   obtain ⟨H48,e49,S50⟩:=S47.stG (i:=0) (j:=1) (own:=true) (σ:=(12::0::1::0::1::0::σ)) (x:=(.p (.int .u64 (intBits .and .u64 a30.T.Rate 65535)))) rfl rfl (sI _ _) rfl
   refine .op (sM e49) ?_
   refine .fa ?_
   obtain ⟨H51,e52,S53⟩:=S50.stG (i:=0) (j:=2) (own:=true) (σ:=(14::0::1::0::1::0::σ)) (x:=(.p (.int .i64 (intBits .and .i64 a30.T.Over 63)))) rfl rfl (sI _ _) rfl
   refine .op (sM e52) ?_
   refine .op ((S53.atG (i:=0) rfl).ldVs (j:=0) (xs:=[.p (.int .u32 (intBits .and .u32 a30.T.Owner 7)),.p (.int .u64 (intBits .and .u64 a30.T.Rate 65535)),.p (.int .i64 (intBits .and .i64 a30.T.Over 63))]) rfl rfl (by decide)) ?_
   refine .call (limit_Limit_Tmmbr_ok k yg14 h20 h21 hc21_0 hn21_0 (S53.atG (i:=1) rfl) ((⟨(intBits .and .u32 a30.T.Owner 7),(intBits .and .u64 a30.T.Rate 65535),(intBits .and .i64 a30.T.Over 63)⟩ : TaiTuple)) (show dTaiTuple.R ((⟨(intBits .and .u32 a30.T.Owner 7),(intBits .and .u64 a30.T.Rate 65535),(intBits .and .i64 a30.T.Over 63)⟩ : TaiTuple)) [.p (.int .u32 (intBits .and .u32 a30.T.Owner 7)),.p (.int .u64 (intBits .and .u64 a30.T.Rate 65535)),.p (.int .i64 (intBits .and .i64 a30.T.Over 63))] from (dTaiTuple.mk)) x4) fun r54 cs55 H56 h57 q58 => ?_
   obtain ⟨c59,s61,c61_0,h60,h61,hc61_0,hn61_0,q58⟩:=q58
   cases q58
   have S63:=S53.setG (i:=1) (cs':=[.v (.p (.int .i64 r54.2.cap)),.v (.p (.int .u64 r54.2.remb)),.v (.p (.bool r54.2.told)),c59,.own s61 ([c61_0])]) rfl rfl rfl
   refine .ab ?_
   refine .call (limit_Limit_Tuples_o_ok r54.2 h60 h61 hc61_0 hn61_0 (S63.atG (i:=1) rfl)) fun r64 cs65 H66 h67 q68 => ?_
   obtain ⟨v69,h70,q68⟩:=q68
   cases q68
   refine .op ((h70.h (ptC H51 ⟨h.length,13,0,s23,[]⟩ 0 ([.v (.p (.int .i64 r54.2.cap)),.v (.p (.int .u64 r54.2.remb)),.v (.p (.bool r54.2.told)),c59,.own s61 ([c61_0])]))).len) ?_
   refine .ci ?_
   refine .as (zl14_LimitSet_l1_ok ?_ ?_ k x0 x4 r64 ((r64.length : Int)) 0 r54.2 v17 h18 v69 h70 c59 h60 h61 s61 c61_0 hc61_0 hn61_0 s23 (ptC H51 ⟨h.length,13,0,s23,[]⟩ 0 ([.v (.p (.int .i64 r54.2.cap)),.v (.p (.int .u64 r54.2.remb)),.v (.p (.bool r54.2.told)),c59,.own s61 ([c61_0])])) (S63.wk2 (aC (aM 1 rfl) aN) aN))
   ·intro r119_0 r119_4 r119_6 yg82 v122 h123 v124 h125 c126 h127 h128 s128 c128_0 hc128_0 hn128_0 s130 H120 S121
    refine .ext (zl14_LimitSet_a1_2 _ _ _ _ _ _ _ _) ?_
    refine .call (limit_Limit_Set_o_ok k yg82 h127 h128 hc128_0 hn128_0 (S121.atG (i:=0) rfl)) fun r132 cs133 H134 h135 q136 => ?_
    obtain ⟨v137,h138,q136⟩:=q136
    cases q136
    refine .op ((h138.h H120).len) ?_
    refine .ci ?_
    refine .as (zl14_LimitSet_l2_ok ?_ ?_ k r119_0 r119_4 r119_6 r132 ((r132.length : Int)) 0 yg82 v122 h123 v124 h125 v137 h138 c126 h127 h128 s128 c128_0 hc128_0 hn128_0 s130 H120 (S121.wk2 (aC (aM 0 rfl) aN) aN))
    ·intro r245_0 r245_4 r245_6 yg152 v248 h249 v250 h251 c252 h253 h254 s254 c254_0 hc254_0 hn254_0 s256 H246 S247
     refine .ext (zl14_LimitSet_a2_4 _ _ _ _ _ _ _ _) ?_
     refine .op ((h251.h H246).len) ?_
     refine .ci ?_
     refine .cq ?_ ?_
     ·exact hE1 false H246 (S247.wk2 aN aN)
     exact ih r245_0 (IntKind.wrap .i64 (r245_4 + 1)) yg152 v248 h249 c252 h253 h254 s254 c254_0 hc254_0 hn254_0 s256 H246 (S247.wk2 (aC (aM 0 rfl) aN) aN)
    ·intro r259_2 H260 S261
     refine .ext (zl14_LimitSet_a2_ret _ _ _ _ _) ?_
     exact hE1 r259_2 H260 (S261.wk2 aN aN)
   ·intro r262_2 H263 S264
    refine .ext (zl14_LimitSet_a1_ret _ _ _ _ _) ?_
    exact hE1 r262_2 H263 (S264.wk2 aN aN)
  exact hE0 () H15 (S16.wk2 aN aN)
theorem zl14_LimitSet_ok (k : Nat) {h : H} {σ : Stamp} (x0 : List Tz14Ask) {u0 : V} (hu0 : SlH h dTz14Ask x0 u0) : Sim (p_zl14_LimitSet k x0) (ev G X0 12 σ [u0] h) (fun r s => s = ([.v (.p (.bool r))],h)):=by
 refine .ev rfl (Sim.ext (zl14_LimitSet_entry _ _ _ _ _) ?_)
 rw [p_zl14_LimitSet]
 have S0 : Fm 98 h [] [] [] (List.replicate 98 []::h):=Fm.start0
 refine .call (limit_New_ok 1099511627776) fun r1 cs2 H3 h4 q5 => ?_
 obtain ⟨s6,c7,s9,c9_0,h8,h9,hc9_0,hn9_0,q5⟩:=q5
 cases q5
 obtain ⟨H11,e12,S13⟩:=S0.landG (d:=13) (s:=s6) (cs:=[.v (.p (.int .i64 r1.cap)),.v (.p (.int .u64 r1.remb)),.v (.p (.bool r1.told)),c7,.own s9 ([c9_0])]) (by decide) rfl
 erw [e12]
 refine .op ((by kernel_rfl : _ = some (.p (.bool false)))) ?_
 refine .ab ?_
 refine .cdf rfl ?_
 refine .as (zl14_LimitSet_l0_ok ?_ ?_ k x0 0 r1 u0 hu0 c7 h8 h9 s9 c9_0 hc9_0 hn9_0 s6 H11 (S13.wk2 (aC (aM 0 rfl) aN) aN))
 ·intro _u H270 S271
  refine .ext (zl14_LimitSet_a0_0 _ _ _ _) ?_
  refine .call (zl14_known_ok k ) fun r272 cs273 H274 h275 q276 => ?_
  cases q276
  refine .ab ?_
  exact .fin (S271.finN (lC (sB _).lv lN)) rfl
 ·intro r277_2 H278 S279
  refine .ext (zl14_LimitSet_a0_ret _ _ _ _ _) ?_
  exact .fin (S279.finN (lC (sB _).lv lN)) rfl
end
end Go.Ev
namespace Go.Ev
namespace Lim
open Srt Alm
abbrev Ask:=Tz14Ask
theorem inset_l1 {l : List Tu} (hs : So l) (h1000 : l.length ≤ 1000) (kE0 : List Ask→Int→List Tu→Li→Option Bool) (kE1 : Bool→Option Bool) (x0 : List Ask) (x4 : Int) (L : Li) : ∀ m i k : Nat,i + m = l.length→m + 5 ≤ k →
  p_zl14_LimitSet_l1 k kE0 kE1 x0 x4 l (l.length : Int) (i : Int) L = kE0 x0 x4 l L:=by
 intro m
 induction m with
 | zero =>
  intro i k hi hk
  obtain ⟨k,rfl⟩ : ∃ j,k = j + 1:=⟨k - 1,by omega⟩
  rw [p_zl14_LimitSet_l1,decide_eq_false (by omega),cond_false]
 | succ m ih =>
  intro i k hi hk
  obtain ⟨k,rfl⟩ : ∃ j,k = j + 1:=⟨k - 1,by omega⟩
  rw [p_zl14_LimitSet_l1,decide_eq_true (by omega),cond_true,show IntKind.wrap .i64 ((i : Int) + 1) = ((i + 1 : Nat) : Int) from wrap_i64 (by omega) (by omega)]
  by_cases h0 : i = 0
  ·subst h0
   rw [decide_eq_false (by omega),cond_false,Option.bind_some,cond_false]
   exact ih 1 k (by omega) (by omega)
  ·obtain ⟨j,rfl⟩ : ∃ j,i = j + 1:=⟨i - 1,by omega⟩
   have w : IntKind.wrap .i64 (((j + 1 : Nat) : Int) - 1) = ((j : Nat) : Int):=by rw [wrap_i64 (by omega) (by omega)]; omega
   have:=hs.get (p:=j) (q:=j + 1) (by omega) (by omega)
   rw [decide_eq_true (by omega),cond_true,tix (by omega),Option.bind_some,w,tix (by omega),Option.bind_some,Option.bind_some,decide_eq_false (by omega),cond_false]
   exact ih (j + 2) k (by omega) (by omega)
theorem andB3 (a b c : Bool) : andB [a,b,c] = (a && (b && c)):=by cases a <;> cases b <;> cases c <;> rfl
theorem inset_l3 {l : List Tu} (h1000 : l.length ≤ 1000) (s : Tu) (kE0 : List Ask→Int→List Tu→Bool→List Tu→Int→Int→Li→Option Bool) (x0 : List Ask) (x4 : Int) (x72 : List Tu) (x73 x74 : Int) (L : Li) : ∀ m i k : Nat,∀ b : Bool,i + m = l.length→m + 5 ≤ k→(b = true ∨ s ∈ l.drop i) →
  p_zl14_LimitSet_l3 k kE0 x0 x4 l b x72 x73 x74 l (l.length : Int) (i : Int) L s = kE0 x0 x4 l true x72 x73 x74 L:=by
 intro m
 induction m with
 | zero =>
  intro i k b hi hk hb
  obtain ⟨k,rfl⟩ : ∃ j,k = j + 1:=⟨k - 1,by omega⟩
  rw [p_zl14_LimitSet_l3,decide_eq_false (by omega),cond_false]
  rcases hb with rfl | hb
  ·rfl
  ·rw [List.drop_of_length_le (by omega)] at hb; cases hb
 | succ m ih =>
  intro i k b hi hk hb
  obtain ⟨k,rfl⟩ : ∃ j,k = j + 1:=⟨k - 1,by omega⟩
  rw [p_zl14_LimitSet_l3,decide_eq_true (by omega),cond_true,tix (by omega),Option.bind_some,tget (by omega),show IntKind.wrap .i64 ((i : Int) + 1) = ((i + 1 : Nat) : Int) from wrap_i64 (by omega) (by omega)]
  cases b with
  | true =>
   rw [cond_true,Option.bind_some]
   exact ih (i + 1) k true (by omega) (by omega) (.inl rfl)
  | false =>
   rw [cond_false,Option.bind_some]
   refine ih (i + 1) k _ (by omega) (by omega) ?_
   rcases hb with h | h
   ·cases h
   ·rw [List.drop_eq_getElem_cons (by omega : i < l.length)] at h
    rcases List.mem_cons.1 h with rfl | h
    ·left; rw [andB3]; simp
    ·exact .inr h
theorem inset_l2 {l S : List Tu} (h1000 : l.length ≤ 1000) (hS : ∀ s ∈ S,s ∈ l) (hl : S.length ≤ 2000) (kE0 : List Ask→Int→List Tu→Li→Option Bool) (kE1 : Bool→Option Bool) (x0 : List Ask) (x4 : Int) (L : Li) : ∀ m i k : Nat,i + m = S.length→m + 1010 ≤ k →
  p_zl14_LimitSet_l2 k kE0 kE1 x0 x4 l S (S.length : Int) (i : Int) L = kE0 x0 x4 l L:=by
 intro m
 induction m with
 | zero =>
  intro i k hi hk
  obtain ⟨k,rfl⟩ : ∃ j,k = j + 1:=⟨k - 1,by omega⟩
  rw [p_zl14_LimitSet_l2,decide_eq_false (by omega),cond_false]
 | succ m ih =>
  intro i k hi hk
  obtain ⟨k,rfl⟩ : ∃ j,k = j + 1:=⟨k - 1,by omega⟩
  have hil : i < S.length:=by omega
  rw [p_zl14_LimitSet_l2,decide_eq_true (by omega),cond_true,tix hil,Option.bind_some,tget hil]
  have:=inset_l3 h1000 S[i] (fun r215_0 r215_4 r215_6 r215_10 r215_72 r215_73 r215_74 yg181 => bif !r215_10 then kE1 false else p_zl14_LimitSet_l2 k kE0 kE1 r215_0 r215_4 r215_6 r215_72 r215_73 (IntKind.wrap .i64 (r215_74 + 1)) yg181) x0 x4 S (S.length : Int) (i : Int) L l.length 0 k false (by omega) (by omega) (.inr (hS _ (List.getElem_mem hil)))
  refine Eq.trans this ?_
  simp only [Bool.not_true,cond_false]
  rw [show IntKind.wrap .i64 ((i : Int) + 1) = ((i + 1 : Nat) : Int) from wrap_i64 (by omega) (by omega)]
  exact ih (i + 1) k (by omega) (by omega)
def Small (l : List Tu) : Prop:=∀ t ∈ l,t.Rate < 65536∧0 ≤ t.Over∧t.Over < 64
theorem Small.held {l : List Tu} (h : Small l) : l.map heldT = l:=by
 refine (List.map_congr_left fun t ht => ?_).trans (List.map_id _)
 obtain ⟨a,b,c⟩:=h t ht
 have e1 : (if 1099511627776 < t.Rate then 1099511627776 else t.Rate) = t.Rate:=if_neg (by omega)
 have e2 : (if 511 < t.Over then 511 else t.Over) = t.Over:=if_neg (by omega)
 have e3 : (if t.Over > 0 then t.Over else 0) = t.Over:=by split <;> omega
 unfold heldT
 rw [e1,e2,e3]; rfl
theorem setL_len (l : List Tu) : ∀ (n : Nat) (la : Tu),(setL l n la).length ≤ n
 | 0,_ => Nat.le_refl _
 | n + 1,la => by
  unfold setL
  rw [List.length_cons]
  split
  ·have:=setL_len l n (nextT l la).1; omega
  ·simp
theorem inset_l0 {xs : List Ask} (kE0 : Unit→Option Bool) (kE1 : Bool→Option Bool) : ∀ m i k : Nat,∀ L : Li,i + m = min xs.length 40→m + 5010 ≤ k→Ok L→Small L.tuples →
  p_zl14_LimitSet_l0 k kE0 kE1 xs (i : Int) L = kE0 ():=by
 intro m
 induction m with
 | zero =>
  intro i k L hi hk hL hs
  obtain ⟨k,rfl⟩ : ∃ j,k = j + 1:=⟨k - 1,by omega⟩
  rw [p_zl14_LimitSet_l0]
  by_cases hl : i < xs.length
  ·rw [decide_eq_true (by omega),cond_true,decide_eq_false (by omega),Option.bind_some,cond_false]
  ·rw [decide_eq_false (by omega),cond_false,Option.bind_some,cond_false]
 | succ m ih =>
  intro i k L hi hk hL hs
  obtain ⟨k,rfl⟩ : ∃ j,k = j + 1:=⟨k - 1,by omega⟩
  have hil : i < xs.length:=by omega
  have hx : ix xs (i : Int) = some xs[i]:=ix_at (List.getElem?_eq_getElem hil)
  have m0 : intBits .and .u32 xs[i].T.Owner 7 = xs[i].T.Owner % 2 ^ 3:=and_mask (k:=.u32) (n:=3) (m:=7) _ rfl (by decide)
  have m1 : intBits .and .u64 xs[i].T.Rate 65535 = xs[i].T.Rate % 2 ^ 16:=and_mask (k:=.u64) (n:=16) (m:=65535) _ rfl (by decide)
  have m2 : intBits .and .i64 xs[i].T.Over 63 = xs[i].T.Over % 2 ^ 6:=and_mask (k:=.i64) (n:=6) (m:=63) _ rfl (by decide)
  rw [p_zl14_LimitSet_l0,decide_eq_true (by omega),cond_true,decide_eq_true (by omega),Option.bind_some,cond_true,hx,Option.bind_some,m0,m1,m2]
  obtain ⟨t,ht⟩ : ∃ t : Tu,t = ⟨xs[i].T.Owner % 2 ^ 3,xs[i].T.Rate % 2 ^ 16,xs[i].T.Over % 2 ^ 6⟩:=⟨_,rfl⟩
  rw [← ht]
  have t0 : OkT t:=by rw [ht]; exact ⟨⟨by simp only; omega,by simp only; omega⟩,by simp only; omega,by simp only; omega⟩
  have t1 : t.Rate < 65536∧0 ≤ t.Over∧t.Over < 64:=by rw [ht]; exact ⟨by simp only; omega,by simp only; omega,by simp only; omega⟩
  obtain ⟨r,L',e,h⟩:=tmmbr_ok (now:=(i : Int)) hL t0 (k:=k) (by omega)
  have hL' : Ok L'∧Small L'.tuples:=by
   rcases h with ⟨_,rfl,_⟩ | ⟨_,h⟩
   ·exact ⟨hL,hs⟩
   ·refine ⟨h.ok,fun x hx => ?_⟩
    rcases List.mem_append.1 (h.tuples.mem_iff.1 hx) with h1 | h1
    ·exact hs x (List.mem_filter.1 h1).1
    ·rw [List.mem_singleton.1 h1]; exact t1
  obtain ⟨o',s'⟩:=hL'
  have hl:=o'.len
  rw [e,Option.bind_some]
  unfold p_limit_Limit_Tuples_o
  rw [clone_eq (by omega) (show L'.tuples.length < 2 ^ 40 by omega),Option.bind_some,Option.bind_some]
  refine Eq.trans (inset_l1 o'.so (by omega) _ _ xs (i : Int) L' L'.tuples.length 0 k (by omega) (by omega)) ?_
  unfold p_limit_Limit_Set_o
  rw [set_all (by omega) (by omega),Option.bind_some,Option.bind_some]
  have hS : ∀ s ∈ boundS L'.tuples,s ∈ L'.tuples:=fun s hs => by
   have:=boundS_mem hs
   rwa [s'.held] at this
  have hSl : (boundS L'.tuples).length ≤ 1001:=by
   unfold boundS
   split
   ·simp
   ·exact setL_len ..
  refine Eq.trans (inset_l2 (by omega) hS (by omega) _ _ xs (i : Int) L' (boundS L'.tuples).length 0 k (by omega) (by omega)) ?_
  rw [decide_eq_false (by omega),cond_false,show IntKind.wrap .i64 ((i : Int) + 1) = ((i + 1 : Nat) : Int) from wrap_i64 (by omega) (by omega)]
  exact ih (i + 1) k L' (by omega) (by omega) o' s'
theorem known6 : p_zl14_known 6000 = some true:=by kernel_rfl
theorem limitSet_p (xs : List Ask) : p_zl14_LimitSet 6000 xs = some true:=by
 have hn : p_limit_New 1099511627776 = some ⟨1099511627776,0,false,[],⟨[]⟩⟩:=rfl
 unfold p_zl14_LimitSet
 rw [hn,Option.bind_some]
 refine Eq.trans (inset_l0 (xs:=xs) (fun _ => (p_zl14_known 6000).bind fun r272 => some (r272)) (fun r => some r) (min xs.length 40) 0 6000 _ (by omega) (by omega) ok_new (fun t ht => (by cases ht))) ?_
 rw [known6]; rfl
end Lim
def tTup : DT:=.strct (.pair (.int .u32) (.pair (.int .u64) (.pair (.int .i64) .unit)))
def tAskL : DT:=.strct (.pair (.int .i64) (.pair tTup (.pair (.int .i64) .unit)))
def ofAskL (x : tAskL.D) : Tz14Ask:=⟨x.1,⟨x.2.1.1,x.2.1.2.1,x.2.1.2.2.1⟩,x.2.2.1⟩
theorem ofAskL_R (x : tAskL.D) : dTz14Ask.R (ofAskL x) (tAskL.cells x):=by
 obtain ⟨a,⟨b,c,d,u⟩,e,u'⟩:=x
 exact dTz14Ask.mk
theorem limitSet_ev (a0 : (DT.slice 40 tAskL).D) : ev G X0 12 [] [(DT.slice 40 tAskL).val a0] [] = some ([.v (bV true)],[]):=by
 obtain ⟨_,h3,rfl⟩:=zl14_LimitSet_ok 6000 (h:=[]) (σ:=[]) ((Option.getD a0 []).map ofAskL) ((slF_val (b:=40) (t:=tAskL) (d:=dTz14Ask) ofAskL ofAskL_R rfl a0).h []) _ (Lim.limitSet_p _)
 exact h3
end Go.Ev
