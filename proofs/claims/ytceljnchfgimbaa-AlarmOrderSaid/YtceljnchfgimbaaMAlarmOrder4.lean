/- A part of the proof that follows: what is due comes in order, each once, and no later one -/
import Derived.Test.YtceljnchfgimbaaMAlarmOrder3
namespace Go.Ev
namespace Alm
open Srt
def ent (ats : List Int) (q : Nat) : D:=⟨ats.getD q 0,(q : Int)⟩
def ents (ats : List Int) : Nat→List D
 | 0 => []
 | n + 1 => ents ats n ++ [ent ats n]
theorem ents_len (ats : List Int) : ∀ n,(ents ats n).length = n
 | 0 => rfl
 | n + 1 => by rw [ents,List.length_append,ents_len ats n]; rfl
theorem ents_mem {ats : List Int} {x : D} : ∀ {n : Nat},x ∈ ents ats n→∃ q,q < n∧x = ent ats q
 | 0,h => by cases h
 | n + 1,h => by
  rcases List.mem_append.1 h with h | h
  ·obtain ⟨q,h1,h2⟩:=ents_mem h
   exact ⟨q,by omega,h2⟩
  ·exact ⟨n,by omega,List.mem_singleton.1 h⟩
def upTo (now : Int) (l : List D) : List D:=l.filter fun x => decide (x.f_At ≤ now)
theorem order_l0 {β : Type} {ats : List Int} {now : Int} (kE : List Int→Int→Int→T_alarm_Table→Option β) {M : Nat} (hM : M = min ats.length 60) : ∀ m i k : Nat,∀ l : List D,i + m = M→4000 + m < k→TOk l→l.Perm (ents ats i) →
  ∃ l',p_zl12_AlarmOrder_l0 k kE ats now ((upTo now (ents ats i)).length : Int) (i : Int) ⟨l⟩ = kE ats now ((upTo now (ents ats M)).length : Int) ⟨l'⟩∧TOk l'∧l'.Perm (ents ats M):=by
 intro m
 induction m with
 | zero =>
  intro i k l hi hk ht hp
  obtain ⟨k,rfl⟩ : ∃ j,k = j + 1:=⟨k - 1,by omega⟩
  have hno : (bif decide ((i : Int) < (ats.length : Int)) then some (decide ((i : Int) < 60)) else some false) = some false:=by
   by_cases h : (i : Int) < (ats.length : Int)
   ·rw [decide_eq_true h,cond_true,decide_eq_false (by omega)]
   ·rw [decide_eq_false h,cond_false]
  rw [p_zl12_AlarmOrder_l0,hno,Option.bind_some,cond_false]
  have : i = M:=by omega
  subst this
  exact ⟨l,rfl,ht,hp⟩
 | succ m ih =>
  intro i k l hi hk ht hp
  obtain ⟨k,rfl⟩ : ∃ j,k = j + 1:=⟨k - 1,by omega⟩
  have hl : l.length = i:=by rw [hp.length_eq,ents_len]
  have hu : IntKind.wrap .u64 (i : Int) = (i : Int):=by
   simp only [IntKind.wrap,IntKind.signed,IntKind.bits]
   simp
   omega
  have hx : ix ats (i : Int) = some (ats.getD i 0):=by
   unfold ix
   rw [if_pos (by omega),Int.toNat_natCast,List.getElem?_eq_getElem (by omega),List.getD_eq_getElem?_getD,List.getElem?_eq_getElem (by omega)]; rfl
  obtain ⟨l',e1,e2,e3⟩:=set_ok (key:=(i : Int)) (t:=ats.getD i 0) ht (by omega) (by omega) (by omega) (k:=k) (by omega)
  have hd : dropK l (i : Int) = l:=dropK_none fun x hx => by
   obtain ⟨q,q1,rfl⟩:=ents_mem (hp.mem_iff.1 hx)
   show (q : Int) ≠ (i : Int)
   omega
  rw [hd] at e3
  have hp' : l'.Perm (ents ats (i + 1)):=e3.trans (hp.append_right _)
  rw [p_zl12_AlarmOrder_l0,decide_eq_true (by omega),cond_true,Option.bind_some,decide_eq_true (by omega),cond_true,hx,Option.bind_some,hu,e1,Option.bind_some,Option.bind_some,wS (i:=i) (by omega)]
  have hc : upTo now (ents ats (i + 1)) = upTo now (ents ats i) ++ (if ats.getD i 0 ≤ now then [ent ats i] else []):=by
   unfold upTo
   rw [ents,List.filter_append]
   congr 1
   by_cases h : ats.getD i 0 ≤ now
   ·rw [if_pos h]
    have : decide ((ent ats i).f_At ≤ now) = true:=decide_eq_true h
    simp [this]
   ·rw [if_neg h]
    have : decide ((ent ats i).f_At ≤ now) = false:=decide_eq_false h
    simp [this]
  have hle : (upTo now (ents ats i)).length ≤ i:=Nat.le_trans (List.length_filter_le ..) (by rw [ents_len]; exact Nat.le_refl _)
  obtain ⟨l2,r1,r2,r3⟩:=ih (i + 1) k l' (by omega) (by omega) e2 hp'
  refine ⟨l2,?_,r2,r3⟩
  rw [hc] at r1
  by_cases h : ats.getD i 0 ≤ now
  ·rw [decide_eq_true h,cond_true,wS (i:=(upTo now (ents ats i)).length) (by omega)]
   rw [if_pos h,List.length_append] at r1
   exact r1
  ·rw [decide_eq_false h,cond_false]
   rw [if_neg h,List.append_nil] at r1
   exact r1
theorem order_l1 {β : Type} {ats : List Int} {now x6 : Int} {yg : T_alarm_Table} {got : List D} (kE0 : List Int→Int→Int→List D→T_alarm_Table→Option β) (kE1 : Bool→Option β) (hats : ats.length < 2 ^ 50) (h1000 : got.length ≤ 1000)
  (h1 : ∀ x ∈ got,x.f_At ≤ now) (h2 : ∀ x ∈ got,∃ q,q < ats.length∧x = ent ats q) (h3 : ∀ q,0 < q→q < got.length→kv (got.getD (q - 1) z0) < kv (got.getD q z0)) : ∀ m i k : Nat,i + m = got.length→m + 5 ≤ k →
  p_zl12_AlarmOrder_l1 k kE0 kE1 ats now x6 got (got.length : Int) (i : Int) yg = kE0 ats now x6 got yg:=by
 intro m
 induction m with
 | zero =>
  intro i k hi hk
  obtain ⟨k,rfl⟩ : ∃ j,k = j + 1:=⟨k - 1,by omega⟩
  rw [p_zl12_AlarmOrder_l1,decide_eq_false (by omega),cond_false]
 | succ m ih =>
  intro i k hi hk
  obtain ⟨k,rfl⟩ : ∃ j,k = j + 1:=⟨k - 1,by omega⟩
  have hm : got.getD i z0 ∈ got:=by rw [getD_get (by omega)]; exact List.getElem_mem _
  obtain ⟨q,q1,q2⟩:=h2 _ hm
  have hat:=h1 _ hm
  have hu : IntKind.wrap .u64 (ats.length : Int) = (ats.length : Int):=by
   simp only [IntKind.wrap,IntKind.signed,IntKind.bits]
   simp
   omega
  have hx : ix ats (ent ats q).Key = some (ent ats q).f_At:=by
   show ix ats (q : Int) = some (ats.getD q 0)
   unfold ix
   rw [if_pos (by omega),Int.toNat_natCast,List.getElem?_eq_getElem (by omega),List.getD_eq_getElem?_getD,List.getElem?_eq_getElem (by omega)]; rfl
  have hk2 : ¬ (ent ats q).Key ≥ (ats.length : Int):=by
   show ¬ (q : Int) ≥ _
   omega
  rw [p_zl12_AlarmOrder_l1,decide_eq_true (by omega),cond_true,ix_g (by omega),wS (by omega)]
  simp only [Option.bind_some]
  rw [decide_eq_false (show ¬ (got.getD i z0).f_At > now by omega),cond_false,hu]
  rw [q2,decide_eq_false hk2,hx]
  simp only [Option.bind_some,cond_false,bne_self_eq_false]
  have last : (bif decide ((i : Int) > 0) then ((ix got (IntKind.wrap .i64 ((i : Int) - 1))).bind fun a137 => (bif decide ((ent ats q).f_At < a137.f_At) then (some true) else ((ix got (IntKind.wrap .i64 ((i : Int) - 1))).bind fun a153 => (bif (ent ats q).f_At == a153.f_At then ((ix got (IntKind.wrap .i64 ((i : Int) - 1))).bind fun a169 => some (decide ((ent ats q).Key ≤ a169.Key))) else (some false)).bind fun b177 => some b177)).bind fun b181 => some b181) else (some false)) = some false:=by
   by_cases h0 : 0 < i
   ·rw [decide_eq_true (by omega),cond_true,wP (by omega) h0,ix_g (by omega)]
    simp only [Option.bind_some]
    have hlt:=h3 i h0 (by omega)
    rw [q2] at hlt
    have hm2 : got.getD (i - 1) z0 ∈ got:=by rw [getD_get (by omega)]; exact List.getElem_mem _
    obtain ⟨p,p1,p2⟩:=h2 _ hm2
    rw [p2] at hlt ⊢
    have k1 : kv (ent ats p) = (ent ats p).f_At * 18446744073709551616 + (p : Int):=rfl
    have k2 : kv (ent ats q) = (ent ats q).f_At * 18446744073709551616 + (q : Int):=rfl
    have k3 : (ent ats p).Key = (p : Int):=rfl
    have k4 : (ent ats q).Key = (q : Int):=rfl
    rw [k1,k2] at hlt
    rw [k3,k4,decide_eq_false (by omega),cond_false]
    by_cases he : (ent ats q).f_At = (ent ats p).f_At
    ·rw [show ((ent ats q).f_At == (ent ats p).f_At) = true from beq_iff_eq.2 he,cond_true,decide_eq_false (by omega)]; rfl
    ·rw [show ((ent ats q).f_At == (ent ats p).f_At) = false from beq_eq_false_iff_ne.2 he,cond_false]; rfl
   ·rw [decide_eq_false (by omega),cond_false]
  rw [last]
  simp only [Option.bind_some,cond_false]
  exact ih (i + 1) k (by omega) (by omega)
theorem upTo_take {l : List D} {n : Nat} {now : Int} (h1 : ∀ x ∈ l.take n,x.f_At ≤ now) (h2 : ∀ x ∈ l.drop n,¬ x.f_At ≤ now) : upTo now l = l.take n:=by
 unfold upTo
 rw [show l.filter (fun x => decide (x.f_At ≤ now)) = (l.take n ++ l.drop n).filter (fun x => decide (x.f_At ≤ now)) by rw [List.take_append_drop],List.filter_append,List.filter_eq_self.2 fun x hx => decide_eq_true (h1 x hx),List.filter_eq_nil_iff.2 fun x hx => by simpa using h2 x hx,List.append_nil]
theorem alarmOrder_p {ats : List Int} (hats : ats.length < 2 ^ 50) (now : Int) (hkn : p_zl12_known 5000 = some true) : p_zl12_AlarmOrder 5000 ats now = some true:=by
 unfold p_zl12_AlarmOrder p_alarm_New
 rw [Option.bind_some]
 generalize hK : (fun (r53_0 : List Int) (r53_1 r53_6 : Int) (yg22 : T_alarm_Table) => _) = K
 have hM60 : min ats.length 60 ≤ 60:=Nat.min_le_right ..
 obtain ⟨l,e,ht,hp⟩:=order_l0 (now:=now) K (ats:=ats) rfl (min ats.length 60) 0 5000 [] (by omega) (by omega) ⟨fun x hx => (by cases hx),fun p q _ _ h => (by simp at h),(by simp)⟩ (.refl _)
 refine Eq.trans e ?_
 rw [← hK]
 simp only
 have hl : l.length = min ats.length 60:=by rw [hp.length_eq,ents_len]
 obtain ⟨n,d1,d2,d3,d4⟩:=due_ok (now:=now) ht (by omega) (k:=5000) (by omega)
 rw [d1,Option.bind_some]
 simp only
 have hu : upTo now l = l.take n:=upTo_take d3 d4
 have hlen : (upTo now (ents ats (min ats.length 60))).length = n:=by
  have e0 : (upTo now l).length = (upTo now (ents ats (min ats.length 60))).length:=(hp.filter _).length_eq
  have e1 : (upTo now l).length = n:=by rw [hu,List.length_take]; omega
  omega
 have ht2 : TOk (l.drop n):=⟨fun x hx => ht.ok x (List.mem_of_mem_drop hx),fun p q h1 h2 h3 => by
  rw [List.length_drop] at h3
  have:=ht.od (n + p) (n + q) (by omega) (by omega) (by omega)
  unfold g at this ⊢
  rw [List.getD_eq_getElem?_getD,List.getD_eq_getElem?_getD,List.getElem?_drop,List.getElem?_drop,← List.getD_eq_getElem?_getD,← List.getD_eq_getElem?_getD]
  exact this,ht.nd.sublist ((List.drop_sublist n l).map _)⟩
 generalize hK2 : (fun (r207_0 : List Int) (r207_1 r207_6 : Int) (r207_8 : List D) (yg84 : T_alarm_Table) => _) = K2
 have mem : ∀ x ∈ l,∃ q,q < ats.length∧x = ent ats q:=fun x hx => by
  obtain ⟨q,q1,q2⟩:=ents_mem (hp.mem_iff.1 hx)
  exact ⟨q,by omega,q2⟩
 have strict : ∀ q,0 < q→q < (l.take n).length→kv ((l.take n).getD (q - 1) z0) < kv ((l.take n).getD q z0):=fun q q0 q1 => by
  rw [List.length_take] at q1
  have e1:=ht.od (q - 1) q (by omega) (by omega) (by omega)
  rw [getD_get (by rw [List.length_take]; omega),getD_get (by rw [List.length_take]; omega),List.getElem_take,List.getElem_take]
  unfold g at e1
  rw [getD_get (by omega),getD_get (by omega)] at e1
  have hne : kv (l[q - 1]'(by omega)) ≠ kv (l[q]'(by omega)):=fun he => by
   have e2:=kv_inj (ht.ok _ (List.getElem_mem _)) (ht.ok _ (List.getElem_mem _)) he
   have hnd:=ht.nd
   have e3:=(List.pairwise_iff_getElem.1 hnd) (q - 1) q (by rw [List.length_map]; omega) (by rw [List.length_map]; omega) (by omega)
   rw [List.getElem_map,List.getElem_map,e2] at e3
   exact e3 rfl
  omega
 have run:=order_l1 (now:=now) (x6:=((upTo now (ents ats (min ats.length 60))).length : Int)) (yg:=⟨l.drop n⟩) (got:=l.take n) K2 (fun r266_4 => some r266_4) hats (by rw [List.length_take]; omega) d3 (fun x hx => mem x (List.mem_of_mem_take hx)) strict (l.take n).length 0 5000 (by omega) (by rw [List.length_take]; omega)
 refine Eq.trans run ?_
 rw [← hK2]
 simp only
 rw [hlen,show (((l.take n).length : Int) == (n : Int)) = true by rw [List.length_take,Nat.min_eq_left d2,beq_self_eq_true],cond_true]
 obtain ⟨n2,f1,f2,f3,f4⟩:=due_ok (now:=now) ht2 (by rw [List.length_drop]; omega) (k:=5000) (by omega)
 have hn2 : n2 = 0:=by
  cases n2 with
  | zero => rfl
  | succ n2 =>
   exfalso
   have hne : 0 < ((l.drop n).take (n2 + 1)).length:=by rw [List.length_take]; omega
   obtain ⟨x,hx⟩:=List.exists_mem_of_length_pos hne
   exact d4 x (List.mem_of_mem_take hx) (f3 x hx)
 subst hn2
 rw [f1,Option.bind_some]
 unfold p_alarm_Table_Len_o
 have hmin : (if 60 < ((ats.length : Int)) then 60 else ((ats.length : Int))) = ((min ats.length 60 : Nat) : Int):=by split <;> omega
 simp only [List.take_zero,List.length_nil,List.drop_zero,Option.bind_some]
 rw [hmin,wr (by omega) (by omega),List.length_drop,hl,show ((((min ats.length 60 - n : Nat)) : Int) == ((min ats.length 60 : Nat) : Int) - (n : Int)) = true from beq_iff_eq.2 (by omega)]
 simp only [show (((0 : Nat) : Int) == 0) = true from rfl,cond_true,Option.bind_some,hkn]
end Alm
theorem known5000 : p_zl12_known 5000 = some true:=by kernel_rfl
theorem alarmOrder_ev (a0 : (DT.slice 8 (.int .i64)).D) (a1 : Int) (w0 : (DT.slice 8 (.int .i64)).ok a0) (_ : (DT.int .i64).ok a1) :
  ev G X0 3 [] [(DT.slice 8 (.int .i64)).val a0,(DT.int .i64).val a1] [] = some ([.v (bV true)],[]):=by
 have hl : (Option.getD a0 []).length < 2 ^ 50:=by
  cases a0 with
  | none => exact Nat.two_pow_pos 50
  | some l =>
   have:=w0.1
   have hr : reachBytes ≤ 140737488355328:=by decide
   have e : (Option.getD (some l) []).length = l.length:=rfl
   omega
 obtain ⟨_,h1,rfl⟩:=zl12_AlarmOrder_ok 5000 (h:=[]) (σ:=[]) (Option.getD a0 []) ((slF_ints a0).h _) a1 _ (Alm.alarmOrder_p hl a1 known5000)
 exact h1
end Go.Ev
