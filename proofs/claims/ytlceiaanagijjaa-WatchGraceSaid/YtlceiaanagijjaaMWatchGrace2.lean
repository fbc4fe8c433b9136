/- A part of the proof that follows: A layer that was seen is not idle until the grace is over, one that rests is not, and one that is woken is seen: WatchGrace is true for every input. -/
import Derived.Test.YtlceiaanagijjaaMWatchGrace1
/- limelightlaw20.known is true. -/
namespace Go.Ev.Watch
open Go.Proofs
theorem nil_eq (h : H) : binV Try.prog h .eql 39 (.p (.pointer none)) (.p (.pointer none)) = some (bV true) := by kernel_rfl
theorem nil_ne (h : H) : binV Try.prog h .neq 39 (.p (.pointer none)) (.p (.pointer none)) = some (bV false) := by kernel_rfl
theorem ref_eq (h : H) (l : Loc) (o : Nat) : binV Try.prog h .eql 39 (.ref l o) (.p (.pointer none)) = some (bV false) := by kernel_rfl
theorem lit2 (a b : Int) : buildSliceV Try.prog 24 2 [(0, .p (.int .i64 a)), (1, .p (.int .i64 b))] = some (.fz (ints [a, b]) 2 1 true) := by kernel_rfl
theorem lit1 (a : Int) : buildSliceV Try.prog 24 1 [(0, .p (.int .i64 a))] = some (.fz (ints [a]) 1 1 true) := by kernel_rfl
theorem put_own {L : Layer} {h : H} {d : Nat} {s s2 : Stamp} {cs : List C} (hd : L[d]? = some [.own s cs]) (w : List One) : Watch.put (L :: h) ⟨h.length, d, 0, s, []⟩ s2 w = L.set d [.own s [.arr s2 w.length 2 ((onesV w).map .v)]] :: h := setNd_own hd _
theorem known_ok (h : H) {σ : Stamp} : ev G X0 20 σ [] h = some ([.v (bV true)], h) := by
  refine ev_cv rfl ?_
  rw [limelightlaw20_known_entry]
  rw [callO_own (new_ok 2 (by omega) (by omega))]
  simp only [Option.bind_some, ref_eq, asB_p, cond_false]
  rw [callO_1 (new_none 0 (by omega))]
  simp only [Option.bind_some, nil_ne, asB_p, cond_false]
  rw [callO_1 (new_none 4 (by omega))]
  simp only [Option.bind_some, nil_ne, asB_p, cond_false]
  generalize hL : (List.replicate 84 ([] : List C)).set 9 _ = L
  have hd : L[9]? = some [.own (3 :: 0 :: 1 :: 1 :: 0 :: 0 :: 0 :: 1 :: 0 :: σ) [.arr (1 :: 0 :: 1 :: 1 :: 0 :: 0 :: 0 :: 1 :: 0 :: σ) (new 2).length 2 ((onesV (new 2)).map .v)]] := by rw [← hL]; simp
  have hw : At (L :: h) ⟨h.length, 9, 0, 3 :: 0 :: 1 :: 1 :: 0 :: 0 :: 0 :: 1 :: 0 :: σ, []⟩ (1 :: 0 :: 1 :: 1 :: 0 :: 0 :: 0 :: 1 :: 0 :: σ) (new 2) := nd_own hd
  generalize 3 :: 0 :: 1 :: 1 :: 0 :: 0 :: 0 :: 1 :: 0 :: σ = s1 at hd hw ⊢
  generalize 1 :: 0 :: 1 :: 1 :: 0 :: 0 :: 0 :: 1 :: 0 :: σ = s2 at hd hw ⊢
  have hp := put_own (h := h) (s2 := s2) hd
  generalize (⟨h.length, 9, 0, s1, []⟩ : Loc) = l at hw hp ⊢
  have w1 := hw.put [⟨0, false⟩, ⟨5, false⟩]
  have w2 := hw.put [⟨0, true⟩, ⟨5, false⟩]
  have w3 := hw.put [⟨7, false⟩, ⟨5, false⟩]
  rw [callO_1 (idle_ok hw (by decide) 500000)]
  simp only [Option.bind_some]
  rw [callO_0 (seen_ok hw 1 5), show seen (new 2) 1 5 = [⟨0, false⟩, ⟨5, false⟩] from rfl]
  simp only [Option.bind_some]
  rw [callO_1 (idle_ok w1 (by decide) 500000)]
  simp only [Option.bind_some]
  rw [callO_1 (rest_ok w1 0), show (isB [⟨0, false⟩, ⟨5, false⟩] 0 && !rest [⟨0, false⟩, ⟨5, false⟩] 0) = true from rfl, if_pos rfl, hw.put_put, show setRest [⟨0, false⟩, ⟨5, false⟩] 0 true = [⟨0, true⟩, ⟨5, false⟩] from rfl]
  simp only [Option.bind_some, asB_p]
  rw [callO_1 (rest_ok w2 0), show (isB [⟨0, true⟩, ⟨5, false⟩] 0 && !rest [⟨0, true⟩, ⟨5, false⟩] 0) = false from rfl, if_neg (by decide)]
  simp only [Option.bind_some, asB_p]
  rw [callO_1 (idle_ok w2 (by decide) 500000)]
  simp only [Option.bind_some]
  rw [callO_1 (wake_ok w2 0 7), show rest [⟨0, true⟩, ⟨5, false⟩] 0 = true from rfl, if_pos rfl, hw.put_put, show wake [⟨0, true⟩, ⟨5, false⟩] 0 7 = [⟨7, false⟩, ⟨5, false⟩] from rfl]
  simp only [Option.bind_some, asB_p]
  rw [callO_1 (wake_ok w3 0 8), show rest [⟨7, false⟩, ⟨5, false⟩] 0 = false from rfl, if_neg (by decide)]
  simp only [Option.bind_some, asB_p, lit2, lit1]
  rw [callO_1 (ints_ok (intsV_ok _ _) (lit_n [0, 1] 2 rfl _) (by decide)), show decide (idle (new 2) 500000 = [0, 1]) = true from by decide +kernel]
  simp only [Option.bind_some, asB_p, cond_true]
  rw [callO_1 (ints_ok (intsV_ok _ _) (lit_n [0] 1 rfl _) (by decide)), show decide (idle [⟨0, false⟩, ⟨5, false⟩] 500000 = [0]) = true from by decide +kernel]
  simp only [Option.bind_some, asB_p, cond_true, Bool.not_false]
  rw [(intsV_ok (idle [⟨0, true⟩, ⟨5, false⟩] 500000) []).lenO, show (idle [⟨0, true⟩, ⟨5, false⟩] 500000).length = 0 from by decide +kernel]
  simp only [Option.bind_some, castI_p, cond_true, show (((0 : Nat) : Int) == 0) = true from rfl]
  rw [callO_1 (resting_ok w3 0), show rest [⟨7, false⟩, ⟨5, false⟩] 0 = false from rfl]
  simp only [Option.bind_some, asB_p, cond_true, Bool.not_false]
  rw [callO_1 (rest_ok w3 5), show (isB [⟨7, false⟩, ⟨5, false⟩] 5 && !rest [⟨7, false⟩, ⟨5, false⟩] 5) = false from rfl, if_neg (by decide)]
  simp only [Option.bind_some, asB_p, cond_true, Bool.not_false]
  rw [callO_1 (resting_ok w3 (-1)), show rest [⟨7, false⟩, ⟨5, false⟩] (-1) = false from rfl]
  simp only [Option.bind_some, asB_p, cond_true, Bool.not_false]
  rw [callO_1 (idle_ok w3 (by decide) 500006)]
  simp only [Option.bind_some, lit1]
  rw [callO_1 (ints_ok (intsV_ok _ _) (lit_n [1] 1 rfl _) (by decide)), show decide (idle [⟨7, false⟩, ⟨5, false⟩] 500006 = [1]) = true from by decide +kernel]
  simp only [Option.bind_some, asB_p]
  rw [hp, fin_1 (still_bool _)]
end Go.Ev.Watch
/- limelightlaw20.WatchGrace is true. -/
namespace Go.Ev.Watch
open Go.Proofs
theorem idle_one (o : One) (now : Int) : idle [o] now = if isIdle o now then [0] else [] := by
  show idleTo [o] now 0 ++ _ = _
  simp [idleTo]
theorem idle_one_len (o : One) (now : Int) : (idle [o] now).length = if isIdle o now then 1 else 0 := by
  rw [idle_one]; split <;> rfl
theorem isIdle_no {o : One} {now : Int} (h : o.rest = true) : isIdle o now = false := by simp [isIdle, h]
theorem isIdle_eq {o : One} {now : Int} (h : o.rest = false) (h0 : 0 ≤ o.seen) (h1 : o.seen ≤ now) (h2 : now < 9223372036854775808) : isIdle o now = decide (500000 ≤ now - o.seen) := by
  unfold isIdle
  have e : (now % 18446744073709551616 - o.seen % 18446744073709551616) % 18446744073709551616 = now - o.seen := by omega
  rw [h, e]
  simp [h1]
theorem grace_ok (a b c : Int) {σ : Stamp} : ev G X0 8 σ [.p (.int .i64 a), .p (.int .i64 b), .p (.int .i64 c)] [] = some ([.v (bV true)], []) := by
  refine ev_cv rfl ?_
  rw [limelightlaw20_WatchGrace_entry]
  have m1 : intBits .and .i64 a 1099511627775 = a % 2 ^ 40 := and_mask a (by decide) (by decide)
  have m2 : intBits .and .i64 b 1048575 = b % 2 ^ 20 := and_mask b (by decide) (by decide)
  have m3 : intBits .and .i64 c 1048575 = c % 2 ^ 20 := and_mask c (by decide) (by decide)
  rw [m1, m2, m3]
  have bx : 0 ≤ a % 2 ^ 40 ∧ a % 2 ^ 40 < 2 ^ 40 := ⟨by omega, by omega⟩
  have by_ : 0 ≤ b % 2 ^ 20 ∧ b % 2 ^ 20 < 2 ^ 20 := ⟨by omega, by omega⟩
  have bz : 0 ≤ c % 2 ^ 20 ∧ c % 2 ^ 20 < 2 ^ 20 := ⟨by omega, by omega⟩
  generalize a % 2 ^ 40 = x at bx ⊢
  generalize b % 2 ^ 20 = u at by_ ⊢
  generalize c % 2 ^ 20 = v at bz ⊢
  rw [wrap64 (x := x + u) (by omega) (by omega), wrap64 (x := x + u - x) (by omega) (by omega), wrap64 (x := x + u + v) (by omega) (by omega), wrap64 (x := x + u + v + 500000) (by omega) (by omega), wrap64 (x := x + u + v + 500000 - 1) (by omega) (by omega)]
  rw [callO_own (new_ok 1 (by omega) (by omega))]
  simp only [Option.bind_some, ref_eq, asB_p, cond_false]
  generalize hL : (List.replicate 86 ([] : List C)).set 14 _ = L
  have hd : L[14]? = some [.own (3 :: 0 :: 1 :: 1 :: 0 :: 0 :: 0 :: 1 :: 0 :: σ) [.arr (1 :: 0 :: 1 :: 1 :: 0 :: 0 :: 0 :: 1 :: 0 :: σ) (new 1).length 2 ((onesV (new 1)).map .v)]] := by rw [← hL]; simp
  have hw : At (L :: []) ⟨([] : H).length, 14, 0, 3 :: 0 :: 1 :: 1 :: 0 :: 0 :: 0 :: 1 :: 0 :: σ, []⟩ (1 :: 0 :: 1 :: 1 :: 0 :: 0 :: 0 :: 1 :: 0 :: σ) (new 1) := nd_own hd
  generalize 3 :: 0 :: 1 :: 1 :: 0 :: 0 :: 0 :: 1 :: 0 :: σ = s1 at hd hw ⊢
  generalize 1 :: 0 :: 1 :: 1 :: 0 :: 0 :: 0 :: 1 :: 0 :: σ = s2 at hd hw ⊢
  have hp := put_own (h := []) (s2 := s2) hd
  generalize (⟨([] : H).length, 14, 0, s1, []⟩ : Loc) = l at hw hp ⊢
  have w1 := hw.put [⟨x, false⟩]
  have w2 := hw.put [⟨x, true⟩]
  have w3 := hw.put [⟨x + u + v, false⟩]
  rw [callO_0 (seen_ok hw 0 x), show seen (new 1) 0 x = [⟨x, false⟩] from by simp [seen, new]; omega]
  simp only [Option.bind_some]
  rw [callO_1 (idle_ok w1 (by simp) (x + u))]
  simp only [Option.bind_some, (intsV_ok _ []).lenO, castI_p, idle_one_len, isIdle_eq (o := ⟨x, false⟩) (now := x + u) rfl bx.1 (by simp; omega) (by omega)]
  have e1 : ((((if decide (500000 ≤ x + u - x) = true then 1 else 0 : Nat) : Int) == 1) == decide (x + u - x ≥ 500000)) = true := by
    by_cases h : 500000 ≤ x + u - x <;> simp [h]
  rw [e1]
  simp only [Bool.not_true, cond_false]
  rw [callO_1 (rest_ok w1 0), show (isB [⟨x, false⟩] 0 && !rest [⟨x, false⟩] 0) = true from rfl, if_pos rfl, hw.put_put, show setRest [⟨x, false⟩] 0 true = [⟨x, true⟩] from rfl]
  simp only [Option.bind_some, asB_p]
  rw [callO_1 (resting_ok w2 0), show rest [⟨x, true⟩] 0 = true from rfl]
  simp only [Option.bind_some, asB_p, cond_true]
  rw [callO_1 (idle_ok w2 (by simp) (x + u + v))]
  simp only [Option.bind_some, (intsV_ok _ []).lenO, castI_p, idle_one_len, isIdle_no (o := ⟨x, true⟩) rfl, Bool.false_eq_true, if_false, show (((0 : Nat) : Int) == 0) = true from rfl, asB_p, cond_true]
  rw [callO_1 (wake_ok w2 0 (x + u + v)), show rest [⟨x, true⟩] 0 = true from rfl, if_pos rfl, hw.put_put, show wake [⟨x, true⟩] 0 (x + u + v) = [⟨x + u + v, false⟩] from by simp [wake, seen, setRest]; omega]
  simp only [Option.bind_some, asB_p, cond_true]
  rw [callO_1 (resting_ok w3 0), show rest [⟨x + u + v, false⟩] 0 = false from rfl]
  simp only [Option.bind_some, asB_p, cond_true, Bool.not_false]
  rw [callO_1 (idle_ok w3 (by simp) (x + u + v + 500000 - 1))]
  simp only [Option.bind_some, (intsV_ok _ []).lenO, castI_p, idle_one_len]
  rw [isIdle_eq (o := ⟨x + u + v, false⟩) (now := x + u + v + 500000 - 1) rfl (by simp; omega) (by simp; omega) (by omega), show decide (500000 ≤ x + u + v + 500000 - 1 - (x + u + v)) = false from by simp; omega]
  simp only [Bool.false_eq_true, if_false, show (((0 : Nat) : Int) == 0) = true from rfl, asB_p, cond_true, Option.bind_some]
  rw [callO_1 (idle_ok w3 (by simp) (x + u + v + 500000))]
  simp only [Option.bind_some, (intsV_ok _ []).lenO, castI_p, idle_one_len]
  rw [isIdle_eq (o := ⟨x + u + v, false⟩) (now := x + u + v + 500000) rfl (by simp; omega) (by simp; omega) (by omega), show decide (500000 ≤ x + u + v + 500000 - (x + u + v)) = true from by simp; omega]
  simp only [if_true, show (((1 : Nat) : Int) == 1) = true from rfl, asB_p, cond_true, Option.bind_some]
  rw [callO_1 (known_ok _)]
  simp only [Option.bind_some, asB_p]
  rw [hp, fin_1 (still_bool _)]
end Go.Ev.Watch
