/- A part of the proof that follows: a layer costs what came of it in the last half second -/
import Derived.Test.YtigkdihkmihmmaaMLayerCosts2
import Derived.KernelRfl
namespace Go.Ev
open Go.Proofs
set_option linter.unusedVariables false
set_option linter.unusedSimpArgs false
set_option maxRecDepth 100000
noncomputable section
abbrev KT10:=Exit→Env→H→Option (List C × H)
variable (rec : CallF) (loop : LoopV) (σ : Stamp)
theorem z86 (x0:V) (x1:Int) (x2:Bool) (x3:Int) (h:H):cvBody G rec loop 48 σ [x0,(.p (.int .i64 x1)),(.p (.bool x2)),(.p (.int .i64 x3))] h =
(callO rec 96 (2::0::0::0::σ) [x0,(.p (.int .i64 x1))] (List.replicate 53 []::h) (some 10)).bind fun q1 =>
(asB q1.1).bind fun b2 =>
(bif !b2 then (some true) else ((nilChk x0).bind fun t3 =>
(fA t3 0).bind fun t4 =>
(ldO false 1 q1.2 t4).bind fun t5 =>
(iS 10 t5 x1).bind fun t6 =>
(fA t6 7).bind fun t7 =>
(ldO false 1 q1.2 t7).bind fun t8 =>
(asB t8).bind fun b9 =>
some (b9==x2))).bind fun b10 =>
bif b10 then (
fin false σ q1.2 [])
else (
bif x2 then (
(nilChk x0).bind fun t11 =>
(fA t11 0).bind fun t12 =>
(ldO false 1 q1.2 t12).bind fun t13 =>
(callO rec 46 (8::1::0::1::0::σ) [x0,(.p (.int .i64 x1)),(.p (.int .i64 x3))] q1.2 (some 33)).bind fun q14 =>
(castI .i64 q14.1).bind fun n15 =>
need (ldO false 1 q14.2 t12=some t13) (
(iS 10 t13 x1).bind fun t16 =>
(fA t16 9).bind fun t17 =>
((stO true 1 (11::1::0::1::0::σ) q14.2 t17 (.p (.int .i64 n15))).map fun h=>(udf,h)).bind fun q18 =>
(nilChk x0).bind fun t19 =>
(fA t19 0).bind fun t20 =>
(ldO false 1 q18.2 t20).bind fun t21 =>
(nilChk x0).bind fun t22 =>
(fA t22 0).bind fun t23 =>
(ldO false 1 q18.2 t23).bind fun t24 =>
(iS 10 t21 x1).bind fun t25 =>
(fA t25 7).bind fun t26 =>
((stO true 1 (15::1::1::0::σ) q18.2 t26 (.p (.bool x2))).map fun h=>(udf,h)).bind fun q27 =>
(iS 10 t24 x1).bind fun t28 =>
(fA t28 8).bind fun t29 =>
((stO true 1 (18::1::1::0::σ) q27.2 t29 (.p (.bool (!x2)))).map fun h=>(udf,h)).bind fun q30 =>
fin false σ q30.2 []))
else (
(nilChk x0).bind fun t31 =>
(fA t31 0).bind fun t32 =>
(ldO false 1 q1.2 t32).bind fun t33 =>
(nilChk x0).bind fun t34 =>
(fA t34 0).bind fun t35 =>
(ldO false 1 q1.2 t35).bind fun t36 =>
(iS 10 t33 x1).bind fun t37 =>
(fA t37 7).bind fun t38 =>
((stO true 1 (15::1::1::0::σ) q1.2 t38 (.p (.bool x2))).map fun h=>(udf,h)).bind fun q39 =>
(iS 10 t36 x1).bind fun t40 =>
(fA t40 8).bind fun t41 =>
((stO true 1 (18::1::1::0::σ) q39.2 t41 (.p (.bool (!x2)))).map fun h=>(udf,h)).bind fun q42 =>
fin false σ q42.2 [])):=by kernel_rfl
theorem z82 (x0:V) (x1:Int) (x2:Int) (h:H):cvBody G rec loop 46 σ [x0,(.p (.int .i64 x1)),(.p (.int .i64 x2))] h =
(callO rec 96 (2::0::0::1::0::σ) [x0,(.p (.int .i64 x1))] (List.replicate 33 []::h) (some 10)).bind fun q1 =>
(asB q1.1).bind fun b2 =>
bif !b2 then (
fin false σ q1.2 [(.p (.int .i64 0))])
else (
(nilChk x0).bind fun t3 =>
(fA t3 0).bind fun t4 =>
(ldO false 1 q1.2 t4).bind fun t5 =>
(iS 10 t5 x1).bind fun t6 =>
(ldO true 10 q1.2 t6).bind fun t7 =>
(some (alO [.p (.string (⟨#[]⟩:ByteArray)),.p (.int .u32 0),.p (.int .i64 0),.p (.pointer none),.p (.pointer none),.p (.bool false),.p (.int .i64 0),.p (.bool false),.p (.bool false),.p (.int .i64 0)] (7::0::1::1::0::σ) 7 q1.2)).bind fun q8 =>
((stO false 10 (8::0::1::1::0::σ) q8.2 q8.1 t7).map fun h=>(udf,h)).bind fun q9 =>
(fA q8.1 7).bind fun t10 =>
(ldO false 1 q9.2 t10).bind fun t11 =>
(asB t11).bind fun b12 =>
(bif b12 then (some true) else ((fA q8.1 8).bind fun t13 =>
(ldO false 1 q9.2 t13).bind fun t14 =>
(asB t14).bind fun b15 =>
some b15)).bind fun b16 =>
bif b16 then (
(fA q8.1 9).bind fun t17 =>
(ldO false 1 q9.2 t17).bind fun t18 =>
(castI .i64 t18).bind fun n19 =>
fin false σ q9.2 [(.p (.int .i64 n19))])
else (
(fA q8.1 4).bind fun t20 =>
(ldO false 1 q9.2 t20).bind fun t21 =>
(callO rec 101 (3::0::1::1::1::1::0::σ) [t21,(.p (.int .i64 x2))] q9.2 (some 30)).bind fun q22 =>
(castI .i64 q22.1).bind fun n23 =>
(callO rec 100 (4::0::1::1::1::1::0::σ) [(.p (.int .i64 n23)),(.p (.int .i64 1000))] q22.2 (some 31)).bind fun q24 =>
(castI .i64 q24.1).bind fun n25 =>
fin false σ q24.2 [(.p (.int .i64 ((if n25>1 then n25 else 1))))])):=by kernel_rfl
theorem zcl (x0:Int) (x1:Int) (h:H):cvBody G rec loop 100 σ [(.p (.int .i64 x0)),(.p (.int .i64 x1))] h =
(callO rec 130 (1::0::1::0::σ) [(.p (.int .i64 x0))] (List.replicate 25 []::h) (some 9)).bind fun q1 =>
(castI .u64 q1.1).bind fun n2 =>
(callO rec 130 (3::0::1::0::σ) [(.p (.int .i64 x1))] q1.2 (some 11)).bind fun q3 =>
(castI .u64 q3.1).bind fun n4 =>
bif n4==0 then (
fin false σ q3.2 [(.p (.int .i64 0))])
else (
(divI .u64 n2 n4).bind fun t5 =>
(castI .u64 t5).bind fun n6 =>
(remI .u64 n2 n4).bind fun t7 =>
(castI .u64 t7).bind fun n8 =>
bif decide (n8>0) then (
fin false σ q3.2 [(.p (.int .i64 (IntKind.wrap .i64 (IntKind.wrap .u64 (n6+1)))))])
else (
fin false σ q3.2 [(.p (.int .i64 (IntKind.wrap .i64 n6)))])):=by kernel_rfl
end
end Go.Ev
namespace Go.Ev
open Go.Proofs
set_option linter.unusedVariables false
set_option linter.unusedSimpArgs false
set_option maxRecDepth 100000
section
variable {β α : Type} {Q : β→α→Prop} {K : Exit × Env × H→Option α}
def z3n (x0:Int) (x1:Int):Option (Int) :=
(z1v x0).bind fun r1 =>
(z1v x1).bind fun r6 =>
bif r6==0 then (
some (0))
else (
(divP .u64 r1 r6).bind fun n12 =>
(remP r1 r6).bind fun n14 =>
bif decide (n14>0) then (
some ((IntKind.wrap .i64 (IntKind.wrap .u64 (n12+1)))))
else (
some ((IntKind.wrap .i64 n12))))
theorem z9z {h:H} {σ:Stamp} (x0:Int) (x1:Int):Sim (z3n x0 x1) (ev G X0 100 σ [(.p (.int .i64 x0)),(.p (.int .i64 x1))] h) (fun r s=>s=([.v (.p (.int .i64 r))],h)):=by
 refine .ev rfl (Sim.ext (zcl _ _ _ _ _ _) ?_)
 rw [z3n]
 have S0:Fm 25 h [] [] [] (List.replicate 25 []::h):=Fm.start0
 refine .call (z44 x0) fun r1 cs2 H3 h4 q5=>?_
 cases q5
 refine .ci ?_
 refine .call (z44 x1) fun r6 cs7 H8 h9 q10=>?_
 cases q10
 refine .ci ?_
 refine .cq ?_ ?_
 ·exact .fin (S0.finN (lC (sI _ _).lv lN)) rfl
 refine .bd fun n12 h13=>?_
 refine .op (zlk h13) ?_
 refine .ci ?_
 refine .bd fun n14 h15=>?_
 refine .op (zea h15) ?_
 refine .ci ?_
 refine .cq ?_ ?_
 ·exact .fin (S0.finN (lC (sI _ _).lv lN)) rfl
 exact .fin (S0.finN (lC (sI _ _).lv lN)) rfl
end
end Go.Ev
namespace Go.Ev
open Go.Proofs
set_option linter.unusedVariables false
set_option linter.unusedSimpArgs false
set_option maxRecDepth 100000
noncomputable section
abbrev KT11:=Exit→Env→H→Option (List C × H)
variable (rec : CallF) (loop : LoopV) (σ : Stamp)
def z20:Code:=(codeAt (bodyOf Try.f101) [1,1,1,0,1,0,0])
def z1z:Lv:=⟨64,16,[(0,64)]⟩
def z66:KT11:=(kBlock 0 (kSeq G rec loop (codeAt (bodyOf Try.f101) [1,1,1,1]) ⟨16,16,[]⟩ (1::1::1::0::σ) (finC G false Try.f101 (1::σ))))
theorem z8j (x0:V) (x1:Int) (h:H):cvBody G rec loop 101 σ [x0,(.p (.int .i64 x1))] h =
(nilChk x0).bind fun t1 =>
(fA t1 5).bind fun t2 =>
(ldO false 1 (List.replicate 49 []::h) t2).bind fun t3 =>
(castI .i64 t3).bind fun n4 =>
(callO rec 128 (5::0::1::0::σ) [(.p (.int .i64 x1))] (List.replicate 49 []::h) (some 13)).bind fun q5 =>
(castI .i64 q5.1).bind fun n6 =>
need (ldO false 1 q5.2 t2=some (.p (.int .i64 n4))) (
(loop z20 z1z (1::0::1::1::1::0::σ) (envL [(0,x0),(6,(.p (.int .i64 0))),(7,(.p (.int .i64 (IntKind.wrap .i64 ((IntKind.wrap .i64 (((if n6>n4 then n6 else n4))-5))+1)))))]) q5.2).bind fun r7=>z66 rec loop σ r7.1 r7.2.1 r7.2.2):=by kernel_rfl
theorem zaa (x0:V) (x6:Int) (x7:Int) (h:H):z1a G rec loop z20 z1z σ (envL [(0,x0),(6,(.p (.int .i64 x6))),(7,(.p (.int .i64 x7)))]) h =
(nilChk x0).bind fun t8 =>
(fA t8 5).bind fun t9 =>
(ldO false 1 h t9).bind fun t10 =>
(castI .i64 t10).bind fun n11 =>
bif decide (x7≤n11) then (
(bif decide (x7≥0) then ((nilChk x0).bind fun t12 =>
(fA t12 5).bind fun t13 =>
(ldO false 1 h t13).bind fun t14 =>
(castI .i64 t14).bind fun n15 =>
some (decide (x7>(IntKind.wrap .i64 (n15-5))))) else (some false)).bind fun b16 =>
bif b16 then (
(nilChk x0).bind fun t17 =>
(fA t17 0).bind fun t18 =>
(iA 5 1 t18 (Int.tmod x7 5)).bind fun t19 =>
(ldO false 1 h t19).bind fun t20 =>
(castI .i64 t20).bind fun n21 =>
(callO rec 129 (8::1::0::1::0::σ) [(.p (.int .i64 x6)),(.p (.int .i64 n21))] h (some 45)).bind fun q22 =>
(castI .i64 q22.1).bind fun n23 =>
loop z20 z1z (1::σ) (envL [(0,x0),(6,(.p (.int .i64 n23))),(7,(.p (.int .i64 (IntKind.wrap .i64 (x7+1)))))]) q22.2)
else (
loop z20 z1z (1::σ) (envL [(0,x0),(6,(.p (.int .i64 x6))),(7,(.p (.int .i64 (IntKind.wrap .i64 (x7+1)))))]) h))
else (
some ((.exit 0),(envL [(6,(.p (.int .i64 x6)))]),h)):=by kernel_rfl
theorem z91 (x6:Int) (h:H):z66 rec loop σ (.exit 0) (envL [(6,(.p (.int .i64 x6)))]) h =
(callO rec 131 (1::0::1::1::1::1::0::σ) [(.p (.int .i64 x6)),(.p (.int .i64 1000000))] h (some 47)).bind fun q24 =>
(castI .i64 q24.1).bind fun n25 =>
(callO rec 100 (2::0::1::1::1::1::0::σ) [(.p (.int .i64 n25)),(.p (.int .i64 500000))] q24.2 (some 48)).bind fun q26 =>
(castI .i64 q26.1).bind fun n27 =>
fin false σ q26.2 [(.p (.int .i64 n27))]:=by kernel_rfl
theorem zcy (x0:Int) (x1:Int) (h:H):cvBody G rec loop 131 σ [(.p (.int .i64 x0)),(.p (.int .i64 x1))] h =
(callO rec 130 (1::0::1::0::σ) [(.p (.int .i64 x0))] (List.replicate 20 []::h) (some 9)).bind fun q1 =>
(castI .u64 q1.1).bind fun n2 =>
(callO rec 130 (3::0::1::0::σ) [(.p (.int .i64 x1))] q1.2 (some 11)).bind fun q3 =>
(castI .u64 q3.1).bind fun n4 =>
(callO rec 138 (4::0::1::0::σ) [(.p (.int .u64 n2)),(.p (.int .u64 n4))] q3.2 (some 12)).bind fun q5 =>
(extV q5.1 0).bind fun t6 =>
(castI .u64 t6).bind fun n7 =>
(extV q5.1 1).bind fun t8 =>
(castI .u64 t8).bind fun n9 =>
bif decide (n7>0) then (
fin false σ q5.2 [(.p (.int .i64 9223372036854775807))])
else (
fin false σ q5.2 [(.p (.int .i64 (IntKind.wrap .i64 ((if 9223372036854775807<n9 then 9223372036854775807 else n9)))))]):=by kernel_rfl
theorem z90 (x0:Int) (x1:Int) (h:H):cvBody G rec loop 138 σ [(.p (.int .u64 x0)),(.p (.int .u64 x1))] h =
fin false σ (List.replicate 51 []::h) [(.p (.int .u64 (IntKind.wrap .u64 ((IntKind.wrap .u64 ((IntKind.wrap .u64 ((Int.fdiv x0 (2^32))*(Int.fdiv x1 (2^32))))+(Int.fdiv (IntKind.wrap .u64 ((IntKind.wrap .u64 ((Int.fdiv x0 (2^32))*(intBits .and .u64 x1 4294967295)))+(Int.fdiv (IntKind.wrap .u64 ((intBits .and .u64 x0 4294967295)*(intBits .and .u64 x1 4294967295))) (2^32)))) (2^32))))+(Int.fdiv (IntKind.wrap .u64 ((intBits .and .u64 (IntKind.wrap .u64 ((IntKind.wrap .u64 ((Int.fdiv x0 (2^32))*(intBits .and .u64 x1 4294967295)))+(Int.fdiv (IntKind.wrap .u64 ((intBits .and .u64 x0 4294967295)*(intBits .and .u64 x1 4294967295))) (2^32)))) 4294967295)+(IntKind.wrap .u64 ((intBits .and .u64 x0 4294967295)*(Int.fdiv x1 (2^32)))))) (2^32)))))),(.p (.int .u64 (IntKind.wrap .u64 (x0*x1))))]:=by kernel_rfl
end
end Go.Ev
namespace Go.Ev
open Go.Proofs
set_option linter.unusedVariables false
set_option linter.unusedSimpArgs false
set_option maxRecDepth 100000
section
variable {β α : Type} {Q : β→α→Prop} {K : Exit × Env × H→Option α}
def z2e (x0:Int) (x1:Int):Option (Int×Int) :=
some ((IntKind.wrap .u64 ((IntKind.wrap .u64 ((IntKind.wrap .u64 ((Int.fdiv x0 (2^32))*(Int.fdiv x1 (2^32))))+(Int.fdiv (IntKind.wrap .u64 ((IntKind.wrap .u64 ((Int.fdiv x0 (2^32))*(intBits .and .u64 x1 4294967295)))+(Int.fdiv (IntKind.wrap .u64 ((intBits .and .u64 x0 4294967295)*(intBits .and .u64 x1 4294967295))) (2^32)))) (2^32))))+(Int.fdiv (IntKind.wrap .u64 ((intBits .and .u64 (IntKind.wrap .u64 ((IntKind.wrap .u64 ((Int.fdiv x0 (2^32))*(intBits .and .u64 x1 4294967295)))+(Int.fdiv (IntKind.wrap .u64 ((intBits .and .u64 x0 4294967295)*(intBits .and .u64 x1 4294967295))) (2^32)))) 4294967295)+(IntKind.wrap .u64 ((intBits .and .u64 x0 4294967295)*(Int.fdiv x1 (2^32)))))) (2^32)))),(IntKind.wrap .u64 (x0*x1)))
theorem zb1 {h:H} {σ:Stamp} (x0:Int) (x1:Int):Sim (z2e x0 x1) (ev G X0 138 σ [(.p (.int .u64 x0)),(.p (.int .u64 x1))] h) (fun r s=>s=([.v (.p (.int .u64 r.1)),.v (.p (.int .u64 r.2))],h)):=by
 refine .ev rfl (Sim.ext (z90 _ _ _ _ _ _) ?_)
 rw [z2e]
 have S0:Fm 51 h [] [] [] (List.replicate 51 []::h):=Fm.start0
 exact .fin (S0.finN (lC (sI _ _).lv (lC (sI _ _).lv lN))) rfl
def z56 (x0:Int) (x1:Int):Option (Int) :=
(z1v x0).bind fun r1 =>
(z1v x1).bind fun r6 =>
(z2e r1 r6).bind fun r11 =>
bif decide (r11.1>0) then (
some (9223372036854775807))
else (
some ((IntKind.wrap .i64 ((if 9223372036854775807<r11.2 then 9223372036854775807 else r11.2)))))
theorem zhb {h:H} {σ:Stamp} (x0:Int) (x1:Int):Sim (z56 x0 x1) (ev G X0 131 σ [(.p (.int .i64 x0)),(.p (.int .i64 x1))] h) (fun r s=>s=([.v (.p (.int .i64 r))],h)):=by
 refine .ev rfl (Sim.ext (zcy _ _ _ _ _ _) ?_)
 rw [z56]
 have S0:Fm 20 h [] [] [] (List.replicate 20 []::h):=Fm.start0
 refine .call (z44 x0) fun r1 cs2 H3 h4 q5=>?_
 cases q5
 refine .ci ?_
 refine .call (z44 x1) fun r6 cs7 H8 h9 q10=>?_
 cases q10
 refine .ci ?_
 refine .call (zb1 r1 r6) fun r11 cs12 H13 h14 q15=>?_
 cases q15
 refine .or ?_
 refine .ci ?_
 refine .or ?_
 refine .ci ?_
 refine .cq ?_ ?_
 ·exact .fin (S0.finN (lC (sI _ _).lv lN)) rfl
 exact .fin (S0.finN (lC (sI _ _).lv lN)) rfl
def zi {β:Type} (k:Nat) (kE0:Int→Option β) (x0:z4) (x6:Int) (x7:Int):Option β:=match k with
| 0=>none
| k+1 =>
bif decide (x7≤x0.last) then (
(bif decide (x7≥0) then (some (decide (x7>(IntKind.wrap .i64 (x0.last-5))))) else (some false)).bind fun b13 =>
bif b13 then (
(ix [((x0.slots.getD 0 0)),((x0.slots.getD 1 0)),((x0.slots.getD 2 0)),((x0.slots.getD 3 0)),((x0.slots.getD 4 0))] (Int.tmod x7 5)).bind fun a18 =>
(z2i x6 a18).bind fun r20 =>
zi k kE0 ((⟨[((x0.slots.getD 0 0)),((x0.slots.getD 1 0)),((x0.slots.getD 2 0)),((x0.slots.getD 3 0)),((x0.slots.getD 4 0))],x0.last,x0.total⟩:z4)) r20 (IntKind.wrap .i64 (x7+1)))
else (
zi k kE0 ((⟨[((x0.slots.getD 0 0)),((x0.slots.getD 1 0)),((x0.slots.getD 2 0)),((x0.slots.getD 3 0)),((x0.slots.getD 4 0))],x0.last,x0.total⟩:z4)) x6 (IntKind.wrap .i64 (x7+1))))
else (
kE0 x6)
def z26 (k:Nat) (x0:z4) (x1:Int):Option (Int) :=
(z3i x1).bind fun r1 =>
zi k (fun r27_6 =>
(z56 r27_6 1000000).bind fun r30 =>
(z3n r30 500000).bind fun r35 =>
some (r35)) ((⟨[((x0.slots.getD 0 0)),((x0.slots.getD 1 0)),((x0.slots.getD 2 0)),((x0.slots.getD 3 0)),((x0.slots.getD 4 0))],x0.last,x0.total⟩:z4)) 0 (IntKind.wrap .i64 ((IntKind.wrap .i64 (((if r1>x0.last then r1 else x0.last))-5))+1))
theorem z8p {h:H}  {kE0:Int→Option β} (hE0:∀ (q6:Int) (H25:Go.Ev.H) (_:Fm 49 h [] [] [] H25),Sim (kE0 q6) (K ((.exit 0),(envL [(6,(.p (.int .i64 q6)))]),H25)) Q) (k:Nat):∀ (x0:z4) (x6:Int) (x7:Int) (lr8:Loc) (or9:Nat) (har10:AtC h lr8 or9 (List.map C.v [(.p (.int .i64 ((x0.slots.getD 0 0)))),(.p (.int .i64 ((x0.slots.getD 1 0)))),(.p (.int .i64 ((x0.slots.getD 2 0)))),(.p (.int .i64 ((x0.slots.getD 3 0)))),(.p (.int .i64 ((x0.slots.getD 4 0)))),(.p (.int .i64 x0.last)),(.p (.int .i64 x0.total))])) (H6:Go.Ev.H) (_:Fm 49 h [] [] [] H6) {σ:Stamp},Sim (zi k kE0 x0 x6 x7) ((cvL G X0 z20 z1z σ (envL [(0,(.ref lr8 or9)),(6,(.p (.int .i64 x6))),(7,(.p (.int .i64 x7)))]) H6).bind K) Q:=by
 induction k with
 | zero=>intros;exact .no
 | succ k ih =>
  intro x0 x6 x7 lr8 or9 har10 H6 S7 σ
  rw [zi]
  refine .round (Sim.ext (zaa _ _ _ _ _ _ _) ?_)
  refine .nc ?_
  refine .fa ?_
  refine .op ((S7.lowA har10).ld (j:=5) rfl) ?_
  refine .ci ?_
  refine .cq ?_ ?_
  ·refine .ch (P:=fun r y=>r=y) ?_ (fun b13 y14 h15 h16=>?_)
   ·refine .cq ?_ ?_
    ·refine .nc ?_
     refine .fa ?_
     refine .op ((S7.lowA har10).ld (j:=5) rfl) ?_
     refine .ci ?_
     exact .ret rfl rfl
    ·exact .ret rfl rfl
   subst h16
   refine .cq ?_ ?_
   ·refine .nc ?_
    refine .fa ?_
    refine .bd fun a18 h19=>?_
    refine .op (iA_ok h19 rfl) ?_
    refine .op ((S7.lowA har10).ldIx (xs:=[((x0.slots.getD 0 0)),((x0.slots.getD 1 0)),((x0.slots.getD 2 0)),((x0.slots.getD 3 0)),((x0.slots.getD 4 0))]) (j:=0) (n:=5) (f:=fun z=>.p (.int .i64 z)) rfl h19 rfl) ?_
    refine .ci ?_
    refine .call (z63 x6 a18) fun r20 cs21 H22 h23 q24=>?_
    cases q24
    refine .ci ?_
    exact ih ((⟨[((x0.slots.getD 0 0)),((x0.slots.getD 1 0)),((x0.slots.getD 2 0)),((x0.slots.getD 3 0)),((x0.slots.getD 4 0))],x0.last,x0.total⟩:z4)) r20 (IntKind.wrap .i64 (x7+1)) lr8 or9 har10 H6 (S7.wk2 aN aN)
   exact ih ((⟨[((x0.slots.getD 0 0)),((x0.slots.getD 1 0)),((x0.slots.getD 2 0)),((x0.slots.getD 3 0)),((x0.slots.getD 4 0))],x0.last,x0.total⟩:z4)) x6 (IntKind.wrap .i64 (x7+1)) lr8 or9 har10 H6 (S7.wk2 aN aN)
  exact hE0 x6 H6 (S7.wk2 aN aN)
theorem za9 (k:Nat) {h:H} {σ:Stamp} (x0:z4)  {l0:Loc} {o0:Nat} (ha0:AtC h l0 o0 (List.map C.v [(.p (.int .i64 ((x0.slots.getD 0 0)))),(.p (.int .i64 ((x0.slots.getD 1 0)))),(.p (.int .i64 ((x0.slots.getD 2 0)))),(.p (.int .i64 ((x0.slots.getD 3 0)))),(.p (.int .i64 ((x0.slots.getD 4 0)))),(.p (.int .i64 x0.last)),(.p (.int .i64 x0.total))])) (x1:Int):Sim (z26 k x0 x1) (ev G X0 101 σ [(.ref l0 o0),(.p (.int .i64 x1))] h) (fun r s=>s=([.v (.p (.int .i64 r))],h)):=by
 refine .ev rfl (Sim.ext (z8j _ _ _ _ _ _) ?_)
 rw [z26]
 have S0:Fm 49 h [] [] [] (List.replicate 49 []::h):=Fm.start0
 refine .nc ?_
 refine .fa ?_
 refine .op ((S0.lowA ha0).ld (j:=5) rfl) ?_
 refine .ci ?_
 refine .call (za2 x1) fun r1 cs2 H3 h4 q5=>?_
 cases q5
 refine .ci ?_
 refine .nd ((S0.lowA ha0).ld (j:=5) rfl) ?_
 refine .as (z8p ?_ k ((⟨[((x0.slots.getD 0 0)),((x0.slots.getD 1 0)),((x0.slots.getD 2 0)),((x0.slots.getD 3 0)),((x0.slots.getD 4 0))],x0.last,x0.total⟩:z4)) 0 (IntKind.wrap .i64 ((IntKind.wrap .i64 (((if r1>x0.last then r1 else x0.last))-5))+1)) l0 o0 ha0 (List.replicate 49 []::h) (S0.wk2 aN aN))
 ·intro r27_6 H28 S29
  refine .ext (z91 _ _ _ _ _) ?_
  refine .call (zhb r27_6 1000000) fun r30 cs31 H32 h33 q34=>?_
  cases q34
  refine .ci ?_
  refine .call (z9z r30 500000) fun r35 cs36 H37 h38 q39=>?_
  cases q39
  refine .ci ?_
  exact .fin (S29.finN (lC (sI _ _).lv lN)) rfl
def zk (k:Nat) (x0:z5) (x1:Int) (x2:Int):Option (Int) :=
(zy x0 x1).bind fun r1 =>
bif !r1 then (
some (0))
else (
(ix x0.l x1).bind fun a7 =>
(bif a7.resting then (some true) else (some a7.woken)).bind fun b23 =>
bif b23 then (
some (a7.kept))
else (
(z26 k (⟨[((a7.meter.slots.getD 0 0)),((a7.meter.slots.getD 1 0)),((a7.meter.slots.getD 2 0)),((a7.meter.slots.getD 3 0)),((a7.meter.slots.getD 4 0))],a7.meter.last,a7.meter.total⟩:z4) x2).bind fun r28 =>
(z3n r28 1000).bind fun r33 =>
some (((if r33>1 then r33 else 1)))))
theorem z1f (k:Nat) {h:H} {σ:Stamp} (x0:z5) {c0_0:C} (hc0_0:RsC z9 x0.l c0_0) {l0:Loc} {o0:Nat} (ha0:AtC h l0 o0 ([c0_0])) (x1:Int) (x2:Int):Sim (zk k x0 x1 x2) (ev G X0 46 σ [(.ref l0 o0),(.p (.int .i64 x1)),(.p (.int .i64 x2))] h) (fun r s=>s=([.v (.p (.int .i64 r))],h)):=by
 refine .ev rfl (Sim.ext (z82 _ _ _ _ _ _ _) ?_)
 rw [zk]
 have S0:Fm 33 h [] [] [] (List.replicate 33 []::h):=Fm.start0
 refine .call (z1n x0 hc0_0 (S0.lowA ha0) x1) fun r1 cs2 H3 h4 q5=>?_
 cases q5
 refine .ab ?_
 refine .cq ?_ ?_
 ·exact .fin (S0.finN (lC (sI _ _).lv lN)) rfl
 refine .nc ?_
 refine .fa ?_
 refine .op (RsC.ld hc0_0 (S0.lowA ha0) (j:=0) rfl) ?_
 refine .bd fun a7 h8=>?_
 obtain ⟨lr9,w10,e11,h12,har13⟩:=RsH.el (RsC.rs hc0_0 ha0 (j:=0) rfl) h8 (e:=10) rfl
 obtain ⟨s14_3,s14_4,rfl⟩:=h12
 refine .op (e11) ?_
 refine .op ((S0.lowA har13).ldAll (j:=0) (xs:=[(.p (.string a7.told.Rid)),(.p (.int .u32 a7.told.Ssrc)),(.p (.int .i64 a7.told.Height)),(.ref (lr9.hop ((Int.toNat x1*10)+3) s14_3) 0),(.ref (lr9.hop ((Int.toNat x1*10)+4) s14_4) 0),(.p (.bool a7.came)),(.p (.int .i64 a7.f_until)),(.p (.bool a7.resting)),(.p (.bool a7.woken)),(.p (.int .i64 a7.kept))]) rfl rfl) ?_
 obtain ⟨H16,e17,S18⟩:=S0.al (d:=7) (s:=(7::0::1::1::0::σ)) (z:=[(.p (.string ((⟨#[]⟩:ByteArray)))),(.p (.int .u32 0)),(.p (.int .i64 0)),(.p (.pointer none)),(.p (.pointer none)),(.p (.bool false)),(.p (.int .i64 0)),(.p (.bool false)),(.p (.bool false)),(.p (.int .i64 0))]) (by decide) rfl
 refine .op (congrArg some e17) ?_
 obtain ⟨H20,e21,S22⟩:=S18.stGw (i:=0) (j:=0) (own:=false) (σ:=(8::0::1::1::0::σ)) (xs:=[(.p (.string a7.told.Rid)),(.p (.int .u32 a7.told.Ssrc)),(.p (.int .i64 a7.told.Height)),(.ref (lr9.hop ((Int.toNat x1*10)+3) s14_3) 0),(.ref (lr9.hop ((Int.toNat x1*10)+4) s14_4) 0),(.p (.bool a7.came)),(.p (.int .i64 a7.f_until)),(.p (.bool a7.resting)),(.p (.bool a7.woken)),(.p (.int .i64 a7.kept))]) (ws:=List.map C.v [(.p (.string a7.told.Rid)),(.p (.int .u32 a7.told.Ssrc)),(.p (.int .i64 a7.told.Height)),(.ref (lr9.hop ((Int.toNat x1*10)+3) s14_3) 0),(.ref (lr9.hop ((Int.toNat x1*10)+4) s14_4) 0),(.p (.bool a7.came)),(.p (.int .i64 a7.f_until)),(.p (.bool a7.resting)),(.p (.bool a7.woken)),(.p (.int .i64 a7.kept))]) rfl rfl (zr (Still.low (still_str _)) (zr (Still.low (sI _ _)) (zr (Still.low (sI _ _)) (zr (Low.hop _ _ _) (zr (Low.hop _ _ _) (zr (Still.low (sB _)) (zr (Still.low (sI _ _)) (zr (Still.low (sB _)) (zr (Still.low (sB _)) (zr (Still.low (sI _ _)) lw_nil)))))))))) rfl rfl
 refine .op (sM e21) ?_
 refine .fa ?_
 refine .op ((S22.atG (i:=0) rfl).ld (j:=7) rfl) ?_
 refine .ab ?_
 refine .ch (P:=fun r y=>r=y) ?_ (fun b23 y24 h25 h26=>?_)
 ·refine .cq ?_ ?_
  ·exact .ret rfl rfl
  ·refine .fa ?_
   refine .op ((S22.atG (i:=0) rfl).ld (j:=8) rfl) ?_
   refine .ab ?_
   exact .ret rfl rfl
 subst h26
 refine .cq ?_ ?_
 ·refine .fa ?_
  refine .op ((S22.atG (i:=0) rfl).ld (j:=9) rfl) ?_
  refine .ci ?_
  exact .fin (S22.finN (lC (sI _ _).lv lN)) rfl
 refine .fa ?_
 refine .op ((S22.atG (i:=0) rfl).ld (j:=4) rfl) ?_
 refine .call (za9 k (⟨[((a7.meter.slots.getD 0 0)),((a7.meter.slots.getD 1 0)),((a7.meter.slots.getD 2 0)),((a7.meter.slots.getD 3 0)),((a7.meter.slots.getD 4 0))],a7.meter.last,a7.meter.total⟩:z4) ((S22.lowA har13).sub (j:=4) rfl) x2) fun r28 cs29 H30 h31 q32=>?_
 cases q32
 refine .ci ?_
 refine .call (z9z r28 1000) fun r33 cs34 H35 h36 q37=>?_
 cases q37
 refine .ci ?_
 exact .fin (S22.finN (lC (sI _ _).lv lN)) rfl
def zw (k:Nat) (x0:z5) (x1:Int) (x2:Bool) (x3:Int):Option (z5) :=
(zy x0 x1).bind fun r1 =>
(bif !r1 then (some true) else ((ix x0.l x1).bind fun a6 =>
some (a6.resting==x2))).bind fun b16 =>
bif b16 then (
some (x0))
else (
bif x2 then (
(zk k x0 x1 x3).bind fun r22 =>
(ix x0.l x1).bind fun a27 =>
some ((⟨((x0.l.set (Int.toNat x1) ((⟨a27.told,a27.seen,(⟨[((a27.meter.slots.getD 0 0)),((a27.meter.slots.getD 1 0)),((a27.meter.slots.getD 2 0)),((a27.meter.slots.getD 3 0)),((a27.meter.slots.getD 4 0))],a27.meter.last,a27.meter.total⟩:z4),a27.came,a27.f_until,x2,(!x2),r22⟩:zc))))⟩:z5)))
else (
(ix x0.l x1).bind fun a50 =>
some ((⟨((x0.l.set (Int.toNat x1) ((⟨a50.told,a50.seen,(⟨[((a50.meter.slots.getD 0 0)),((a50.meter.slots.getD 1 0)),((a50.meter.slots.getD 2 0)),((a50.meter.slots.getD 3 0)),((a50.meter.slots.getD 4 0))],a50.meter.last,a50.meter.total⟩:z4),a50.came,a50.f_until,x2,(!x2),a50.kept⟩:zc))))⟩:z5))))
theorem z2g (k:Nat) {h:H} {σ:Stamp} (x0:z5) {c0_0:C} (hc0_0:RsC z9 x0.l c0_0) {l0:Loc} {o0:Nat} (ha0:AtC h l0 o0 ([c0_0])) (x1:Int) (x2:Bool) (x3:Int):Sim (zw k x0 x1 x2 x3) (ev G X0 48 σ [(.ref l0 o0),(.p (.int .i64 x1)),(.p (.bool x2)),(.p (.int .i64 x3))] h) (fun r s=>∃ (cb0_0:C),RsC z9 r.l cb0_0∧s=([],pts h [⟨l0,o0,[cb0_0]⟩])):=by
 refine .ev rfl (Sim.ext (z86 _ _ _ _ _ _ _ _) ?_)
 rw [zw]
 have S0:Fm 53 h [⟨l0,o0,[c0_0]⟩] [] [] (List.replicate 53 []::h):=Fm.start1 ha0
 refine .call (z1n x0 hc0_0 (S0.atB (i:=0) rfl) x1) fun r1 cs2 H3 h4 q5=>?_
 cases q5
 refine .ab ?_
 refine .ch (P:=fun r y=>r=y) ?_ (fun b16 y17 h18 h19=>?_)
 ·refine .cq ?_ ?_
  ·exact .ret rfl rfl
  ·refine .nc ?_
   refine .fa ?_
   refine .op (RsC.ld hc0_0 (S0.atB (i:=0) rfl) (j:=0) rfl) ?_
   refine .bd fun a6 h7=>?_
   obtain ⟨s8,P9,w10,Q11,rfl,h12,h13,h14⟩:=hc0_0.open h7 (e:=10) rfl
   obtain ⟨s14_3,s14_4,rfl⟩:=h13
   refine .op (iS_arr h7 _ _ _ _ _) ?_
   refine .fa ?_
   refine .op ((S0.atF (Foc.arr (Foc.of (i:=0) rfl) (j:=0) rfl h12)).ld (j:=7) rfl) ?_
   refine .ab ?_
   exact .ret rfl rfl
 subst h19
 refine .cq ?_ ?_
 ·exact .fin (S0.finN lN) ⟨c0_0,hc0_0,rfl⟩
 refine .cq ?_ ?_
 ·refine .nc ?_
  refine .fa ?_
  refine .op (RsC.ld hc0_0 (S0.atB (i:=0) rfl) (j:=0) rfl) ?_
  refine .call (z1f k x0 hc0_0 (S0.atB (i:=0) rfl) x1 x3) fun r22 cs23 H24 h25 q26=>?_
  cases q26
  refine .ci ?_
  refine .nd (RsC.ld hc0_0 (S0.atB (i:=0) rfl) (j:=0) rfl) ?_
  refine .bd fun a27 h28=>?_
  obtain ⟨s29,P30,w31,Q32,rfl,h33,h34,h35⟩:=hc0_0.open h28 (e:=10) rfl
  obtain ⟨s35_3,s35_4,rfl⟩:=h34
  refine .op (iS_arr h28 _ _ _ _ _) ?_
  refine .fa ?_
  obtain ⟨H37,e38,S39⟩:=S0.stF (Foc.arr (Foc.of (i:=0) rfl) (j:=0) rfl h33) (j:=9) (own:=true) (σ:=(11::1::0::1::0::σ)) (x:=(.p (.int .i64 r22))) (sI _ _) rfl
  refine .op (sM e38) ?_
  refine .nc ?_
  refine .fa ?_
  refine .op ((S39.atB (i:=0) rfl).ldR (j:=0) rfl) ?_
  refine .nc ?_
  refine .fa ?_
  refine .op ((S39.atB (i:=0) rfl).ldR (j:=0) rfl) ?_
  refine .op (iS_arr h28 _ _ _ _ _) ?_
  refine .fa ?_
  obtain ⟨H40,e41,S42⟩:=S39.stF (Foc.arr (Foc.of (i:=0) rfl) (j:=0) rfl h33) (j:=7) (own:=true) (σ:=(15::1::1::0::σ)) (x:=(.p (.bool x2))) (sB _) rfl
  refine .op (sM e41) ?_
  refine .op (iS_arr h28 _ _ _ _ _) ?_
  refine .fa ?_
  obtain ⟨H43,e44,S45⟩:=S42.stF (Foc.arr (Foc.of (i:=0) rfl) (j:=0) rfl h33) (j:=8) (own:=true) (σ:=(18::1::1::0::σ)) (x:=(.p (.bool (!x2)))) (sB _) rfl
  refine .op (sM e44) ?_
  obtain ⟨c46,e47,h48⟩:∃ c,c=.arr s29 x0.l.length 10 (P30++[.v (.p (.string a27.told.Rid)),.v (.p (.int .u32 a27.told.Ssrc)),.v (.p (.int .i64 a27.told.Height)),.own s35_3 (List.map C.v [(.p (.int .i64 a27.seen.first)),(.p (.int .i64 a27.seen.last)),(.p (.int .i64 a27.seen.count)),(.p (.int .u64 a27.seen.mask))]),.own s35_4 (List.map C.v [(.p (.int .i64 ((a27.meter.slots.getD 0 0)))),(.p (.int .i64 ((a27.meter.slots.getD 1 0)))),(.p (.int .i64 ((a27.meter.slots.getD 2 0)))),(.p (.int .i64 ((a27.meter.slots.getD 3 0)))),(.p (.int .i64 ((a27.meter.slots.getD 4 0)))),(.p (.int .i64 a27.meter.last)),(.p (.int .i64 a27.meter.total))]),.v (.p (.bool a27.came)),.v (.p (.int .i64 a27.f_until)),.v (.p (.bool x2)),.v (.p (.bool (!x2))),.v (.p (.int .i64 r22))]++Q32)∧RsC z9 ((x0.l.set (Int.toNat x1) ((⟨a27.told,a27.seen,(⟨[((a27.meter.slots.getD 0 0)),((a27.meter.slots.getD 1 0)),((a27.meter.slots.getD 2 0)),((a27.meter.slots.getD 3 0)),((a27.meter.slots.getD 4 0))],a27.meter.last,a27.meter.total⟩:z4),a27.came,a27.f_until,x2,(!x2),r22⟩:zc)))) c:=⟨_,rfl,h35 ((⟨a27.told,a27.seen,(⟨[((a27.meter.slots.getD 0 0)),((a27.meter.slots.getD 1 0)),((a27.meter.slots.getD 2 0)),((a27.meter.slots.getD 3 0)),((a27.meter.slots.getD 4 0))],a27.meter.last,a27.meter.total⟩:z4),a27.came,a27.f_until,x2,(!x2),r22⟩:zc)) [.v (.p (.string a27.told.Rid)),.v (.p (.int .u32 a27.told.Ssrc)),.v (.p (.int .i64 a27.told.Height)),.own s35_3 (List.map C.v [(.p (.int .i64 a27.seen.first)),(.p (.int .i64 a27.seen.last)),(.p (.int .i64 a27.seen.count)),(.p (.int .u64 a27.seen.mask))]),.own s35_4 (List.map C.v [(.p (.int .i64 ((a27.meter.slots.getD 0 0)))),(.p (.int .i64 ((a27.meter.slots.getD 1 0)))),(.p (.int .i64 ((a27.meter.slots.getD 2 0)))),(.p (.int .i64 ((a27.meter.slots.getD 3 0)))),(.p (.int .i64 ((a27.meter.slots.getD 4 0)))),(.p (.int .i64 a27.meter.last)),(.p (.int .i64 a27.meter.total))]),.v (.p (.bool a27.came)),.v (.p (.int .i64 a27.f_until)),.v (.p (.bool x2)),.v (.p (.bool (!x2))),.v (.p (.int .i64 r22))] ⟨s35_3,s35_4,rfl⟩⟩
  have S49:Fm 53 h [⟨l0,o0,[c46]⟩] [] [] H43:=by rw [e47];exact S45
  exact .fin (S49.finN lN) ⟨c46,h48,rfl⟩
 refine .nc ?_
 refine .fa ?_
 refine .op (RsC.ld hc0_0 (S0.atB (i:=0) rfl) (j:=0) rfl) ?_
 refine .nc ?_
 refine .fa ?_
 refine .op (RsC.ld hc0_0 (S0.atB (i:=0) rfl) (j:=0) rfl) ?_
 refine .bd fun a50 h51=>?_
 obtain ⟨s52,P53,w54,Q55,rfl,h56,h57,h58⟩:=hc0_0.open h51 (e:=10) rfl
 obtain ⟨s58_3,s58_4,rfl⟩:=h57
 refine .op (iS_arr h51 _ _ _ _ _) ?_
 refine .fa ?_
 obtain ⟨H60,e61,S62⟩:=S0.stF (Foc.arr (Foc.of (i:=0) rfl) (j:=0) rfl h56) (j:=7) (own:=true) (σ:=(15::1::1::0::σ)) (x:=(.p (.bool x2))) (sB _) rfl
 refine .op (sM e61) ?_
 refine .op (iS_arr h51 _ _ _ _ _) ?_
 refine .fa ?_
 obtain ⟨H63,e64,S65⟩:=S62.stF (Foc.arr (Foc.of (i:=0) rfl) (j:=0) rfl h56) (j:=8) (own:=true) (σ:=(18::1::1::0::σ)) (x:=(.p (.bool (!x2)))) (sB _) rfl
 refine .op (sM e64) ?_
 obtain ⟨c66,e67,h68⟩:∃ c,c=.arr s52 x0.l.length 10 (P53++[.v (.p (.string a50.told.Rid)),.v (.p (.int .u32 a50.told.Ssrc)),.v (.p (.int .i64 a50.told.Height)),.own s58_3 (List.map C.v [(.p (.int .i64 a50.seen.first)),(.p (.int .i64 a50.seen.last)),(.p (.int .i64 a50.seen.count)),(.p (.int .u64 a50.seen.mask))]),.own s58_4 (List.map C.v [(.p (.int .i64 ((a50.meter.slots.getD 0 0)))),(.p (.int .i64 ((a50.meter.slots.getD 1 0)))),(.p (.int .i64 ((a50.meter.slots.getD 2 0)))),(.p (.int .i64 ((a50.meter.slots.getD 3 0)))),(.p (.int .i64 ((a50.meter.slots.getD 4 0)))),(.p (.int .i64 a50.meter.last)),(.p (.int .i64 a50.meter.total))]),.v (.p (.bool a50.came)),.v (.p (.int .i64 a50.f_until)),.v (.p (.bool x2)),.v (.p (.bool (!x2))),.v (.p (.int .i64 a50.kept))]++Q55)∧RsC z9 ((x0.l.set (Int.toNat x1) ((⟨a50.told,a50.seen,(⟨[((a50.meter.slots.getD 0 0)),((a50.meter.slots.getD 1 0)),((a50.meter.slots.getD 2 0)),((a50.meter.slots.getD 3 0)),((a50.meter.slots.getD 4 0))],a50.meter.last,a50.meter.total⟩:z4),a50.came,a50.f_until,x2,(!x2),a50.kept⟩:zc)))) c:=⟨_,rfl,h58 ((⟨a50.told,a50.seen,(⟨[((a50.meter.slots.getD 0 0)),((a50.meter.slots.getD 1 0)),((a50.meter.slots.getD 2 0)),((a50.meter.slots.getD 3 0)),((a50.meter.slots.getD 4 0))],a50.meter.last,a50.meter.total⟩:z4),a50.came,a50.f_until,x2,(!x2),a50.kept⟩:zc)) [.v (.p (.string a50.told.Rid)),.v (.p (.int .u32 a50.told.Ssrc)),.v (.p (.int .i64 a50.told.Height)),.own s58_3 (List.map C.v [(.p (.int .i64 a50.seen.first)),(.p (.int .i64 a50.seen.last)),(.p (.int .i64 a50.seen.count)),(.p (.int .u64 a50.seen.mask))]),.own s58_4 (List.map C.v [(.p (.int .i64 ((a50.meter.slots.getD 0 0)))),(.p (.int .i64 ((a50.meter.slots.getD 1 0)))),(.p (.int .i64 ((a50.meter.slots.getD 2 0)))),(.p (.int .i64 ((a50.meter.slots.getD 3 0)))),(.p (.int .i64 ((a50.meter.slots.getD 4 0)))),(.p (.int .i64 a50.meter.last)),(.p (.int .i64 a50.meter.total))]),.v (.p (.bool a50.came)),.v (.p (.int .i64 a50.f_until)),.v (.p (.bool x2)),.v (.p (.bool (!x2))),.v (.p (.int .i64 a50.kept))] ⟨s58_3,s58_4,rfl⟩⟩
 have S69:Fm 53 h [⟨l0,o0,[c66]⟩] [] [] H63:=by rw [e67];exact S65
 exact .fin (S69.finN lN) ⟨c66,h68,rfl⟩
end
end Go.Ev
namespace Go.Ev
open Go.Proofs
set_option linter.unusedVariables false
set_option linter.unusedSimpArgs false
set_option maxRecDepth 100000
noncomputable section
abbrev KT12:=Exit→Env→H→Option (List C × H)
variable (rec : CallF) (loop : LoopV) (σ : Stamp)
theorem z85 (x0:V) (x1:Int) (x2:Int) (h:H):cvBody G rec loop 47 σ [x0,(.p (.int .i64 x1)),(.p (.int .i64 x2))] h =
(callO rec 96 (2::0::1::0::σ) [x0,(.p (.int .i64 x1))] (List.replicate 43 []::h) (some 9)).bind fun q1 =>
(asB q1.1).bind fun b2 =>
(bif b2 then ((nilChk x0).bind fun t3 =>
(fA t3 0).bind fun t4 =>
(ldO false 1 q1.2 t4).bind fun t5 =>
(iS 10 t5 x1).bind fun t6 =>
(fA t6 5).bind fun t7 =>
(ldO false 1 q1.2 t7).bind fun t8 =>
(asB t8).bind fun b9 =>
some b9) else (some false)).bind fun b10 =>
(bif b10 then ((nilChk x0).bind fun t11 =>
(fA t11 0).bind fun t12 =>
(ldO false 1 q1.2 t12).bind fun t13 =>
(iS 10 t13 x1).bind fun t14 =>
(fA t14 7).bind fun t15 =>
(ldO false 1 q1.2 t15).bind fun t16 =>
(asB t16).bind fun b17 =>
some (!b17)) else (some false)).bind fun b18 =>
(bif b18 then ((nilChk x0).bind fun t19 =>
(fA t19 0).bind fun t20 =>
(ldO false 1 q1.2 t20).bind fun t21 =>
(iS 10 t21 x1).bind fun t22 =>
(fA t22 6).bind fun t23 =>
(ldO false 1 q1.2 t23).bind fun t24 =>
(castI .i64 t24).bind fun n25 =>
some (decide (x2<n25))) else (some false)).bind fun b26 =>
fin false σ q1.2 [(.p (.bool b26))]:=by kernel_rfl
end
end Go.Ev
namespace Go.Ev
open Go.Proofs
set_option linter.unusedVariables false
set_option linter.unusedSimpArgs false
set_option maxRecDepth 100000
section
variable {β α : Type} {Q : β→α→Prop} {K : Exit × Env × H→Option α}
def z17 (x0:z5) (x1:Int) (x2:Int):Option (Bool) :=
(zy x0 x1).bind fun r1 =>
(bif r1 then ((ix x0.l x1).bind fun a6 =>
some a6.came) else (some false)).bind fun b15 =>
(bif b15 then ((ix x0.l x1).bind fun a19 =>
some (!a19.resting)) else (some false)).bind fun b28 =>
(bif b28 then ((ix x0.l x1).bind fun a32 =>
some (decide (x2<a32.f_until))) else (some false)).bind fun b41 =>
some (b41)
theorem z2h {h:H} {σ:Stamp} (x0:z5) {c0_0:C} (hc0_0:RsC z9 x0.l c0_0) {l0:Loc} {o0:Nat} (ha0:AtC h l0 o0 ([c0_0])) (x1:Int) (x2:Int):Sim (z17 x0 x1 x2) (ev G X0 47 σ [(.ref l0 o0),(.p (.int .i64 x1)),(.p (.int .i64 x2))] h) (fun r s=>s=([.v (.p (.bool r))],h)):=by
 refine .ev rfl (Sim.ext (z85 _ _ _ _ _ _ _) ?_)
 rw [z17]
 have S0:Fm 43 h [] [] [] (List.replicate 43 []::h):=Fm.start0
 refine .call (z1n x0 hc0_0 (S0.lowA ha0) x1) fun r1 cs2 H3 h4 q5=>?_
 cases q5
 refine .ab ?_
 refine .ch (P:=fun r y=>r=y) ?_ (fun b15 y16 h17 h18=>?_)
 ·refine .cq ?_ ?_
  ·refine .nc ?_
   refine .fa ?_
   refine .op (RsC.ld hc0_0 (S0.lowA ha0) (j:=0) rfl) ?_
   refine .bd fun a6 h7=>?_
   obtain ⟨lr8,w9,e10,h11,har12⟩:=RsH.el (RsC.rs hc0_0 ha0 (j:=0) rfl) h7 (e:=10) rfl
   obtain ⟨s13_3,s13_4,rfl⟩:=h11
   refine .op (e10) ?_
   refine .fa ?_
   refine .op ((S0.lowA har12).ld (j:=5) rfl) ?_
   refine .ab ?_
   exact .ret rfl rfl
  ·exact .ret rfl rfl
 subst h18
 refine .ch (P:=fun r y=>r=y) ?_ (fun b28 y29 h30 h31=>?_)
 ·refine .cq ?_ ?_
  ·refine .nc ?_
   refine .fa ?_
   refine .op (RsC.ld hc0_0 (S0.lowA ha0) (j:=0) rfl) ?_
   refine .bd fun a19 h20=>?_
   obtain ⟨lr21,w22,e23,h24,har25⟩:=RsH.el (RsC.rs hc0_0 ha0 (j:=0) rfl) h20 (e:=10) rfl
   obtain ⟨s26_3,s26_4,rfl⟩:=h24
   refine .op (e23) ?_
   refine .fa ?_
   refine .op ((S0.lowA har25).ld (j:=7) rfl) ?_
   refine .ab ?_
   exact .ret rfl rfl
  ·exact .ret rfl rfl
 subst h31
 refine .ch (P:=fun r y=>r=y) ?_ (fun b41 y42 h43 h44=>?_)
 ·refine .cq ?_ ?_
  ·refine .nc ?_
   refine .fa ?_
   refine .op (RsC.ld hc0_0 (S0.lowA ha0) (j:=0) rfl) ?_
   refine .bd fun a32 h33=>?_
   obtain ⟨lr34,w35,e36,h37,har38⟩:=RsH.el (RsC.rs hc0_0 ha0 (j:=0) rfl) h33 (e:=10) rfl
   obtain ⟨s39_3,s39_4,rfl⟩:=h37
   refine .op (e36) ?_
   refine .fa ?_
   refine .op ((S0.lowA har38).ld (j:=6) rfl) ?_
   refine .ci ?_
   exact .ret rfl rfl
  ·exact .ret rfl rfl
 subst h44
 exact .fin (S0.finN (lC (sB _).lv lN)) rfl
end
end Go.Ev
namespace Go.Ev
open Go.Proofs
set_option linter.unusedVariables false
set_option linter.unusedSimpArgs false
set_option maxRecDepth 100000
noncomputable section
abbrev KT13:=Exit→Env→H→Option (List C × H)
variable (rec : CallF) (loop : LoopV) (σ : Stamp)
theorem z6w (x0:V) (x1:Int) (h:H):cvBody G rec loop 50 σ [x0,(.p (.int .i64 x1))] h =
(callO rec 96 (2::0::1::0::σ) [x0,(.p (.int .i64 x1))] (List.replicate 18 []::h) (some 7)).bind fun q1 =>
(asB q1.1).bind fun b2 =>
(bif b2 then ((nilChk x0).bind fun t3 =>
(fA t3 0).bind fun t4 =>
(ldO false 1 q1.2 t4).bind fun t5 =>
(iS 10 t5 x1).bind fun t6 =>
(fA t6 7).bind fun t7 =>
(ldO false 1 q1.2 t7).bind fun t8 =>
(asB t8).bind fun b9 =>
some b9) else (some false)).bind fun b10 =>
fin false σ q1.2 [(.p (.bool b10))]:=by kernel_rfl
end
end Go.Ev
namespace Go.Ev
open Go.Proofs
set_option linter.unusedVariables false
set_option linter.unusedSimpArgs false
set_option maxRecDepth 100000
section
variable {β α : Type} {Q : β→α→Prop} {K : Exit × Env × H→Option α}
def z1i (x0:z5) (x1:Int):Option (Bool) :=
(zy x0 x1).bind fun r1 =>
(bif r1 then ((ix x0.l x1).bind fun a6 =>
some a6.resting) else (some false)).bind fun b15 =>
some (b15)
theorem z52 {h:H} {σ:Stamp} (x0:z5) {c0_0:C} (hc0_0:RsC z9 x0.l c0_0) {l0:Loc} {o0:Nat} (ha0:AtC h l0 o0 ([c0_0])) (x1:Int):Sim (z1i x0 x1) (ev G X0 50 σ [(.ref l0 o0),(.p (.int .i64 x1))] h) (fun r s=>s=([.v (.p (.bool r))],h)):=by
 refine .ev rfl (Sim.ext (z6w _ _ _ _ _ _) ?_)
 rw [z1i]
 have S0:Fm 18 h [] [] [] (List.replicate 18 []::h):=Fm.start0
 refine .call (z1n x0 hc0_0 (S0.lowA ha0) x1) fun r1 cs2 H3 h4 q5=>?_
 cases q5
 refine .ab ?_
 refine .ch (P:=fun r y=>r=y) ?_ (fun b15 y16 h17 h18=>?_)
 ·refine .cq ?_ ?_
  ·refine .nc ?_
   refine .fa ?_
   refine .op (RsC.ld hc0_0 (S0.lowA ha0) (j:=0) rfl) ?_
   refine .bd fun a6 h7=>?_
   obtain ⟨lr8,w9,e10,h11,har12⟩:=RsH.el (RsC.rs hc0_0 ha0 (j:=0) rfl) h7 (e:=10) rfl
   obtain ⟨s13_3,s13_4,rfl⟩:=h11
   refine .op (e10) ?_
   refine .fa ?_
   refine .op ((S0.lowA har12).ld (j:=7) rfl) ?_
   refine .ab ?_
   exact .ret rfl rfl
  ·exact .ret rfl rfl
 subst h18
 exact .fin (S0.finN (lC (sB _).lv lN)) rfl
end
end Go.Ev
namespace Go.Ev
open Go.Proofs
set_option linter.unusedVariables false
set_option linter.unusedSimpArgs false
set_option maxRecDepth 100000
noncomputable section
abbrev KT14:=Exit→Env→H→Option (List C × H)
variable (rec : CallF) (loop : LoopV) (σ : Stamp)
theorem z7u (x0:V) (x1:Int) (h:H):cvBody G rec loop 49 σ [x0,(.p (.int .i64 x1))] h =
(callO rec 96 (2::0::1::0::σ) [x0,(.p (.int .i64 x1))] (List.replicate 18 []::h) (some 7)).bind fun q1 =>
(asB q1.1).bind fun b2 =>
(bif b2 then ((nilChk x0).bind fun t3 =>
(fA t3 0).bind fun t4 =>
(ldO false 1 q1.2 t4).bind fun t5 =>
(iS 10 t5 x1).bind fun t6 =>
(fA t6 8).bind fun t7 =>
(ldO false 1 q1.2 t7).bind fun t8 =>
(asB t8).bind fun b9 =>
some b9) else (some false)).bind fun b10 =>
fin false σ q1.2 [(.p (.bool b10))]:=by kernel_rfl
end
end Go.Ev
namespace Go.Ev
open Go.Proofs
set_option linter.unusedVariables false
set_option linter.unusedSimpArgs false
set_option maxRecDepth 100000
section
variable {β α : Type} {Q : β→α→Prop} {K : Exit × Env × H→Option α}
def z1p (x0:z5) (x1:Int):Option (Bool) :=
(zy x0 x1).bind fun r1 =>
(bif r1 then ((ix x0.l x1).bind fun a6 =>
some a6.woken) else (some false)).bind fun b15 =>
some (b15)
theorem z5u {h:H} {σ:Stamp} (x0:z5) {c0_0:C} (hc0_0:RsC z9 x0.l c0_0) {l0:Loc} {o0:Nat} (ha0:AtC h l0 o0 ([c0_0])) (x1:Int):Sim (z1p x0 x1) (ev G X0 49 σ [(.ref l0 o0),(.p (.int .i64 x1))] h) (fun r s=>s=([.v (.p (.bool r))],h)):=by
 refine .ev rfl (Sim.ext (z7u _ _ _ _ _ _) ?_)
 rw [z1p]
 have S0:Fm 18 h [] [] [] (List.replicate 18 []::h):=Fm.start0
 refine .call (z1n x0 hc0_0 (S0.lowA ha0) x1) fun r1 cs2 H3 h4 q5=>?_
 cases q5
 refine .ab ?_
 refine .ch (P:=fun r y=>r=y) ?_ (fun b15 y16 h17 h18=>?_)
 ·refine .cq ?_ ?_
  ·refine .nc ?_
   refine .fa ?_
   refine .op (RsC.ld hc0_0 (S0.lowA ha0) (j:=0) rfl) ?_
   refine .bd fun a6 h7=>?_
   obtain ⟨lr8,w9,e10,h11,har12⟩:=RsH.el (RsC.rs hc0_0 ha0 (j:=0) rfl) h7 (e:=10) rfl
   obtain ⟨s13_3,s13_4,rfl⟩:=h11
   refine .op (e10) ?_
   refine .fa ?_
   refine .op ((S0.lowA har12).ld (j:=8) rfl) ?_
   refine .ab ?_
   exact .ret rfl rfl
  ·exact .ret rfl rfl
 subst h18
 exact .fin (S0.finN (lC (sB _).lv lN)) rfl
end
end Go.Ev
namespace Go.Ev
namespace Lay
abbrev One:=zc
abbrev Ly:=z5
structure OkE (e:One):Prop where
 s0:-1≤e.seen.last
 s1:e.seen.last<9223372036854775808
 m0:0≤e.meter.last
 m1:e.meter.last<1152921504606846976
theorem zkv {k:IntKind} {a b:Int} (h:0≤b):∃ v,shP .shl k a b=some v:=by
 unfold shP;rw [if_neg (by omega)];exact ⟨_,rfl⟩
theorem zih {now:Int} (h0:0≤now) (h1:now<1152921504606846976):z3i now=some (now / 100000):=by
 unfold z3i
 have e:(if now>0 then now else 0)=now:=by split<;>omega
 rw [e,Int.tdiv_eq_ediv_of_nonneg h0,wrap_i64 (by omega) (by omega)]
theorem z5r {L:Ly} {i:Int} {e:One} (h:ix L.l i=some e):zy L i=some true:=by
 obtain ⟨h0,hi,_⟩:=z47 h
 unfold zy
 rw [decide_eq_true (show i≥0 from h0),cond_true,decide_eq_true (by omega),Option.bind_some]
theorem zij {i now:Int} {e:One} {L:Ly} (hL:ix L.l i=some e):z17 L i now=some (e.came&&(!e.resting&&decide (now<e.f_until))):=by
 unfold z17
 rw [z5r hL,Option.bind_some,cond_true,hL,Option.bind_some,Option.bind_some]
 simp only [Option.bind_some]
 cases e.came<;>cases e.resting<;>rfl
theorem zja {i:Int} {e:One} {L:Ly} (hL:ix L.l i=some e):z1i L i=some e.resting:=by
 unfold z1i
 rw [z5r hL,Option.bind_some,cond_true,hL,Option.bind_some,Option.bind_some]
theorem zkb {i:Int} {e:One} {L:Ly} (hL:ix L.l i=some e):z1p L i=some e.woken:=by
 unfold z1p
 rw [z5r hL,Option.bind_some,cond_true,hL,Option.bind_some,Option.bind_some]
theorem ix_set {α:Type} {l:List α} {i:Int} {x y:α} (h:ix l i=some x):ix (l.set i.toNat y) i=some y:=by
 obtain ⟨h0,hi,_⟩:=z47 h
 unfold ix
 rw [if_pos h0,List.getElem?_set_self hi]
end Lay
end Go.Ev
namespace Go.Ev
open Go.Proofs
set_option linter.unusedVariables false
set_option linter.unusedSimpArgs false
set_option maxRecDepth 100000
noncomputable section
abbrev KT15:=Exit→Env→H→Option (List C × H)
variable (rec : CallF) (loop : LoopV) (σ : Stamp)
theorem zdl (x0:Int) (x1:Int) (x2:Int) (h:H):cvBody G rec loop 21 σ [(.p (.int .i64 x0)),(.p (.int .i64 x1)),(.p (.int .i64 x2))] h =
(bif decide (x0≥x1) then (some (decide (x0≤x2))) else (some false)).bind fun b1 =>
bif b1 then (
fin false σ (List.replicate 33 []::h) [(.p (.int .i64 x0))])
else (
(remI .i64 x0 (IntKind.wrap .i64 ((IntKind.wrap .i64 (x2-x1))+1))).bind fun t2 =>
(castI .i64 t2).bind fun n3 =>
bif decide (n3<0) then (
fin false σ (List.replicate 33 []::h) [(.p (.int .i64 (IntKind.wrap .i64 (x1+(IntKind.wrap .i64 ((IntKind.wrap .i64 ((IntKind.wrap .i64 (n3+x2))-x1))+1))))))])
else (
fin false σ (List.replicate 33 []::h) [(.p (.int .i64 (IntKind.wrap .i64 (x1+n3))))])):=by kernel_rfl
end
end Go.Ev
namespace Go.Ev
open Go.Proofs
set_option linter.unusedVariables false
set_option linter.unusedSimpArgs false
set_option maxRecDepth 100000
section
variable {β α : Type} {Q : β→α→Prop} {K : Exit × Env × H→Option α}
def z45 (x0:Int) (x1:Int) (x2:Int):Option (Int) :=
(bif decide (x0≥x1) then (some (decide (x0≤x2))) else (some false)).bind fun b1 =>
bif b1 then (
some (x0))
else (
(remP x0 (IntKind.wrap .i64 ((IntKind.wrap .i64 (x2-x1))+1))).bind fun n6 =>
bif decide (n6<0) then (
some ((IntKind.wrap .i64 (x1+(IntKind.wrap .i64 ((IntKind.wrap .i64 ((IntKind.wrap .i64 (n6+x2))-x1))+1))))))
else (
some ((IntKind.wrap .i64 (x1+n6)))))
theorem zaj {h:H} {σ:Stamp} (x0:Int) (x1:Int) (x2:Int):Sim (z45 x0 x1 x2) (ev G X0 21 σ [(.p (.int .i64 x0)),(.p (.int .i64 x1)),(.p (.int .i64 x2))] h) (fun r s=>s=([.v (.p (.int .i64 r))],h)):=by
 refine .ev rfl (Sim.ext (zdl _ _ _ _ _ _ _) ?_)
 rw [z45]
 have S0:Fm 33 h [] [] [] (List.replicate 33 []::h):=Fm.start0
 refine .ch (P:=fun r y=>r=y) ?_ (fun b1 y2 h3 h4=>?_)
 ·refine .cq ?_ ?_
  ·exact .ret rfl rfl
  ·exact .ret rfl rfl
 subst h4
 refine .cq ?_ ?_
 ·exact .fin (S0.finN (lC (sI _ _).lv lN)) rfl
 refine .bd fun n6 h7=>?_
 refine .op (zea h7) ?_
 refine .ci ?_
 refine .cq ?_ ?_
 ·exact .fin (S0.finN (lC (sI _ _).lv lN)) rfl
 exact .fin (S0.finN (lC (sI _ _).lv lN)) rfl
end
end Go.Ev
namespace Go.Ev
theorem zfh {x hi:Int} (h0:0≤hi) (h1:hi<2^40):∃ r,z45 x 0 hi=some r∧0≤r∧r≤hi:=by
 unfold z45
 by_cases h:0≤x∧x≤hi
 ·refine ⟨x,?_,h.1,h.2⟩
  have e1:decide (x≥0)=true:=by simpa using h.1
  have e2:decide (x≤hi)=true:=by simpa using h.2
  simp only [e1,e2,cond_true,Option.bind_some]
 ·have e:∀ (a:Bool) (b:Bool),(a&&b)=false→((bif a then (some b) else (some false)):Option Bool)=some false:=by
   intro a b;cases a<;>cases b<;>simp
  rw [e (decide (x≥0)) (decide (x≤hi)) (by simp;omega),Option.bind_some,cond_false]
  have w1:IntKind.wrap .i64 (IntKind.wrap .i64 (hi-0)+1)=hi+1:=by
   rw [wrap_i64 (n:=hi-0) (by omega) (by omega),wrap_i64 (by omega) (by omega)];omega
  have hb:-(hi+1)<x.tmod (hi+1)∧x.tmod (hi+1)<hi+1:=by
   have h1:=Int.tmod_lt_of_pos x (show 0<hi+1 by omega)
   have h2:=Int.neg_tmod x (hi+1)
   have h3:=Int.tmod_lt_of_pos (-x) (show 0<hi+1 by omega)
   omega
  rw [w1]
  unfold remP
  rw [if_neg (by omega),Option.bind_some]
  generalize x.tmod (hi+1)=m at hb
  by_cases hm:m<0
  ·have:decide (m<0)=true:=by simpa using hm
   rw [this,cond_true]
   refine ⟨_,rfl,?_⟩
   rw [wrap_i64 (n:=m+hi) (by omega) (by omega),wrap_i64 (n:=m+hi-0) (by omega) (by omega),wrap_i64 (n:=m+hi-0+1) (by omega) (by omega),wrap_i64 (by omega) (by omega)]
   omega
  ·have:decide (m<0)=false:=by simpa using hm
   rw [this,cond_false]
   refine ⟨_,rfl,?_⟩
   rw [wrap_i64 (by omega) (by omega)]
   omega
end Go.Ev
namespace Go.Ev
open Go.Proofs
set_option linter.unusedVariables false
set_option linter.unusedSimpArgs false
set_option maxRecDepth 100000
noncomputable section
abbrev KT16:=Exit→Env→H→Option (List C × H)
variable (rec : CallF) (loop : LoopV) (σ : Stamp)
def z2u:Code:=(codeAt (bodyOf Try.f13) [1,1,1,1,1,1,0,1,0,0])
def z2x:Lv:=⟨2308,64,[(0,2308)]⟩
def z4p:KT16:=(kBlock 0 (kSeq G rec loop (codeAt (bodyOf Try.f13) [1,1,1,1,1,1,1]) ⟨64,64,[]⟩ (1::1::1::1::1::1::0::σ) (finC G false Try.f13 (1::σ))))
theorem z98 (x0:Int) (x1:Int) (x2:Int) (h:H):cvBody G rec loop 13 σ [(.p (.int .i64 x0)),(.p (.int .i64 x1)),(.p (.int .i64 x2))] h =
(buildV Try.prog 70 [(0,(.p (.string ((⟨#[97]⟩:ByteArray))))),(1,(.p (.int .u32 1))),(2,(.p (.int .i64 100)))]).bind fun t1 =>
(bSV Try.prog 56 1 [(0,t1)]).bind fun t2 =>
(callO rec 39 (1::0::1::1::0::σ) [t2] (List.replicate 121 []::h) (some 25)).bind fun q3 =>
(binV Try.prog q3.2 .eql 79 q3.1 (.p (.pointer .none))).bind fun t4 =>
(asB t4).bind fun b5 =>
bif b5 then (
fin false σ q3.2 [(.p (.bool false))])
else (
(callO rec 21 (1::0::1::1::1::1::0::σ) [(.p (.int .i64 x0)),(.p (.int .i64 0)),(.p (.int .i64 30))] q3.2 (some 29)).bind fun q6 =>
(castI .i64 q6.1).bind fun n7 =>
(callO rec 21 (4::0::1::1::1::1::0::σ) [(.p (.int .i64 x1)),(.p (.int .i64 0)),(.p (.int .i64 900))] q6.2 (some 32)).bind fun q8 =>
(castI .i64 q8.1).bind fun n9 =>
(loop z2u z2x (1::0::1::1::1::1::1::1::0::σ) (envL [(2,(.p (.int .i64 x2))),(7,t2),(8,q3.1),(9,(.p (.int .i64 (IntKind.wrap .i64 (1+n7))))),(10,(.p (.int .i64 (IntKind.wrap .i64 (1+n9))))),(11,(.p (.int .i64 0))),(12,(.p (.int .i64 0)))]) q8.2).bind fun r10=>z4p rec loop σ r10.1 r10.2.1 r10.2.2):=by kernel_rfl
theorem zad (x2:Int) (x7:V) (x8:V) (x9:Int) (x10:Int) (x11:Int) (x12:Int) (h:H):z1a G rec loop z2u z2x σ (envL [(2,(.p (.int .i64 x2))),(7,x7),(8,x8),(9,(.p (.int .i64 x9))),(10,(.p (.int .i64 x10))),(11,(.p (.int .i64 x11))),(12,(.p (.int .i64 x12)))]) h =
bif decide (x12<x9) then (
(iS 3 x7 0).bind fun t11 =>
(ldO true 3 h t11).bind fun t12 =>
(callO rec 41 (8::0::0::1::0::σ) [t12,(.p (.int .u16 (IntKind.wrap .u16 x12))),(.p (.int .u32 1)),(.p (.bool (x12==0))),(.p (.int .i64 x10))] h (some 47)).bind fun q13 =>
(callO rec 40 (1::0::1::0::1::0::σ) [q13.1] q13.2 (some 50)).bind fun q14 =>
(extV q14.1 0).bind fun t15 =>
(extV q14.1 1).bind fun t16 =>
(castI .i64 t16).bind fun n17 =>
(some (alO [.p (.bool false),.p (.int .i64 0),.p (.int .u16 0),.p (.int .u32 0),.p (.int .u32 0),.p (.slice none 0 0),.p (.int .u16 0),.p (.slice none 0 0),.p (.slice none 0 0)] (5::0::1::0::1::0::σ) 14 q14.2)).bind fun q18 =>
((stO true 9 (6::0::1::0::1::0::σ) q18.2 q18.1 t15).map fun h=>(udf,h)).bind fun q19 =>
(ldO true 9 q19.2 q18.1).bind fun t20 =>
(lenO q13.1).bind fun t21 =>
(castI .i64 t21).bind fun n22 =>
(callO rec 45 (4::0::0::1::1::0::1::0::σ) [x8,(.p (.int .i64 0)),t20,(.p (.int .i64 n22)),(.p (.int .i64 1000))] q19.2 (some 58)).bind fun q23 =>
(extV q23.1 0).bind fun t24 =>
(castI .i64 t24).bind fun n25 =>
(extV q23.1 1).bind fun t26 =>
(asB t26).bind fun b27 =>
bif !b27 then (
some (.ret,(envL [(6,(.p (.bool false)))]),q23.2))
else (
(lenO q13.1).bind fun t28 =>
(castI .i64 t28).bind fun n29 =>
loop z2u z2x (1::σ) (envL [(2,(.p (.int .i64 x2))),(7,x7),(8,x8),(9,(.p (.int .i64 x9))),(10,(.p (.int .i64 x10))),(11,(.p (.int .i64 (IntKind.wrap .i64 ((IntKind.wrap .i64 (x11+n29))+28))))),(12,(.p (.int .i64 (IntKind.wrap .i64 (x12+1)))))]) q23.2))
else (
some ((.exit 0),(envL [(2,(.p (.int .i64 x2))),(8,x8),(11,(.p (.int .i64 x11)))]),h)):=by kernel_rfl
theorem z9v (x2:Int) (x8:V) (x11:Int) (h:H):z4p rec loop σ (.exit 0) (envL [(2,(.p (.int .i64 x2))),(8,x8),(11,(.p (.int .i64 x11)))]) h =
(callO rec 46 (1::0::1::1::1::1::1::1::1::0::σ) [x8,(.p (.int .i64 0)),(.p (.int .i64 1000))] h (some 69)).bind fun q30 =>
(castI .i64 q30.1).bind fun n31 =>
(bif n31 != ((if 1>(IntKind.wrap .i64 (Int.tdiv (IntKind.wrap .i64 ((IntKind.wrap .i64 ((IntKind.wrap .i64 (x11*2))+1000))-1)) 1000)) then 1 else (IntKind.wrap .i64 (Int.tdiv (IntKind.wrap .i64 ((IntKind.wrap .i64 ((IntKind.wrap .i64 (x11*2))+1000))-1)) 1000)))) then (some ((.p (.bool true)),q30.2)) else ((callO rec 47 (10::0::0::1::1::1::1::1::1::1::1::0::σ) [x8,(.p (.int .i64 0)),(.p (.int .i64 300999))] q30.2 (some 80)).bind fun q32 =>
(asB q32.1).bind fun b33 =>
some ((.p (.bool (!b33))),q32.2))).bind fun q34 =>
(asB q34.1).bind fun b35 =>
(bif b35 then (some ((.p (.bool true)),q34.2)) else ((callO rec 47 (15::0::0::1::1::1::1::1::1::1::1::0::σ) [x8,(.p (.int .i64 0)),(.p (.int .i64 301000))] q34.2 (some 85)).bind fun q36 =>
(asB q36.1).bind fun b37 =>
some ((.p (.bool b37)),q36.2))).bind fun q38 =>
(asB q38.1).bind fun b39 =>
bif b39 then (
fin false σ q38.2 [(.p (.bool false))])
else (
(callO rec 48 (1::0::1::1::1::1::1::1::1::1::1::0::σ) [x8,(.p (.int .i64 0)),(.p (.bool true)),(.p (.int .i64 1000))] q38.2 (some 88)).bind fun q40 =>
(callO rec 46 (2::0::1::1::1::1::1::1::1::1::1::1::1::0::σ) [x8,(.p (.int .i64 0)),(.p (.int .i64 (IntKind.wrap .i64 (1000+(intBits .and .i64 x2 1073741823)))))] q40.2 (some 94)).bind fun q41 =>
(castI .i64 q41.1).bind fun n42 =>
(callO rec 48 (2::0::1::1::1::1::1::1::1::1::1::1::1::1::0::σ) [x8,(.p (.int .i64 0)),(.p (.bool false)),(.p (.int .i64 (IntKind.wrap .i64 (1000+(intBits .and .i64 x2 1073741823)))))] q41.2 (some 97)).bind fun q43 =>
(callO rec 46 (2::0::1::1::1::1::1::1::1::1::1::1::1::1::1::0::σ) [x8,(.p (.int .i64 0)),(.p (.int .i64 (IntKind.wrap .i64 (1000+(intBits .and .i64 x2 1073741823)))))] q43.2 (some 100)).bind fun q44 =>
(castI .i64 q44.1).bind fun n45 =>
(bif n42==n31 then (some (n45==n31)) else (some false)).bind fun b46 =>
(bif b46 then ((callO rec 49 (10::0::1::1::1::1::1::1::1::1::1::1::1::1::1::1::0::σ) [x8,(.p (.int .i64 0))] q44.2 (some 111)).bind fun q47 =>
(asB q47.1).bind fun b48 =>
some ((.p (.bool b48)),q47.2)) else (some ((.p (.bool false)),q44.2))).bind fun q49 =>
(asB q49.1).bind fun b50 =>
(bif b50 then ((callO rec 50 (14::0::1::1::1::1::1::1::1::1::1::1::1::1::1::1::0::σ) [x8,(.p (.int .i64 0))] q49.2 (some 115)).bind fun q51 =>
(asB q51.1).bind fun b52 =>
some ((.p (.bool (!b52))),q51.2)) else (some ((.p (.bool false)),q49.2))).bind fun q53 =>
(asB q53.1).bind fun b54 =>
(bif b54 then ((callO rec 44 (18::0::1::1::1::1::1::1::1::1::1::1::1::1::1::1::0::σ) [] q53.2 (some 119)).bind fun q55 =>
(asB q55.1).bind fun b56 =>
some ((.p (.bool b56)),q55.2)) else (some ((.p (.bool false)),q53.2))).bind fun q57 =>
(asB q57.1).bind fun b58 =>
fin false σ q57.2 [(.p (.bool b58))]):=by kernel_rfl
theorem z8t (x6:Bool) (h:H):z4p rec loop σ .ret (envL [(6,(.p (.bool x6)))]) h =
fin false σ h [(.p (.bool x6))]:=by kernel_rfl
def z62:Code:=(codeAt (bodyOf Try.f39) [1,1,1,0,1,0,0])
def z5z:Lv:=⟨8,4,[(0,8)]⟩
def zag:KT16:=(kBlock 0 (kSeq G rec loop (codeAt (bodyOf Try.f39) [1,1,1,1]) ⟨4,4,[]⟩ (1::1::1::0::σ) (finC G false Try.f39 (1::σ))))
theorem zdn (x0:V) (h:H):cvBody G rec loop 39 σ [x0] h =
(callO rec 34 (1::0::0::1::0::σ) [x0] (List.replicate 32 []::h) (some 7)).bind fun q1 =>
(castI .i64 q1.1).bind fun n2 =>
bif n2 != 0 then (
fin false σ q1.2 [(.p (.pointer .none))])
else (
(buildV Try.prog 130 []).bind fun t3 =>
(boxO true (1::0::1::1::0::σ) 10 q1.2 t3).bind fun q4 =>
(lenO x0).bind fun t5 =>
(castI .i64 t5).bind fun n6 =>
(loop z62 z5z (1::0::1::1::1::0::σ) (envL [(3,q4.1),(11,x0),(12,(.p (.int .i64 n6))),(13,(.p (.int .i64 0)))]) q4.2).bind fun r7=>zag rec loop σ r7.1 r7.2.1 r7.2.2):=by kernel_rfl
theorem zh9 (x3:V) (x11:V) (x12:Int) (x13:Int) (h:H):z1a G rec loop z62 z5z σ (envL [(3,x3),(11,x11),(12,(.p (.int .i64 x12))),(13,(.p (.int .i64 x13)))]) h =
bif decide (x13<x12) then (
(iS 3 x11 x13).bind fun t8 =>
(ldO true 3 h t8).bind fun t9 =>
(some (alO [.p (.string (⟨#[]⟩:ByteArray)),.p (.int .u32 0),.p (.int .i64 0)] (2::0::0::1::1::0::σ) 5 h)).bind fun q10 =>
((stO false 3 (3::0::0::1::1::0::σ) q10.2 q10.1 t9).map fun h=>(udf,h)).bind fun q11 =>
(nilChk x3).bind fun t12 =>
(fA t12 0).bind fun t13 =>
(ldO false 1 q11.2 t13).bind fun t14 =>
(ldO true 3 q11.2 q10.1).bind fun t15 =>
(callO rec 87 (6::1::0::1::1::0::σ) [] q11.2 (some 23)).bind fun q16 =>
need (ldO true 3 q16.2 q10.1=some t15) (
need (ldO false 1 q16.2 t13=some t14) (
(callO rec 88 (7::1::0::1::1::0::σ) [] q16.2 (some 24)).bind fun q17 =>
need (ldO true 3 q17.2 q10.1=some t15) (
need (ldO false 1 q17.2 t13=some t14) (
(buildV Try.prog 136 [(0,t15),(1,q16.1),(2,q17.1)]).bind fun t18 =>
(bSV Try.prog 128 1 [(0,t18)]).bind fun t19 =>
(apO false 10 80 (10::1::0::1::1::0::σ) 27 q17.2 t14 t19).bind fun q20 =>
(nilChk x3).bind fun t21 =>
(fA t21 0).bind fun t22 =>
((stO true 1 (13::1::0::1::1::0::σ) q20.2 t22 q20.1).map fun h=>(udf,h)).bind fun q23 =>
loop z62 z5z (1::σ) (envL [(3,x3),(11,x11),(12,(.p (.int .i64 x12))),(13,(.p (.int .i64 (IntKind.wrap .i64 (x13+1)))))]) q23.2)))))
else (
some ((.exit 0),(envL [(3,x3)]),h)):=by kernel_rfl
theorem ze0 (x3:V) (h:H):zag rec loop σ (.exit 0) (envL [(3,x3)]) h =
fin false σ h [x3]:=by kernel_rfl
def z5c:Code:=(codeAt (bodyOf Try.f34) [1,1,0,1,0,0])
def z5e:Lv:=⟨0,4,[(0,0)]⟩
def z6x:KT16:=(kBlock 0 (kSeq G rec loop (codeAt (bodyOf Try.f34) [1,1,1]) ⟨4,4,[]⟩ (1::1::0::σ) (finC G false Try.f34 (1::σ))))
theorem zch (x0:V) (h:H):cvBody G rec loop 34 σ [x0] h =
(lenO x0).bind fun t1 =>
(castI .i64 t1).bind fun n2 =>
(bif decide (n2<1) then (some true) else ((lenO x0).bind fun t3 =>
(castI .i64 t3).bind fun n4 =>
some (decide (n4>3)))).bind fun b5 =>
bif b5 then (
fin false σ (List.replicate 55 []::h) [(.p (.int .i64 26))])
else (
(lenO x0).bind fun t6 =>
(castI .i64 t6).bind fun n7 =>
(loop z5c z5e (1::0::1::1::0::σ) (envL [(0,x0),(13,x0),(14,(.p (.int .i64 n7))),(15,(.p (.int .i64 0)))]) (List.replicate 55 []::h)).bind fun r8=>z6x rec loop σ r8.1 r8.2.1 r8.2.2):=by kernel_rfl
theorem zfu (x0:V) (x13:V) (x14:Int) (x15:Int) (h:H):z1a G rec loop z5c z5e σ (envL [(0,x0),(13,x13),(14,(.p (.int .i64 x14))),(15,(.p (.int .i64 x15)))]) h =
bif decide (x15<x14) then (
(iS 3 x13 x15).bind fun t9 =>
(ldO true 3 h t9).bind fun t10 =>
(some (alO [.p (.string (⟨#[]⟩:ByteArray)),.p (.int .u32 0),.p (.int .i64 0)] (3::0::0::1::1::0::σ) 4 h)).bind fun q11 =>
((stO false 3 (5::0::0::1::1::0::σ) q11.2 q11.1 t10).map fun h=>(udf,h)).bind fun q12 =>
(fA q11.1 0).bind fun t13 =>
(ldO false 1 q12.2 t13).bind fun t14 =>
(castS t14).bind fun s15 =>
(callO rec 64 (2::0::0::1::0::1::1::0::σ) [(.p (.string s15))] q12.2 (some 22)).bind fun q16 =>
(asB q16.1).bind fun b17 =>
(bif !b17 then (some true) else ((fA q11.1 2).bind fun t18 =>
(ldO false 1 q16.2 t18).bind fun t19 =>
(castI .i64 t19).bind fun n20 =>
some (decide (n20<1)))).bind fun b21 =>
(bif b21 then (some true) else ((fA q11.1 2).bind fun t22 =>
(ldO false 1 q16.2 t22).bind fun t23 =>
(castI .i64 t23).bind fun n24 =>
some (decide (n24>8192)))).bind fun b25 =>
(bif b25 then (some true) else ((bif decide (x15>0) then ((fA q11.1 2).bind fun t26 =>
(ldO false 1 q16.2 t26).bind fun t27 =>
(castI .i64 t27).bind fun n28 =>
(iS 3 x0 (IntKind.wrap .i64 (x15-1))).bind fun t29 =>
(fA t29 2).bind fun t30 =>
(ldO false 1 q16.2 t30).bind fun t31 =>
(castI .i64 t31).bind fun n32 =>
some (decide (n28≤n32))) else (some false)).bind fun b33 =>
some b33)).bind fun b34 =>
bif b34 then (
some (.ret,(envL [(2,(.p (.int .i64 26)))]),q16.2))
else (
(slS 3 x0 none (some x15) none).bind fun t35 =>
(callO rec 74 (4::0::1::1::0::1::1::0::σ) [t35,(.clo 75 [q11.1])] q16.2 (some 53)).bind fun q36 =>
(asB q36.1).bind fun b37 =>
bif b37 then (
some (.ret,(envL [(2,(.p (.int .i64 26)))]),q36.2))
else (
loop z5c z5e (1::σ) (envL [(0,x0),(13,x13),(14,(.p (.int .i64 x14))),(15,(.p (.int .i64 (IntKind.wrap .i64 (x15+1)))))]) q36.2)))
else (
some ((.exit 0),(envL []),h)):=by kernel_rfl
theorem zds  (h:H):z6x rec loop σ (.exit 0) (envL []) h =
fin false σ h [(.p (.int .i64 0))]:=by kernel_rfl
theorem zbo (x2:Int) (h:H):z6x rec loop σ .ret (envL [(2,(.p (.int .i64 x2)))]) h =
fin false σ h [(.p (.int .i64 x2))]:=by kernel_rfl
end
end Go.Ev
namespace Go.Ev
open Go.Proofs
set_option linter.unusedVariables false
set_option linter.unusedSimpArgs false
set_option maxRecDepth 100000
section
variable {β α : Type} {Q : β→α→Prop} {K : Exit × Env × H→Option α}
def z8h (x0:ByteArray):Option Bool:=some (RidX.rightB x0)
theorem zae {h:H} {σ:Stamp} (x0:ByteArray):Sim (z8h x0) (ev G X0 64 σ [(.p (.string x0))] h) (fun r s=>s=([.v (.p (.bool r))],h)):=Sim.told (ev_ext rfl)
end
end Go.Ev
namespace Go.Ev
open Go.Proofs
set_option linter.unusedVariables false
set_option linter.unusedSimpArgs false
set_option maxRecDepth 100000
noncomputable section
abbrev KT17:=Exit→Env→H→Option (List C × H)
variable (rec : CallF) (loop : LoopV) (σ : Stamp)
theorem z2p (x0:V) (x1:V) (h:H):cvBody G rec loop 74 σ [x0,x1] h =
(callO rec 108 (2::0::1::0::σ) [x0,x1] (List.replicate 9 []::h) (some 7)).bind fun q1 =>
(castI .i64 q1.1).bind fun n2 =>
fin false σ q1.2 [(.p (.bool (decide (n2≥0))))]:=by kernel_rfl
def z10:Code:=(codeAt (bodyOf Try.f108) [1,0,1,0,0])
def zz:Lv:=⟨0,16,[(0,0)]⟩
def z1c:KT17:=(kBlock 0 (kSeq G rec loop (codeAt (bodyOf Try.f108) [1,1]) ⟨16,16,[]⟩ (1::0::σ) (finC G false Try.f108 (1::σ))))
theorem z3c (x0:V) (x1:V) (h:H):cvBody G rec loop 108 σ [x0,x1] h =
(lenO x0).bind fun t1 =>
(castI .i64 t1).bind fun n2 =>
(loop z10 zz (1::0::1::0::σ) (envL [(0,x0),(1,x1),(7,(.p (.int .i64 n2))),(8,(.p (.int .i64 0)))]) (List.replicate 19 []::h)).bind fun r3=>z1c rec loop σ r3.1 r3.2.1 r3.2.2:=by kernel_rfl
theorem z3w (x0:V) (x1:V) (x7:Int) (x8:Int) (h:H):z1a G rec loop z10 zz σ (envL [(0,x0),(1,x1),(7,(.p (.int .i64 x7))),(8,(.p (.int .i64 x8)))]) h =
bif decide (x8<x7) then (
(iS 3 x0 x8).bind fun t4 =>
(ldO true 3 h t4).bind fun t5 =>
(cloO rec x1 (5::0::1::0::1::1::0::σ) [t5] h (some 16)).bind fun q6 =>
(asB q6.1).bind fun b7 =>
bif b7 then (
some (.ret,(envL [(4,(.p (.int .i64 x8)))]),q6.2))
else (
loop z10 zz (1::σ) (envL [(0,x0),(1,x1),(7,(.p (.int .i64 x7))),(8,(.p (.int .i64 (IntKind.wrap .i64 (x8+1)))))]) q6.2))
else (
some ((.exit 0),(envL []),h)):=by kernel_rfl
theorem z3g  (h:H):z1c rec loop σ (.exit 0) (envL []) h =
fin false σ h [(.p (.int .i64 (-1)))]:=by kernel_rfl
theorem z39 (x4:Int) (h:H):z1c rec loop σ .ret (envL [(4,(.p (.int .i64 x4)))]) h =
fin false σ h [(.p (.int .i64 x4))]:=by kernel_rfl
theorem zba (x0:V) (x1:V) (h:H):cvBody G rec loop 75 σ [x0,x1] h =
(boxO false (0::0::0::σ) 2 (List.replicate 16 []::h) x0).bind fun q1 =>
(fA q1.1 1).bind fun t2 =>
(ldO false 1 q1.2 t2).bind fun t3 =>
(castI .u32 t3).bind fun n4 =>
(fA x1 1).bind fun t5 =>
(ldO false 1 q1.2 t5).bind fun t6 =>
(castI .u32 t6).bind fun n7 =>
(bif n4==n7 then (some ((.p (.bool true)),q1.2)) else ((fA q1.1 0).bind fun t8 =>
(ldO false 1 q1.2 t8).bind fun t9 =>
(castS t9).bind fun s10 =>
(fA x1 0).bind fun t11 =>
(ldO false 1 q1.2 t11).bind fun t12 =>
(castS t12).bind fun s13 =>
(callO rec 76 (10::0::1::0::σ) [(.p (.string s10)),(.p (.string s13))] q1.2 (some 14)).bind fun q14 =>
(asB q14.1).bind fun b15 =>
some ((.p (.bool b15)),q14.2))).bind fun q16 =>
(asB q16.1).bind fun b17 =>
fin false σ q16.2 [(.p (.bool b17))]:=by kernel_rfl
theorem zdz (x0:ByteArray) (x1:ByteArray) (h:H):cvBody G rec loop 76 σ [(.p (.string x0)),(.p (.string x1))] h =
(callO rec 109 (1::0::1::0::σ) [(.p (.string x0))] (List.replicate 10 []::h) (some 6)).bind fun q1 =>
(castS q1.1).bind fun s2 =>
(callO rec 109 (3::0::1::0::σ) [(.p (.string x1))] q1.2 (some 8)).bind fun q3 =>
(castS q3.1).bind fun s4 =>
fin false σ q3.2 [(.p (.bool (s2.toList==s4.toList)))]:=by kernel_rfl
end
end Go.Ev
namespace Go.Ev
open Go.Proofs
set_option linter.unusedVariables false
set_option linter.unusedSimpArgs false
set_option maxRecDepth 100000
section
variable {β α : Type} {Q : β→α→Prop} {K : Exit × Env × H→Option α}
def z73 (x0:ByteArray):Option ByteArray:=if x0.size<2^40 then some (RidX.foldB x0) else none
theorem zbq {h:H} {σ:Stamp} (x0:ByteArray):Sim (z73 x0) (ev G X0 109 σ [(.p (.string x0))] h) (fun r s=>s=([.v (.p (.string r))],h)):=by
 unfold z73
 split
 ·rename_i hs
  exact .told (s:=([.v (.p (.string (RidX.foldB x0)))],h)) (ev_ext (by simp only [X0,plainX,XT];simp [hs])) rfl
 ·exact .no
def z76 (x0:ByteArray) (x1:ByteArray):Option (Bool) :=
(z73 x0).bind fun r1 =>
(z73 x1).bind fun r6 =>
some ((r1.toList==r6.toList))
theorem zc4 {h:H} {σ:Stamp} (x0:ByteArray) (x1:ByteArray):Sim (z76 x0 x1) (ev G X0 76 σ [(.p (.string x0)),(.p (.string x1))] h) (fun r s=>s=([.v (.p (.bool r))],h)):=by
 refine .ev rfl (Sim.ext (zdz _ _ _ _ _ _) ?_)
 rw [z76]
 have S0:Fm 10 h [] [] [] (List.replicate 10 []::h):=Fm.start0
 refine .call (zbq x0) fun r1 cs2 H3 h4 q5=>?_
 cases q5
 refine .op (castS_p _) ?_
 refine .call (zbq x1) fun r6 cs7 H8 h9 q10=>?_
 cases q10
 refine .op (castS_p _) ?_
 exact .fin (S0.finN (lC (sB _).lv lN)) rfl
def z69 (x0:z7) (x1:z7):Option (Bool) :=
(bif x0.Ssrc==x1.Ssrc then (some true) else ((z76 x0.Rid x1.Rid).bind fun r5 =>
some r5)).bind fun b10 =>
some (b10)
theorem zd2 {h:H} {σ:Stamp} (x0:z7) {u0:List V} (hu0:z8.R x0 u0) (x1:z7)  {l1:Loc} {o1:Nat} (ha1:AtC h l1 o1 (List.map C.v [(.p (.string x1.Rid)),(.p (.int .u32 x1.Ssrc)),(.p (.int .i64 x1.Height))])):Sim (z69 x0 x1) (ev G X0 75 σ [(.agg u0),(.ref l1 o1)] h) (fun r s=>s=([.v (.p (.bool r))],h)):=by
 refine .ev rfl (Sim.ext (zba _ _ _ _ _ _) ?_)
 rw [z69]
 obtain rfl:=z8.inv hu0
 have S0:Fm 16 h [] [] [] (List.replicate 16 []::h):=Fm.start0
 obtain ⟨H1,e2,S3⟩:=S0.box (own:=false) (d:=2) (s:=(0::0::0::σ)) (xs:=[(.p (.string x0.Rid)),(.p (.int .u32 x0.Ssrc)),(.p (.int .i64 x0.Height))]) (sC (still_str _) (sC (sI _ _) (sC (sI _ _) sN))) (by decide) rfl
 refine .op (e2) ?_
 refine .fa ?_
 refine .op ((S3.atG (i:=0) rfl).ld (j:=1) rfl) ?_
 refine .ci ?_
 refine .fa ?_
 refine .op ((S3.lowA ha1).ld (j:=1) rfl) ?_
 refine .ci ?_
 refine .ch (P:=fun r y=>(.p (.bool r),H1)=y) ?_ (fun b10 y11 h12 h13=>?_)
 ·refine .cq ?_ ?_
  ·exact .ret rfl rfl
  ·refine .fa ?_
   refine .op ((S3.atG (i:=0) rfl).ld (j:=0) rfl) ?_
   refine .op (castS_p _) ?_
   refine .fa ?_
   refine .op ((S3.lowA ha1).ld (j:=0) rfl) ?_
   refine .op (castS_p _) ?_
   refine .call (zc4 x0.Rid x1.Rid) fun r5 cs6 H7 h8 q9=>?_
   cases q9
   refine .ab ?_
   exact .ret rfl rfl
 subst h13
 refine .ab ?_
 exact .fin (S3.finN (lC (sB _).lv lN)) rfl
def zh {β:Type} (k:Nat) (kE0:Unit→Option β) (kE1:Int→Option β) (x0:(List z7)) (x1c0:z7) (x7:Int) (x8:Int):Option β:=match k with
| 0=>none
| k+1 =>
bif decide (x8<x7) then (
(ix x0 x8).bind fun a10 =>
(z69 a10 x1c0).bind fun r15 =>
bif r15 then (
kE1 x8)
else (
zh k kE0 kE1 x0 x1c0 x7 (IntKind.wrap .i64 (x8+1))))
else (
kE0 ())
def zx (k:Nat) (x0:(List z7)) (x1c0:z7):Option (Int) :=
zh k (fun (_:Unit) =>
some ((-1))) (fun r28_4 =>
some (r28_4)) x0 x1c0 ((x0.length:Int)) 0
theorem z22 {h:H}  {kE0:Unit→Option β} {kE1:Int→Option β} (hE0:∀ (_u:Unit) (H21:Go.Ev.H) (_:Fm 19 h [] [] [] H21),Sim (kE0 ()) (K ((.exit 0),(envL []),H21)) Q) (hE1:∀ (q4:Int) (H23:Go.Ev.H) (_:Fm 19 h [] [] [] H23),Sim (kE1 q4) (K (.ret,(envL [(4,(.p (.int .i64 q4)))]),H23)) Q) (k:Nat):∀ (x0:(List z7)) (x1c0:z7) (x7:Int) (x8:Int) (v3:V) (h4:SlH h z8 x0 v3) (lr5:Loc) (or6:Nat) (har7:AtC h lr5 or6 (List.map C.v [(.p (.string x1c0.Rid)),(.p (.int .u32 x1c0.Ssrc)),(.p (.int .i64 x1c0.Height))])) (H1:Go.Ev.H) (_:Fm 19 h [] [] [] H1) {σ:Stamp},Sim (zh k kE0 kE1 x0 x1c0 x7 x8) ((cvL G X0 z10 zz σ (envL [(0,v3),(1,(.clo 75 [(.ref lr5 or6)])),(7,(.p (.int .i64 x7))),(8,(.p (.int .i64 x8)))]) H1).bind K) Q:=by
 induction k with
 | zero=>intros;exact .no
 | succ k ih =>
  intro x0 x1c0 x7 x8 v3 h4 lr5 or6 har7 H1 S2 σ
  rw [zh]
  refine .round (Sim.ext (z3w _ _ _ _ _ _ _ _) ?_)
  refine .cq ?_ ?_
  ·refine .bd fun a10 h11=>?_
   refine .op ((S2.low h4).iS h11 rfl) ?_
   obtain ⟨w13,h14,hE12⟩:=(S2.low h4).el h11 rfl
   obtain rfl:=z8.inv h14
   refine .op (hE12.all (by simp)) ?_
   refine .clo ?_
   refine .call (zd2 a10 (show z8.R a10 [.p (.string a10.Rid),.p (.int .u32 a10.Ssrc),.p (.int .i64 a10.Height)] from (z8.mk)) x1c0 (S2.lowA har7)) fun r15 cs16 H17 h18 q19=>?_
   cases q19
   refine .ab ?_
   refine .cq ?_ ?_
   ·exact hE1 x8 H1 (S2.wk2 aN aN)
   exact ih x0 x1c0 x7 (IntKind.wrap .i64 (x8+1)) v3 h4 lr5 or6 har7 H1 (S2.wk2 aN aN)
  exact hE0 () H1 (S2.wk2 aN aN)
theorem z27 (k:Nat) {h:H} {σ:Stamp} (x0:List z7) {u0:V} (hu0:SlH h z8 x0 u0) (x1c0:z7)  {l1c0:Loc} {o1c0:Nat} (ha1c0:AtC h l1c0 o1c0 (List.map C.v [(.p (.string x1c0.Rid)),(.p (.int .u32 x1c0.Ssrc)),(.p (.int .i64 x1c0.Height))])):Sim (zx k x0 x1c0) (ev G X0 108 σ [u0,(.clo 75 [(.ref l1c0 o1c0)])] h) (fun r s=>s=([.v (.p (.int .i64 r))],h)):=by
 refine .ev rfl (Sim.ext (z3c _ _ _ _ _ _) ?_)
 rw [zx]
 have S0:Fm 19 h [] [] [] (List.replicate 19 []::h):=Fm.start0
 refine .op ((S0.low hu0).len) ?_
 refine .ci ?_
 refine .as (z22 ?_ ?_ k x0 x1c0 ((x0.length:Int)) 0 u0 hu0 l1c0 o1c0 ha1c0 (List.replicate 19 []::h) (S0.wk2 aN aN))
 ·intro _u H26 S27
  refine .ext (z3g _ _ _ _) ?_
  exact .fin (S27.finN (lC (sI _ _).lv lN)) rfl
 ·intro r28_4 H29 S30
  refine .ext (z39 _ _ _ _ _) ?_
  exact .fin (S30.finN (lC (sI _ _).lv lN)) rfl
def zp (k:Nat) (x0:(List z7)) (x1c0:z7):Option (Bool) :=
(zx k x0 x1c0).bind fun r1 =>
some ((decide (r1≥0)))
theorem z24 (k:Nat) {h:H} {σ:Stamp} (x0:List z7) {u0:V} (hu0:SlH h z8 x0 u0) (x1c0:z7)  {l1c0:Loc} {o1c0:Nat} (ha1c0:AtC h l1c0 o1c0 (List.map C.v [(.p (.string x1c0.Rid)),(.p (.int .u32 x1c0.Ssrc)),(.p (.int .i64 x1c0.Height))])):Sim (zp k x0 x1c0) (ev G X0 74 σ [u0,(.clo 75 [(.ref l1c0 o1c0)])] h) (fun r s=>s=([.v (.p (.bool r))],h)):=by
 refine .ev rfl (Sim.ext (z2p _ _ _ _ _ _) ?_)
 rw [zp]
 have S0:Fm 9 h [] [] [] (List.replicate 9 []::h):=Fm.start0
 refine .call (z27 k x0 (S0.low hu0) x1c0 (S0.lowA ha1c0)) fun r1 cs2 H3 h4 q5=>?_
 cases q5
 refine .ci ?_
 exact .fin (S0.finN (lC (sB _).lv lN)) rfl
def z4g {β:Type} (k:Nat) (kE0:Unit→Option β) (kE1:Int→Option β) (x0:(List z7)) (x13:(List z7)) (x14:Int) (x15:Int):Option β:=match k with
| 0=>none
| k+1 =>
bif decide (x15<x14) then (
(ix x13 x15).bind fun a13 =>
(z8h a13.Rid).bind fun r25 =>
(bif !r25 then (some true) else (some (decide (a13.Height<1)))).bind fun b30 =>
(bif b30 then (some true) else (some (decide (a13.Height>8192)))).bind fun b34 =>
(bif b34 then (some true) else ((bif decide (x15>0) then ((ix x0 (IntKind.wrap .i64 (x15-1))).bind fun a38 =>
some (decide (a13.Height≤a38.Height))) else (some false)).bind fun b46 =>
some b46)).bind fun b50 =>
bif b50 then (
kE1 26)
else (
(sub x0 0 x15).bind fun a55 =>
(zp k a55 a13).bind fun r57 =>
bif r57 then (
kE1 26)
else (
z4g k kE0 kE1 x0 x13 x14 (IntKind.wrap .i64 (x15+1)))))
else (
kE0 ())
def z81 (k:Nat) (x0:(List z7)):Option (Int) :=
(bif decide (((x0.length:Int))<1) then (some true) else (some (decide (((x0.length:Int))>3)))).bind fun b1 =>
bif b1 then (
some (26))
else (
z4g k (fun (_:Unit) =>
some (0)) (fun r70_2 =>
some (r70_2)) x0 x0 ((x0.length:Int)) 0)
theorem zcd {h:H}  {kE0:Unit→Option β} {kE1:Int→Option β} (hE0:∀ (_u:Unit) (H63:Go.Ev.H) (_:Fm 55 h [] [] [] H63),Sim (kE0 ()) (K ((.exit 0),(envL []),H63)) Q) (hE1:∀ (q2:Int) (H65:Go.Ev.H) (_:Fm 55 h [] [] [] H65),Sim (kE1 q2) (K (.ret,(envL [(2,(.p (.int .i64 q2)))]),H65)) Q) (k:Nat):∀ (x0:(List z7)) (x13:(List z7)) (x14:Int) (x15:Int) (v8:V) (h9:SlH h z8 x0 v8) (v10:V) (h11:SlH h z8 x13 v10) (H6:Go.Ev.H) (_:Fm 55 h [] [] [] H6) {σ:Stamp},Sim (z4g k kE0 kE1 x0 x13 x14 x15) ((cvL G X0 z5c z5e σ (envL [(0,v8),(13,v10),(14,(.p (.int .i64 x14))),(15,(.p (.int .i64 x15)))]) H6).bind K) Q:=by
 induction k with
 | zero=>intros;exact .no
 | succ k ih =>
  intro x0 x13 x14 x15 v8 h9 v10 h11 H6 S7 σ
  rw [z4g]
  refine .round (Sim.ext (zfu _ _ _ _ _ _ _ _) ?_)
  refine .cq ?_ ?_
  ·refine .bd fun a13 h14=>?_
   refine .op ((S7.low h11).iS h14 rfl) ?_
   obtain ⟨w16,h17,hE15⟩:=(S7.low h11).el h14 rfl
   obtain rfl:=z8.inv h17
   refine .op (hE15.all (by simp)) ?_
   obtain ⟨H18,e19,S20⟩:=S7.al (d:=4) (s:=(3::0::0::1::1::0::σ)) (z:=[(.p (.string ((⟨#[]⟩:ByteArray)))),(.p (.int .u32 0)),(.p (.int .i64 0))]) (by decide) rfl
   refine .op (congrArg some e19) ?_
   obtain ⟨H22,e23,S24⟩:=S20.stGv (i:=0) (j:=0) (own:=false) (σ:=(5::0::0::1::1::0::σ)) (xs:=[.p (.string a13.Rid),.p (.int .u32 a13.Ssrc),.p (.int .i64 a13.Height)]) rfl rfl (sC (still_str _) (sC (sI _ _) (sC (sI _ _) sN))) rfl rfl
   refine .op (sM e23) ?_
   refine .fa ?_
   refine .op ((S24.atG (i:=0) rfl).ld (j:=0) rfl) ?_
   refine .op (castS_p _) ?_
   refine .call (zae a13.Rid) fun r25 cs26 H27 h28 q29=>?_
   cases q29
   refine .ab ?_
   refine .ch (P:=fun r y=>r=y) ?_ (fun b30 y31 h32 h33=>?_)
   ·refine .cq ?_ ?_
    ·exact .ret rfl rfl
    ·refine .fa ?_
     refine .op ((S24.atG (i:=0) rfl).ld (j:=2) rfl) ?_
     refine .ci ?_
     exact .ret rfl rfl
   subst h33
   refine .ch (P:=fun r y=>r=y) ?_ (fun b34 y35 h36 h37=>?_)
   ·refine .cq ?_ ?_
    ·exact .ret rfl rfl
    ·refine .fa ?_
     refine .op ((S24.atG (i:=0) rfl).ld (j:=2) rfl) ?_
     refine .ci ?_
     exact .ret rfl rfl
   subst h37
   refine .ch (P:=fun r y=>r=y) ?_ (fun b50 y51 h52 h53=>?_)
   ·refine .cq ?_ ?_
    ·exact .ret rfl rfl
    ·refine .ch (P:=fun r y=>r=y) ?_ (fun b46 y47 h48 h49=>?_)
     ·refine .cq ?_ ?_
      ·refine .fa ?_
       refine .op ((S24.atG (i:=0) rfl).ld (j:=2) rfl) ?_
       refine .ci ?_
       refine .bd fun a38 h39=>?_
       refine .op ((S24.low h9).iS h39 rfl) ?_
       obtain ⟨w41,h42,hE40⟩:=(S24.low h9).el h39 rfl
       obtain rfl:=z8.inv h42
       refine .op (hE40.fa (j:=2) (by simp)) ?_
       obtain ⟨w44,h45,hE43⟩:=(S24.low h9).el h39 rfl
       obtain rfl:=z8.inv h45
       refine .op (hE43.ld (j:=2) rfl) ?_
       refine .ci ?_
       exact .ret rfl rfl
      ·exact .ret rfl rfl
     subst h49
     exact .ret rfl rfl
   subst h53
   refine .cq ?_ ?_
   ·exact hE1 26 H22 (S24.wk2 aN aN)
   refine .bd fun a55 h56=>?_
   refine .op ((S24.low h9).slS h56 rfl rfl rfl) ?_
   refine .call (z24 k a55 ((S24.low h9).sub h56 (e:=3) rfl) a13 (S24.atG (i:=0) rfl)) fun r57 cs58 H59 h60 q61=>?_
   cases q61
   refine .ab ?_
   refine .cq ?_ ?_
   ·exact hE1 26 H22 (S24.wk2 aN aN)
   exact ih x0 x13 x14 (IntKind.wrap .i64 (x15+1)) v8 h9 v10 h11 H22 (S24.wk2 aN aN)
  exact hE0 () H6 (S7.wk2 aN aN)
theorem zfq (k:Nat) {h:H} {σ:Stamp} (x0:List z7) {u0:V} (hu0:SlH h z8 x0 u0):Sim (z81 k x0) (ev G X0 34 σ [u0] h) (fun r s=>s=([.v (.p (.int .i64 r))],h)):=by
 refine .ev rfl (Sim.ext (zch _ _ _ _ _) ?_)
 rw [z81]
 have S0:Fm 55 h [] [] [] (List.replicate 55 []::h):=Fm.start0
 refine .op ((S0.low hu0).len) ?_
 refine .ci ?_
 refine .ch (P:=fun r y=>r=y) ?_ (fun b1 y2 h3 h4=>?_)
 ·refine .cq ?_ ?_
  ·exact .ret rfl rfl
  ·refine .op ((S0.low hu0).len) ?_
   refine .ci ?_
   exact .ret rfl rfl
 subst h4
 refine .cq ?_ ?_
 ·exact .fin (S0.finN (lC (sI _ _).lv lN)) rfl
 refine .op ((S0.low hu0).len) ?_
 refine .ci ?_
 refine .as (zcd ?_ ?_ k x0 x0 ((x0.length:Int)) 0 u0 hu0 u0 hu0 (List.replicate 55 []::h) (S0.wk2 aN aN))
 ·intro _u H68 S69
  refine .ext (zds _ _ _ _) ?_
  exact .fin (S69.finN (lC (sI _ _).lv lN)) rfl
 ·intro r70_2 H71 S72
  refine .ext (zbo _ _ _ _ _) ?_
  exact .fin (S72.finN (lC (sI _ _).lv lN)) rfl
end
end Go.Ev
namespace Go.Ev
open Go.Proofs
set_option linter.unusedVariables false
set_option linter.unusedSimpArgs false
set_option maxRecDepth 100000
noncomputable section
abbrev KT18:=Exit→Env→H→Option (List C × H)
variable (rec : CallF) (loop : LoopV) (σ : Stamp)
theorem zdu  (h:H):cvBody G rec loop 88 σ [] h =
(buildV Try.prog 172 []).bind fun t1 =>
(boxO false (1::0::1::0::σ) 2 (List.replicate 3 []::h) t1).bind fun q2 =>
fin false σ q2.2 [q2.1]:=by kernel_rfl
end
end Go.Ev
namespace Go.Ev
open Go.Proofs
set_option linter.unusedVariables false
set_option linter.unusedSimpArgs false
set_option maxRecDepth 100000
section
variable {β α : Type} {Q : β→α→Prop} {K : Exit × Env × H→Option α}
def z8q :Option (z4) :=
some ((⟨[0,0,0,0,0],0,0⟩:z4))
theorem zgu {h:H} {σ:Stamp} :Sim (z8q ) (ev G X0 88 σ [] h) (fun r s=>∃ (s0:Stamp),s=([.own s0 [.v (.p (.int .i64 (r.slots.getD 0 0))),.v (.p (.int .i64 (r.slots.getD 1 0))),.v (.p (.int .i64 (r.slots.getD 2 0))),.v (.p (.int .i64 (r.slots.getD 3 0))),.v (.p (.int .i64 (r.slots.getD 4 0))),.v (.p (.int .i64 r.last)),.v (.p (.int .i64 r.total))]],h)):=by
 refine .ev rfl (Sim.ext (zdu _ _ _ _) ?_)
 rw [z8q]
 have S0:Fm 3 h [] [] [] (List.replicate 3 []::h):=Fm.start0
 refine .op (bldV pN (by kernel_rfl:_=some (.agg [.p (.int .i64 0),.p (.int .i64 0),.p (.int .i64 0),.p (.int .i64 0),.p (.int .i64 0),.p (.int .i64 0),.p (.int .i64 0)]))) ?_
 obtain ⟨H1,e2,S3⟩:=S0.box (own:=false) (d:=2) (s:=(1::0::1::0::σ)) (xs:=[.p (.int .i64 0),.p (.int .i64 0),.p (.int .i64 0),.p (.int .i64 0),.p (.int .i64 0),.p (.int .i64 0),.p (.int .i64 0)]) (sC (sI _ _) (sC (sI _ _) (sC (sI _ _) (sC (sI _ _) (sC (sI _ _) (sC (sI _ _) (sC (sI _ _) sN))))))) (by decide) rfl
 refine .op (e2) ?_
 obtain ⟨H5,e6,S7⟩:=S3.expG (i:=0) (τ:=0::1::σ) rfl rfl
 exact .fin (S7.finE (Ex.st e6 Ex.nil)) ⟨(1::0::1::0::σ),rfl⟩
end
end Go.Ev
namespace Go.Ev
open Go.Proofs
set_option linter.unusedVariables false
set_option linter.unusedSimpArgs false
set_option maxRecDepth 100000
noncomputable section
abbrev KT19:=Exit→Env→H→Option (List C × H)
variable (rec : CallF) (loop : LoopV) (σ : Stamp)
theorem zfy  (h:H):cvBody G rec loop 87 σ [] h =
(buildV Try.prog 170 [(0,(.p (.int .i64 (-1)))),(1,(.p (.int .i64 (-1))))]).bind fun t1 =>
(boxO false (1::0::1::0::σ) 2 (List.replicate 3 []::h) t1).bind fun q2 =>
fin false σ q2.2 [q2.1]:=by kernel_rfl
end
end Go.Ev
namespace Go.Ev
open Go.Proofs
set_option linter.unusedVariables false
set_option linter.unusedSimpArgs false
set_option maxRecDepth 100000
section
variable {β α : Type} {Q : β→α→Prop} {K : Exit × Env × H→Option α}
def zah :Option (z1e) :=
some ((⟨(-1),(-1),0,0⟩:z1e))
theorem zj5 {h:H} {σ:Stamp} :Sim (zah ) (ev G X0 87 σ [] h) (fun r s=>∃ (s0:Stamp),s=([.own s0 [.v (.p (.int .i64 r.first)),.v (.p (.int .i64 r.last)),.v (.p (.int .i64 r.count)),.v (.p (.int .u64 r.mask))]],h)):=by
 refine .ev rfl (Sim.ext (zfy _ _ _ _) ?_)
 rw [zah]
 have S0:Fm 3 h [] [] [] (List.replicate 3 []::h):=Fm.start0
 refine .op (bldV (pC rfl (pC rfl pN)) (by kernel_rfl:_=some (.agg [.p (.int .i64 (-1)),.p (.int .i64 (-1)),.p (.int .i64 0),.p (.int .u64 0)]))) ?_
 obtain ⟨H1,e2,S3⟩:=S0.box (own:=false) (d:=2) (s:=(1::0::1::0::σ)) (xs:=[.p (.int .i64 (-1)),.p (.int .i64 (-1)),.p (.int .i64 0),.p (.int .u64 0)]) (sC (sI _ _) (sC (sI _ _) (sC (sI _ _) (sC (sI _ _) sN)))) (by decide) rfl
 refine .op (e2) ?_
 obtain ⟨H5,e6,S7⟩:=S3.expG (i:=0) (τ:=0::1::σ) rfl rfl
 exact .fin (S7.finE (Ex.st e6 Ex.nil)) ⟨(1::0::1::0::σ),rfl⟩
def z4z {β:Type} (k:Nat) (kE0:z5→Option β) (x11:(List z7)) (x12:Int) (x13:Int) (yg10:z5):Option β:=match k with
| 0=>none
| k+1 =>
bif decide (x13<x12) then (
(ix x11 x13).bind fun a20 =>
(zah).bind fun r32 =>
(z8q).bind fun r42 =>
(ap 80 yg10.l [(⟨a20,r32,(⟨[((r42.slots.getD 0 0)),((r42.slots.getD 1 0)),((r42.slots.getD 2 0)),((r42.slots.getD 3 0)),((r42.slots.getD 4 0))],r42.last,r42.total⟩:z4),false,0,false,false,0⟩:zc)]).bind fun a58 =>
z4z k kE0 x11 x12 (IntKind.wrap .i64 (x13+1)) ((⟨a58⟩:z5)))
else (
kE0 yg10)
def z34 (k:Nat) (x0:(List z7)):Option ((Option z5)) :=
(z81 k x0).bind fun r1 =>
bif r1 != 0 then (
some (none))
else (
z4z k (fun yg18 =>
some ((some yg18))) x0 ((x0.length:Int)) 0 ((⟨(([]:List zc))⟩:z5)))
theorem zdi {h:H}  {kE0:z5→Option β} (hE0:∀ (yg18:z5) (c76:C) (h77:RsC z9 yg18.l c76) (s78:Stamp) (H74:Go.Ev.H) (_:Fm 32 h [] [(10,s78,[c76])] [] H74),Sim (kE0 yg18) (K ((.exit 0),(envL [(3,(.ref ⟨h.length,10,0,s78,[]⟩ 0))]),H74)) Q) (k:Nat):∀ (x11:(List z7)) (x12:Int) (x13:Int) (yg10:z5) (v13:V) (h14:SlH h z8 x11 v13) (c15:C) (h16:RsC z9 yg10.l c15) (s17:Stamp) (H11:Go.Ev.H) (_:Fm 32 h [] [(10,s17,[c15])] [] H11) {σ:Stamp},Sim (z4z k kE0 x11 x12 x13 yg10) ((cvL G X0 z62 z5z σ (envL [(3,(.ref ⟨h.length,10,0,s17,[]⟩ 0)),(11,v13),(12,(.p (.int .i64 x12))),(13,(.p (.int .i64 x13)))]) H11).bind K) Q:=by
 induction k with
 | zero=>intros;exact .no
 | succ k ih =>
  intro x11 x12 x13 yg10 v13 h14 c15 h16 s17 H11 S12 σ
  rw [z4z]
  refine .round (Sim.ext (zh9 _ _ _ _ _ _ _ _) ?_)
  refine .cq ?_ ?_
  ·refine .bd fun a20 h21=>?_
   refine .op ((S12.low h14).iS h21 rfl) ?_
   obtain ⟨w23,h24,hE22⟩:=(S12.low h14).el h21 rfl
   obtain rfl:=z8.inv h24
   refine .op (hE22.all (by simp)) ?_
   obtain ⟨H25,e26,S27⟩:=S12.al (d:=5) (s:=(2::0::0::1::1::0::σ)) (z:=[(.p (.string ((⟨#[]⟩:ByteArray)))),(.p (.int .u32 0)),(.p (.int .i64 0))]) (by decide) rfl
   refine .op (congrArg some e26) ?_
   obtain ⟨H29,e30,S31⟩:=S27.stGv (i:=0) (j:=0) (own:=false) (σ:=(3::0::0::1::1::0::σ)) (xs:=[.p (.string a20.Rid),.p (.int .u32 a20.Ssrc),.p (.int .i64 a20.Height)]) rfl rfl (sC (still_str _) (sC (sI _ _) (sC (sI _ _) sN))) rfl rfl
   refine .op (sM e30) ?_
   refine .nc ?_
   refine .fa ?_
   refine .op (RsC.ld h16 (S31.atG (i:=1) rfl) (j:=0) rfl) ?_
   refine .op ((S31.atG (i:=0) rfl).ldVs (j:=0) (xs:=[.p (.string a20.Rid),.p (.int .u32 a20.Ssrc),.p (.int .i64 a20.Height)]) rfl rfl (by decide)) ?_
   refine .call (zj5 ) fun r32 cs33 H34 h35 q36=>?_
   obtain ⟨s37,q36⟩:=q36
   cases q36
   obtain ⟨H38,e39,S40⟩:=S31.landG (d:=23) (s:=s37) (cs:=List.map C.v [(.p (.int .i64 r32.first)),(.p (.int .i64 r32.last)),(.p (.int .i64 r32.count)),(.p (.int .u64 r32.mask))]) (by decide) rfl
   erw [e39]
   refine .nd ((S40.atG (i:=1) rfl).ldVs (j:=0) (xs:=[.p (.string a20.Rid),.p (.int .u32 a20.Ssrc),.p (.int .i64 a20.Height)]) rfl rfl (by decide)) ?_
   refine .nd (RsC.ld h16 (S40.atG (i:=2) rfl) (j:=0) rfl) ?_
   refine .call (zgu ) fun r42 cs43 H44 h45 q46=>?_
   obtain ⟨s47,q46⟩:=q46
   cases q46
   obtain ⟨H48,e49,S50⟩:=S40.landG (d:=24) (s:=s47) (cs:=List.map C.v [(.p (.int .i64 ((r42.slots.getD 0 0)))),(.p (.int .i64 ((r42.slots.getD 1 0)))),(.p (.int .i64 ((r42.slots.getD 2 0)))),(.p (.int .i64 ((r42.slots.getD 3 0)))),(.p (.int .i64 ((r42.slots.getD 4 0)))),(.p (.int .i64 r42.last)),(.p (.int .i64 r42.total))]) (by decide) rfl
   erw [e49]
   refine .nd ((S50.atG (i:=2) rfl).ldVs (j:=0) (xs:=[.p (.string a20.Rid),.p (.int .u32 a20.Ssrc),.p (.int .i64 a20.Height)]) rfl rfl (by decide)) ?_
   refine .nd (RsC.ld h16 (S50.atG (i:=3) rfl) (j:=0) rfl) ?_
   refine .op (bldV (pC (c:=[.p (.string a20.Rid),.p (.int .u32 a20.Ssrc),.p (.int .i64 a20.Height)]) rfl (pC rfl (pC rfl pN))) (by kernel_rfl:_=some (.agg [(.p (.string a20.Rid)),(.p (.int .u32 a20.Ssrc)),(.p (.int .i64 a20.Height)),(.ref ⟨h.length,23,0,s37,[]⟩ 0),(.ref ⟨h.length,24,0,s47,[]⟩ 0),(.p (.bool false)),(.p (.int .i64 0)),(.p (.bool false)),(.p (.bool false)),(.p (.int .i64 0))]))) ?_
   refine .op (bldS1 (e:=10) (te:=136) (z:=[.p (.string (⟨#[]⟩:ByteArray)),.p (.int .u32 0),.p (.int .i64 0),.p (.pointer none),.p (.pointer none),.p (.bool false),.p (.int .i64 0),.p (.bool false),.p (.bool false),.p (.int .i64 0)]) (by kernel_rfl) (by kernel_rfl) ⟨⟨rfl,by kernel_rfl,by decide,by decide⟩,trivial⟩ ((show List.length [(.p (.string a20.Rid)),(.p (.int .u32 a20.Ssrc)),(.p (.int .i64 a20.Height)),(.ref ⟨h.length,23,0,s37,[]⟩ 0),(.ref ⟨h.length,24,0,s47,[]⟩ 0),(.p (.bool false)),(.p (.int .i64 0)),(.p (.bool false)),(.p (.bool false)),(.p (.int .i64 0))]=List.length [(.p (.string a20.Rid)),(.p (.int .u32 a20.Ssrc)),(.p (.int .i64 a20.Height)),(.ref ⟨h.length,23,0,s37,[]⟩ 0),(.ref ⟨h.length,24,0,s47,[]⟩ 0),(.p (.bool false)),(.p (.int .i64 0)),(.p (.bool false)),(.p (.bool false)),(.p (.int .i64 0))] from rfl).trans rfl)) ?_
   obtain ⟨H52,e53,S54⟩:=S50.layR (i:=1) (own:=false) rfl rfl
   obtain ⟨H55,e56,S57⟩:=S54.layR (i:=0) (own:=false) rfl rfl
   refine .bd fun a58 h59=>?_
   obtain ⟨c60,ds61,H62,e63,h64,h65,S66⟩:=S57.appR (i:=1) (j:=0) (d:=27) (e:=10) (own:=false) (σ:=(10::1::0::1::1::0::σ)) (dt:=z9) (t:=true) rfl rfl h16 (lx_pl (still_str _) (lx_pl (sI _ _) (lx_pl (sI _ _) (lx_ow e53 (lx_ow e56 (lx_pl (sB _) (lx_pl (sI _ _) (lx_pl (sB _) (lx_pl (sB _) (lx_pl (sI _ _) lx_nil)))))))))) rfl (show z9.R ((⟨a20,r32,(⟨[((r42.slots.getD 0 0)),((r42.slots.getD 1 0)),((r42.slots.getD 2 0)),((r42.slots.getD 3 0)),((r42.slots.getD 4 0))],r42.last,r42.total⟩:z4),false,0,false,false,0⟩:zc)) [.v (.p (.string a20.Rid)),.v (.p (.int .u32 a20.Ssrc)),.v (.p (.int .i64 a20.Height)),.own s37 (List.map C.v [(.p (.int .i64 r32.first)),(.p (.int .i64 r32.last)),(.p (.int .i64 r32.count)),(.p (.int .u64 r32.mask))]),.own s47 (List.map C.v [(.p (.int .i64 ((r42.slots.getD 0 0)))),(.p (.int .i64 ((r42.slots.getD 1 0)))),(.p (.int .i64 ((r42.slots.getD 2 0)))),(.p (.int .i64 ((r42.slots.getD 3 0)))),(.p (.int .i64 ((r42.slots.getD 4 0)))),(.p (.int .i64 r42.last)),(.p (.int .i64 r42.total))]),.v (.p (.bool false)),.v (.p (.int .i64 0)),.v (.p (.bool false)),.v (.p (.bool false)),.v (.p (.int .i64 0))] from ⟨s37,s47,rfl⟩) h59 rfl (by decide) (by decide) rfl rfl
   refine .op (e63) ?_
   refine .nc ?_
   refine .fa ?_
   obtain ⟨H67,e68,S69⟩:=S66.stR (j:=0) (σ:=(13::1::0::1::1::0::σ)) h65 (i:=1) rfl rfl rfl rfl
   obtain ⟨c70,e71,h73⟩:∃ c,c=.arr (10::1::0::1::1::0::σ) a58.length 10 ds61∧RsC z9 a58 c:=⟨_,rfl,.inr ⟨_,_,rfl,h64⟩⟩
   have S72:Fm 32 h [] [(5,(2::0::0::1::1::0::σ),List.map C.v [(.p (.string a20.Rid)),(.p (.int .u32 a20.Ssrc)),(.p (.int .i64 a20.Height))]),(10,s17,[c70])] [] H67:=by rw [e71];exact S69
   refine .op (sM e68) ?_
   exact ih x11 x12 (IntKind.wrap .i64 (x13+1)) ((⟨a58⟩:z5)) v13 h14 c70 h73 s17 H67 (S72.wk2 (aC (aM 1 rfl) aN) aN)
  exact hE0 yg10 c15 h16 s17 H11 (S12.wk2 (aC (aM 0 rfl) aN) aN)
theorem z7w (k:Nat) {h:H} {σ:Stamp} (x0:List z7) {u0:V} (hu0:SlH h z8 x0 u0):Sim (z34 k x0) (ev G X0 39 σ [u0] h) (fun r s=>match r with | none=>s=([.v (.p (.pointer none))],h) | some r=>∃ (s0:Stamp),∃ (cr0_0:C),RsC z9 r.l cr0_0∧s=([.own s0 [cr0_0]],h)):=by
 refine .ev rfl (Sim.ext (zdn _ _ _ _ _) ?_)
 rw [z34]
 have S0:Fm 32 h [] [] [] (List.replicate 32 []::h):=Fm.start0
 refine .call (zfq k x0 (S0.low hu0)) fun r1 cs2 H3 h4 q5=>?_
 cases q5
 refine .ci ?_
 refine .cq ?_ ?_
 ·exact .fin (S0.finN (lC (Still.lv still_nilP) lN)) rfl
 refine .op (bldV pN (by kernel_rfl:_=some (.agg [(.p (.slice none 0 0))]))) ?_
 obtain ⟨H7,e8,S9⟩:=S0.box (own:=true) (d:=10) (s:=(1::0::1::1::0::σ)) (xs:=[(.p (.slice none 0 0))]) (sC still_nilS sN) (by decide) rfl
 refine .op (e8) ?_
 refine .op ((S9.low hu0).len) ?_
 refine .ci ?_
 refine .as (zdi ?_ k x0 ((x0.length:Int)) 0 ((⟨(([]:List zc))⟩:z5)) u0 hu0 (.v (.p (.slice none 0 0))) RsC.nil (1::0::1::1::0::σ) H7 (S9.wk2 (aC (aM 0 rfl) aN) aN))
 ·intro yg18 c83 h84 s85 H81 S82
  refine .ext (ze0 _ _ _ _ _) ?_
  obtain ⟨H87,e88,S89⟩:=S82.expG (i:=0) (τ:=0::1::σ) rfl rfl
  exact .fin (S89.finE (Ex.st e88 Ex.nil)) ⟨s85,c83,h84,rfl⟩
end
end Go.Ev
namespace Go.Ev
open Go.Proofs
set_option linter.unusedVariables false
set_option linter.unusedSimpArgs false
set_option maxRecDepth 100000
noncomputable section
abbrev KT20:=Exit→Env→H→Option (List C × H)
variable (rec : CallF) (loop : LoopV) (σ : Stamp)
theorem zc9  (h:H):cvBody G rec loop 44 σ [] h =
(buildV Try.prog 70 [(0,(.p (.string ((⟨#[108,111]⟩:ByteArray))))),(1,(.p (.int .u32 1))),(2,(.p (.int .i64 100)))]).bind fun t1 =>
(buildV Try.prog 70 [(0,(.p (.string ((⟨#[104,105]⟩:ByteArray))))),(1,(.p (.int .u32 2))),(2,(.p (.int .i64 200)))]).bind fun t2 =>
(bSV Try.prog 56 2 [(0,t1),(1,t2)]).bind fun t3 =>
(callO rec 39 (1::0::1::1::0::σ) [t3] (List.replicate 138 []::h) (some 18)).bind fun q4 =>
(binV Try.prog q4.2 .eql 79 q4.1 (.p (.pointer .none))).bind fun t5 =>
(asB t5).bind fun b6 =>
(bif b6 then (some ((.p (.bool true)),q4.2)) else ((callO rec 39 (3::0::0::1::1::1::0::σ) [(.p (.slice .none 0 0))] q4.2 (some 22)).bind fun q7 =>
(binV Try.prog q7.2 .neq 79 q7.1 (.p (.pointer .none))).bind fun t8 =>
(asB t8).bind fun b9 =>
some ((.p (.bool b9)),q7.2))).bind fun q10 =>
(asB q10.1).bind fun b11 =>
bif b11 then (
fin false σ q10.2 [(.p (.bool false))])
else (
(iS 3 t3 1).bind fun t12 =>
(ldO true 3 q10.2 t12).bind fun t13 =>
(callO rec 41 (3::0::1::1::1::1::0::σ) [t13,(.p (.int .u16 5)),(.p (.int .u32 9)),(.p (.bool true)),(.p (.int .i64 100))] q10.2 (some 28)).bind fun q14 =>
(callO rec 40 (1::0::1::1::1::1::1::0::σ) [q14.1] q14.2 (some 31)).bind fun q15 =>
(extV q15.1 0).bind fun t16 =>
(extV q15.1 1).bind fun t17 =>
(castI .i64 t17).bind fun n18 =>
(some (alO [.p (.bool false),.p (.int .i64 0),.p (.int .u16 0),.p (.int .u32 0),.p (.int .u32 0),.p (.slice none 0 0),.p (.int .u16 0),.p (.slice none 0 0),.p (.slice none 0 0)] (5::0::1::1::1::1::1::0::σ) 4 q15.2)).bind fun q19 =>
((stO true 9 (6::0::1::1::1::1::1::0::σ) q19.2 q19.1 t16).map fun h=>(udf,h)).bind fun q20 =>
(ldO true 9 q20.2 q19.1).bind fun t21 =>
(callO rec 42 (2::0::1::1::1::1::1::1::0::σ) [q4.1,t21] q20.2 (some 36)).bind fun q22 =>
(castI .i64 q22.1).bind fun n23 =>
(callO rec 47 (1::0::1::1::1::1::1::1::1::0::σ) [q4.1,(.p (.int .i64 1)),(.p (.int .i64 0))] q22.2 (some 38)).bind fun q24 =>
(asB q24.1).bind fun b25 =>
(ldO true 9 q24.2 q19.1).bind fun t26 =>
(lenO q14.1).bind fun t27 =>
(castI .i64 t27).bind fun n28 =>
(callO rec 45 (4::0::1::1::1::1::1::1::1::1::0::σ) [q4.1,(.p (.int .i64 1)),t26,(.p (.int .i64 n28)),(.p (.int .i64 10))] q24.2 (some 44)).bind fun q29 =>
(extV q29.1 0).bind fun t30 =>
(castI .i64 t30).bind fun n31 =>
(extV q29.1 1).bind fun t32 =>
(asB t32).bind fun b33 =>
(ldO true 9 q29.2 q19.1).bind fun t34 =>
(lenO q14.1).bind fun t35 =>
(castI .i64 t35).bind fun n36 =>
(callO rec 45 (4::0::1::1::1::1::1::1::1::1::1::0::σ) [q4.1,(.p (.int .i64 1)),t34,(.p (.int .i64 n36)),(.p (.int .i64 20))] q29.2 (some 52)).bind fun q37 =>
(extV q37.1 0).bind fun t38 =>
(castI .i64 t38).bind fun n39 =>
(extV q37.1 1).bind fun t40 =>
(asB t40).bind fun b41 =>
(callO rec 46 (1::0::1::1::1::1::1::1::1::1::1::1::0::σ) [q4.1,(.p (.int .i64 1)),(.p (.int .i64 10))] q37.2 (some 56)).bind fun q42 =>
(castI .i64 q42.1).bind fun n43 =>
(callO rec 48 (1::0::1::1::1::1::1::1::1::1::1::1::1::0::σ) [q4.1,(.p (.int .i64 1)),(.p (.bool true)),(.p (.int .i64 10))] q42.2 (some 58)).bind fun q44 =>
(callO rec 50 (1::0::1::1::1::1::1::1::1::1::1::1::1::1::0::σ) [q4.1,(.p (.int .i64 1))] q44.2 (some 60)).bind fun q45 =>
(asB q45.1).bind fun b46 =>
(bif b46 then ((callO rec 47 (4::0::1::1::1::1::1::1::1::1::1::1::1::1::0::σ) [q4.1,(.p (.int .i64 1)),(.p (.int .i64 20))] q45.2 (some 63)).bind fun q47 =>
(asB q47.1).bind fun b48 =>
some ((.p (.bool (!b48))),q47.2)) else (some ((.p (.bool false)),q45.2))).bind fun q49 =>
(asB q49.1).bind fun b50 =>
(callO rec 48 (1::0::1::1::1::1::1::1::1::1::1::1::1::1::1::0::σ) [q4.1,(.p (.int .i64 1)),(.p (.bool false)),(.p (.int .i64 900000))] q49.2 (some 67)).bind fun q51 =>
(bif n23==1 then (some (!b25)) else (some false)).bind fun b52 =>
(bif b52 then (some (n31==5)) else (some false)).bind fun b53 =>
(bif b53 then (some b33) else (some false)).bind fun b54 =>
(bif b54 then (some (!b41)) else (some false)).bind fun b55 =>
(bif b55 then (some (n43==1)) else (some false)).bind fun b56 =>
(bif b56 then (some b50) else (some false)).bind fun b57 =>
(bif b57 then ((callO rec 49 (26::0::1::1::1::1::1::1::1::1::1::1::1::1::1::1::0::σ) [q4.1,(.p (.int .i64 1))] q51.2 (some 94)).bind fun q58 =>
(asB q58.1).bind fun b59 =>
some ((.p (.bool b59)),q58.2)) else (some ((.p (.bool false)),q51.2))).bind fun q60 =>
(asB q60.1).bind fun b61 =>
(bif b61 then ((callO rec 46 (30::0::1::1::1::1::1::1::1::1::1::1::1::1::1::1::0::σ) [q4.1,(.p (.int .i64 1)),(.p (.int .i64 900000))] q60.2 (some 98)).bind fun q62 =>
(castI .i64 q62.1).bind fun n63 =>
some ((.p (.bool (n63==1))),q62.2)) else (some ((.p (.bool false)),q60.2))).bind fun q64 =>
(asB q64.1).bind fun b65 =>
(bif b65 then ((ldO true 9 q64.2 q19.1).bind fun t66 =>
(callO rec 43 (36::0::1::1::1::1::1::1::1::1::1::1::1::1::1::1::0::σ) [q4.1,t66] q64.2 (some 104)).bind fun q67 =>
(asB q67.1).bind fun b68 =>
some ((.p (.bool b68)),q67.2)) else (some ((.p (.bool false)),q64.2))).bind fun q69 =>
(asB q69.1).bind fun b70 =>
(bif b70 then ((callO rec 94 (40::0::1::1::1::1::1::1::1::1::1::1::1::1::1::1::0::σ) [q4.1,(.p (.int .i64 0))] q69.2 (some 108)).bind fun q71 =>
(castI .i64 q71.1).bind fun n72 =>
some ((.p (.bool (n72==100))),q71.2)) else (some ((.p (.bool false)),q69.2))).bind fun q73 =>
(asB q73.1).bind fun b74 =>
(bif b74 then ((callO rec 94 (45::0::1::1::1::1::1::1::1::1::1::1::1::1::1::1::0::σ) [q4.1,(.p (.int .i64 5))] q73.2 (some 113)).bind fun q75 =>
(castI .i64 q75.1).bind fun n76 =>
some ((.p (.bool (n76==0))),q75.2)) else (some ((.p (.bool false)),q73.2))).bind fun q77 =>
(asB q77.1).bind fun b78 =>
(bif b78 then ((callO rec 95 (50::0::1::1::1::1::1::1::1::1::1::1::1::1::1::1::0::σ) [q4.1] q77.2 (some 118)).bind fun q79 =>
(castI .i64 q79.1).bind fun n80 =>
some ((.p (.bool (n80==2))),q79.2)) else (some ((.p (.bool false)),q77.2))).bind fun q81 =>
(asB q81.1).bind fun b82 =>
(bif b82 then ((buildV Try.prog 52 [(4,(.p (.int .u32 1)))]).bind fun t83 =>
(callO rec 42 (56::0::1::1::1::1::1::1::1::1::1::1::1::1::1::1::0::σ) [q4.1,t83] q81.2 (some 124)).bind fun q84 =>
(castI .i64 q84.1).bind fun n85 =>
some ((.p (.bool (n85==(-1)))),q84.2)) else (some ((.p (.bool false)),q81.2))).bind fun q86 =>
(asB q86.1).bind fun b87 =>
(bif b87 then ((callO rec 46 (61::0::1::1::1::1::1::1::1::1::1::1::1::1::1::1::0::σ) [q4.1,(.p (.int .i64 (-1))),(.p (.int .i64 0))] q86.2 (some 129)).bind fun q88 =>
(castI .i64 q88.1).bind fun n89 =>
some ((.p (.bool (n89==0))),q88.2)) else (some ((.p (.bool false)),q86.2))).bind fun q90 =>
(asB q90.1).bind fun b91 =>
(bif b91 then ((callO rec 86 (66::0::1::1::1::1::1::1::1::1::1::1::1::1::1::1::0::σ) [q4.1] q90.2 (some 134)).bind fun q92 =>
(lenO q92.1).bind fun t93 =>
(castI .i64 t93).bind fun n94 =>
some ((.p (.bool (n94==2))),q92.2)) else (some ((.p (.bool false)),q90.2))).bind fun q95 =>
(asB q95.1).bind fun b96 =>
fin false σ q95.2 [(.p (.bool b96))]):=by kernel_rfl
theorem z84 (x0:V) (x1:V) (h:H):cvBody G rec loop 42 σ [x0,x1] h =
(boxO true (0::0::0::σ) 3 (List.replicate 18 []::h) x1).bind fun q1 =>
(ldO true 9 q1.2 q1.1).bind fun t2 =>
(callO rec 26 (1::0::1::0::σ) [t2] q1.2 (some 9)).bind fun q3 =>
(extV q3.1 0).bind fun t4 =>
(castS t4).bind fun s5 =>
(extV q3.1 1).bind fun t6 =>
(asB t6).bind fun b7 =>
(some (alO [.p (.string (⟨#[]⟩:ByteArray))] (5::0::1::0::σ) 5 q3.2)).bind fun q8 =>
(some (alO [.p (.bool false)] (6::0::1::0::σ) 6 q8.2)).bind fun q9 =>
((stO true 1 (7::0::1::0::σ) q9.2 q8.1 (.p (.string s5))).map fun h=>(udf,h)).bind fun q10 =>
((stO true 1 (8::0::1::0::σ) q10.2 q9.1 (.p (.bool b7))).map fun h=>(udf,h)).bind fun q11 =>
(nilChk x0).bind fun t12 =>
(fA t12 0).bind fun t13 =>
(ldO false 1 q11.2 t13).bind fun t14 =>
(callO rec 92 (5::0::1::1::0::σ) [t14,(.clo 93 [q9.1,q1.1,q8.1])] q11.2 (some 17)).bind fun q15 =>
(castI .i64 q15.1).bind fun n16 =>
fin false σ q15.2 [(.p (.int .i64 n16))]:=by kernel_rfl
theorem zfz (x0:V) (h:H):cvBody G rec loop 26 σ [x0] h =
(boxO true (0::0::0::σ) 1 (List.replicate 33 []::h) x0).bind fun q1 =>
(fA q1.1 6).bind fun t2 =>
(ldO false 1 q1.2 t2).bind fun t3 =>
(castI .u16 t3).bind fun n4 =>
(fA q1.1 7).bind fun t5 =>
(ldO false 1 q1.2 t5).bind fun t6 =>
(callO rec 23 (4::0::1::0::σ) [(.p (.int .u16 n4)),t6] q1.2 (some 13)).bind fun q7 =>
(extV q7.1 0).bind fun t8 =>
(extV q7.1 1).bind fun t9 =>
(castI .i64 t9).bind fun n10 =>
bif n10 != 0 then (
fin false σ q7.2 [(.p (.string ((⟨#[]⟩:ByteArray)))),(.p (.bool false))])
else (
(callO rec 25 (1::0::1::1::1::0::σ) [t8,(.p (.int .i64 1))] q7.2 (some 20)).bind fun q11 =>
(extV q11.1 0).bind fun t12 =>
(extV q11.1 1).bind fun t13 =>
(asB t13).bind fun b14 =>
(bif !b14 then (some ((.p (.bool true)),q11.2)) else ((strO q11.2 t12).bind fun t15 =>
(castS t15).bind fun s16 =>
(callO rec 64 (5::0::0::1::1::1::1::0::σ) [(.p (.string s16))] q11.2 (some 28)).bind fun q17 =>
(asB q17.1).bind fun b18 =>
some ((.p (.bool (!b18))),q17.2))).bind fun q19 =>
(asB q19.1).bind fun b20 =>
bif b20 then (
fin false σ q19.2 [(.p (.string ((⟨#[]⟩:ByteArray)))),(.p (.bool false))])
else (
(strO q19.2 t12).bind fun t21 =>
(castS t21).bind fun s22 =>
fin false σ q19.2 [(.p (.string s22)),(.p (.bool true))])):=by kernel_rfl
theorem zdy (x0:V) (x1:Int) (h:H):cvBody G rec loop 25 σ [x0,(.p (.int .i64 x1))] h =
(boxO true (0::0::0::σ) 3 (List.replicate 18 []::h) (.p (.int .i64 x1))).bind fun q1 =>
(callO rec 61 (2::0::1::0::σ) [x0,(.clo 62 [q1.1])] q1.2 (some 9)).bind fun q2 =>
(castI .i64 q2.1).bind fun n3 =>
bif decide (n3<0) then (
fin true σ q2.2 [(.p (.slice .none 0 0)),(.p (.bool false))])
else (
(iS 2 x0 n3).bind fun t4 =>
(fA t4 1).bind fun t5 =>
(ldO false 1 q2.2 t5).bind fun t6 =>
(callO rec 63 (5::0::1::1::1::0::σ) [t6] q2.2 (some 17)).bind fun q7 =>
fin true σ q7.2 [q7.1,(.p (.bool true))]):=by kernel_rfl
theorem z3a (x0:V) (h:H):cvBody G rec loop 63 σ [x0] h =
(binV Try.prog (List.replicate 8 []::h) .eql 32 x0 (.p (.slice .none 0 0))).bind fun t1 =>
(asB t1).bind fun b2 =>
bif b2 then (
fin false σ (List.replicate 8 []::h) [(.p (.slice .none 0 0))])
else (
(bSV Try.prog 32 0 []).bind fun t3 =>
(apO true 1 1 (2::0::1::1::0::σ) 7 (List.replicate 8 []::h) t3 x0).bind fun q4 =>
fin false σ q4.2 [q4.1]):=by kernel_rfl
def z15:Code:=(codeAt (bodyOf Try.f61) [1,0,1,0,0])
def z16:Lv:=⟨0,16,[(0,0)]⟩
def z1l:KT20:=(kBlock 0 (kSeq G rec loop (codeAt (bodyOf Try.f61) [1,1]) ⟨16,16,[]⟩ (1::0::σ) (finC G false Try.f61 (1::σ))))
theorem z3r (x0:V) (x1:V) (h:H):cvBody G rec loop 61 σ [x0,x1] h =
(lenO x0).bind fun t1 =>
(castI .i64 t1).bind fun n2 =>
(loop z15 z16 (1::0::1::0::σ) (envL [(0,x0),(1,x1),(7,(.p (.int .i64 n2))),(8,(.p (.int .i64 0)))]) (List.replicate 19 []::h)).bind fun r3=>z1l rec loop σ r3.1 r3.2.1 r3.2.2:=by kernel_rfl
theorem z4c (x0:V) (x1:V) (x7:Int) (x8:Int) (h:H):z1a G rec loop z15 z16 σ (envL [(0,x0),(1,x1),(7,(.p (.int .i64 x7))),(8,(.p (.int .i64 x8)))]) h =
bif decide (x8<x7) then (
(iS 2 x0 x8).bind fun t4 =>
(ldO true 2 h t4).bind fun t5 =>
(cloO rec x1 (5::0::1::0::1::1::0::σ) [t5] h (some 16)).bind fun q6 =>
(asB q6.1).bind fun b7 =>
bif b7 then (
some (.ret,(envL [(4,(.p (.int .i64 x8)))]),q6.2))
else (
loop z15 z16 (1::σ) (envL [(0,x0),(1,x1),(7,(.p (.int .i64 x7))),(8,(.p (.int .i64 (IntKind.wrap .i64 (x8+1)))))]) q6.2))
else (
some ((.exit 0),(envL []),h)):=by kernel_rfl
theorem z3v  (h:H):z1l rec loop σ (.exit 0) (envL []) h =
fin false σ h [(.p (.int .i64 (-1)))]:=by kernel_rfl
theorem z3e (x4:Int) (h:H):z1l rec loop σ .ret (envL [(4,(.p (.int .i64 x4)))]) h =
fin false σ h [(.p (.int .i64 x4))]:=by kernel_rfl
theorem zcb (x0:V) (x1:V) (h:H):cvBody G rec loop 62 σ [x0,x1] h =
(boxO false (0::0::0::σ) 2 (List.replicate 8 []::h) x0).bind fun q1 =>
(fA q1.1 0).bind fun t2 =>
(ldO false 1 q1.2 t2).bind fun t3 =>
(castI .i64 t3).bind fun n4 =>
(ldO false 1 q1.2 x1).bind fun t5 =>
(castI .i64 t5).bind fun n6 =>
fin false σ q1.2 [(.p (.bool (n4==n6)))]:=by kernel_rfl
end
end Go.Ev
namespace Go.Ev
open Go.Proofs
set_option linter.unusedVariables false
set_option linter.unusedSimpArgs false
set_option maxRecDepth 100000
section
variable {β α : Type} {Q : β→α→Prop} {K : Exit × Env × H→Option α}
def z7r (x0:zl) (x1:Int):Option (Bool) :=
some ((x0.ID==x1))
theorem zfk {h:H} {σ:Stamp} (x0:zl) {u0:List V} (hu0:zj.R x0 u0) (x1:Int)  {l1:Loc} {o1:Nat} (ha1:AtC h l1 o1 (List.map C.v [(.p (.int .i64 x1))])):Sim (z7r x0 x1) (ev G X0 62 σ [(.agg u0),(.ref l1 o1)] h) (fun r s=>s=([.v (.p (.bool r))],h)):=by
 refine .ev rfl (Sim.ext (zcb _ _ _ _ _ _) ?_)
 rw [z7r]
 obtain ⟨v1,rfl,h2⟩:=zj.inv hu0
 have S0:Fm 8 h [] [] [] (List.replicate 8 []::h):=Fm.start0
 obtain ⟨H3,e4,S5⟩:=S0.box (own:=false) (d:=2) (s:=(0::0::0::σ)) (xs:=[(.p (.int .i64 x0.ID)),v1]) (sC (sI _ _) (sC h2.still sN)) (by decide) rfl
 refine .op (e4) ?_
 refine .fa ?_
 refine .op ((S5.atG (i:=0) rfl).ld (j:=0) rfl) ?_
 refine .ci ?_
 refine .op ((S5.lowA ha1).ld (j:=0) rfl) ?_
 refine .ci ?_
 exact .fin (S5.finN (lC (sB _).lv lN)) rfl
def zm {β:Type} (k:Nat) (kE0:Unit→Option β) (kE1:Int→Option β) (x0:(List zl)) (x1c0:Int) (x7:Int) (x8:Int):Option β:=match k with
| 0=>none
| k+1 =>
bif decide (x8<x7) then (
(ix x0 x8).bind fun a10 =>
(z7r a10 x1c0).bind fun r17 =>
bif r17 then (
kE1 x8)
else (
zm k kE0 kE1 x0 x1c0 x7 (IntKind.wrap .i64 (x8+1))))
else (
kE0 ())
def z14 (k:Nat) (x0:(List zl)) (x1c0:Int):Option (Int) :=
zm k (fun (_:Unit) =>
some ((-1))) (fun r30_4 =>
some (r30_4)) x0 x1c0 ((x0.length:Int)) 0
theorem z2d {h:H}  {kE0:Unit→Option β} {kE1:Int→Option β} (hE0:∀ (_u:Unit) (H23:Go.Ev.H) (_:Fm 19 h [] [] [] H23),Sim (kE0 ()) (K ((.exit 0),(envL []),H23)) Q) (hE1:∀ (q4:Int) (H25:Go.Ev.H) (_:Fm 19 h [] [] [] H25),Sim (kE1 q4) (K (.ret,(envL [(4,(.p (.int .i64 q4)))]),H25)) Q) (k:Nat):∀ (x0:(List zl)) (x1c0:Int) (x7:Int) (x8:Int) (v3:V) (h4:SlH h zj x0 v3) (lr5:Loc) (or6:Nat) (har7:AtC h lr5 or6 (List.map C.v [(.p (.int .i64 x1c0))])) (H1:Go.Ev.H) (_:Fm 19 h [] [] [] H1) {σ:Stamp},Sim (zm k kE0 kE1 x0 x1c0 x7 x8) ((cvL G X0 z15 z16 σ (envL [(0,v3),(1,(.clo 62 [(.ref lr5 or6)])),(7,(.p (.int .i64 x7))),(8,(.p (.int .i64 x8)))]) H1).bind K) Q:=by
 induction k with
 | zero=>intros;exact .no
 | succ k ih =>
  intro x0 x1c0 x7 x8 v3 h4 lr5 or6 har7 H1 S2 σ
  rw [zm]
  refine .round (Sim.ext (z4c _ _ _ _ _ _ _ _) ?_)
  refine .cq ?_ ?_
  ·refine .bd fun a10 h11=>?_
   refine .op ((S2.low h4).iS h11 rfl) ?_
   obtain ⟨w13,h14,hE12⟩:=(S2.low h4).el h11 rfl
   obtain ⟨v15,rfl,h16⟩:=zj.inv h14
   refine .op (hE12.all (by simp)) ?_
   refine .clo ?_
   refine .call (zfk a10 (show zj.R a10 [.p (.int .i64 a10.ID),v15] from (zj.mk h16)) x1c0 (S2.lowA har7)) fun r17 cs18 H19 h20 q21=>?_
   cases q21
   refine .ab ?_
   refine .cq ?_ ?_
   ·exact hE1 x8 H1 (S2.wk2 aN aN)
   exact ih x0 x1c0 x7 (IntKind.wrap .i64 (x8+1)) v3 h4 lr5 or6 har7 H1 (S2.wk2 aN aN)
  exact hE0 () H1 (S2.wk2 aN aN)
theorem z2j (k:Nat) {h:H} {σ:Stamp} (x0:List zl) {u0:V} (hu0:SlH h zj x0 u0) (x1c0:Int)  {l1c0:Loc} {o1c0:Nat} (ha1c0:AtC h l1c0 o1c0 (List.map C.v [(.p (.int .i64 x1c0))])):Sim (z14 k x0 x1c0) (ev G X0 61 σ [u0,(.clo 62 [(.ref l1c0 o1c0)])] h) (fun r s=>s=([.v (.p (.int .i64 r))],h)):=by
 refine .ev rfl (Sim.ext (z3r _ _ _ _ _ _) ?_)
 rw [z14]
 have S0:Fm 19 h [] [] [] (List.replicate 19 []::h):=Fm.start0
 refine .op ((S0.low hu0).len) ?_
 refine .ci ?_
 refine .as (z2d ?_ ?_ k x0 x1c0 ((x0.length:Int)) 0 u0 hu0 l1c0 o1c0 ha1c0 (List.replicate 19 []::h) (S0.wk2 aN aN))
 ·intro _u H28 S29
  refine .ext (z3v _ _ _ _) ?_
  exact .fin (S29.finN (lC (sI _ _).lv lN)) rfl
 ·intro r30_4 H31 S32
  refine .ext (z3e _ _ _ _ _) ?_
  exact .fin (S32.finN (lC (sI _ _).lv lN)) rfl
def z9w (k:Nat) (x0:(List zl)) (x1:Int):Option ((List Int)×Bool) :=
(z14 k x0 x1).bind fun r5 =>
bif decide (r5<0) then (
some ((([]:List Int)),false))
else (
(ix x0 r5).bind fun a11 =>
(ze9 1 a11.Data).bind fun r23 =>
some (r23,true))
theorem zhx (k:Nat) {h:H} {σ:Stamp} (x0:List zl) {u0:V} (hu0:SlH h zj x0 u0) (x1:Int):Sim (z9w k x0 x1) (ev G X0 25 σ [u0,(.p (.int .i64 x1))] h) (fun r s=>∃ (v0:V),SlF (dI .u8) r.1 v0∧s=([.v v0,.v (.p (.bool r.2))],h)):=by
 refine .ev rfl (Sim.ext (zdy _ _ _ _ _ _) ?_)
 rw [z9w]
 have S0:Fm 18 h [] [] [] (List.replicate 18 []::h):=Fm.start0
 obtain ⟨H1,e2,S3⟩:=S0.box1 (own:=true) (d:=3) (s:=(0::0::0::σ)) (x:=(.p (.int .i64 x1))) (sI _ _) (by decide) rfl
 refine .op (e2) ?_
 refine .call (z2j k x0 (S3.low hu0) x1 (S3.atG (i:=0) rfl)) fun r5 cs6 H7 h8 q9=>?_
 cases q9
 refine .ci ?_
 refine .cq ?_ ?_
 ·exact .fin (S3.finN (lC (SlF.nil (dI .u8)).still.lv (lC (sB _).lv lN))) ⟨(.p (.slice none 0 0)),(SlF.nil (dI .u8)),rfl⟩
 refine .bd fun a11 h12=>?_
 refine .op ((S3.low hu0).iS h12 rfl) ?_
 obtain ⟨w14,h15,hE13⟩:=(S3.low hu0).el h12 rfl
 obtain ⟨v16,rfl,h17⟩:=zj.inv h15
 refine .op (hE13.fa (j:=1) (by simp)) ?_
 obtain ⟨w19,h20,hE18⟩:=(S3.low hu0).el h12 rfl
 obtain ⟨v21,rfl,h22⟩:=zj.inv h20
 refine .op (hE18.ld (j:=1) rfl) ?_
 refine .call (zh3 (b:=1) (f:=63) (tt:=5) (e:=1) (τ:=fun σ=>_::_::_::_::_::σ) (fun x h=>z3a _ _ _ x h) (h22.h H1) rfl (by decide) (by decide) (by decide) (by kernel_rfl) (by kernel_rfl) rfl) fun r23 cs24 H25 h26 q27=>?_
 obtain ⟨c28,cs29,h30,h31,q27⟩:=q27
 cases q27
 obtain ⟨v32,H33,e34,S35⟩:=S3.land (dt:=(dI .u8)) (d:=17) (e:=0) (n:=0) h30 h31 (by decide) rfl
 erw [e34]
 obtain ⟨v42,H37,e38,h40,S39⟩:=S35.expFrz (i:=0) (τ:=0::1::σ) rfl rfl
 exact .fin (S39.finE (Ex.st e38 (Ex.pl (sB _).lv Ex.nil))) ⟨v42,h40,rfl⟩
end
end Go.Ev
namespace Go.Ev
open Go.Proofs
set_option linter.unusedVariables false
set_option linter.unusedSimpArgs false
set_option maxRecDepth 100000
noncomputable section
abbrev KT21:=Exit→Env→H→Option (List C × H)
variable (rec : CallF) (loop : LoopV) (σ : Stamp)
def z54:Code:=(codeAt (bodyOf Try.f23) [1,1,1,0,1,0,0])
def z58:Lv:=⟨64,48,[(0,64)]⟩
def z8n:KT21:=(kBlock 0 (kSeq G rec loop (codeAt (bodyOf Try.f23) [1,1,1,1]) ⟨48,48,[]⟩ (1::1::1::0::σ) (finC G true Try.f23 (1::σ))))
theorem ze2 (x0:Int) (x1:V) (h:H):cvBody G rec loop 23 σ [(.p (.int .u16 x0)),x1] h =
(bif x0 != 48862 then (some (x0 != 4096)) else (some false)).bind fun b1 =>
bif b1 then (
fin true σ (List.replicate 65 []::h) [(.p (.slice .none 0 0)),(.p (.int .i64 1))])
else (
(loop z54 z58 (1::0::1::1::1::0::σ) (envL [(0,(.p (.int .u16 x0))),(1,x1),(6,(.p (.slice .none 0 0))),(7,(.p (.int .i64 0)))]) (List.replicate 65 []::h)).bind fun r2=>z8n rec loop σ r2.1 r2.2.1 r2.2.2):=by kernel_rfl
theorem zho (x0:Int) (x1:V) (x6:V) (x7:Int) (h:H):z1a G rec loop z54 z58 σ (envL [(0,(.p (.int .u16 x0))),(1,x1),(6,x6),(7,(.p (.int .i64 x7)))]) h =
(lenO x1).bind fun t3 =>
(castI .i64 t3).bind fun n4 =>
bif decide (x7<n4) then (
(iS 1 x1 x7).bind fun t5 =>
(ldO false 1 h t5).bind fun t6 =>
(castI .u8 t6).bind fun n7 =>
bif n7==0 then (
loop z54 z58 (1::σ) (envL [(0,(.p (.int .u16 x0))),(1,x1),(6,x6),(7,(.p (.int .i64 (IntKind.wrap .i64 (x7+1)))))]) h)
else (
(callO rec 58 (3::0::1::1::0::σ) [(.p (.int .u16 x0)),x1,(.p (.int .i64 x7))] h (some 35)).bind fun q8 =>
(extV q8.1 0).bind fun t9 =>
(castI .i64 t9).bind fun n10 =>
(extV q8.1 1).bind fun t11 =>
(castI .i64 t11).bind fun n12 =>
(extV q8.1 2).bind fun t13 =>
(castI .i64 t13).bind fun n14 =>
(extV q8.1 3).bind fun t15 =>
(asB t15).bind fun b16 =>
bif !b16 then (
some ((.exit 0),(envL [(6,x6)]),q8.2))
else (
(callO rec 59 (3::0::1::1::1::1::0::σ) [x1,(.p (.int .i64 n14)),(.p (.int .i64 n12))] q8.2 (some 46)).bind fun q17 =>
(extV q17.1 0).bind fun t18 =>
(extV q17.1 1).bind fun t19 =>
(asB t19).bind fun b20 =>
bif !b20 then (
some (.ret,(envL [(4,(.p (.slice .none 0 0))),(5,(.p (.int .i64 13)))]),q17.2))
else (
(buildV Try.prog 38 [(0,(.p (.int .i64 n10))),(1,t18)]).bind fun t21 =>
(bSV Try.prog 27 1 [(0,t21)]).bind fun t22 =>
(apO false 2 32 (5::0::1::1::1::1::1::1::0::σ) 56 q17.2 x6 t22).bind fun q23 =>
loop z54 z58 (1::σ) (envL [(0,(.p (.int .u16 x0))),(1,x1),(6,q23.1),(7,(.p (.int .i64 (IntKind.wrap .i64 (n14+n12)))))]) q23.2))))
else (
some ((.exit 0),(envL [(6,x6)]),h)):=by kernel_rfl
theorem zft (x6:V) (h:H):z8n rec loop σ (.exit 0) (envL [(6,x6)]) h =
(lenO x6).bind fun t24 =>
(castI .i64 t24).bind fun n25 =>
bif decide (n25>8) then (
fin true σ h [(.p (.slice .none 0 0)),(.p (.int .i64 3))])
else (
(callO rec 60 (1::0::1::1::1::1::1::0::σ) [x6] h (some 64)).bind fun q26 =>
fin true σ q26.2 [q26.1,(.p (.int .i64 0))]):=by kernel_rfl
theorem zdd (x4:V) (x5:Int) (h:H):z8n rec loop σ .ret (envL [(4,x4),(5,(.p (.int .i64 x5)))]) h =
fin true σ h [x4,(.p (.int .i64 x5))]:=by kernel_rfl
theorem z4k (x0:V) (h:H):cvBody G rec loop 60 σ [x0] h =
(lenO x0).bind fun t1 =>
(castI .i64 t1).bind fun n2 =>
(lenO x0).bind fun t3 =>
(castI .i64 t3).bind fun n4 =>
(slS 2 x0 none (some n2) (some n4)).bind fun t5 =>
fin false σ (List.replicate 9 []::h) [t5]:=by kernel_rfl
theorem ze6 (x0:Int) (x1:V) (x2:Int) (h:H):cvBody G rec loop 58 σ [(.p (.int .u16 x0)),x1,(.p (.int .i64 x2))] h =
bif x0==48862 then (
(iS 1 x1 x2).bind fun t1 =>
(ldO false 1 (List.replicate 63 []::h) t1).bind fun t2 =>
(castI .u8 t2).bind fun n3 =>
(iS 1 x1 x2).bind fun t4 =>
(ldO false 1 (List.replicate 63 []::h) t4).bind fun t5 =>
(castI .u8 t5).bind fun n6 =>
(bif (Int.fdiv (IntKind.wrap .i64 n3) (2^4)) != 0 then (some ((Int.fdiv (IntKind.wrap .i64 n3) (2^4)) != 15)) else (some false)).bind fun b7 =>
fin false σ (List.replicate 63 []::h) [(.p (.int .i64 (Int.fdiv (IntKind.wrap .i64 n3) (2^4)))),(.p (.int .i64 (IntKind.wrap .i64 ((IntKind.wrap .i64 (intBits .and .u8 n6 15))+1)))),(.p (.int .i64 (IntKind.wrap .i64 (x2+1)))),(.p (.bool b7))])
else (
(lenO x1).bind fun t8 =>
(castI .i64 t8).bind fun n9 =>
bif decide ((IntKind.wrap .i64 (x2+1))≥n9) then (
(iS 1 x1 x2).bind fun t10 =>
(ldO false 1 (List.replicate 63 []::h) t10).bind fun t11 =>
(castI .u8 t11).bind fun n12 =>
(lenO x1).bind fun t13 =>
(castI .i64 t13).bind fun n14 =>
fin false σ (List.replicate 63 []::h) [(.p (.int .i64 (IntKind.wrap .i64 n12))),(.p (.int .i64 n14)),(.p (.int .i64 (IntKind.wrap .i64 (x2+1)))),(.p (.bool true))])
else (
(iS 1 x1 x2).bind fun t15 =>
(ldO false 1 (List.replicate 63 []::h) t15).bind fun t16 =>
(castI .u8 t16).bind fun n17 =>
(iS 1 x1 (IntKind.wrap .i64 (x2+1))).bind fun t18 =>
(ldO false 1 (List.replicate 63 []::h) t18).bind fun t19 =>
(castI .u8 t19).bind fun n20 =>
fin false σ (List.replicate 63 []::h) [(.p (.int .i64 (IntKind.wrap .i64 n17))),(.p (.int .i64 (IntKind.wrap .i64 n20))),(.p (.int .i64 (IntKind.wrap .i64 (x2+2)))),(.p (.bool true))])):=by kernel_rfl
end
end Go.Ev
namespace Go.Ev
open Go.Proofs
set_option linter.unusedVariables false
set_option linter.unusedSimpArgs false
set_option maxRecDepth 100000
section
variable {β α : Type} {Q : β→α→Prop} {K : Exit × Env × H→Option α}
def z9x (x0:Int) (x1:(List Int)) (x2:Int):Option (Int×Int×Int×Bool) :=
bif x0==48862 then (
(ix x1 x2).bind fun a2 =>
(ix x1 x2).bind fun a5 =>
(bif (Int.fdiv (IntKind.wrap .i64 a2) (2^4)) != 0 then (some ((Int.fdiv (IntKind.wrap .i64 a2) (2^4)) != 15)) else (some false)).bind fun b8 =>
some ((Int.fdiv (IntKind.wrap .i64 a2) (2^4)),(IntKind.wrap .i64 ((IntKind.wrap .i64 (intBits .and .u8 a5 15))+1)),(IntKind.wrap .i64 (x2+1)),b8))
else (
bif decide ((IntKind.wrap .i64 (x2+1))≥((x1.length:Int))) then (
(ix x1 x2).bind fun a13 =>
some ((IntKind.wrap .i64 a13),((x1.length:Int)),(IntKind.wrap .i64 (x2+1)),true))
else (
(ix x1 x2).bind fun a16 =>
(ix x1 (IntKind.wrap .i64 (x2+1))).bind fun a19 =>
some ((IntKind.wrap .i64 a16),(IntKind.wrap .i64 a19),(IntKind.wrap .i64 (x2+2)),true)))
theorem zi0 {h:H} {σ:Stamp} (x0:Int) (x1:List Int) {u1:V} (hu1:SlH h (dI .u8) x1 u1) (x2:Int):Sim (z9x x0 x1 x2) (ev G X0 58 σ [(.p (.int .u16 x0)),u1,(.p (.int .i64 x2))] h) (fun r s=>s=([.v (.p (.int .i64 r.1)),.v (.p (.int .i64 r.2.1)),.v (.p (.int .i64 r.2.2.1)),.v (.p (.bool r.2.2.2))],h)):=by
 refine .ev rfl (Sim.ext (ze6 _ _ _ _ _ _ _) ?_)
 rw [z9x]
 have S0:Fm 63 h [] [] [] (List.replicate 63 []::h):=Fm.start0
 refine .cq ?_ ?_
 ·refine .bd fun a2 h3=>?_
  refine .op ((S0.low hu1).iS h3 rfl) ?_
  obtain ⟨_,rfl,hE4⟩:=(S0.low hu1).el h3 rfl
  refine .op (hE4.ld (j:=0) rfl) ?_
  refine .ci ?_
  refine .bd fun a5 h6=>?_
  refine .op ((S0.low hu1).iS h6 rfl) ?_
  obtain ⟨_,rfl,hE7⟩:=(S0.low hu1).el h6 rfl
  refine .op (hE7.ld (j:=0) rfl) ?_
  refine .ci ?_
  refine .ch (P:=fun r y=>r=y) ?_ (fun b8 y9 h10 h11=>?_)
  ·refine .cq ?_ ?_
   ·exact .ret rfl rfl
   ·exact .ret rfl rfl
  subst h11
  exact .fin (S0.finN (lC (sI _ _).lv (lC (sI _ _).lv (lC (sI _ _).lv (lC (sB _).lv lN))))) rfl
 refine .op ((S0.low hu1).len) ?_
 refine .ci ?_
 refine .cq ?_ ?_
 ·refine .bd fun a13 h14=>?_
  refine .op ((S0.low hu1).iS h14 rfl) ?_
  obtain ⟨_,rfl,hE15⟩:=(S0.low hu1).el h14 rfl
  refine .op (hE15.ld (j:=0) rfl) ?_
  refine .ci ?_
  refine .op ((S0.low hu1).len) ?_
  refine .ci ?_
  exact .fin (S0.finN (lC (sI _ _).lv (lC (sI _ _).lv (lC (sI _ _).lv (lC (sB _).lv lN))))) rfl
 refine .bd fun a16 h17=>?_
 refine .op ((S0.low hu1).iS h17 rfl) ?_
 obtain ⟨_,rfl,hE18⟩:=(S0.low hu1).el h17 rfl
 refine .op (hE18.ld (j:=0) rfl) ?_
 refine .ci ?_
 refine .bd fun a19 h20=>?_
 refine .op ((S0.low hu1).iS h20 rfl) ?_
 obtain ⟨_,rfl,hE21⟩:=(S0.low hu1).el h20 rfl
 refine .op (hE21.ld (j:=0) rfl) ?_
 refine .ci ?_
 exact .fin (S0.finN (lC (sI _ _).lv (lC (sI _ _).lv (lC (sI _ _).lv (lC (sB _).lv lN))))) rfl
end
end Go.Ev
namespace Go.Ev
open Go.Proofs
set_option linter.unusedVariables false
set_option linter.unusedSimpArgs false
set_option maxRecDepth 100000
noncomputable section
abbrev KT22:=Exit→Env→H→Option (List C × H)
variable (rec : CallF) (loop : LoopV) (σ : Stamp)
theorem zdk (x0:V) (x1:Int) (x2:Int) (h:H):cvBody G rec loop 59 σ [x0,(.p (.int .i64 x1)),(.p (.int .i64 x2))] h =
(bif decide (x1<0) then (some true) else (some (decide (x2<0)))).bind fun b1 =>
(bif b1 then (some true) else ((lenO x0).bind fun t2 =>
(castI .i64 t2).bind fun n3 =>
some (decide (x1>n3)))).bind fun b4 =>
(bif b4 then (some true) else ((lenO x0).bind fun t5 =>
(castI .i64 t5).bind fun n6 =>
some (decide (x2>(IntKind.wrap .i64 (n6-x1)))))).bind fun b7 =>
bif b7 then (
fin true σ (List.replicate 35 []::h) [(.p (.slice .none 0 0)),(.p (.bool false))])
else (
(slS 1 x0 (some x1) (some (IntKind.wrap .i64 (x1+x2))) none).bind fun t8 =>
(callO rec 63 (6::0::1::1::0::σ) [t8] (List.replicate 35 []::h) (some 34)).bind fun q9 =>
fin true σ q9.2 [q9.1,(.p (.bool true))]):=by kernel_rfl
end
end Go.Ev
namespace Go.Ev
open Go.Proofs
set_option linter.unusedVariables false
set_option linter.unusedSimpArgs false
set_option maxRecDepth 100000
section
variable {β α : Type} {Q : β→α→Prop} {K : Exit × Env × H→Option α}
def z8k (x0:(List Int)) (x1:Int) (x2:Int):Option ((List Int)×Bool) :=
(bif decide (x1<0) then (some true) else (some (decide (x2<0)))).bind fun b1 =>
(bif b1 then (some true) else (some (decide (x1>((x0.length:Int)))))).bind fun b5 =>
(bif b5 then (some true) else (some (decide (x2>(IntKind.wrap .i64 (((x0.length:Int))-x1)))))).bind fun b9 =>
bif b9 then (
some ((([]:List Int)),false))
else (
(sub x0 x1 (IntKind.wrap .i64 (x1+x2))).bind fun a14 =>
(ze9 1 a14).bind fun r16 =>
some (r16,true))
theorem zh8 {h:H} {σ:Stamp} (x0:List Int) {u0:V} (hu0:SlH h (dI .u8) x0 u0) (x1:Int) (x2:Int):Sim (z8k x0 x1 x2) (ev G X0 59 σ [u0,(.p (.int .i64 x1)),(.p (.int .i64 x2))] h) (fun r s=>∃ (v0:V),SlF (dI .u8) r.1 v0∧s=([.v v0,.v (.p (.bool r.2))],h)):=by
 refine .ev rfl (Sim.ext (zdk _ _ _ _ _ _ _) ?_)
 rw [z8k]
 have S0:Fm 35 h [] [] [] (List.replicate 35 []::h):=Fm.start0
 refine .ch (P:=fun r y=>r=y) ?_ (fun b1 y2 h3 h4=>?_)
 ·refine .cq ?_ ?_
  ·exact .ret rfl rfl
  ·exact .ret rfl rfl
 subst h4
 refine .ch (P:=fun r y=>r=y) ?_ (fun b5 y6 h7 h8=>?_)
 ·refine .cq ?_ ?_
  ·exact .ret rfl rfl
  ·refine .op ((S0.low hu0).len) ?_
   refine .ci ?_
   exact .ret rfl rfl
 subst h8
 refine .ch (P:=fun r y=>r=y) ?_ (fun b9 y10 h11 h12=>?_)
 ·refine .cq ?_ ?_
  ·exact .ret rfl rfl
  ·refine .op ((S0.low hu0).len) ?_
   refine .ci ?_
   exact .ret rfl rfl
 subst h12
 refine .cq ?_ ?_
 ·exact .fin (S0.finN (lC (SlF.nil (dI .u8)).still.lv (lC (sB _).lv lN))) ⟨(.p (.slice none 0 0)),(SlF.nil (dI .u8)),rfl⟩
 refine .bd fun a14 h15=>?_
 refine .op ((S0.low hu0).slS h15 rfl rfl rfl) ?_
 refine .call (zh3 (b:=1) (f:=63) (tt:=5) (e:=1) (τ:=fun σ=>_::_::_::_::_::σ) (fun x h=>z3a _ _ _ x h) ((S0.low hu0).sub h15 (e:=1) rfl) rfl (by decide) (by decide) (by decide) (by kernel_rfl) (by kernel_rfl) rfl) fun r16 cs17 H18 h19 q20=>?_
 obtain ⟨c21,cs22,h23,h24,q20⟩:=q20
 cases q20
 obtain ⟨v25,H26,e27,S28⟩:=S0.land (dt:=(dI .u8)) (d:=34) (e:=0) (n:=0) h23 h24 (by decide) rfl
 erw [e27]
 obtain ⟨v35,H30,e31,h33,S32⟩:=S28.expFrz (i:=0) (τ:=0::1::σ) rfl rfl
 exact .fin (S32.finE (Ex.st e31 (Ex.pl (sB _).lv Ex.nil))) ⟨v35,h33,rfl⟩
def z43 {β:Type} (k:Nat) (kE0:(List zl)→Option β) (kE1:Int→Option β) (x0:Int) (x1:(List Int)) (x6:(List zl)) (x7:Int):Option β:=match k with
| 0=>none
| k+1 =>
bif decide (x7<((x1.length:Int))) then (
(ix x1 x7).bind fun a15 =>
bif a15==0 then (
z43 k kE0 kE1 x0 x1 x6 (IntKind.wrap .i64 (x7+1)))
else (
(z9x x0 x1 x7).bind fun r19 =>
bif !r19.2.2.2 then (
kE0 x6)
else (
(z8k x1 r19.2.2.1 r19.2.1).bind fun r25 =>
bif !r25.2 then (
kE1 13)
else (
(ap 32 x6 ([((⟨r19.1,r25.1⟩:zl))])).bind fun a34 =>
z43 k kE0 kE1 x0 x1 a34 (IntKind.wrap .i64 (r19.2.2.1+r19.2.1))))))
else (
kE0 x6)
def z9o (k:Nat) (x0:Int) (x1:(List Int)):Option ((List zl)×Int) :=
(bif x0 != 48862 then (some (x0 != 4096)) else (some false)).bind fun b1 =>
bif b1 then (
some ((([]:List zl)),1))
else (
z43 k (fun r48_6 =>
bif decide (((r48_6.length:Int))>8) then (
some ((([]:List zl)),3))
else (
some (r48_6,0))) (fun r63_5 =>
some ((([]:List zl)),r63_5)) x0 x1 (([]:List zl)) 0)
theorem ze5 {h:H}  {kE0:(List zl)→Option β} {kE1:Int→Option β} (hE0:∀ (q6:(List zl)) (v42:V) (H40:Go.Ev.H) (_:Fm 65 h [] [] [⟨[56],v42,zj,q6⟩] H40),Sim (kE0 q6) (K ((.exit 0),(envL [(6,v42)]),H40)) Q) (hE1:∀ (q5:Int) (H44:Go.Ev.H) (_:Fm 65 h [] [] [] H44),Sim (kE1 q5) (K (.ret,(envL [(4,(.p (.slice none 0 0))),(5,(.p (.int .i64 q5)))]),H44)) Q) (k:Nat):∀ (x0:Int) (x1:(List Int)) (x6:(List zl)) (x7:Int) (v10:V) (h11:SlH h (dI .u8) x1 v10) (v12:V) (H8:Go.Ev.H) (_:Fm 65 h [] [] [⟨[56],v12,zj,x6⟩] H8) {σ:Stamp},Sim (z43 k kE0 kE1 x0 x1 x6 x7) ((cvL G X0 z54 z58 σ (envL [(0,(.p (.int .u16 x0))),(1,v10),(6,v12),(7,(.p (.int .i64 x7)))]) H8).bind K) Q:=by
 induction k with
 | zero=>intros;exact .no
 | succ k ih =>
  intro x0 x1 x6 x7 v10 h11 v12 H8 S9 σ
  rw [z43]
  refine .round (Sim.ext (zho _ _ _ _ _ _ _ _) ?_)
  refine .op ((S9.low h11).len) ?_
  refine .ci ?_
  refine .cq ?_ ?_
  ·refine .bd fun a15 h16=>?_
   refine .op ((S9.low h11).iS h16 rfl) ?_
   obtain ⟨_,rfl,hE17⟩:=(S9.low h11).el h16 rfl
   refine .op (hE17.ld (j:=0) rfl) ?_
   refine .ci ?_
   refine .cq ?_ ?_
   ·exact ih x0 x1 x6 (IntKind.wrap .i64 (x7+1)) v10 h11 v12 H8 (S9.wk2 aN (aC ⟨[56],by simp,aM 0 rfl⟩ aN))
   refine .call (zi0 x0 x1 (S9.low h11) x7) fun r19 cs20 H21 h22 q23=>?_
   cases q23
   refine .or ?_
   refine .ci ?_
   refine .or ?_
   refine .ci ?_
   refine .or ?_
   refine .ci ?_
   refine .or ?_
   refine .ab ?_
   refine .cq ?_ ?_
   ·exact hE0 x6 v12 H8 (S9.wk2 aN (aC ⟨[56],by simp,aM 0 rfl⟩ aN))
   refine .call (zh8 x1 (S9.low h11) r19.2.2.1 r19.2.1) fun r25 cs26 H27 h28 q29=>?_
   obtain ⟨v30,h31,q29⟩:=q29
   cases q29
   refine .or ?_
   refine .or ?_
   refine .ab ?_
   refine .cq ?_ ?_
   ·exact hE1 13 H8 (S9.wk2 aN aN)
   refine .op (bldV (pC rfl (pC h31.still.cells pN)) (by kernel_rfl:_=some (.agg [.p (.int .i64 r19.1),v30]))) ?_
   have h33:SlF zj [((⟨r19.1,r25.1⟩:zl))] (.fz [(.p (.int .i64 r19.1)),v30] 1 2 true):=SlF.lit (cs:=[(.p (.int .i64 r19.1)),v30]) (RL.cons (show zj.R ((⟨r19.1,r25.1⟩:zl)) [.p (.int .i64 r19.1),v30] from (zj.mk h31)) RL.nil) rfl rfl true
   refine .op (bldS (pC (c:=[.p (.int .i64 r19.1),v30]) rfl pN) (by kernel_rfl:_=some (vOf h33))) ?_
   refine .bd fun a34 h35=>?_
   obtain ⟨v36,H37,e38,S39⟩:=S9.app (i:=0) (d:=56) (e:=2) (own:=false) (σ:=(5::0::1::1::1::1::1::1::0::σ)) rfl (h33.h H8).y h35 rfl (by decide) (by decide) rfl
   refine .op (e38) ?_
   exact ih x0 x1 a34 (IntKind.wrap .i64 (r19.2.2.1+r19.2.1)) v10 h11 v36 H37 (S39.wk2 aN (aC ⟨[56,56],by simp,aM 0 rfl⟩ aN))
  exact hE0 x6 v12 H8 (S9.wk2 aN (aC ⟨[56],by simp,aM 0 rfl⟩ aN))
theorem zhn (k:Nat) {h:H} {σ:Stamp} (x0:Int) (x1:List Int) {u1:V} (hu1:SlH h (dI .u8) x1 u1):Sim (z9o k x0 x1) (ev G X0 23 σ [(.p (.int .u16 x0)),u1] h) (fun r s=>∃ (v0:V),SlF zj r.1 v0∧s=([.v v0,.v (.p (.int .i64 r.2))],h)):=by
 refine .ev rfl (Sim.ext (ze2 _ _ _ _ _ _) ?_)
 rw [z9o]
 have S0:Fm 65 h [] [] [] (List.replicate 65 []::h):=Fm.start0
 refine .ch (P:=fun r y=>r=y) ?_ (fun b1 y2 h3 h4=>?_)
 ·refine .cq ?_ ?_
  ·exact .ret rfl rfl
  ·exact .ret rfl rfl
 subst h4
 refine .cq ?_ ?_
 ·exact .fin (S0.finN (lC (SlF.nil zj).still.lv (lC (sI _ _).lv lN))) ⟨(.p (.slice none 0 0)),(SlF.nil zj),rfl⟩
 have S47:=S0.nil zj []
 refine .as (ze5 ?_ ?_ k x0 x1 (([]:List zl)) 0 u1 hu1 (.p (.slice none 0 0)) (List.replicate 65 []::h) (S47.wk2 aN (aC ⟨[],by simp,aM 0 rfl⟩ aN)))
 ·intro r48_6 v51 H49 S50
  refine .ext (zft _ _ _ _ _) ?_
  refine .op ((S50.sl (i:=0) rfl).len) ?_
  refine .ci ?_
  refine .cq ?_ ?_
  ·exact .fin (S50.finN (lC (SlF.nil zj).still.lv (lC (sI _ _).lv lN))) ⟨(.p (.slice none 0 0)),(SlF.nil zj),rfl⟩
  obtain ⟨v54,e55,S56⟩:=clip_D (G:=G) (X:=X0) (i:=0) (f:=60) (fun x h=>z4k _ _ _ x h) S50 rfl rfl rfl
  refine .op (e55) ?_
  obtain ⟨v62,H57,e58,h60,S59⟩:=S56.expFrz (i:=0) (τ:=0::1::σ) rfl rfl
  exact .fin (S59.finE (Ex.st e58 (Ex.pl (sI _ _).lv Ex.nil))) ⟨v62,h60,rfl⟩
 ·intro r63_5 H64 S65
  refine .ext (zdd _ _ _ _ _ _) ?_
  exact .fin (S65.finN (lC (SlF.nil zj).still.lv (lC (sI _ _).lv lN))) ⟨(.p (.slice none 0 0)),(SlF.nil zj),rfl⟩
def zaz (k:Nat) (x0:TaiRtp):Option (ByteArray×Bool) :=
(z9o k x0.Profile x0.Ext).bind fun r11 =>
bif r11.2 != 0 then (
some (((⟨#[]⟩:ByteArray)),false))
else (
(z9w k r11.1 1).bind fun r19 =>
(bif !r19.2 then (some true) else ((z8h (strB r19.1)).bind fun r26 =>
some (!r26))).bind fun b31 =>
bif b31 then (
some (((⟨#[]⟩:ByteArray)),false))
else (
some ((strB r19.1),true)))
theorem ziy (k:Nat) {h:H} {σ:Stamp} (x0:TaiRtp) {u0:List V} (hu0:z6.R x0 u0):Sim (zaz k x0) (ev G X0 26 σ [(.agg u0)] h) (fun r s=>s=([.v (.p (.string r.1)),.v (.p (.bool r.2))],h)):=by
 refine .ev rfl (Sim.ext (zfz _ _ _ _ _) ?_)
 rw [zaz]
 obtain ⟨v1,v3,v5,rfl,h2,h4,h6⟩:=z6.inv hu0
 have S0:Fm 33 h [] [] [] (List.replicate 33 []::h):=Fm.start0
 obtain ⟨H7,e8,S9⟩:=S0.box (own:=true) (d:=1) (s:=(0::0::0::σ)) (xs:=[(.p (.bool x0.Marker)),(.p (.int .i64 x0.f_Type)),(.p (.int .u16 x0.Seq)),(.p (.int .u32 x0.Time)),(.p (.int .u32 x0.Ssrc)),v1,(.p (.int .u16 x0.Profile)),v3,v5]) (sC (sB _) (sC (sI _ _) (sC (sI _ _) (sC (sI _ _) (sC (sI _ _) (sC h2.still (sC (sI _ _) (sC h4.still (sC h6.still sN))))))))) (by decide) rfl
 refine .op (e8) ?_
 refine .fa ?_
 refine .op ((S9.atG (i:=0) rfl).ld (j:=6) rfl) ?_
 refine .ci ?_
 refine .fa ?_
 refine .op ((S9.atG (i:=0) rfl).ld (j:=7) rfl) ?_
 refine .call (zhn k x0.Profile x0.Ext (h4.h H7)) fun r11 cs12 H13 h14 q15=>?_
 obtain ⟨v16,h17,q15⟩:=q15
 cases q15
 refine .or ?_
 refine .or ?_
 refine .ci ?_
 refine .cq ?_ ?_
 ·exact .fin (S9.finN (lC (still_str _).lv (lC (sB _).lv lN))) rfl
 refine .call (zhx k r11.1 (h17.h H7) 1) fun r19 cs20 H21 h22 q23=>?_
 obtain ⟨v24,h25,q23⟩:=q23
 cases q23
 refine .or ?_
 refine .or ?_
 refine .ab ?_
 refine .ch (P:=fun r y=>(.p (.bool r),H7)=y) ?_ (fun b31 y32 h33 h34=>?_)
 ·refine .cq ?_ ?_
  ·exact .ret rfl rfl
  ·refine .op ((h25.h H7).str) ?_
   refine .op (castS_p _) ?_
   refine .call (zae (strB r19.1)) fun r26 cs27 H28 h29 q30=>?_
   cases q30
   refine .ab ?_
   exact .ret rfl rfl
 subst h34
 refine .ab ?_
 refine .cq ?_ ?_
 ·exact .fin (S9.finN (lC (still_str _).lv (lC (sB _).lv lN))) rfl
 refine .op ((h25.h H7).str) ?_
 refine .op (castS_p _) ?_
 exact .fin (S9.finN (lC (still_str _).lv (lC (sB _).lv lN))) rfl
end
end Go.Ev
namespace Go.Ev
open Go.Proofs
set_option linter.unusedVariables false
set_option linter.unusedSimpArgs false
set_option maxRecDepth 100000
noncomputable section
abbrev KT23:=Exit→Env→H→Option (List C × H)
variable (rec : CallF) (loop : LoopV) (σ : Stamp)
def z12:Code:=(codeAt (bodyOf Try.f92) [1,0,1,0,0])
def z11:Lv:=⟨0,16,[(0,0)]⟩
def z1d:KT23:=(kBlock 0 (kSeq G rec loop (codeAt (bodyOf Try.f92) [1,1]) ⟨16,16,[]⟩ (1::0::σ) (finC G false Try.f92 (1::σ))))
theorem z3b (x0:V) (x1:V) (h:H):cvBody G rec loop 92 σ [x0,x1] h =
(lenO x0).bind fun t1 =>
(castI .i64 t1).bind fun n2 =>
(loop z12 z11 (1::0::1::0::σ) (envL [(0,x0),(1,x1),(7,(.p (.int .i64 n2))),(8,(.p (.int .i64 0)))]) (List.replicate 19 []::h)).bind fun r3=>z1d rec loop σ r3.1 r3.2.1 r3.2.2:=by kernel_rfl
theorem z40 (x0:V) (x1:V) (x7:Int) (x8:Int) (h:H):z1a G rec loop z12 z11 σ (envL [(0,x0),(1,x1),(7,(.p (.int .i64 x7))),(8,(.p (.int .i64 x8)))]) h =
bif decide (x8<x7) then (
(iS 10 x0 x8).bind fun t4 =>
(ldO true 10 h t4).bind fun t5 =>
(cloO rec x1 (5::0::1::0::1::1::0::σ) [t5] h (some 16)).bind fun q6 =>
(asB q6.1).bind fun b7 =>
bif b7 then (
some (.ret,(envL [(4,(.p (.int .i64 x8)))]),q6.2))
else (
loop z12 z11 (1::σ) (envL [(0,x0),(1,x1),(7,(.p (.int .i64 x7))),(8,(.p (.int .i64 (IntKind.wrap .i64 (x8+1)))))]) q6.2))
else (
some ((.exit 0),(envL []),h)):=by kernel_rfl
theorem z3k  (h:H):z1d rec loop σ (.exit 0) (envL []) h =
fin false σ h [(.p (.int .i64 (-1)))]:=by kernel_rfl
theorem z38 (x4:Int) (h:H):z1d rec loop σ .ret (envL [(4,(.p (.int .i64 x4)))]) h =
fin false σ h [(.p (.int .i64 x4))]:=by kernel_rfl
theorem z72 (x0:V) (x1:V) (x2:V) (x3:V) (h:H):cvBody G rec loop 93 σ [x0,x1,x2,x3] h =
(boxO false (0::0::0::σ) 4 (List.replicate 22 []::h) x0).bind fun q1 =>
(ldO false 1 q1.2 x1).bind fun t2 =>
(asB t2).bind fun b3 =>
(bif b3 then ((fA q1.1 0).bind fun t4 =>
(fA t4 1).bind fun t5 =>
(ldO false 1 q1.2 t5).bind fun t6 =>
(castI .u32 t6).bind fun n7 =>
(fA x2 4).bind fun t8 =>
(ldO false 1 q1.2 t8).bind fun t9 =>
(castI .u32 t9).bind fun n10 =>
some (n7==n10)) else (some false)).bind fun b11 =>
(bif b11 then ((fA q1.1 0).bind fun t12 =>
(fA t12 0).bind fun t13 =>
(ldO false 1 q1.2 t13).bind fun t14 =>
(castS t14).bind fun s15 =>
(ldO false 1 q1.2 x3).bind fun t16 =>
(castS t16).bind fun s17 =>
(callO rec 76 (14::0::1::0::σ) [(.p (.string s15)),(.p (.string s17))] q1.2 (some 20)).bind fun q18 =>
(asB q18.1).bind fun b19 =>
some ((.p (.bool b19)),q18.2)) else (some ((.p (.bool false)),q1.2))).bind fun q20 =>
(asB q20.1).bind fun b21 =>
fin false σ q20.2 [(.p (.bool b21))]:=by kernel_rfl
end
end Go.Ev
namespace Go.Ev
open Go.Proofs
set_option linter.unusedVariables false
set_option linter.unusedSimpArgs false
set_option maxRecDepth 100000
section
variable {β α : Type} {Q : β→α→Prop} {K : Exit × Env × H→Option α}
def z3h (x0:zc) (x1:Bool) (x2:TaiRtp) (x3:ByteArray):Option (Bool) :=
(bif x1 then (some (x0.told.Ssrc==x2.Ssrc)) else (some false)).bind fun b5 =>
(bif b5 then ((z76 x0.told.Rid x3).bind fun r9 =>
some r9) else (some false)).bind fun b14 =>
some (b14)
theorem z8o {h:H} {σ:Stamp} (x0:zc) {p0_3:V} (hp0_3:Low p0_3) {p0_4:V} (hp0_4:Low p0_4) (x1:Bool)  {l1:Loc} {o1:Nat} (ha1:AtC h l1 o1 (List.map C.v [(.p (.bool x1))])) (x2:TaiRtp) {u2_5:V} (hu2_5:SlF (dI .u32) x2.Csrc u2_5) {u2_7:V} (hu2_7:SlF (dI .u8) x2.Ext u2_7) {u2_8:V} (hu2_8:SlF (dI .u8) x2.Payload u2_8) {l2:Loc} {o2:Nat} (ha2:AtC h l2 o2 (List.map C.v [(.p (.bool x2.Marker)),(.p (.int .i64 x2.f_Type)),(.p (.int .u16 x2.Seq)),(.p (.int .u32 x2.Time)),(.p (.int .u32 x2.Ssrc)),u2_5,(.p (.int .u16 x2.Profile)),u2_7,u2_8])) (x3:ByteArray)  {l3:Loc} {o3:Nat} (ha3:AtC h l3 o3 (List.map C.v [(.p (.string x3))])):Sim (z3h x0 x1 x2 x3) (ev G X0 93 σ [(.agg [(.p (.string x0.told.Rid)),(.p (.int .u32 x0.told.Ssrc)),(.p (.int .i64 x0.told.Height)),p0_3,p0_4,(.p (.bool x0.came)),(.p (.int .i64 x0.f_until)),(.p (.bool x0.resting)),(.p (.bool x0.woken)),(.p (.int .i64 x0.kept))]),(.ref l1 o1),(.ref l2 o2),(.ref l3 o3)] h) (fun r s=>s=([.v (.p (.bool r))],h)):=by
 refine .ev rfl (Sim.ext (z72 _ _ _ _ _ _ _ _) ?_)
 rw [z3h]
 have S0:Fm 22 h [] [] [] (List.replicate 22 []::h):=Fm.start0
 obtain ⟨H1,e2,S3⟩:=S0.boxW (own:=false) (d:=4) (s:=(0::0::0::σ)) (xs:=[(.p (.string x0.told.Rid)),(.p (.int .u32 x0.told.Ssrc)),(.p (.int .i64 x0.told.Height)),p0_3,p0_4,(.p (.bool x0.came)),(.p (.int .i64 x0.f_until)),(.p (.bool x0.resting)),(.p (.bool x0.woken)),(.p (.int .i64 x0.kept))]) (ws:=List.map C.v [(.p (.string x0.told.Rid)),(.p (.int .u32 x0.told.Ssrc)),(.p (.int .i64 x0.told.Height)),p0_3,p0_4,(.p (.bool x0.came)),(.p (.int .i64 x0.f_until)),(.p (.bool x0.resting)),(.p (.bool x0.woken)),(.p (.int .i64 x0.kept))]) (zr (Still.low (still_str _)) (zr (Still.low (sI _ _)) (zr (Still.low (sI _ _)) (zr hp0_3 (zr hp0_4 (zr (Still.low (sB _)) (zr (Still.low (sI _ _)) (zr (Still.low (sB _)) (zr (Still.low (sB _)) (zr (Still.low (sI _ _)) lw_nil)))))))))) (by decide) rfl
 refine .op (e2) ?_
 refine .op ((S3.lowA ha1).ld (j:=0) rfl) ?_
 refine .ab ?_
 refine .ch (P:=fun r y=>r=y) ?_ (fun b5 y6 h7 h8=>?_)
 ·refine .cq ?_ ?_
  ·refine .fa ?_
   refine .fa ?_
   refine .op ((S3.atG (i:=0) rfl).ld (j:=1) rfl) ?_
   refine .ci ?_
   refine .fa ?_
   refine .op ((S3.lowA ha2).ld (j:=4) rfl) ?_
   refine .ci ?_
   exact .ret rfl rfl
  ·exact .ret rfl rfl
 subst h8
 refine .ch (P:=fun r y=>(.p (.bool r),H1)=y) ?_ (fun b14 y15 h16 h17=>?_)
 ·refine .cq ?_ ?_
  ·refine .fa ?_
   refine .fa ?_
   refine .op ((S3.atG (i:=0) rfl).ld (j:=0) rfl) ?_
   refine .op (castS_p _) ?_
   refine .op ((S3.lowA ha3).ld (j:=0) rfl) ?_
   refine .op (castS_p _) ?_
   refine .call (zc4 x0.told.Rid x3) fun r9 cs10 H11 h12 q13=>?_
   cases q13
   refine .ab ?_
   exact .ret rfl rfl
  ·exact .ret rfl rfl
 subst h17
 refine .ab ?_
 exact .fin (S3.finN (lC (sB _).lv lN)) rfl
def ze {β:Type} (k:Nat) (kE0:Unit→Option β) (kE1:Int→Option β) (x0:(List zc)) (x1c0:Bool) (x1c1:TaiRtp) (x1c2:ByteArray) (x7:Int) (x8:Int):Option β:=match k with
| 0=>none
| k+1 =>
bif decide (x8<x7) then (
(ix x0 x8).bind fun a24 =>
(z3h ((⟨a24.told,a24.seen,(⟨[((a24.meter.slots.getD 0 0)),((a24.meter.slots.getD 1 0)),((a24.meter.slots.getD 2 0)),((a24.meter.slots.getD 3 0)),((a24.meter.slots.getD 4 0))],a24.meter.last,a24.meter.total⟩:z4),a24.came,a24.f_until,a24.resting,a24.woken,a24.kept⟩:zc)) x1c0 x1c1 x1c2).bind fun r33 =>
bif r33 then (
kE1 x8)
else (
ze k kE0 kE1 x0 x1c0 x1c1 x1c2 x7 (IntKind.wrap .i64 (x8+1))))
else (
kE0 ())
def zo (k:Nat) (x0:(List zc)) (x1c0:Bool) (x1c1:TaiRtp) (x1c2:ByteArray):Option (Int) :=
ze k (fun (_:Unit) =>
some ((-1))) (fun r46_4 =>
some (r46_4)) x0 x1c0 x1c1 x1c2 ((x0.length:Int)) 0
theorem z1r {h:H}  {kE0:Unit→Option β} {kE1:Int→Option β} (hE0:∀ (_u:Unit) (H39:Go.Ev.H) (_:Fm 19 h [] [] [] H39),Sim (kE0 ()) (K ((.exit 0),(envL []),H39)) Q) (hE1:∀ (q4:Int) (H41:Go.Ev.H) (_:Fm 19 h [] [] [] H41),Sim (kE1 q4) (K (.ret,(envL [(4,(.p (.int .i64 q4)))]),H41)) Q) (k:Nat):∀ (x0:(List zc)) (x1c0:Bool) (x1c1:TaiRtp) (x1c2:ByteArray) (x7:Int) (x8:Int) (v3:V) (h4:RsH h z9 x0 v3) (lr5:Loc) (or6:Nat) (har7:AtC h lr5 or6 (List.map C.v [(.p (.bool x1c0))])) (v9:V) (h10:SlF (dI .u32) x1c1.Csrc v9) (v11:V) (h12:SlF (dI .u8) x1c1.Ext v11) (v13:V) (h14:SlF (dI .u8) x1c1.Payload v13) (lr15:Loc) (or16:Nat) (har17:AtC h lr15 or16 (List.map C.v [(.p (.bool x1c1.Marker)),(.p (.int .i64 x1c1.f_Type)),(.p (.int .u16 x1c1.Seq)),(.p (.int .u32 x1c1.Time)),(.p (.int .u32 x1c1.Ssrc)),v9,(.p (.int .u16 x1c1.Profile)),v11,v13])) (lr19:Loc) (or20:Nat) (har21:AtC h lr19 or20 (List.map C.v [(.p (.string x1c2))])) (H1:Go.Ev.H) (_:Fm 19 h [] [] [] H1) {σ:Stamp},Sim (ze k kE0 kE1 x0 x1c0 x1c1 x1c2 x7 x8) ((cvL G X0 z12 z11 σ (envL [(0,v3),(1,(.clo 93 [(.ref lr5 or6),(.ref lr15 or16),(.ref lr19 or20)])),(7,(.p (.int .i64 x7))),(8,(.p (.int .i64 x8)))]) H1).bind K) Q:=by
 induction k with
 | zero=>intros;exact .no
 | succ k ih =>
  intro x0 x1c0 x1c1 x1c2 x7 x8 v3 h4 lr5 or6 har7 v9 h10 v11 h12 v13 h14 lr15 or16 har17 lr19 or20 har21 H1 S2 σ
  rw [ze]
  refine .round (Sim.ext (z40 _ _ _ _ _ _ _ _) ?_)
  refine .cq ?_ ?_
  ·refine .bd fun a24 h25=>?_
   obtain ⟨lr26,w27,e28,h29,har30⟩:=RsH.el h4 h25 (e:=10) rfl
   obtain ⟨s31_3,s31_4,rfl⟩:=h29
   refine .op (e28) ?_
   refine .op ((S2.lowA har30).ldAll (j:=0) (xs:=[(.p (.string a24.told.Rid)),(.p (.int .u32 a24.told.Ssrc)),(.p (.int .i64 a24.told.Height)),(.ref (lr26.hop ((Int.toNat x8*10)+3) s31_3) 0),(.ref (lr26.hop ((Int.toNat x8*10)+4) s31_4) 0),(.p (.bool a24.came)),(.p (.int .i64 a24.f_until)),(.p (.bool a24.resting)),(.p (.bool a24.woken)),(.p (.int .i64 a24.kept))]) rfl rfl) ?_
   refine .clo ?_
   refine .call (z8o ((⟨a24.told,a24.seen,(⟨[((a24.meter.slots.getD 0 0)),((a24.meter.slots.getD 1 0)),((a24.meter.slots.getD 2 0)),((a24.meter.slots.getD 3 0)),((a24.meter.slots.getD 4 0))],a24.meter.last,a24.meter.total⟩:z4),a24.came,a24.f_until,a24.resting,a24.woken,a24.kept⟩:zc)) (Low.hop _ _ _) (Low.hop _ _ _) x1c0 (S2.lowA har7) x1c1 h10 h12 h14 (S2.lowA har17) x1c2 (S2.lowA har21)) fun r33 cs34 H35 h36 q37=>?_
   cases q37
   refine .ab ?_
   refine .cq ?_ ?_
   ·exact hE1 x8 H1 (S2.wk2 aN aN)
   exact ih x0 x1c0 x1c1 x1c2 x7 (IntKind.wrap .i64 (x8+1)) v3 h4 lr5 or6 har7 v9 h10 v11 h12 v13 h14 lr15 or16 har17 lr19 or20 har21 H1 (S2.wk2 aN aN)
  exact hE0 () H1 (S2.wk2 aN aN)
theorem z1w (k:Nat) {h:H} {σ:Stamp} (x0:List zc) {u0:V} (hu0:RsH h z9 x0 u0) (x1c0:Bool)  {l1c0:Loc} {o1c0:Nat} (ha1c0:AtC h l1c0 o1c0 (List.map C.v [(.p (.bool x1c0))])) (x1c1:TaiRtp) {u1c1_5:V} (hu1c1_5:SlF (dI .u32) x1c1.Csrc u1c1_5) {u1c1_7:V} (hu1c1_7:SlF (dI .u8) x1c1.Ext u1c1_7) {u1c1_8:V} (hu1c1_8:SlF (dI .u8) x1c1.Payload u1c1_8) {l1c1:Loc} {o1c1:Nat} (ha1c1:AtC h l1c1 o1c1 (List.map C.v [(.p (.bool x1c1.Marker)),(.p (.int .i64 x1c1.f_Type)),(.p (.int .u16 x1c1.Seq)),(.p (.int .u32 x1c1.Time)),(.p (.int .u32 x1c1.Ssrc)),u1c1_5,(.p (.int .u16 x1c1.Profile)),u1c1_7,u1c1_8])) (x1c2:ByteArray)  {l1c2:Loc} {o1c2:Nat} (ha1c2:AtC h l1c2 o1c2 (List.map C.v [(.p (.string x1c2))])):Sim (zo k x0 x1c0 x1c1 x1c2) (ev G X0 92 σ [u0,(.clo 93 [(.ref l1c0 o1c0),(.ref l1c1 o1c1),(.ref l1c2 o1c2)])] h) (fun r s=>s=([.v (.p (.int .i64 r))],h)):=by
 refine .ev rfl (Sim.ext (z3b _ _ _ _ _ _) ?_)
 rw [zo]
 have S0:Fm 19 h [] [] [] (List.replicate 19 []::h):=Fm.start0
 refine .op (hu0.len) ?_
 refine .ci ?_
 refine .as (z1r ?_ ?_ k x0 x1c0 x1c1 x1c2 ((x0.length:Int)) 0 u0 hu0 l1c0 o1c0 ha1c0 u1c1_5 hu1c1_5 u1c1_7 hu1c1_7 u1c1_8 hu1c1_8 l1c1 o1c1 ha1c1 l1c2 o1c2 ha1c2 (List.replicate 19 []::h) (S0.wk2 aN aN))
 ·intro _u H44 S45
  refine .ext (z3k _ _ _ _) ?_
  exact .fin (S45.finN (lC (sI _ _).lv lN)) rfl
 ·intro r46_4 H47 S48
  refine .ext (z38 _ _ _ _ _) ?_
  exact .fin (S48.finN (lC (sI _ _).lv lN)) rfl
def z2o (k:Nat) (x0:z5) (x1:TaiRtp):Option (Int) :=
(zaz k x1).bind fun r11 =>
(zo k x0.l r11.2 x1 r11.1).bind fun r30 =>
some (r30)
theorem z61 (k:Nat) {h:H} {σ:Stamp} (x0:z5) {c0_0:C} (hc0_0:RsC z9 x0.l c0_0) {l0:Loc} {o0:Nat} (ha0:AtC h l0 o0 ([c0_0])) (x1:TaiRtp) {u1:List V} (hu1:z6.R x1 u1):Sim (z2o k x0 x1) (ev G X0 42 σ [(.ref l0 o0),(.agg u1)] h) (fun r s=>s=([.v (.p (.int .i64 r))],h)):=by
 refine .ev rfl (Sim.ext (z84 _ _ _ _ _ _) ?_)
 rw [z2o]
 obtain ⟨v1,v3,v5,rfl,h2,h4,h6⟩:=z6.inv hu1
 have S0:Fm 18 h [] [] [] (List.replicate 18 []::h):=Fm.start0
 obtain ⟨H7,e8,S9⟩:=S0.box (own:=true) (d:=3) (s:=(0::0::0::σ)) (xs:=[(.p (.bool x1.Marker)),(.p (.int .i64 x1.f_Type)),(.p (.int .u16 x1.Seq)),(.p (.int .u32 x1.Time)),(.p (.int .u32 x1.Ssrc)),v1,(.p (.int .u16 x1.Profile)),v3,v5]) (sC (sB _) (sC (sI _ _) (sC (sI _ _) (sC (sI _ _) (sC (sI _ _) (sC h2.still (sC (sI _ _) (sC h4.still (sC h6.still sN))))))))) (by decide) rfl
 refine .op (e8) ?_
 refine .op ((S9.atG (i:=0) rfl).ldVs (j:=0) (xs:=[(.p (.bool x1.Marker)),(.p (.int .i64 x1.f_Type)),(.p (.int .u16 x1.Seq)),(.p (.int .u32 x1.Time)),(.p (.int .u32 x1.Ssrc)),v1,(.p (.int .u16 x1.Profile)),v3,v5]) rfl rfl (by decide)) ?_
 refine .call (ziy k x1 hu1) fun r11 cs12 H13 h14 q15=>?_
 cases q15
 refine .or ?_
 refine .op (castS_p _) ?_
 refine .or ?_
 refine .ab ?_
 obtain ⟨H16,e17,S18⟩:=S9.al (d:=5) (s:=(5::0::1::0::σ)) (z:=[(.p (.string ((⟨#[]⟩:ByteArray))))]) (by decide) rfl
 refine .op (congrArg some e17) ?_
 obtain ⟨H20,e21,S22⟩:=S18.al (d:=6) (s:=(6::0::1::0::σ)) (z:=[(.p (.bool false))]) (by decide) rfl
 refine .op (congrArg some e21) ?_
 obtain ⟨H24,e25,S26⟩:=S22.stG (i:=1) (j:=0) (own:=true) (σ:=(7::0::1::0::σ)) (x:=(.p (.string r11.1))) rfl rfl (still_str _) rfl
 refine .op (sM e25) ?_
 obtain ⟨H27,e28,S29⟩:=S26.stG (i:=0) (j:=0) (own:=true) (σ:=(8::0::1::0::σ)) (x:=(.p (.bool r11.2))) rfl rfl (sB _) rfl
 refine .op (sM e28) ?_
 refine .nc ?_
 refine .fa ?_
 refine .op (RsC.ld hc0_0 (S29.lowA ha0) (j:=0) rfl) ?_
 refine .call (z1w k x0.l (RsC.rs hc0_0 (S29.lowA ha0) (j:=0) rfl) r11.2 (S29.atG (i:=0) rfl) x1 h2 h4 h6 (S29.atG (i:=2) rfl) r11.1 (S29.atG (i:=1) rfl)) fun r30 cs31 H32 h33 q34=>?_
 cases q34
 refine .ci ?_
 exact .fin (S29.finN (lC (sI _ _).lv lN)) rfl
end
end Go.Ev
namespace Go.Ev
open Go.Proofs
set_option linter.unusedVariables false
set_option linter.unusedSimpArgs false
set_option maxRecDepth 100000
noncomputable section
abbrev KT24:=Exit→Env→H→Option (List C × H)
variable (rec : CallF) (loop : LoopV) (σ : Stamp)
theorem z7d (x0:V) (x1:Int) (h:H):cvBody G rec loop 94 σ [x0,(.p (.int .i64 x1))] h =
(callO rec 96 (2::0::0::1::0::σ) [x0,(.p (.int .i64 x1))] (List.replicate 18 []::h) (some 7)).bind fun q1 =>
(asB q1.1).bind fun b2 =>
bif !b2 then (
fin false σ q1.2 [(.p (.int .i64 0))])
else (
(nilChk x0).bind fun t3 =>
(fA t3 0).bind fun t4 =>
(ldO false 1 q1.2 t4).bind fun t5 =>
(iS 10 t5 x1).bind fun t6 =>
(fA t6 0).bind fun t7 =>
(fA t7 2).bind fun t8 =>
(ldO false 1 q1.2 t8).bind fun t9 =>
(castI .i64 t9).bind fun n10 =>
fin false σ q1.2 [(.p (.int .i64 n10))]):=by kernel_rfl
end
end Go.Ev
namespace Go.Ev
open Go.Proofs
set_option linter.unusedVariables false
set_option linter.unusedSimpArgs false
set_option maxRecDepth 100000
section
variable {β α : Type} {Q : β→α→Prop} {K : Exit × Env × H→Option α}
def z29 (x0:z5) (x1:Int):Option (Int) :=
(zy x0 x1).bind fun r1 =>
bif !r1 then (
some (0))
else (
(ix x0.l x1).bind fun a7 =>
some (a7.told.Height))
theorem z53 {h:H} {σ:Stamp} (x0:z5) {c0_0:C} (hc0_0:RsC z9 x0.l c0_0) {l0:Loc} {o0:Nat} (ha0:AtC h l0 o0 ([c0_0])) (x1:Int):Sim (z29 x0 x1) (ev G X0 94 σ [(.ref l0 o0),(.p (.int .i64 x1))] h) (fun r s=>s=([.v (.p (.int .i64 r))],h)):=by
 refine .ev rfl (Sim.ext (z7d _ _ _ _ _ _) ?_)
 rw [z29]
 have S0:Fm 18 h [] [] [] (List.replicate 18 []::h):=Fm.start0
 refine .call (z1n x0 hc0_0 (S0.lowA ha0) x1) fun r1 cs2 H3 h4 q5=>?_
 cases q5
 refine .ab ?_
 refine .cq ?_ ?_
 ·exact .fin (S0.finN (lC (sI _ _).lv lN)) rfl
 refine .nc ?_
 refine .fa ?_
 refine .op (RsC.ld hc0_0 (S0.lowA ha0) (j:=0) rfl) ?_
 refine .bd fun a7 h8=>?_
 obtain ⟨lr9,w10,e11,h12,har13⟩:=RsH.el (RsC.rs hc0_0 ha0 (j:=0) rfl) h8 (e:=10) rfl
 obtain ⟨s14_3,s14_4,rfl⟩:=h12
 refine .op (e11) ?_
 refine .fa ?_
 refine .fa ?_
 refine .op ((S0.lowA har13).ld (j:=2) rfl) ?_
 refine .ci ?_
 exact .fin (S0.finN (lC (sI _ _).lv lN)) rfl
end
end Go.Ev
namespace Go.Ev
open Go.Proofs
set_option linter.unusedVariables false
set_option linter.unusedSimpArgs false
set_option maxRecDepth 100000
noncomputable section
abbrev KT25:=Exit→Env→H→Option (List C × H)
variable (rec : CallF) (loop : LoopV) (σ : Stamp)
theorem z8l (x0:V) (x1:V) (h:H):cvBody G rec loop 43 σ [x0,x1] h =
(boxO true (0::0::0::σ) 3 (List.replicate 17 []::h) x1).bind fun q1 =>
(fA q1.1 8).bind fun t2 =>
(ldO false 1 q1.2 t2).bind fun t3 =>
(lenO t3).bind fun t4 =>
(castI .i64 t4).bind fun n5 =>
(bif decide (n5>0) then ((fA q1.1 8).bind fun t6 =>
(ldO false 1 q1.2 t6).bind fun t7 =>
(iS 1 t7 0).bind fun t8 =>
(ldO false 1 q1.2 t8).bind fun t9 =>
(castI .u8 t9).bind fun n10 =>
some ((intBits .and .u8 n10 1)==1)) else (some false)).bind fun b11 =>
fin false σ q1.2 [(.p (.bool b11))]:=by kernel_rfl
end
end Go.Ev
namespace Go.Ev
open Go.Proofs
set_option linter.unusedVariables false
set_option linter.unusedSimpArgs false
set_option maxRecDepth 100000
section
variable {β α : Type} {Q : β→α→Prop} {K : Exit × Env × H→Option α}
def z4o (x0:z5) (x1:TaiRtp):Option (Bool) :=
(bif decide (((x1.Payload.length:Int))>0) then ((ix x1.Payload 0).bind fun a11 =>
some ((intBits .and .u8 a11 1)==1)) else (some false)).bind fun b14 =>
some (b14)
theorem za7 {h:H} {σ:Stamp} (x0:z5) {c0_0:C} (hc0_0:RsC z9 x0.l c0_0) {l0:Loc} {o0:Nat} (ha0:AtC h l0 o0 ([c0_0])) (x1:TaiRtp) {u1:List V} (hu1:z6.R x1 u1):Sim (z4o x0 x1) (ev G X0 43 σ [(.ref l0 o0),(.agg u1)] h) (fun r s=>s=([.v (.p (.bool r))],h)):=by
 refine .ev rfl (Sim.ext (z8l _ _ _ _ _ _) ?_)
 rw [z4o]
 obtain ⟨v1,v3,v5,rfl,h2,h4,h6⟩:=z6.inv hu1
 have S0:Fm 17 h [] [] [] (List.replicate 17 []::h):=Fm.start0
 obtain ⟨H7,e8,S9⟩:=S0.box (own:=true) (d:=3) (s:=(0::0::0::σ)) (xs:=[(.p (.bool x1.Marker)),(.p (.int .i64 x1.f_Type)),(.p (.int .u16 x1.Seq)),(.p (.int .u32 x1.Time)),(.p (.int .u32 x1.Ssrc)),v1,(.p (.int .u16 x1.Profile)),v3,v5]) (sC (sB _) (sC (sI _ _) (sC (sI _ _) (sC (sI _ _) (sC (sI _ _) (sC h2.still (sC (sI _ _) (sC h4.still (sC h6.still sN))))))))) (by decide) rfl
 refine .op (e8) ?_
 refine .fa ?_
 refine .op ((S9.atG (i:=0) rfl).ld (j:=8) rfl) ?_
 refine .op ((h6.h H7).len) ?_
 refine .ci ?_
 refine .ch (P:=fun r y=>r=y) ?_ (fun b14 y15 h16 h17=>?_)
 ·refine .cq ?_ ?_
  ·refine .fa ?_
   refine .op ((S9.atG (i:=0) rfl).ld (j:=8) rfl) ?_
   refine .bd fun a11 h12=>?_
   refine .op ((h6.h H7).iS h12 rfl) ?_
   obtain ⟨_,rfl,hE13⟩:=(h6.h H7).el h12 rfl
   refine .op (hE13.ld (j:=0) rfl) ?_
   refine .ci ?_
   exact .ret rfl rfl
  ·exact .ret rfl rfl
 subst h17
 exact .fin (S9.finN (lC (sB _).lv lN)) rfl
end
end Go.Ev
namespace Go.Ev
open Go.Proofs
set_option linter.unusedVariables false
set_option linter.unusedSimpArgs false
set_option maxRecDepth 100000
noncomputable section
abbrev KT26:=Exit→Env→H→Option (List C × H)
variable (rec : CallF) (loop : LoopV) (σ : Stamp)
theorem z8m (x0:V) (h:H):cvBody G rec loop 95 σ [x0] h =
(nilChk x0).bind fun t1 =>
(fA t1 0).bind fun t2 =>
(ldO false 1 (List.replicate 8 []::h) t2).bind fun t3 =>
(lenO t3).bind fun t4 =>
(castI .i64 t4).bind fun n5 =>
fin false σ (List.replicate 8 []::h) [(.p (.int .i64 n5))]:=by kernel_rfl
end
end Go.Ev
namespace Go.Ev
open Go.Proofs
set_option linter.unusedVariables false
set_option linter.unusedSimpArgs false
set_option maxRecDepth 100000
section
variable {β α : Type} {Q : β→α→Prop} {K : Exit × Env × H→Option α}
def z4m (x0:z5):Option (Int) :=
some (((x0.l.length:Int)))
theorem za8 {h:H} {σ:Stamp} (x0:z5) {c0_0:C} (hc0_0:RsC z9 x0.l c0_0) {l0:Loc} {o0:Nat} (ha0:AtC h l0 o0 ([c0_0])):Sim (z4m x0) (ev G X0 95 σ [(.ref l0 o0)] h) (fun r s=>s=([.v (.p (.int .i64 r))],h)):=by
 refine .ev rfl (Sim.ext (z8m _ _ _ _ _) ?_)
 rw [z4m]
 have S0:Fm 8 h [] [] [] (List.replicate 8 []::h):=Fm.start0
 refine .nc ?_
 refine .fa ?_
 refine .op (RsC.ld hc0_0 (S0.lowA ha0) (j:=0) rfl) ?_
 refine .op (RsC.len hc0_0 _ _) ?_
 refine .ci ?_
 exact .fin (S0.finN (lC (sI _ _).lv lN)) rfl
end
end Go.Ev
namespace Go.Ev
open Go.Proofs
set_option linter.unusedVariables false
set_option linter.unusedSimpArgs false
set_option maxRecDepth 100000
noncomputable section
abbrev KT27:=Exit→Env→H→Option (List C × H)
variable (rec : CallF) (loop : LoopV) (σ : Stamp)
def z2a:Code:=(codeAt (bodyOf Try.f86) [1,1,0,1,0,0])
def z28:Lv:=⟨8,4,[(0,8)]⟩
def z5s:KT27:=(kBlock 0 (kSeq G rec loop (codeAt (bodyOf Try.f86) [1,1,1]) ⟨4,4,[]⟩ (1::1::0::σ) (finC G false Try.f86 (1::σ))))
theorem z80 (x0:V) (h:H):cvBody G rec loop 86 σ [x0] h =
(nilChk x0).bind fun t1 =>
(fA t1 0).bind fun t2 =>
(ldO false 1 (List.replicate 23 []::h) t2).bind fun t3 =>
(lenO t3).bind fun t4 =>
(castI .i64 t4).bind fun n5 =>
(loop z2a z28 (1::0::1::1::0::σ) (envL [(3,(.p (.slice .none 0 0))),(9,t3),(10,(.p (.int .i64 n5))),(11,(.p (.int .i64 0)))]) (List.replicate 23 []::h)).bind fun r6=>z5s rec loop σ r6.1 r6.2.1 r6.2.2:=by kernel_rfl
theorem z92 (x3:V) (x9:V) (x10:Int) (x11:Int) (h:H):z1a G rec loop z2a z28 σ (envL [(3,x3),(9,x9),(10,(.p (.int .i64 x10))),(11,(.p (.int .i64 x11)))]) h =
bif decide (x11<x10) then (
(iS 10 x9 x11).bind fun t7 =>
(ldO true 10 h t7).bind fun t8 =>
(some (alO [.p (.string (⟨#[]⟩:ByteArray)),.p (.int .u32 0),.p (.int .i64 0),.p (.pointer none),.p (.pointer none),.p (.bool false),.p (.int .i64 0),.p (.bool false),.p (.bool false),.p (.int .i64 0)] (2::0::0::1::1::0::σ) 5 h)).bind fun q9 =>
((stO false 10 (3::0::0::1::1::0::σ) q9.2 q9.1 t8).map fun h=>(udf,h)).bind fun q10 =>
(fA q9.1 0).bind fun t11 =>
(ldO true 3 q10.2 t11).bind fun t12 =>
(bSV Try.prog 56 1 [(0,t12)]).bind fun t13 =>
(apO false 3 32 (4::1::0::1::1::0::σ) 19 q10.2 x3 t13).bind fun q14 =>
loop z2a z28 (1::σ) (envL [(3,q14.1),(9,x9),(10,(.p (.int .i64 x10))),(11,(.p (.int .i64 (IntKind.wrap .i64 (x11+1)))))]) q14.2)
else (
some ((.exit 0),(envL [(3,x3)]),h)):=by kernel_rfl
theorem z83 (x3:V) (h:H):z5s rec loop σ (.exit 0) (envL [(3,x3)]) h =
(callO rec 124 (1::0::1::1::1::0::σ) [x3] h (some 22)).bind fun q15 =>
fin false σ q15.2 [q15.1]:=by kernel_rfl
theorem z4d (x0:V) (h:H):cvBody G rec loop 124 σ [x0] h =
(lenO x0).bind fun t1 =>
(castI .i64 t1).bind fun n2 =>
(lenO x0).bind fun t3 =>
(castI .i64 t3).bind fun n4 =>
(slS 3 x0 none (some n2) (some n4)).bind fun t5 =>
fin false σ (List.replicate 9 []::h) [t5]:=by kernel_rfl
end
end Go.Ev
namespace Go.Ev
open Go.Proofs
set_option linter.unusedVariables false
set_option linter.unusedSimpArgs false
set_option maxRecDepth 100000
section
variable {β α : Type} {Q : β→α→Prop} {K : Exit × Env × H→Option α}
def z1y {β:Type} (k:Nat) (kE0:(List z7)→Option β) (x3:(List z7)) (x9:(List zc)) (x10:Int) (x11:Int):Option β:=match k with
| 0=>none
| k+1 =>
bif decide (x11<x10) then (
(ix x9 x11).bind fun a10 =>
(ap 32 x3 ([a10.told])).bind fun a27 =>
z1y k kE0 a27 x9 x10 (IntKind.wrap .i64 (x11+1)))
else (
kE0 x3)
def z3y (k:Nat) (x0:z5):Option ((List z7)) :=
z1y k (fun r39_3 =>
some (r39_3)) (([]:List z7)) x0.l ((x0.l.length:Int)) 0
theorem z7i {h:H}  {kE0:(List z7)→Option β} (hE0:∀ (q3:(List z7)) (v35:V) (H33:Go.Ev.H) (_:Fm 23 h [] [] [⟨[19],v35,z8,q3⟩] H33),Sim (kE0 q3) (K ((.exit 0),(envL [(3,v35)]),H33)) Q) (k:Nat):∀ (x3:(List z7)) (x9:(List zc)) (x10:Int) (x11:Int) (v5:V) (v7:V) (h8:RsH h z9 x9 v7) (H3:Go.Ev.H) (_:Fm 23 h [] [] [⟨[19],v5,z8,x3⟩] H3) {σ:Stamp},Sim (z1y k kE0 x3 x9 x10 x11) ((cvL G X0 z2a z28 σ (envL [(3,v5),(9,v7),(10,(.p (.int .i64 x10))),(11,(.p (.int .i64 x11)))]) H3).bind K) Q:=by
 induction k with
 | zero=>intros;exact .no
 | succ k ih =>
  intro x3 x9 x10 x11 v5 v7 h8 H3 S4 σ
  rw [z1y]
  refine .round (Sim.ext (z92 _ _ _ _ _ _ _ _) ?_)
  refine .cq ?_ ?_
  ·refine .bd fun a10 h11=>?_
   obtain ⟨lr12,w13,e14,h15,har16⟩:=RsH.el h8 h11 (e:=10) rfl
   obtain ⟨s17_3,s17_4,rfl⟩:=h15
   refine .op (e14) ?_
   refine .op ((S4.lowA har16).ldAll (j:=0) (xs:=[(.p (.string a10.told.Rid)),(.p (.int .u32 a10.told.Ssrc)),(.p (.int .i64 a10.told.Height)),(.ref (lr12.hop ((Int.toNat x11*10)+3) s17_3) 0),(.ref (lr12.hop ((Int.toNat x11*10)+4) s17_4) 0),(.p (.bool a10.came)),(.p (.int .i64 a10.f_until)),(.p (.bool a10.resting)),(.p (.bool a10.woken)),(.p (.int .i64 a10.kept))]) rfl rfl) ?_
   obtain ⟨H19,e20,S21⟩:=S4.al (d:=5) (s:=(2::0::0::1::1::0::σ)) (z:=[(.p (.string ((⟨#[]⟩:ByteArray)))),(.p (.int .u32 0)),(.p (.int .i64 0)),(.p (.pointer none)),(.p (.pointer none)),(.p (.bool false)),(.p (.int .i64 0)),(.p (.bool false)),(.p (.bool false)),(.p (.int .i64 0))]) (by decide) rfl
   refine .op (congrArg some e20) ?_
   obtain ⟨H23,e24,S25⟩:=S21.stGw (i:=0) (j:=0) (own:=false) (σ:=(3::0::0::1::1::0::σ)) (xs:=[(.p (.string a10.told.Rid)),(.p (.int .u32 a10.told.Ssrc)),(.p (.int .i64 a10.told.Height)),(.ref (lr12.hop ((Int.toNat x11*10)+3) s17_3) 0),(.ref (lr12.hop ((Int.toNat x11*10)+4) s17_4) 0),(.p (.bool a10.came)),(.p (.int .i64 a10.f_until)),(.p (.bool a10.resting)),(.p (.bool a10.woken)),(.p (.int .i64 a10.kept))]) (ws:=List.map C.v [(.p (.string a10.told.Rid)),(.p (.int .u32 a10.told.Ssrc)),(.p (.int .i64 a10.told.Height)),(.ref (lr12.hop ((Int.toNat x11*10)+3) s17_3) 0),(.ref (lr12.hop ((Int.toNat x11*10)+4) s17_4) 0),(.p (.bool a10.came)),(.p (.int .i64 a10.f_until)),(.p (.bool a10.resting)),(.p (.bool a10.woken)),(.p (.int .i64 a10.kept))]) rfl rfl (zr (Still.low (still_str _)) (zr (Still.low (sI _ _)) (zr (Still.low (sI _ _)) (zr (Low.hop _ _ _) (zr (Low.hop _ _ _) (zr (Still.low (sB _)) (zr (Still.low (sI _ _)) (zr (Still.low (sB _)) (zr (Still.low (sB _)) (zr (Still.low (sI _ _)) lw_nil)))))))))) rfl rfl
   refine .op (sM e24) ?_
   refine .fa ?_
   refine .op ((S25.atG (i:=0) rfl).ldVs (j:=0) (xs:=[.p (.string a10.told.Rid),.p (.int .u32 a10.told.Ssrc),.p (.int .i64 a10.told.Height)]) rfl rfl (by decide)) ?_
   have h26:SlF z8 [a10.told] (.fz [(.p (.string a10.told.Rid)),(.p (.int .u32 a10.told.Ssrc)),(.p (.int .i64 a10.told.Height))] 1 3 true):=SlF.lit (cs:=[(.p (.string a10.told.Rid)),(.p (.int .u32 a10.told.Ssrc)),(.p (.int .i64 a10.told.Height))]) (RL.cons (show z8.R a10.told [.p (.string a10.told.Rid),.p (.int .u32 a10.told.Ssrc),.p (.int .i64 a10.told.Height)] from (z8.mk)) RL.nil) rfl rfl true
   refine .op (bldS (pC (c:=[.p (.string a10.told.Rid),.p (.int .u32 a10.told.Ssrc),.p (.int .i64 a10.told.Height)]) rfl pN) (by kernel_rfl:_=some (vOf h26))) ?_
   refine .bd fun a27 h28=>?_
   obtain ⟨v29,H30,e31,S32⟩:=S25.app (i:=0) (d:=19) (e:=3) (own:=false) (σ:=(4::1::0::1::1::0::σ)) rfl (h26.h H23).y h28 rfl (by decide) (by decide) rfl
   refine .op (e31) ?_
   exact ih a27 x9 x10 (IntKind.wrap .i64 (x11+1)) v29 v7 h8 H30 (S32.wk2 aN (aC ⟨[19,19],by simp,aM 0 rfl⟩ aN))
  exact hE0 x3 v5 H3 (S4.wk2 aN (aC ⟨[19],by simp,aM 0 rfl⟩ aN))
theorem z95 (k:Nat) {h:H} {σ:Stamp} (x0:z5) {c0_0:C} (hc0_0:RsC z9 x0.l c0_0) {l0:Loc} {o0:Nat} (ha0:AtC h l0 o0 ([c0_0])):Sim (z3y k x0) (ev G X0 86 σ [(.ref l0 o0)] h) (fun r s=>∃ (c0:C),∃ (a0:List V),OwnS c0 z8.sz r.length a0∧z8.L r a0∧s=([c0],h)):=by
 refine .ev rfl (Sim.ext (z80 _ _ _ _ _) ?_)
 rw [z3y]
 have S0:Fm 23 h [] [] [] (List.replicate 23 []::h):=Fm.start0
 refine .nc ?_
 refine .fa ?_
 refine .op (RsC.ld hc0_0 (S0.lowA ha0) (j:=0) rfl) ?_
 refine .op (RsC.len hc0_0 _ _) ?_
 refine .ci ?_
 have S38:=S0.nil z8 []
 refine .as (z7i ?_ k (([]:List z7)) x0.l ((x0.l.length:Int)) 0 (.p (.slice none 0 0)) (cellV l0 (o0+0) (c0_0)) (RsC.rs hc0_0 ha0 (j:=0) rfl) (List.replicate 23 []::h) (S38.wk2 aN (aC ⟨[],by simp,aM 0 rfl⟩ aN)))
 ·intro r39_3 v42 H40 S41
  refine .ext (z83 _ _ _ _ _) ?_
  obtain ⟨v44,e45,S46⟩:=clip_D (G:=G) (X:=X0) (i:=0) (f:=124) (fun x h=>z4d _ _ _ x h) S41 rfl rfl rfl
  refine .op (e45) ?_
  obtain ⟨c52,cs53,H47,e48,h50,h51,S49⟩:=S46.expOwn (i:=0) (τ:=0::1::σ) rfl rfl rfl
  exact .fin (S49.finE (Ex.st e48 Ex.nil)) ⟨c52,cs53,h50,h51,rfl⟩
def z5y (k:Nat) :Option (Bool) :=
(z34 k ([((⟨((⟨#[108,111]⟩:ByteArray)),1,100⟩:z7)),((⟨((⟨#[104,105]⟩:ByteArray)),2,200⟩:z7))])).bind fun r2 =>
(match r2 with
| none=>(
some (false))
| some r7=>(
(z34 k (([]:List z7))).bind fun r15 =>
(match r15 with
| none=>(
(ix ([((⟨((⟨#[108,111]⟩:ByteArray)),1,100⟩:z7)),((⟨((⟨#[104,105]⟩:ByteArray)),2,200⟩:z7))]) 1).bind fun a24 =>
(z49 k a24 5 9 true 100).bind fun r29 =>
(z4y k r29).bind fun r36 =>
(z2o k r7 r36.1).bind fun r56 =>
(z17 r7 1 0).bind fun r61 =>
(z18 k r7 1 r36.1 ((r29.length:Int)) 10).bind fun r66 =>
(z18 k r66.2.2 1 r36.1 ((r29.length:Int)) 20).bind fun r74 =>
(zk k r74.2.2 1 10).bind fun r82 =>
(zw k r74.2.2 1 true 10).bind fun r87 =>
(z1i r87 1).bind fun r95 =>
(bif r95 then ((z17 r87 1 20).bind fun r100 =>
some (!r100)) else (some false)).bind fun b105 =>
(zw k r87 1 false 900000).bind fun r109 =>
(bif r56==1 then (some (!r61)) else (some false)).bind fun b117 =>
(bif b117 then (some (r66.1==5)) else (some false)).bind fun b121 =>
(bif b121 then (some r66.2.1) else (some false)).bind fun b125 =>
(bif b125 then (some (!r74.2.1)) else (some false)).bind fun b129 =>
(bif b129 then (some (r82==1)) else (some false)).bind fun b133 =>
(bif b133 then (some b105) else (some false)).bind fun b137 =>
(bif b137 then ((z1p r109 1).bind fun r141 =>
some r141) else (some false)).bind fun b146 =>
(bif b146 then ((zk k r109 1 900000).bind fun r150 =>
some (r150==1)) else (some false)).bind fun b155 =>
(bif b155 then ((z4o r109 r36.1).bind fun r159 =>
some r159) else (some false)).bind fun b164 =>
(bif b164 then ((z29 r109 0).bind fun r168 =>
some (r168==100)) else (some false)).bind fun b173 =>
(bif b173 then ((z29 r109 5).bind fun r177 =>
some (r177==0)) else (some false)).bind fun b182 =>
(bif b182 then ((z4m r109).bind fun r186 =>
some (r186==2)) else (some false)).bind fun b191 =>
(bif b191 then ((z2o k r109 ((⟨false,0,0,0,1,(([]:List Int)),0,(([]:List Int)),(([]:List Int))⟩:TaiRtp))).bind fun r195 =>
some (r195==(-1))) else (some false)).bind fun b200 =>
(bif b200 then ((zk k r109 (-1) 0).bind fun r204 =>
some (r204==0)) else (some false)).bind fun b209 =>
bif b209 then ((z3y k r109).bind fun r213 =>
some ((((r213.length:Int))==2))) else (some (false)))
| some r20=>(
some (false)))))
theorem zfv (k:Nat) {h:H} {σ:Stamp} :Sim (z5y k ) (ev G X0 44 σ [] h) (fun r s=>s=([.v (.p (.bool r))],h)):=by
 refine .ev rfl (Sim.ext (zc9 _ _ _ _) ?_)
 rw [z5y]
 have S0:Fm 138 h [] [] [] (List.replicate 138 []::h):=Fm.start0
 refine .op (bldV (pC rfl (pC rfl (pC rfl pN))) (by kernel_rfl:_=some (.agg [.p (.string ((⟨#[108,111]⟩:ByteArray))),.p (.int .u32 1),.p (.int .i64 100)]))) ?_
 refine .op (bldV (pC rfl (pC rfl (pC rfl pN))) (by kernel_rfl:_=some (.agg [.p (.string ((⟨#[104,105]⟩:ByteArray))),.p (.int .u32 2),.p (.int .i64 200)]))) ?_
 have h1:SlF z8 [((⟨((⟨#[108,111]⟩:ByteArray)),1,100⟩:z7)),((⟨((⟨#[104,105]⟩:ByteArray)),2,200⟩:z7))] (.fz [(.p (.string ((⟨#[108,111]⟩:ByteArray)))),(.p (.int .u32 1)),(.p (.int .i64 100)),(.p (.string ((⟨#[104,105]⟩:ByteArray)))),(.p (.int .u32 2)),(.p (.int .i64 200))] 2 3 true):=SlF.lit (cs:=[(.p (.string ((⟨#[108,111]⟩:ByteArray)))),(.p (.int .u32 1)),(.p (.int .i64 100)),(.p (.string ((⟨#[104,105]⟩:ByteArray)))),(.p (.int .u32 2)),(.p (.int .i64 200))]) (RL.cons (show z8.R ((⟨((⟨#[108,111]⟩:ByteArray)),1,100⟩:z7)) [.p (.string ((⟨#[108,111]⟩:ByteArray))),.p (.int .u32 1),.p (.int .i64 100)] from (z8.mk)) (RL.cons (show z8.R ((⟨((⟨#[104,105]⟩:ByteArray)),2,200⟩:z7)) [.p (.string ((⟨#[104,105]⟩:ByteArray))),.p (.int .u32 2),.p (.int .i64 200)] from (z8.mk)) RL.nil)) rfl rfl true
 refine .op (bldS (pC (c:=[.p (.string ((⟨#[108,111]⟩:ByteArray))),.p (.int .u32 1),.p (.int .i64 100)]) rfl (pC (c:=[.p (.string ((⟨#[104,105]⟩:ByteArray))),.p (.int .u32 2),.p (.int .i64 200)]) rfl pN)) (by kernel_rfl:_=some (vOf h1))) ?_
 refine .call (z7w k ([((⟨((⟨#[108,111]⟩:ByteArray)),1,100⟩:z7)),((⟨((⟨#[104,105]⟩:ByteArray)),2,200⟩:z7))]) (h1.h (List.replicate 138 []::h))) fun r2 cs3 H4 h5 q6=>?_
 rcases r2 with _ | r7
 ·cases (show (cs3,H4)=([.v (.p (.pointer none))],(List.replicate 138 []::h)) from q6)
  refine .op ((by kernel_rfl:_=some (.p (.bool true)))) ?_
  refine .ab ?_
  refine .asT ?_
  refine .pure ?_
  refine .ab ?_
  refine .cdt rfl ?_
  exact .fin (S0.finN (lC (sB _).lv lN)) rfl
 ·obtain ⟨s8,c9,h10,q6⟩:=q6
  cases q6
  obtain ⟨H11,e12,S13⟩:=S0.landG (d:=18) (s:=s8) (cs:=[c9]) (by decide) rfl
  erw [e12]
  refine .op ((by kernel_rfl:_=some (.p (.bool false)))) ?_
  refine .ab ?_
  refine .asF ?_
  refine .call (z7w k (([]:List z7)) ((SlF.nil z8).h H11)) fun r15 cs16 H17 h18 q19=>?_
  rcases r15 with _ | r20
  ·cases (show (cs16,H17)=([.v (.p (.pointer none))],H11) from q19)
   refine .op ((by kernel_rfl:_=some (.p (.bool false)))) ?_
   refine .ab ?_
   refine .pure ?_
   refine .ab ?_
   refine .cdf rfl ?_
   refine .bd fun a24 h25=>?_
   refine .op ((h1.h H11).iS h25 rfl) ?_
   obtain ⟨w27,h28,hE26⟩:=(h1.h H11).el h25 rfl
   obtain rfl:=z8.inv h28
   refine .op (hE26.all (by simp)) ?_
   refine .call (zb3 k a24 (show z8.R a24 [.p (.string a24.Rid),.p (.int .u32 a24.Ssrc),.p (.int .i64 a24.Height)] from (z8.mk)) 5 9 true 100) fun r29 cs30 H31 h32 q33=>?_
   obtain ⟨v34,h35,q33⟩:=q33
   cases q33
   refine .call (zbv k r29 (h35.h H11)) fun r36 cs37 H38 h39 q40=>?_
   obtain ⟨w41,h42,q40⟩:=q40
   cases q40
   obtain ⟨v43,v45,v47,rfl,h44,h46,h48⟩:=z6.inv h42
   refine .or ?_
   refine .or ?_
   refine .ci ?_
   obtain ⟨H49,e50,S51⟩:=S13.al (d:=4) (s:=(5::0::1::1::1::1::1::0::σ)) (z:=[(.p (.bool false)),(.p (.int .i64 0)),(.p (.int .u16 0)),(.p (.int .u32 0)),(.p (.int .u32 0)),(.p (.slice none 0 0)),(.p (.int .u16 0)),(.p (.slice none 0 0)),(.p (.slice none 0 0))]) (by decide) rfl
   refine .op (congrArg some e50) ?_
   obtain ⟨H53,e54,S55⟩:=S51.stGv (i:=0) (j:=0) (own:=true) (σ:=(6::0::1::1::1::1::1::0::σ)) (xs:=[(.p (.bool r36.1.Marker)),(.p (.int .i64 r36.1.f_Type)),(.p (.int .u16 r36.1.Seq)),(.p (.int .u32 r36.1.Time)),(.p (.int .u32 r36.1.Ssrc)),v43,(.p (.int .u16 r36.1.Profile)),v45,v47]) rfl rfl (sC (sB _) (sC (sI _ _) (sC (sI _ _) (sC (sI _ _) (sC (sI _ _) (sC h44.still (sC (sI _ _) (sC h46.still (sC h48.still sN))))))))) rfl rfl
   refine .op (sM e54) ?_
   refine .op ((S55.atG (i:=0) rfl).ldVs (j:=0) (xs:=[(.p (.bool r36.1.Marker)),(.p (.int .i64 r36.1.f_Type)),(.p (.int .u16 r36.1.Seq)),(.p (.int .u32 r36.1.Time)),(.p (.int .u32 r36.1.Ssrc)),v43,(.p (.int .u16 r36.1.Profile)),v45,v47]) rfl rfl (by decide)) ?_
   refine .call (z61 k r7 h10 (S55.atG (i:=1) rfl) r36.1 h42) fun r56 cs57 H58 h59 q60=>?_
   cases q60
   refine .ci ?_
   refine .call (z2h r7 h10 (S55.atG (i:=1) rfl) 1 0) fun r61 cs62 H63 h64 q65=>?_
   cases q65
   refine .ab ?_
   refine .op ((S55.atG (i:=0) rfl).ldVs (j:=0) (xs:=[(.p (.bool r36.1.Marker)),(.p (.int .i64 r36.1.f_Type)),(.p (.int .u16 r36.1.Seq)),(.p (.int .u32 r36.1.Time)),(.p (.int .u32 r36.1.Ssrc)),v43,(.p (.int .u16 r36.1.Profile)),v45,v47]) rfl rfl (by decide)) ?_
   refine .op ((h35.h H53).len) ?_
   refine .ci ?_
   refine .call (z37 k r7 h10 (S55.atG (i:=1) rfl) 1 r36.1 h42 ((r29.length:Int)) 10) fun r66 cs67 H68 h69 q70=>?_
   obtain ⟨c71,h72,q70⟩:=q70
   cases q70
   have S73:=S55.setG (i:=1) (cs':=[c71]) rfl rfl rfl
   refine .or ?_
   refine .ci ?_
   refine .or ?_
   refine .ab ?_
   refine .op ((S73.atG (i:=0) rfl).ldVs (j:=0) (xs:=[(.p (.bool r36.1.Marker)),(.p (.int .i64 r36.1.f_Type)),(.p (.int .u16 r36.1.Seq)),(.p (.int .u32 r36.1.Time)),(.p (.int .u32 r36.1.Ssrc)),v43,(.p (.int .u16 r36.1.Profile)),v45,v47]) rfl rfl (by decide)) ?_
   refine .op ((h35.h (ptC H53 ⟨h.length,18,0,s8,[]⟩ 0 ([c71]))).len) ?_
   refine .ci ?_
   refine .call (z37 k r66.2.2 h72 (S73.atG (i:=1) rfl) 1 r36.1 h42 ((r29.length:Int)) 20) fun r74 cs75 H76 h77 q78=>?_
   obtain ⟨c79,h80,q78⟩:=q78
   cases q78
   have S81:=S73.setG (i:=1) (cs':=[c79]) rfl rfl rfl
   refine .or ?_
   refine .ci ?_
   refine .or ?_
   refine .ab ?_
   refine .call (z1f k r74.2.2 h80 (S81.atG (i:=1) rfl) 1 10) fun r82 cs83 H84 h85 q86=>?_
   cases q86
   refine .ci ?_
   refine .call (z2g k r74.2.2 h80 (S81.atG (i:=1) rfl) 1 true 10) fun r87 cs88 H89 h90 q91=>?_
   obtain ⟨c92,h93,q91⟩:=q91
   cases q91
   have S94:=S81.setG (i:=1) (cs':=[c92]) rfl rfl rfl
   refine .call (z52 r87 h93 (S94.atG (i:=1) rfl) 1) fun r95 cs96 H97 h98 q99=>?_
   cases q99
   refine .ab ?_
   refine .ch (P:=fun r y=>(.p (.bool r),(ptC (ptC (ptC H53 ⟨h.length,18,0,s8,[]⟩ 0 ([c71])) ⟨h.length,18,0,s8,[]⟩ 0 ([c79])) ⟨h.length,18,0,s8,[]⟩ 0 ([c92])))=y) ?_ (fun b105 y106 h107 h108=>?_)
   ·refine .cq ?_ ?_
    ·refine .call (z2h r87 h93 (S94.atG (i:=1) rfl) 1 20) fun r100 cs101 H102 h103 q104=>?_
     cases q104
     refine .ab ?_
     exact .ret rfl rfl
    ·exact .ret rfl rfl
   subst h108
   refine .ab ?_
   refine .call (z2g k r87 h93 (S94.atG (i:=1) rfl) 1 false 900000) fun r109 cs110 H111 h112 q113=>?_
   obtain ⟨c114,h115,q113⟩:=q113
   cases q113
   have S116:=S94.setG (i:=1) (cs':=[c114]) rfl rfl rfl
   refine .ch (P:=fun r y=>r=y) ?_ (fun b117 y118 h119 h120=>?_)
   ·refine .cq ?_ ?_
    ·exact .ret rfl rfl
    ·exact .ret rfl rfl
   subst h120
   refine .ch (P:=fun r y=>r=y) ?_ (fun b121 y122 h123 h124=>?_)
   ·refine .cq ?_ ?_
    ·exact .ret rfl rfl
    ·exact .ret rfl rfl
   subst h124
   refine .ch (P:=fun r y=>r=y) ?_ (fun b125 y126 h127 h128=>?_)
   ·refine .cq ?_ ?_
    ·exact .ret rfl rfl
    ·exact .ret rfl rfl
   subst h128
   refine .ch (P:=fun r y=>r=y) ?_ (fun b129 y130 h131 h132=>?_)
   ·refine .cq ?_ ?_
    ·exact .ret rfl rfl
    ·exact .ret rfl rfl
   subst h132
   refine .ch (P:=fun r y=>r=y) ?_ (fun b133 y134 h135 h136=>?_)
   ·refine .cq ?_ ?_
    ·exact .ret rfl rfl
    ·exact .ret rfl rfl
   subst h136
   refine .ch (P:=fun r y=>r=y) ?_ (fun b137 y138 h139 h140=>?_)
   ·refine .cq ?_ ?_
    ·exact .ret rfl rfl
    ·exact .ret rfl rfl
   subst h140
   refine .ch (P:=fun r y=>(.p (.bool r),(ptC (ptC (ptC (ptC H53 ⟨h.length,18,0,s8,[]⟩ 0 ([c71])) ⟨h.length,18,0,s8,[]⟩ 0 ([c79])) ⟨h.length,18,0,s8,[]⟩ 0 ([c92])) ⟨h.length,18,0,s8,[]⟩ 0 ([c114])))=y) ?_ (fun b146 y147 h148 h149=>?_)
   ·refine .cq ?_ ?_
    ·refine .call (z5u r109 h115 (S116.atG (i:=1) rfl) 1) fun r141 cs142 H143 h144 q145=>?_
     cases q145
     refine .ab ?_
     exact .ret rfl rfl
    ·exact .ret rfl rfl
   subst h149
   refine .ab ?_
   refine .ch (P:=fun r y=>(.p (.bool r),(ptC (ptC (ptC (ptC H53 ⟨h.length,18,0,s8,[]⟩ 0 ([c71])) ⟨h.length,18,0,s8,[]⟩ 0 ([c79])) ⟨h.length,18,0,s8,[]⟩ 0 ([c92])) ⟨h.length,18,0,s8,[]⟩ 0 ([c114])))=y) ?_ (fun b155 y156 h157 h158=>?_)
   ·refine .cq ?_ ?_
    ·refine .call (z1f k r109 h115 (S116.atG (i:=1) rfl) 1 900000) fun r150 cs151 H152 h153 q154=>?_
     cases q154
     refine .ci ?_
     exact .ret rfl rfl
    ·exact .ret rfl rfl
   subst h158
   refine .ab ?_
   refine .ch (P:=fun r y=>(.p (.bool r),(ptC (ptC (ptC (ptC H53 ⟨h.length,18,0,s8,[]⟩ 0 ([c71])) ⟨h.length,18,0,s8,[]⟩ 0 ([c79])) ⟨h.length,18,0,s8,[]⟩ 0 ([c92])) ⟨h.length,18,0,s8,[]⟩ 0 ([c114])))=y) ?_ (fun b164 y165 h166 h167=>?_)
   ·refine .cq ?_ ?_
    ·refine .op ((S116.atG (i:=0) rfl).ldVs (j:=0) (xs:=[(.p (.bool r36.1.Marker)),(.p (.int .i64 r36.1.f_Type)),(.p (.int .u16 r36.1.Seq)),(.p (.int .u32 r36.1.Time)),(.p (.int .u32 r36.1.Ssrc)),v43,(.p (.int .u16 r36.1.Profile)),v45,v47]) rfl rfl (by decide)) ?_
     refine .call (za7 r109 h115 (S116.atG (i:=1) rfl) r36.1 h42) fun r159 cs160 H161 h162 q163=>?_
     cases q163
     refine .ab ?_
     exact .ret rfl rfl
    ·exact .ret rfl rfl
   subst h167
   refine .ab ?_
   refine .ch (P:=fun r y=>(.p (.bool r),(ptC (ptC (ptC (ptC H53 ⟨h.length,18,0,s8,[]⟩ 0 ([c71])) ⟨h.length,18,0,s8,[]⟩ 0 ([c79])) ⟨h.length,18,0,s8,[]⟩ 0 ([c92])) ⟨h.length,18,0,s8,[]⟩ 0 ([c114])))=y) ?_ (fun b173 y174 h175 h176=>?_)
   ·refine .cq ?_ ?_
    ·refine .call (z53 r109 h115 (S116.atG (i:=1) rfl) 0) fun r168 cs169 H170 h171 q172=>?_
     cases q172
     refine .ci ?_
     exact .ret rfl rfl
    ·exact .ret rfl rfl
   subst h176
   refine .ab ?_
   refine .ch (P:=fun r y=>(.p (.bool r),(ptC (ptC (ptC (ptC H53 ⟨h.length,18,0,s8,[]⟩ 0 ([c71])) ⟨h.length,18,0,s8,[]⟩ 0 ([c79])) ⟨h.length,18,0,s8,[]⟩ 0 ([c92])) ⟨h.length,18,0,s8,[]⟩ 0 ([c114])))=y) ?_ (fun b182 y183 h184 h185=>?_)
   ·refine .cq ?_ ?_
    ·refine .call (z53 r109 h115 (S116.atG (i:=1) rfl) 5) fun r177 cs178 H179 h180 q181=>?_
     cases q181
     refine .ci ?_
     exact .ret rfl rfl
    ·exact .ret rfl rfl
   subst h185
   refine .ab ?_
   refine .ch (P:=fun r y=>(.p (.bool r),(ptC (ptC (ptC (ptC H53 ⟨h.length,18,0,s8,[]⟩ 0 ([c71])) ⟨h.length,18,0,s8,[]⟩ 0 ([c79])) ⟨h.length,18,0,s8,[]⟩ 0 ([c92])) ⟨h.length,18,0,s8,[]⟩ 0 ([c114])))=y) ?_ (fun b191 y192 h193 h194=>?_)
   ·refine .cq ?_ ?_
    ·refine .call (za8 r109 h115 (S116.atG (i:=1) rfl)) fun r186 cs187 H188 h189 q190=>?_
     cases q190
     refine .ci ?_
     exact .ret rfl rfl
    ·exact .ret rfl rfl
   subst h194
   refine .ab ?_
   refine .ch (P:=fun r y=>(.p (.bool r),(ptC (ptC (ptC (ptC H53 ⟨h.length,18,0,s8,[]⟩ 0 ([c71])) ⟨h.length,18,0,s8,[]⟩ 0 ([c79])) ⟨h.length,18,0,s8,[]⟩ 0 ([c92])) ⟨h.length,18,0,s8,[]⟩ 0 ([c114])))=y) ?_ (fun b200 y201 h202 h203=>?_)
   ·refine .cq ?_ ?_
    ·refine .op (bldV (pC rfl pN) (by kernel_rfl:_=some (.agg [.p (.bool false),.p (.int .i64 0),.p (.int .u16 0),.p (.int .u32 0),.p (.int .u32 1),.p (.slice none 0 0),.p (.int .u16 0),.p (.slice none 0 0),.p (.slice none 0 0)]))) ?_
     refine .call (z61 k r109 h115 (S116.atG (i:=1) rfl) ((⟨false,0,0,0,1,(([]:List Int)),0,(([]:List Int)),(([]:List Int))⟩:TaiRtp)) (show z6.R ((⟨false,0,0,0,1,(([]:List Int)),0,(([]:List Int)),(([]:List Int))⟩:TaiRtp)) [.p (.bool false),.p (.int .i64 0),.p (.int .u16 0),.p (.int .u32 0),.p (.int .u32 1),.p (.slice none 0 0),.p (.int .u16 0),.p (.slice none 0 0),.p (.slice none 0 0)] from (z6.mk (SlF.nil (dI .u32)) (SlF.nil (dI .u8)) (SlF.nil (dI .u8))))) fun r195 cs196 H197 h198 q199=>?_
     cases q199
     refine .ci ?_
     exact .ret rfl rfl
    ·exact .ret rfl rfl
   subst h203
   refine .ab ?_
   refine .ch (P:=fun r y=>(.p (.bool r),(ptC (ptC (ptC (ptC H53 ⟨h.length,18,0,s8,[]⟩ 0 ([c71])) ⟨h.length,18,0,s8,[]⟩ 0 ([c79])) ⟨h.length,18,0,s8,[]⟩ 0 ([c92])) ⟨h.length,18,0,s8,[]⟩ 0 ([c114])))=y) ?_ (fun b209 y210 h211 h212=>?_)
   ·refine .cq ?_ ?_
    ·refine .call (z1f k r109 h115 (S116.atG (i:=1) rfl) (-1) 0) fun r204 cs205 H206 h207 q208=>?_
     cases q208
     refine .ci ?_
     exact .ret rfl rfl
    ·exact .ret rfl rfl
   subst h212
   refine .ab ?_
   refine .cqk ?_ ?_
   ·refine .as ?_
    refine .call (z95 k r109 h115 (S116.atG (i:=1) rfl)) fun r213 cs214 H215 h216 q217=>?_
    obtain ⟨c218,cs219,h220,h221,q217⟩:=q217
    cases q217
    obtain ⟨v222,H223,e224,S225⟩:=S116.land (dt:=z8) (d:=134) (e:=0) (n:=0) h220 h221 (by decide) rfl
    erw [e224]
    refine .op ((S225.sl (i:=0) rfl).len) ?_
    refine .ci ?_
    refine .pure ?_
    refine .ab ?_
    exact .fin (S225.finN (lC (sB _).lv lN)) rfl
   ·refine .as ?_
    refine .pure ?_
    refine .ab ?_
    exact .fin (S116.finN (lC (sB _).lv lN)) rfl
  ·obtain ⟨s21,c22,h23,q19⟩:=q19
   cases q19
   obtain ⟨H227,e228,S229⟩:=S13.landG (d:=22) (s:=s21) (cs:=[c22]) (by decide) rfl
   erw [e228]
   refine .op ((by kernel_rfl:_=some (.p (.bool true)))) ?_
   refine .ab ?_
   refine .pure ?_
   refine .ab ?_
   refine .cdt rfl ?_
   exact .fin (S229.finN (lC (sB _).lv lN)) rfl
def z1b {β:Type} (k:Nat) (kE0:Int→Int→z5→Option β) (kE1:Bool→Option β) (x2:Int) (x7:(List z7)) (x9:Int) (x10:Int) (x11:Int) (x12:Int) (yg14:z5):Option β:=match k with
| 0=>none
| k+1 =>
bif decide (x12<x9) then (
(ix x7 0).bind fun a34 =>
(z49 k a34 (IntKind.wrap .u16 x12) 1 (x12==0) x10).bind fun r39 =>
(z4y k r39).bind fun r46 =>
(z18 k yg14 0 r46.1 ((r39.length:Int)) 1000).bind fun r66 =>
bif !r66.2.1 then (
kE1 false)
else (
z1b k kE0 kE1 x2 x7 x9 x10 (IntKind.wrap .i64 ((IntKind.wrap .i64 (x11+((r39.length:Int))))+28)) (IntKind.wrap .i64 (x12+1)) r66.2.2))
else (
kE0 x2 x11 yg14)
def z3d (k:Nat) (x0:Int) (x1:Int) (x2:Int):Option (Bool) :=
(z34 k ([((⟨((⟨#[97]⟩:ByteArray)),1,100⟩:z7))])).bind fun r2 =>
(match r2 with
| none=>(
some (false))
| some r7=>(
(z45 x0 0 30).bind fun r15 =>
(z45 x1 0 900).bind fun r20 =>
z1b k (fun r83_2 r83_11 yg32 =>
(zk k yg32 0 1000).bind fun r90 =>
(bif r90 != ((if 1>(IntKind.wrap .i64 (Int.tdiv (IntKind.wrap .i64 ((IntKind.wrap .i64 ((IntKind.wrap .i64 (r83_11*2))+1000))-1)) 1000)) then 1 else (IntKind.wrap .i64 (Int.tdiv (IntKind.wrap .i64 ((IntKind.wrap .i64 ((IntKind.wrap .i64 (r83_11*2))+1000))-1)) 1000)))) then (some true) else ((z17 yg32 0 300999).bind fun r95 =>
some (!r95))).bind fun b100 =>
(bif b100 then (some true) else ((z17 yg32 0 301000).bind fun r104 =>
some r104)).bind fun b109 =>
bif b109 then (
some (false))
else (
(zw k yg32 0 true 1000).bind fun r114 =>
(zk k r114 0 (IntKind.wrap .i64 (1000+(intBits .and .i64 r83_2 1073741823)))).bind fun r122 =>
(zw k r114 0 false (IntKind.wrap .i64 (1000+(intBits .and .i64 r83_2 1073741823)))).bind fun r127 =>
(zk k r127 0 (IntKind.wrap .i64 (1000+(intBits .and .i64 r83_2 1073741823)))).bind fun r135 =>
(bif r122==r90 then (some (r135==r90)) else (some false)).bind fun b140 =>
(bif b140 then ((z1p r127 0).bind fun r144 =>
some r144) else (some false)).bind fun b149 =>
(bif b149 then ((z1i r127 0).bind fun r153 =>
some (!r153)) else (some false)).bind fun b158 =>
(bif b158 then ((z5y k).bind fun r162 =>
some r162) else (some false)).bind fun b167 =>
some (b167))) (fun r171_6 =>
some (r171_6)) x2 ([((⟨((⟨#[97]⟩:ByteArray)),1,100⟩:z7))]) (IntKind.wrap .i64 (1+r15)) (IntKind.wrap .i64 (1+r20)) 0 0 r7))
theorem z8z {h:H}  {kE0:Int→Int→z5→Option β} {kE1:Bool→Option β} (hE0:∀ (q2:Int) (q11:Int) (yg32:z5) (c77:C) (h78:RsC z9 yg32.l c77) (s79:Stamp) (H75:Go.Ev.H) (_:Fm 121 h [] [(25,s79,[c77])] [] H75),Sim (kE0 q2 q11 yg32) (K ((.exit 0),(envL [(2,(.p (.int .i64 q2))),(8,(.ref ⟨h.length,25,0,s79,[]⟩ 0)),(11,(.p (.int .i64 q11)))]),H75)) Q) (hE1:∀ (q6:Bool) (H81:Go.Ev.H) (_:Fm 121 h [] [] [] H81),Sim (kE1 q6) (K (.ret,(envL [(6,(.p (.bool q6)))]),H81)) Q) (k:Nat):∀ (x2:Int) (x7:(List z7)) (x9:Int) (x10:Int) (x11:Int) (x12:Int) (yg14:z5) (v27:V) (h28:SlF z8 x7 v27) (c29:C) (h30:RsC z9 yg14.l c29) (s31:Stamp) (H25:Go.Ev.H) (_:Fm 121 h [] [(25,s31,[c29])] [] H25) {σ:Stamp},Sim (z1b k kE0 kE1 x2 x7 x9 x10 x11 x12 yg14) ((cvL G X0 z2u z2x σ (envL [(2,(.p (.int .i64 x2))),(7,v27),(8,(.ref ⟨h.length,25,0,s31,[]⟩ 0)),(9,(.p (.int .i64 x9))),(10,(.p (.int .i64 x10))),(11,(.p (.int .i64 x11))),(12,(.p (.int .i64 x12)))]) H25).bind K) Q:=by
 induction k with
 | zero=>intros;exact .no
 | succ k ih =>
  intro x2 x7 x9 x10 x11 x12 yg14 v27 h28 c29 h30 s31 H25 S26 σ
  rw [z1b]
  refine .round (Sim.ext (zad _ _ _ _ _ _ _ _ _ _ _) ?_)
  refine .cq ?_ ?_
  ·refine .bd fun a34 h35=>?_
   refine .op ((h28.h H25).iS h35 rfl) ?_
   obtain ⟨w37,h38,hE36⟩:=(h28.h H25).el h35 rfl
   obtain rfl:=z8.inv h38
   refine .op (hE36.all (by simp)) ?_
   refine .call (zb3 k a34 (show z8.R a34 [.p (.string a34.Rid),.p (.int .u32 a34.Ssrc),.p (.int .i64 a34.Height)] from (z8.mk)) (IntKind.wrap .u16 x12) 1 (x12==0) x10) fun r39 cs40 H41 h42 q43=>?_
   obtain ⟨v44,h45,q43⟩:=q43
   cases q43
   refine .call (zbv k r39 (h45.h H25)) fun r46 cs47 H48 h49 q50=>?_
   obtain ⟨w51,h52,q50⟩:=q50
   cases q50
   obtain ⟨v53,v55,v57,rfl,h54,h56,h58⟩:=z6.inv h52
   refine .or ?_
   refine .or ?_
   refine .ci ?_
   obtain ⟨H59,e60,S61⟩:=S26.al (d:=14) (s:=(5::0::1::0::1::0::σ)) (z:=[(.p (.bool false)),(.p (.int .i64 0)),(.p (.int .u16 0)),(.p (.int .u32 0)),(.p (.int .u32 0)),(.p (.slice none 0 0)),(.p (.int .u16 0)),(.p (.slice none 0 0)),(.p (.slice none 0 0))]) (by decide) rfl
   refine .op (congrArg some e60) ?_
   obtain ⟨H63,e64,S65⟩:=S61.stGv (i:=0) (j:=0) (own:=true) (σ:=(6::0::1::0::1::0::σ)) (xs:=[(.p (.bool r46.1.Marker)),(.p (.int .i64 r46.1.f_Type)),(.p (.int .u16 r46.1.Seq)),(.p (.int .u32 r46.1.Time)),(.p (.int .u32 r46.1.Ssrc)),v53,(.p (.int .u16 r46.1.Profile)),v55,v57]) rfl rfl (sC (sB _) (sC (sI _ _) (sC (sI _ _) (sC (sI _ _) (sC (sI _ _) (sC h54.still (sC (sI _ _) (sC h56.still (sC h58.still sN))))))))) rfl rfl
   refine .op (sM e64) ?_
   refine .op ((S65.atG (i:=0) rfl).ldVs (j:=0) (xs:=[(.p (.bool r46.1.Marker)),(.p (.int .i64 r46.1.f_Type)),(.p (.int .u16 r46.1.Seq)),(.p (.int .u32 r46.1.Time)),(.p (.int .u32 r46.1.Ssrc)),v53,(.p (.int .u16 r46.1.Profile)),v55,v57]) rfl rfl (by decide)) ?_
   refine .op ((h45.h H63).len) ?_
   refine .ci ?_
   refine .call (z37 k yg14 h30 (S65.atG (i:=1) rfl) 0 r46.1 h52 ((r39.length:Int)) 1000) fun r66 cs67 H68 h69 q70=>?_
   obtain ⟨c71,h72,q70⟩:=q70
   cases q70
   have S73:=S65.setG (i:=1) (cs':=[c71]) rfl rfl rfl
   refine .or ?_
   refine .ci ?_
   refine .or ?_
   refine .ab ?_
   refine .cq ?_ ?_
   ·exact hE1 false (ptC H63 ⟨h.length,25,0,s31,[]⟩ 0 ([c71])) (S73.wk2 aN aN)
   refine .op ((h45.h (ptC H63 ⟨h.length,25,0,s31,[]⟩ 0 ([c71]))).len) ?_
   refine .ci ?_
   exact ih x2 x7 x9 x10 (IntKind.wrap .i64 ((IntKind.wrap .i64 (x11+((r39.length:Int))))+28)) (IntKind.wrap .i64 (x12+1)) r66.2.2 v27 h28 c71 h72 s31 (ptC H63 ⟨h.length,25,0,s31,[]⟩ 0 ([c71])) (S73.wk2 (aC (aM 1 rfl) aN) aN)
  exact hE0 x2 x11 yg14 c29 h30 s31 H25 (S26.wk2 (aC (aM 0 rfl) aN) aN)
theorem zak (k:Nat) {h:H} {σ:Stamp} (x0:Int) (x1:Int) (x2:Int):Sim (z3d k x0 x1 x2) (ev G X0 13 σ [(.p (.int .i64 x0)),(.p (.int .i64 x1)),(.p (.int .i64 x2))] h) (fun r s=>s=([.v (.p (.bool r))],h)):=by
 refine .ev rfl (Sim.ext (z98 _ _ _ _ _ _ _) ?_)
 rw [z3d]
 have S0:Fm 121 h [] [] [] (List.replicate 121 []::h):=Fm.start0
 refine .op (bldV (pC rfl (pC rfl (pC rfl pN))) (by kernel_rfl:_=some (.agg [.p (.string ((⟨#[97]⟩:ByteArray))),.p (.int .u32 1),.p (.int .i64 100)]))) ?_
 have h1:SlF z8 [((⟨((⟨#[97]⟩:ByteArray)),1,100⟩:z7))] (.fz [(.p (.string ((⟨#[97]⟩:ByteArray)))),(.p (.int .u32 1)),(.p (.int .i64 100))] 1 3 true):=SlF.lit (cs:=[(.p (.string ((⟨#[97]⟩:ByteArray)))),(.p (.int .u32 1)),(.p (.int .i64 100))]) (RL.cons (show z8.R ((⟨((⟨#[97]⟩:ByteArray)),1,100⟩:z7)) [.p (.string ((⟨#[97]⟩:ByteArray))),.p (.int .u32 1),.p (.int .i64 100)] from (z8.mk)) RL.nil) rfl rfl true
 refine .op (bldS (pC (c:=[.p (.string ((⟨#[97]⟩:ByteArray))),.p (.int .u32 1),.p (.int .i64 100)]) rfl pN) (by kernel_rfl:_=some (vOf h1))) ?_
 refine .call (z7w k ([((⟨((⟨#[97]⟩:ByteArray)),1,100⟩:z7))]) (h1.h (List.replicate 121 []::h))) fun r2 cs3 H4 h5 q6=>?_
 rcases r2 with _ | r7
 ·cases (show (cs3,H4)=([.v (.p (.pointer none))],(List.replicate 121 []::h)) from q6)
  refine .op ((by kernel_rfl:_=some (.p (.bool true)))) ?_
  refine .ab ?_
  refine .cdt rfl ?_
  exact .fin (S0.finN (lC (sB _).lv lN)) rfl
 ·obtain ⟨s8,c9,h10,q6⟩:=q6
  cases q6
  obtain ⟨H11,e12,S13⟩:=S0.landG (d:=25) (s:=s8) (cs:=[c9]) (by decide) rfl
  erw [e12]
  refine .op ((by kernel_rfl:_=some (.p (.bool false)))) ?_
  refine .ab ?_
  refine .cdf rfl ?_
  refine .call (zaj x0 0 30) fun r15 cs16 H17 h18 q19=>?_
  cases q19
  refine .ci ?_
  refine .call (zaj x1 0 900) fun r20 cs21 H22 h23 q24=>?_
  cases q24
  refine .ci ?_
  refine .as (z8z ?_ ?_ k x2 ([((⟨((⟨#[97]⟩:ByteArray)),1,100⟩:z7))]) (IntKind.wrap .i64 (1+r15)) (IntKind.wrap .i64 (1+r20)) 0 0 r7 (.fz [(.p (.string ((⟨#[97]⟩:ByteArray)))),(.p (.int .u32 1)),(.p (.int .i64 100))] 1 3 true) h1 c9 h10 s8 H11 (S13.wk2 (aC (aM 0 rfl) aN) aN))
  ·intro r83_2 r83_11 yg32 c86 h87 s88 H84 S85
   refine .ext (z9v _ _ _ _ _ _ _) ?_
   refine .call (z1f k yg32 h87 (S85.atG (i:=0) rfl) 0 1000) fun r90 cs91 H92 h93 q94=>?_
   cases q94
   refine .ci ?_
   refine .ch (P:=fun r y=>(.p (.bool r),H84)=y) ?_ (fun b100 y101 h102 h103=>?_)
   ·refine .cq ?_ ?_
    ·exact .ret rfl rfl
    ·refine .call (z2h yg32 h87 (S85.atG (i:=0) rfl) 0 300999) fun r95 cs96 H97 h98 q99=>?_
     cases q99
     refine .ab ?_
     exact .ret rfl rfl
   subst h103
   refine .ab ?_
   refine .ch (P:=fun r y=>(.p (.bool r),H84)=y) ?_ (fun b109 y110 h111 h112=>?_)
   ·refine .cq ?_ ?_
    ·exact .ret rfl rfl
    ·refine .call (z2h yg32 h87 (S85.atG (i:=0) rfl) 0 301000) fun r104 cs105 H106 h107 q108=>?_
     cases q108
     refine .ab ?_
     exact .ret rfl rfl
   subst h112
   refine .ab ?_
   refine .cq ?_ ?_
   ·exact .fin (S85.finN (lC (sB _).lv lN)) rfl
   refine .call (z2g k yg32 h87 (S85.atG (i:=0) rfl) 0 true 1000) fun r114 cs115 H116 h117 q118=>?_
   obtain ⟨c119,h120,q118⟩:=q118
   cases q118
   have S121:=S85.setG (i:=0) (cs':=[c119]) rfl rfl rfl
   refine .call (z1f k r114 h120 (S121.atG (i:=0) rfl) 0 (IntKind.wrap .i64 (1000+(intBits .and .i64 r83_2 1073741823)))) fun r122 cs123 H124 h125 q126=>?_
   cases q126
   refine .ci ?_
   refine .call (z2g k r114 h120 (S121.atG (i:=0) rfl) 0 false (IntKind.wrap .i64 (1000+(intBits .and .i64 r83_2 1073741823)))) fun r127 cs128 H129 h130 q131=>?_
   obtain ⟨c132,h133,q131⟩:=q131
   cases q131
   have S134:=S121.setG (i:=0) (cs':=[c132]) rfl rfl rfl
   refine .call (z1f k r127 h133 (S134.atG (i:=0) rfl) 0 (IntKind.wrap .i64 (1000+(intBits .and .i64 r83_2 1073741823)))) fun r135 cs136 H137 h138 q139=>?_
   cases q139
   refine .ci ?_
   refine .ch (P:=fun r y=>r=y) ?_ (fun b140 y141 h142 h143=>?_)
   ·refine .cq ?_ ?_
    ·exact .ret rfl rfl
    ·exact .ret rfl rfl
   subst h143
   refine .ch (P:=fun r y=>(.p (.bool r),(ptC (ptC H84 ⟨h.length,25,0,s88,[]⟩ 0 ([c119])) ⟨h.length,25,0,s88,[]⟩ 0 ([c132])))=y) ?_ (fun b149 y150 h151 h152=>?_)
   ·refine .cq ?_ ?_
    ·refine .call (z5u r127 h133 (S134.atG (i:=0) rfl) 0) fun r144 cs145 H146 h147 q148=>?_
     cases q148
     refine .ab ?_
     exact .ret rfl rfl
    ·exact .ret rfl rfl
   subst h152
   refine .ab ?_
   refine .ch (P:=fun r y=>(.p (.bool r),(ptC (ptC H84 ⟨h.length,25,0,s88,[]⟩ 0 ([c119])) ⟨h.length,25,0,s88,[]⟩ 0 ([c132])))=y) ?_ (fun b158 y159 h160 h161=>?_)
   ·refine .cq ?_ ?_
    ·refine .call (z52 r127 h133 (S134.atG (i:=0) rfl) 0) fun r153 cs154 H155 h156 q157=>?_
     cases q157
     refine .ab ?_
     exact .ret rfl rfl
    ·exact .ret rfl rfl
   subst h161
   refine .ab ?_
   refine .ch (P:=fun r y=>(.p (.bool r),(ptC (ptC H84 ⟨h.length,25,0,s88,[]⟩ 0 ([c119])) ⟨h.length,25,0,s88,[]⟩ 0 ([c132])))=y) ?_ (fun b167 y168 h169 h170=>?_)
   ·refine .cq ?_ ?_
    ·refine .call (zfv k ) fun r162 cs163 H164 h165 q166=>?_
     cases q166
     refine .ab ?_
     exact .ret rfl rfl
    ·exact .ret rfl rfl
   subst h170
   refine .ab ?_
   exact .fin (S134.finN (lC (sB _).lv lN)) rfl
  ·intro r171_6 H172 S173
   refine .ext (z8t _ _ _ _ _) ?_
   exact .fin (S173.finN (lC (sB _).lv lN)) rfl
end
end Go.Ev
namespace Go.Ev
namespace Lay
def lay1:List z7:=[⟨⟨#[97]⟩,1,100⟩]
theorem zkg:HasExt ⟨⟨#[97]⟩,1,100⟩:=⟨[16,97,0,0],rfl,fun j=>by kernel_rfl⟩
theorem zht {a b:Int} (ha:0≤a∧a<4294967296) (hb:0≤b∧b<4294967296):z2e a b=some (0,a*b):=by
 have e1:Int.fdiv a (2^32)=0:=by rw [Int.fdiv_eq_ediv_of_nonneg _ (by decide)];omega
 have e2:Int.fdiv b (2^32)=0:=by rw [Int.fdiv_eq_ediv_of_nonneg _ (by decide)];omega
 have m1:intBits .and .u64 a 4294967295=a:=by rw [z7j (k:=.u64) (n:=32) (m:=4294967295) _ rfl (by decide)];omega
 have m2:intBits .and .u64 b 4294967295=b:=by rw [z7j (k:=.u64) (n:=32) (m:=4294967295) _ rfl (by decide)];omega
 have p0:0≤a*b:=Int.mul_nonneg ha.1 hb.1
 have p1:a*b<18446744073709551616:=by
  have h1:a*b≤4294967295*b:=Int.mul_le_mul_of_nonneg_right (by omega) hb.1
  omega
 unfold z2e
 rw [e1,e2,m1,m2]
 simp only [Int.zero_mul,Int.mul_zero,Int.zero_add]
 generalize a*b=p at *
 rw [show IntKind.wrap .u64 0=0 from rfl,z2k (x:=p) p0 p1,Int.fdiv_eq_ediv_of_nonneg p (by decide)]
 have q0:0≤p / 2^32∧p / 2^32<4294967296:=by omega
 generalize p / 2^32=q at *
 have m3:intBits .and .u64 q 4294967295=q:=by rw [z7j (k:=.u64) (n:=32) (m:=4294967295) _ rfl (by decide)];omega
 simp only [Int.zero_add,z2k (x:=q) q0.1 (by omega),m3]
 rw [Int.add_zero,z2k (x:=q) q0.1 (by omega),Int.fdiv_eq_ediv_of_nonneg q (by decide),show q / 2^32=0 by omega]
 rfl
theorem zfd {a b:Int} (ha:0≤a∧a<4611686018427387904) (hb:0<b∧b<4611686018427387904):z3n a b=some ((a+b-1) / b):=by
 unfold z3n z1v divP remP
 simp only [Option.bind_some]
 rw [show (if a>0 then a else 0)=a by split<;>omega,show (if b>0 then b else 0)=b by split<;>omega,z2k (x:=a) (by omega) (by omega),z2k (x:=b) (by omega) (by omega),beq_eq_false_iff_ne.2 (show b≠0 by omega),cond_false,if_neg (by omega),if_neg (by omega),Option.bind_some,Option.bind_some]
 have hd:=Int.tdiv_eq_ediv_of_nonneg (b:=b) ha.1
 have hm:=Int.tmod_eq_emod_of_nonneg (b:=b) ha.1
 rw [hd,hm]
 have k1:=Int.mul_ediv_add_emod a b
 have k2:=Int.emod_lt_of_pos a hb.1
 have k3:=Int.emod_nonneg a (show b≠0 by omega)
 have k4:a / b≤a:=Int.ediv_le_self _ ha.1
 have k5:0≤a / b:=Int.ediv_nonneg ha.1 (by omega)
 rw [z2k (x:=a / b) k5 (by omega)]
 by_cases h:a % b>0
 ·rw [decide_eq_true h,cond_true,z2k (x:=a / b+1) (by omega) (by omega),wrap_i64 (n:=a / b+1) (by omega) (by omega)]
  have:(a+b-1) / b=a / b+1:=by
   rw [show a+b-1=(a % b-1)+b*(a / b+1) by rw [Int.mul_add];omega,Int.add_mul_ediv_left _ _ (by omega),Int.ediv_eq_zero_of_lt (by omega) (by omega)];omega
  rw [this]
 ·rw [decide_eq_false h,cond_false,wrap_i64 (n:=a / b) (by omega) (by omega)]
  have:(a+b-1) / b=a / b:=by
   rw [show a+b-1=(a % b+b-1)+b*(a / b) by omega,Int.add_mul_ediv_left _ _ (by omega),Int.ediv_eq_zero_of_lt (by omega) (by omega)];omega
  rw [this]
theorem zh0 {a b:Int} (ha:0≤a∧a<4611686018427387904) (hb:0≤b∧b<4611686018427387904):z2i a b=some (a+b):=by
 unfold z2i z1v
 simp only [Option.bind_some]
 rw [show (if a>0 then a else 0)=a by split<;>omega,show (if b>0 then b else 0)=b by split<;>omega,z2k (x:=a) (by omega) (by omega),z2k (x:=b) (by omega) (by omega),z2k (x:=a+b) (by omega) (by omega),if_neg (by omega),wrap_i64 (n:=a+b) (by omega) (by omega)]
theorem zku {a b:Int} (ha:0≤a∧a<4294967296) (hb:0≤b∧b<1073741824):z56 a b=some (a*b):=by
 have p0:0≤a*b:=Int.mul_nonneg ha.1 hb.1
 have p1:a*b<4611686018427387904:=by
  have h1:a*b≤4294967295*b:=Int.mul_le_mul_of_nonneg_right (by omega) hb.1
  omega
 unfold z56 z1v
 simp only [Option.bind_some]
 rw [show (if a>0 then a else 0)=a by split<;>omega,show (if b>0 then b else 0)=b by split<;>omega,z2k (x:=a) (by omega) (by omega),z2k (x:=b) (by omega) (by omega),zht ha ⟨hb.1,by omega⟩,Option.bind_some]
 simp only
 rw [decide_eq_false (by omega),cond_false,if_neg (by omega),wrap_i64 (by omega) (by omega)]
structure Fst (e:One) (j S:Int):Prop where
 seen:e.seen.last=j-1
 first:e.seen.first≤0
 last:e.meter.last=0
 slots:e.meter.slots=[S,0,0,0,0]
 tot:e.meter.total=S
 rest:e.resting=false
 woke:e.woken=false
theorem zk2 {s:z1e} {j:Int} (hj:0≤j∧j<1000) (hs:s.last=j-1) (hf:s.first≤0):∃ s',z3j s j=some (j,true,s')∧s'.last=j∧s'.first≤0:=by
 have he:z4j s.last j=some j:=by
  unfold z4j z64
  rw [wrap_i64 (n:=j) (by omega) (by omega),show shP .shl .i64 1 16=some 65536 from rfl,Option.bind_some,hs]
  by_cases h0:j-1<0
  ·rw [decide_eq_true h0];rfl
  ·rw [decide_eq_false h0,cond_false]
   have m1:intBits .and .i64 (j-1) (IntKind.wrap .i64 (65536-1))=j-1:=by
    rw [z7j (k:=.i64) (n:=16) (m:=(IntKind.wrap .i64 (65536-1))) _ rfl (by decide)];omega
   have m2:intBits .and .i64 65537 (IntKind.wrap .i64 (65536-1))=1:=rfl
   rw [m1,show j-(j-1)=1 by omega,show IntKind.wrap .i64 (IntKind.wrap .i64 1+65536)=65537 from rfl,m2,show decide ((1:Int)>IntKind.wrap .i64 (Int.tdiv 65536 2))=false from rfl,cond_false,
    show IntKind.wrap .i64 (9223372036854775807-1)=9223372036854775806 from rfl,decide_eq_false (by omega),Option.bind_some,cond_false,show j-1+1=j by omega,wrap_i64 (n:=j) (by omega) (by omega),decide_eq_false (by omega),cond_false,Option.bind_some]
 unfold z3j
 rw [he,Option.bind_some,hs]
 by_cases h0:j-1<0
 ·rw [decide_eq_true h0,cond_true,decide_eq_true (Int.le_refl j),cond_true]
  exact ⟨_,rfl,rfl,by simp only;omega⟩
 ·rw [decide_eq_false h0,cond_false,decide_eq_true (by omega),cond_true]
  obtain ⟨v,hv⟩:=zkv (k:=.u64) (a:=s.mask) (b:=if 64<IntKind.wrap .i64 (j-(j-1)) then 64 else IntKind.wrap .i64 (j-(j-1))) (by rw [show j-(j-1)=1 by omega];decide)
  rw [hv,Option.bind_some,decide_eq_true (by omega),cond_true]
  exact ⟨_,rfl,rfl,hf⟩
theorem zj3 {m:z4} {S n:Int} (h0:m.last=0) (hs:m.slots=[S,0,0,0,0]) (ht:m.total=S) (hS:0≤S∧S<1000000000) (hn:0≤n∧n<100000) {k:Nat} (hk:10≤k) :
  z2f k m n 1000=some ⟨[S+n,0,0,0,0],0,S+n⟩:=by
 obtain ⟨k,rfl⟩:∃ j,k=j+1:=⟨k-1,by omega⟩
 obtain ⟨sl,la,to⟩:=m
 simp only at h0 hs ht
 subst h0 hs ht
 unfold z2f
 rw [decide_eq_false (by omega),cond_false,zih (by decide) (by decide),Option.bind_some]
 show z1o (k+1) _ n 0 0 0 _=_
 rw [z1o,show decide ((0:Int)<0)=false from rfl,cond_false]
 simp only [List.getD_cons_zero,List.getD_cons_succ]
 rw [show Int.tmod 0 5=0 from rfl,show ∀ x:Int,ix [x,0,0,0,0] 0=some x from fun _=>rfl,Option.bind_some,zh0 (by omega) (by omega),Option.bind_some,Option.bind_some,show ∀ x y:Int,stx [x,0,0,0,0] 0 y=some [y,0,0,0,0] from fun _ _=>rfl,Option.bind_some,Option.bind_some]
 rfl
theorem zhp {L:Ly} {e:One} {p:TaiRtp} {j S n:Int} (hL:ix L.l 0=some e) (h:Fst e j S) (hj:0≤j∧j<1000) (hp:p.Seq=j) (hS:0≤S∧S<1000000000) (hn:0≤n∧n<10000) {k:Nat} (hk:10≤k) :
  ∃ e',z18 k L 0 p n 1000=some (j,true,⟨L.l.set 0 e'⟩)∧Fst e' (j+1) (S+(n+28))∧e'.came=true∧e'.f_until=301000:=by
 obtain ⟨h1,h2,h3,h4,h5,h6,h7⟩:=h
 obtain ⟨s',es,q1,q2⟩:=zk2 hj h1 h2
 unfold z18
 rw [z5r hL,Option.bind_some,Bool.not_true,cond_false,hL,Option.bind_some,hp,es,Option.bind_some]
 simp only [Bool.not_true,cond_false]
 rw [wrap_i64 (n:=n+28) (by omega) (by omega),zj3 (m:=⟨[e.meter.slots.getD 0 0,e.meter.slots.getD 1 0,e.meter.slots.getD 2 0,e.meter.slots.getD 3 0,e.meter.slots.getD 4 0],e.meter.last,e.meter.total⟩) (S:=S) h3 (by simp only [h4];rfl) h5 hS (by omega) hk,Option.bind_some,show z5b 1000=some 301000 from rfl,Option.bind_some]
 exact ⟨_,rfl,⟨by simp only;omega,q2,rfl,rfl,rfl,h6,rfl⟩,rfl,rfl⟩
theorem zk5 {L:Ly} {e:One} {S j:Int} (hL:ix L.l 0=some e) (h:Fst e j S) (hS:0≤S∧S<1000000) {k:Nat} (hk:10≤k) :
  zk k L 0 1000=some (if (S*2+999) / 1000>1 then (S*2+999) / 1000 else 1):=by
 obtain ⟨h1,h2,h3,h4,h5,h6,h7⟩:=h
 have hr:z26 k ⟨[S,0,0,0,0],0,S⟩ 1000=some (S*2):=by
  obtain ⟨k,rfl⟩:∃ j,k=j+6:=⟨k-6,by omega⟩
  unfold z26
  rw [zih (by decide) (by decide),Option.bind_some]
  show zi (k+6) _ ⟨[S,0,0,0,0],0,S⟩ 0 (-4)=_
  have st:∀ (k:Nat) (x:Int),x<0→-5<x→∀ K:Int→Option Int,zi (k+1) K ⟨[S,0,0,0,0],0,S⟩ 0 x=zi k K ⟨[S,0,0,0,0],0,S⟩ 0 (x+1):=fun k x hx hx2 K=>by
   rw [zi]
   simp only
   rw [decide_eq_true (by omega),cond_true,decide_eq_false (by omega),cond_false,Option.bind_some,cond_false,wrap_i64 (n:=x+1) (by omega) (by omega)]
   rfl
  rw [st _ _ (by decide) (by decide),st _ _ (by decide) (by decide),st _ _ (by decide) (by decide),st _ _ (by decide) (by decide)]
  show zi (k+1+1) _ ⟨[S,0,0,0,0],0,S⟩ 0 0=_
  rw [zi]
  simp only [List.getD_cons_zero,List.getD_cons_succ]
  rw [show decide ((0:Int)≤0)=true from rfl,cond_true,cond_true,Option.bind_some,show decide ((0:Int)>IntKind.wrap .i64 (0-5))=true from rfl,cond_true,show Int.tmod 0 5=0 from rfl,show ix [S,0,0,0,0] 0=some S from rfl,Option.bind_some,zh0 (by decide) (by omega),Option.bind_some,Int.zero_add,show IntKind.wrap .i64 (0+1)=1 from rfl,zi]
  simp only
  rw [show decide ((1:Int)≤0)=false from rfl,cond_false,zku (by omega) (by decide),Option.bind_some,zfd (by omega) (by decide),Option.bind_some,show (S*1000000+500000-1) / 500000=S*2 by omega]
 unfold zk
 rw [z5r hL,Option.bind_some,Bool.not_true,cond_false,hL,Option.bind_some,h6,h7,cond_false,Option.bind_some,cond_false,h3,h4,h5]
 simp only [List.getD_cons_zero,List.getD_cons_succ]
 rw [hr,Option.bind_some,zfd (by omega) (by decide),Option.bind_some,show S*2+1000-1=S*2+999 by omega]
theorem zkk:z5y 300=some true:=by kernel_rfl
def ly1:Ly:=⟨lay1.map fun l=>⟨l,⟨-1,-1,0,0⟩,⟨[0,0,0,0,0],0,0⟩,false,0,false,false,0⟩⟩
theorem new301:z34 300 lay1=some (some ly1):=by kernel_rfl
theorem zk9 {kE0:Int→Int→Ly→Option Bool} {kE1:Bool→Option Bool} {late n s:Int} (hn:1≤n∧n≤31) (hs:1≤s∧s≤901):∀ m k:Nat,∀ (i:Int) (L:Ly) (e:One),n-i=m→0≤i→m+100≤k→ix L.l 0=some e→Fst e i (i*(s+48))→(0<i→e.came=true∧e.f_until=301000) →
  ∃ L' e',z1b k kE0 kE1 late lay1 n s (i*(s+48)) i L=kE0 late (n*(s+48)) L'∧ix L'.l 0=some e'∧Fst e' n (n*(s+48))∧e'.came=true∧e'.f_until=301000:=by
 intro m
 induction m with
 | zero =>
  intro k i L e hi i0 hk hL hF hc
  obtain ⟨k,rfl⟩:∃ j,k=j+1:=⟨k-1,by omega⟩
  obtain rfl:i=n:=by omega
  rw [z1b,decide_eq_false (by omega),cond_false]
  exact ⟨L,e,rfl,hL,hF,hc (by omega)⟩
 | succ m ih =>
  intro k i L e hi i0 hk hL hF hc
  obtain ⟨k,rfl⟩:∃ j,k=j+1:=⟨k-1,by omega⟩
  have hS:i*(s+48)≤31*(s+48):=Int.mul_le_mul_of_nonneg_right (by omega) (by omega)
  have hS0:0≤i*(s+48):=Int.mul_nonneg i0 (by omega)
  have hT:i*(s+48)+(s+48)=(i+1)*(s+48):=by rw [Int.add_mul];omega
  rw [z1b,decide_eq_true (by omega),cond_true,show ix lay1 0=some ⟨⟨#[97]⟩,1,100⟩ from rfl,Option.bind_some,wrap16 (n:=i) (by omega) (by omega)]
  obtain ⟨E,pay,hE,hp,hpk⟩:=zjj (k:=k) (by omega) zkg (seq:=i) (stamp:=1) (size:=s) (key:=i==0) (by omega) (by omega)
  rw [hpk,Option.bind_some]
  obtain ⟨p,hrd,hps⟩:=zbc (k:=k) (by omega) (seq:=i) (stamp:=1) (ssrc:=1) (E:=E) (pay:=pay) hE (by omega) (by omega)
  have hlen:((pkt i 1 1 E pay).length:Int)=s+20:=by rw [zil hE];omega
  simp only at hrd hps ⊢
  rw [hrd,Option.bind_some,hlen]
  obtain ⟨e',hpa,hF',hc'⟩:=zhp hL hF (p:=p) (n:=s+20) (by omega) hps (by omega) (by omega) (k:=k) (by omega)
  simp only
  rw [hpa,Option.bind_some]
  simp only [Bool.not_true,cond_false]
  rw [wrap_i64 (n:=i*(s+48)+(s+20)) (by omega) (by omega),wrap_i64 (n:=i*(s+48)+(s+20)+28) (by omega) (by omega),wrap_i64 (n:=i+1) (by omega) (by omega),show i*(s+48)+(s+20)+28=(i+1)*(s+48) by omega]
  exact ih k (i+1) _ e' (by omega) (by omega) (by omega) (ix_set (i:=0) hL) (by rw [show (i+1)*(s+48)=i*(s+48)+(s+20+28) by omega];exact hF') fun _=>hc'
theorem layerCosts_p (x0 x1 x2:Int):z3d 300 x0 x1 x2=some true:=by
 obtain ⟨a,ha,a0,a1⟩:=zfh (x:=x0) (hi:=30) (by omega) (by omega)
 obtain ⟨b,hb,b0,b1⟩:=zfh (x:=x1) (hi:=900) (by omega) (by omega)
 unfold z3d
 rw [show z34 300 [⟨⟨#[97]⟩,1,100⟩]=some (some ly1) from new301,Option.bind_some]
 simp only
 rw [ha,Option.bind_some,hb,Option.bind_some,wrap_i64 (n:=1+a) (by omega) (by omega),wrap_i64 (n:=1+b) (by omega) (by omega)]
 generalize hK:(fun (r83_2 r83_11:Int) (yg32:z5)=>_)=K
 obtain ⟨L,e,hl,hL,hF,hc,hu⟩:=zk9 (kE0:=K) (kE1:=fun r171_6=>some r171_6) (late:=x2) (n:=1+a) (s:=1+b) (by omega) (by omega) (1+a).toNat 300 0 ly1 _ (by omega) (by omega) (by omega) rfl ⟨rfl,by decide,rfl,by rw [Int.zero_mul],by rw [Int.zero_mul],rfl,rfl⟩ (by omega)
 rw [Int.zero_mul] at hl
 refine Eq.trans hl ?_
 rw [← hK]
 have hS:(1+a)*(1+b+48)≤31*(1+b+48):=Int.mul_le_mul_of_nonneg_right (by omega) (by omega)
 have hS0:0≤(1+a)*(1+b+48):=Int.mul_nonneg (by omega) (by omega)
 generalize (1+a)*(1+b+48)=S at *
 have m1:intBits .and .i64 x2 1073741823=x2 % 2^30:=z7j (k:=.i64) (n:=30) (m:=1073741823) _ rfl (by decide)
 obtain ⟨c,hcc⟩:∃ c,c=if (S*2+999) / 1000>1 then (S*2+999) / 1000 else 1:=⟨_,rfl⟩
 have hcost:=zk5 hL hF (by omega) (k:=300) (by omega)
 have hcw:(if 1>(IntKind.wrap .i64 (Int.tdiv (IntKind.wrap .i64 ((IntKind.wrap .i64 ((IntKind.wrap .i64 (S*2))+1000))-1)) 1000)) then 1 else (IntKind.wrap .i64 (Int.tdiv (IntKind.wrap .i64 ((IntKind.wrap .i64 ((IntKind.wrap .i64 (S*2))+1000))-1)) 1000)))=c:=by
  rw [wrap_i64 (n:=S*2) (by omega) (by omega),wrap_i64 (n:=S*2+1000) (by omega) (by omega),wrap_i64 (n:=S*2+1000-1) (by omega) (by omega),Int.tdiv_eq_ediv_of_nonneg (by omega),wrap_i64 (n:=(S*2+1000-1) / 1000) (by omega) (by omega),hcc]
  split<;>split<;>omega
 rw [← hcc] at hcost
 simp only [m1]
 rw [hcost,Option.bind_some,hcw,show (c != c)=false by simp,cond_false,zij hL,hc,hF.rest,hu]
 rw [wrap_i64 (n:=1000+x2 % 2^30) (by omega) (by omega)]
 generalize 1000+x2 % 2^30=t
 simp only [Bool.true_and,Bool.not_false]
 rw [show decide ((300999:Int)<301000)=true from rfl,Option.bind_some,Bool.not_true,Option.bind_some,cond_false,zij hL,hc,hF.rest,hu]
 simp only [Bool.true_and,Bool.not_false]
 rw [show decide ((301000:Int)<301000)=false from rfl,Option.bind_some,Option.bind_some,cond_false]
 have r1:∃ e1,zw 300 L 0 true 1000=some ⟨L.l.set 0 e1⟩∧e1.resting=true∧e1.kept=c:=by
  unfold zw
  rw [z5r hL,Option.bind_some,Bool.not_true,cond_false,hL,Option.bind_some,hF.rest,show (false==true)=false from rfl,Option.bind_some,cond_false,cond_true,hcost,Option.bind_some,Option.bind_some]
  exact ⟨_,rfl,rfl,rfl⟩
 obtain ⟨e1,hr1,c1,c2⟩:=r1
 rw [hr1,Option.bind_some]
 have hL1:ix (⟨L.l.set 0 e1⟩:Ly).l 0=some e1:=ix_set (i:=0) hL
 generalize (⟨L.l.set 0 e1⟩:Ly)=L1 at *
 have k1:∀ (M:Ly) (f:One) (t:Int),ix M.l 0=some f→(f.resting||f.woken)=true→f.kept=c→zk 300 M 0 t=some c:=fun M f t hM hf hk=>by
  unfold zk
  rw [z5r hM,Option.bind_some,Bool.not_true,cond_false,hM,Option.bind_some]
  cases hq:f.resting with
  | true=>rw [cond_true,Option.bind_some,cond_true,hk]
  | false=>rw [hq,Bool.false_or] at hf;rw [cond_false,hf,Option.bind_some,cond_true,hk]
 rw [k1 L1 e1 t hL1 (by rw [c1];rfl) c2,Option.bind_some]
 have r2:∃ e2,zw 300 L1 0 false t=some ⟨L1.l.set 0 e2⟩∧e2.resting=false∧e2.woken=true∧e2.kept=c:=by
  unfold zw
  rw [z5r hL1,Option.bind_some,Bool.not_true,cond_false,hL1,Option.bind_some,c1,show (true==false)=false from rfl,Option.bind_some,cond_false,cond_false,Option.bind_some]
  exact ⟨_,rfl,rfl,rfl,c2⟩
 obtain ⟨e2,hr2,d1,d2,d3⟩:=r2
 rw [hr2,Option.bind_some]
 have hL2:ix (⟨L1.l.set 0 e2⟩:Ly).l 0=some e2:=ix_set (i:=0) hL1
 generalize (⟨L1.l.set 0 e2⟩:Ly)=L2 at *
 rw [k1 L2 e2 t hL2 (by rw [d2,Bool.or_true]) d3,Option.bind_some,beq_self_eq_true,cond_true,Option.bind_some,cond_true,zkb hL2,Option.bind_some,d2,Option.bind_some,cond_true,zja hL2,Option.bind_some,d1,Bool.not_false,Option.bind_some,cond_true,zkk,Option.bind_some,Option.bind_some]
end Lay
theorem layerCosts_ev (a0 a1 a2:Int):ev G X0 13 [] [(DT.int .i64).val a0,(DT.int .i64).val a1,(DT.int .i64).val a2] []=some ([.v (bV true)],[]):=by
 obtain ⟨_,h3,rfl⟩:=zak 300 (h:=[]) (σ:=[]) a0 a1 a2 _ (Lay.layerCosts_p a0 a1 a2)
 exact h3
end Go.Ev
