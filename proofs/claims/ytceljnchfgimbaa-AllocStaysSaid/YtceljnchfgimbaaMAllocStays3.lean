/- A part of the proof that follows: what is picked fits, and is the best, or what was; what was stays only where the best would be too near the budget; picked again it stays -/
import Derived.Test.YtceljnchfgimbaaMAllocStays2
namespace Go.Ev
open Go.Proofs
set_option linter.unusedVariables false
set_option linter.unusedSimpArgs false
set_option maxRecDepth 100000
noncomputable section
abbrev KT9:=Exit→Env→H→Option (List C × H)
variable (rec : CallF) (loop : LoopV) (σ : Stamp)
def zr18_Better_c0 : Code:=(codeAt (bodyOf Try.f127) [1,0,1,0,0])
def zr18_Better_l0 : Lv:=⟨0,16,[(0,0)]⟩
def zr18_Better_k0 : KT9:=(kBlock 0 (kSeq G rec loop (codeAt (bodyOf Try.f127) [1,1]) ⟨16,16,[]⟩ (1::0::σ) (finC G false Try.f127 (1::σ))))
theorem zr18_Better_entry (x0 : V) (x1 : V) (h : H) : cvBody G rec loop 127 σ [x0,x1] h =
(boxO false (0::0::0::σ) 2 (List.replicate 24 []::h) x0).bind fun q1 =>
(boxO false (1::0::0::σ) 3 q1.2 x1).bind fun q2 =>
(loop zr18_Better_c0 zr18_Better_l0 (1::0::1::0::σ) (envL [(2,q1.1),(3,q2.1),(6,(.p (.int .i64 0)))]) q2.2).bind fun r3 => zr18_Better_k0 rec loop σ r3.1 r3.2.1 r3.2.2:=by kernel_rfl
theorem zr18_Better_r0 (x2 : V) (x3 : V) (x6 : Int) (h : H) : cvRound G rec loop zr18_Better_c0 zr18_Better_l0 σ (envL [(2,x2),(3,x3),(6,(.p (.int .i64 x6)))]) h =
bif decide (x6 < 4) then (
(iA 4 1 x2 x6).bind fun t4 =>
(ldO false 1 h t4).bind fun t5 =>
(castI .i64 t5).bind fun n6 =>
(iA 4 1 x3 x6).bind fun t7 =>
(ldO false 1 h t7).bind fun t8 =>
(castI .i64 t8).bind fun n9 =>
bif n6 != n9 then (
(iA 4 1 x2 x6).bind fun t10 =>
(ldO false 1 h t10).bind fun t11 =>
(castI .i64 t11).bind fun n12 =>
(iA 4 1 x3 x6).bind fun t13 =>
(ldO false 1 h t13).bind fun t14 =>
(castI .i64 t14).bind fun n15 =>
some (.ret,(envL [(4,(.p (.bool (decide (n12 > n15)))))]),h))
else (
loop zr18_Better_c0 zr18_Better_l0 (1::σ) (envL [(2,x2),(3,x3),(6,(.p (.int .i64 (IntKind.wrap .i64 (x6 + 1)))))]) h))
else (
some ((.exit 0),(envL []),h)):=by kernel_rfl
theorem zr18_Better_a0_0  (h : H) : zr18_Better_k0 rec loop σ (.exit 0) (envL []) h =
fin false σ h [(.p (.bool false))]:=by kernel_rfl
theorem zr18_Better_a0_ret (x4 : Bool) (h : H) : zr18_Better_k0 rec loop σ .ret (envL [(4,(.p (.bool x4)))]) h =
fin false σ h [(.p (.bool x4))]:=by kernel_rfl
end
end Go.Ev
namespace Go.Ev
open Go.Proofs
set_option linter.unusedVariables false
set_option linter.unusedSimpArgs false
set_option maxRecDepth 100000
section
variable {β α : Type} {Q : β→α→Prop} {K : Exit × Env × H→Option α}
def p_zr18_Better_l0 {β : Type} (k : Nat) (kE0 : Unit→Option β) (kE1 : Bool→Option β) (x6 : Int) (yg4 : (List Int)) (yg8 : (List Int)) : Option β:=match k with
| 0 => none
| k + 1 =>
bif decide (x6 < 4) then (
(ix [((yg4.getD 0 0)),((yg4.getD 1 0)),((yg4.getD 2 0)),((yg4.getD 3 0))] x6).bind fun a16 =>
(ix [((yg8.getD 0 0)),((yg8.getD 1 0)),((yg8.getD 2 0)),((yg8.getD 3 0))] x6).bind fun a18 =>
bif a16 != a18 then (
(ix [((yg4.getD 0 0)),((yg4.getD 1 0)),((yg4.getD 2 0)),((yg4.getD 3 0))] x6).bind fun a21 =>
(ix [((yg8.getD 0 0)),((yg8.getD 1 0)),((yg8.getD 2 0)),((yg8.getD 3 0))] x6).bind fun a23 =>
kE1 (decide (a21 > a23)))
else (
p_zr18_Better_l0 k kE0 kE1 (IntKind.wrap .i64 (x6 + 1)) ([((yg4.getD 0 0)),((yg4.getD 1 0)),((yg4.getD 2 0)),((yg4.getD 3 0))]) ([((yg8.getD 0 0)),((yg8.getD 1 0)),((yg8.getD 2 0)),((yg8.getD 3 0))])))
else (
kE0 ())
def p_zr18_Better (k : Nat) (x0 : (List Int)) (x1 : (List Int)) : Option (Bool) :=
p_zr18_Better_l0 k (fun (_ : Unit) =>
some (false)) (fun r32_4 =>
some (r32_4)) 0 x0 x1
theorem zr18_Better_l0_ok {h : H}  {kE0 : Unit→Option β} {kE1 : Bool→Option β} (hE0 : ∀ (_u : Unit) (H25 : Go.Ev.H) (_ : Fm 24 h [] [] [] H25),Sim (kE0 ()) (K ((.exit 0),(envL []),H25)) Q) (hE1 : ∀ (q4 : Bool) (H27 : Go.Ev.H) (_ : Fm 24 h [] [] [] H27),Sim (kE1 q4) (K (.ret,(envL [(4,(.p (.bool q4)))]),H27)) Q) (k : Nat) : ∀ (x6 : Int) (yg4 : (List Int)) (yg8 : (List Int)) (s11 : Stamp) (s13 : Stamp) (H9 : Go.Ev.H) (_ : Fm 24 h [] [(2,s11,List.map C.v [(.p (.int .i64 ((yg4.getD 0 0)))),(.p (.int .i64 ((yg4.getD 1 0)))),(.p (.int .i64 ((yg4.getD 2 0)))),(.p (.int .i64 ((yg4.getD 3 0))))]),(3,s13,List.map C.v [(.p (.int .i64 ((yg8.getD 0 0)))),(.p (.int .i64 ((yg8.getD 1 0)))),(.p (.int .i64 ((yg8.getD 2 0)))),(.p (.int .i64 ((yg8.getD 3 0))))])] [] H9) {σ : Stamp},Sim (p_zr18_Better_l0 k kE0 kE1 x6 yg4 yg8) ((cvL G X0 zr18_Better_c0 zr18_Better_l0 σ (envL [(2,(.ref ⟨h.length,2,0,s11,[]⟩ 0)),(3,(.ref ⟨h.length,3,0,s13,[]⟩ 0)),(6,(.p (.int .i64 x6)))]) H9).bind K) Q:=by
 induction k with
 | zero => intros; exact .no
 | succ k ih =>
  intro x6 yg4 yg8 s11 s13 H9 S10 σ
  rw [p_zr18_Better_l0]
  refine .round (Sim.ext (zr18_Better_r0 _ _ _ _ _ _ _) ?_)
  refine .cq ?_ ?_
  ·refine .bd fun a16 h17 => ?_
   refine .op (iA_ok h17 rfl) ?_
   refine .op ((S10.atG (i:=0) rfl).ldIx (xs:=[((yg4.getD 0 0)),((yg4.getD 1 0)),((yg4.getD 2 0)),((yg4.getD 3 0))]) (j:=0) (n:=4) (f:=fun z => .p (.int .i64 z)) rfl h17 rfl) ?_
   refine .ci ?_
   refine .bd fun a18 h19 => ?_
   refine .op (iA_ok h19 rfl) ?_
   refine .op ((S10.atG (i:=1) rfl).ldIx (xs:=[((yg8.getD 0 0)),((yg8.getD 1 0)),((yg8.getD 2 0)),((yg8.getD 3 0))]) (j:=0) (n:=4) (f:=fun z => .p (.int .i64 z)) rfl h19 rfl) ?_
   refine .ci ?_
   refine .cq ?_ ?_
   ·refine .bd fun a21 h22 => ?_
    refine .op (iA_ok h22 rfl) ?_
    refine .op ((S10.atG (i:=0) rfl).ldIx (xs:=[((yg4.getD 0 0)),((yg4.getD 1 0)),((yg4.getD 2 0)),((yg4.getD 3 0))]) (j:=0) (n:=4) (f:=fun z => .p (.int .i64 z)) rfl h22 rfl) ?_
    refine .ci ?_
    refine .bd fun a23 h24 => ?_
    refine .op (iA_ok h24 rfl) ?_
    refine .op ((S10.atG (i:=1) rfl).ldIx (xs:=[((yg8.getD 0 0)),((yg8.getD 1 0)),((yg8.getD 2 0)),((yg8.getD 3 0))]) (j:=0) (n:=4) (f:=fun z => .p (.int .i64 z)) rfl h24 rfl) ?_
    refine .ci ?_
    exact hE1 (decide (a21 > a23)) H9 (S10.wk2 aN aN)
   exact ih (IntKind.wrap .i64 (x6 + 1)) ([((yg4.getD 0 0)),((yg4.getD 1 0)),((yg4.getD 2 0)),((yg4.getD 3 0))]) ([((yg8.getD 0 0)),((yg8.getD 1 0)),((yg8.getD 2 0)),((yg8.getD 3 0))]) s11 s13 H9 (S10.wk2 (aC (aM 0 rfl) (aC (aM 1 rfl) aN)) aN)
  exact hE0 () H9 (S10.wk2 aN aN)
theorem zr18_Better_ok (k : Nat) {h : H} {σ : Stamp} (x0 : (List Int)) {u0 : List V} (hu0 : (dA 4 (dI .i64)).R x0 u0) (x1 : (List Int)) {u1 : List V} (hu1 : (dA 4 (dI .i64)).R x1 u1) : Sim (p_zr18_Better k x0 x1) (ev G X0 127 σ [(.agg u0),(.agg u1)] h) (fun r s => s = ([.v (.p (.bool r))],h)):=by
 refine .ev rfl (Sim.ext (zr18_Better_entry _ _ _ _ _ _) ?_)
 rw [p_zr18_Better]
 obtain rfl : u0 = [(.p (.int .i64 ((x0.getD 0 0)))),(.p (.int .i64 ((x0.getD 1 0)))),(.p (.int .i64 ((x0.getD 2 0)))),(.p (.int .i64 ((x0.getD 3 0))))]:=dA_int hu0
 obtain rfl : u1 = [(.p (.int .i64 ((x1.getD 0 0)))),(.p (.int .i64 ((x1.getD 1 0)))),(.p (.int .i64 ((x1.getD 2 0)))),(.p (.int .i64 ((x1.getD 3 0))))]:=dA_int hu1
 have S0 : Fm 24 h [] [] [] (List.replicate 24 []::h):=Fm.start0
 obtain ⟨H1,e2,S3⟩:=S0.box (own:=false) (d:=2) (s:=(0::0::0::σ)) (xs:=[(.p (.int .i64 ((x0.getD 0 0)))),(.p (.int .i64 ((x0.getD 1 0)))),(.p (.int .i64 ((x0.getD 2 0)))),(.p (.int .i64 ((x0.getD 3 0))))]) (sC (sI _ _) (sC (sI _ _) (sC (sI _ _) (sC (sI _ _) sN)))) (by decide) rfl
 refine .op (e2) ?_
 obtain ⟨H5,e6,S7⟩:=S3.box (own:=false) (d:=3) (s:=(1::0::0::σ)) (xs:=[(.p (.int .i64 ((x1.getD 0 0)))),(.p (.int .i64 ((x1.getD 1 0)))),(.p (.int .i64 ((x1.getD 2 0)))),(.p (.int .i64 ((x1.getD 3 0))))]) (sC (sI _ _) (sC (sI _ _) (sC (sI _ _) (sC (sI _ _) sN)))) (by decide) rfl
 refine .op (e6) ?_
 refine .as (zr18_Better_l0_ok ?_ ?_ k 0 x0 x1 (0::0::0::σ) (1::0::0::σ) H5 (S7.wk2 (aC (aM 1 rfl) (aC (aM 0 rfl) aN)) aN))
 ·intro _u H30 S31
  refine .ext (zr18_Better_a0_0 _ _ _ _) ?_
  exact .fin (S31.finN (lC (sB _).lv lN)) rfl
 ·intro r32_4 H33 S34
  refine .ext (zr18_Better_a0_ret _ _ _ _ _) ?_
  exact .fin (S34.finN (lC (sB _).lv lN)) rfl
end
end Go.Ev
namespace Go.Ev
open Go.Proofs
set_option linter.unusedVariables false
set_option linter.unusedSimpArgs false
set_option maxRecDepth 100000
noncomputable section
abbrev KT10:=Exit→Env→H→Option (List C × H)
variable (rec : CallF) (loop : LoopV) (σ : Stamp)
def zr18_first_c0 : Code:=(codeAt (bodyOf Try.f128) [1,0,1,0,0])
def zr18_first_l0 : Lv:=⟨0,16,[(0,0)]⟩
def zr18_first_k0 : KT10:=(kBlock 0 (kSeq G rec loop (codeAt (bodyOf Try.f128) [1,1]) ⟨16,16,[]⟩ (1::0::σ) (finC G false Try.f128 (1::σ))))
theorem zr18_first_entry (x0 : V) (x1 : V) (h : H) : cvBody G rec loop 128 σ [x0,x1] h =
(lenO x0).bind fun t1 =>
(castI .i64 t1).bind fun n2 =>
(loop zr18_first_c0 zr18_first_l0 (1::0::1::0::σ) (envL [(0,x0),(1,x1),(7,(.p (.int .i64 n2))),(8,(.p (.int .i64 0)))]) (List.replicate 30 []::h)).bind fun r3 => zr18_first_k0 rec loop σ r3.1 r3.2.1 r3.2.2:=by kernel_rfl
theorem zr18_first_r0 (x0 : V) (x1 : V) (x7 : Int) (x8 : Int) (h : H) : cvRound G rec loop zr18_first_c0 zr18_first_l0 σ (envL [(0,x0),(1,x1),(7,(.p (.int .i64 x7))),(8,(.p (.int .i64 x8)))]) h =
bif decide (x8 < x7) then (
(iS 1 x0 x8).bind fun t4 =>
(ldO false 1 h t4).bind fun t5 =>
(castI .i64 t5).bind fun n6 =>
(iS 1 x1 x8).bind fun t7 =>
(ldO false 1 h t7).bind fun t8 =>
(castI .i64 t8).bind fun n9 =>
bif n6 != n9 then (
(iS 1 x0 x8).bind fun t10 =>
(ldO false 1 h t10).bind fun t11 =>
(castI .i64 t11).bind fun n12 =>
(iS 1 x1 x8).bind fun t13 =>
(ldO false 1 h t13).bind fun t14 =>
(castI .i64 t14).bind fun n15 =>
some (.ret,(envL [(4,(.p (.bool (decide (n12 < n15)))))]),h))
else (
loop zr18_first_c0 zr18_first_l0 (1::σ) (envL [(0,x0),(1,x1),(7,(.p (.int .i64 x7))),(8,(.p (.int .i64 (IntKind.wrap .i64 (x8 + 1)))))]) h))
else (
some ((.exit 0),(envL []),h)):=by kernel_rfl
theorem zr18_first_a0_0  (h : H) : zr18_first_k0 rec loop σ (.exit 0) (envL []) h =
fin false σ h [(.p (.bool false))]:=by kernel_rfl
theorem zr18_first_a0_ret (x4 : Bool) (h : H) : zr18_first_k0 rec loop σ .ret (envL [(4,(.p (.bool x4)))]) h =
fin false σ h [(.p (.bool x4))]:=by kernel_rfl
end
end Go.Ev
namespace Go.Ev
open Go.Proofs
set_option linter.unusedVariables false
set_option linter.unusedSimpArgs false
set_option maxRecDepth 100000
section
variable {β α : Type} {Q : β→α→Prop} {K : Exit × Env × H→Option α}
def p_zr18_first_l0 {β : Type} (k : Nat) (kE0 : Unit→Option β) (kE1 : Bool→Option β) (x0 : (List Int)) (x1 : (List Int)) (x7 : Int) (x8 : Int) : Option β:=match k with
| 0 => none
| k + 1 =>
bif decide (x8 < x7) then (
(ix x0 x8).bind fun a8 =>
(ix x1 x8).bind fun a11 =>
bif a8 != a11 then (
(ix x0 x8).bind fun a15 =>
(ix x1 x8).bind fun a18 =>
kE1 (decide (a15 < a18)))
else (
p_zr18_first_l0 k kE0 kE1 x0 x1 x7 (IntKind.wrap .i64 (x8 + 1))))
else (
kE0 ())
def p_zr18_first (k : Nat) (x0 : (List Int)) (x1 : (List Int)) : Option (Bool) :=
p_zr18_first_l0 k (fun (_ : Unit) =>
some (false)) (fun r28_4 =>
some (r28_4)) x0 x1 ((x0.length : Int)) 0
theorem zr18_first_l0_ok {h : H}  {kE0 : Unit→Option β} {kE1 : Bool→Option β} (hE0 : ∀ (_u : Unit) (H21 : Go.Ev.H) (_ : Fm 30 h [] [] [] H21),Sim (kE0 ()) (K ((.exit 0),(envL []),H21)) Q) (hE1 : ∀ (q4 : Bool) (H23 : Go.Ev.H) (_ : Fm 30 h [] [] [] H23),Sim (kE1 q4) (K (.ret,(envL [(4,(.p (.bool q4)))]),H23)) Q) (k : Nat) : ∀ (x0 : (List Int)) (x1 : (List Int)) (x7 : Int) (x8 : Int) (v3 : V) (h4 : SlH h (dI .i64) x0 v3) (v5 : V) (h6 : SlH h (dI .i64) x1 v5) (H1 : Go.Ev.H) (_ : Fm 30 h [] [] [] H1) {σ : Stamp},Sim (p_zr18_first_l0 k kE0 kE1 x0 x1 x7 x8) ((cvL G X0 zr18_first_c0 zr18_first_l0 σ (envL [(0,v3),(1,v5),(7,(.p (.int .i64 x7))),(8,(.p (.int .i64 x8)))]) H1).bind K) Q:=by
 induction k with
 | zero => intros; exact .no
 | succ k ih =>
  intro x0 x1 x7 x8 v3 h4 v5 h6 H1 S2 σ
  rw [p_zr18_first_l0]
  refine .round (Sim.ext (zr18_first_r0 _ _ _ _ _ _ _ _) ?_)
  refine .cq ?_ ?_
  ·refine .bd fun a8 h9 => ?_
   refine .op ((S2.low h4).iS h9 rfl) ?_
   obtain ⟨_,rfl,hE10⟩:=(S2.low h4).el h9 rfl
   refine .op (hE10.ld (j:=0) rfl) ?_
   refine .ci ?_
   refine .bd fun a11 h12 => ?_
   refine .op ((S2.low h6).iS h12 rfl) ?_
   obtain ⟨_,rfl,hE13⟩:=(S2.low h6).el h12 rfl
   refine .op (hE13.ld (j:=0) rfl) ?_
   refine .ci ?_
   refine .cq ?_ ?_
   ·refine .bd fun a15 h16 => ?_
    refine .op ((S2.low h4).iS h16 rfl) ?_
    obtain ⟨_,rfl,hE17⟩:=(S2.low h4).el h16 rfl
    refine .op (hE17.ld (j:=0) rfl) ?_
    refine .ci ?_
    refine .bd fun a18 h19 => ?_
    refine .op ((S2.low h6).iS h19 rfl) ?_
    obtain ⟨_,rfl,hE20⟩:=(S2.low h6).el h19 rfl
    refine .op (hE20.ld (j:=0) rfl) ?_
    refine .ci ?_
    exact hE1 (decide (a15 < a18)) H1 (S2.wk2 aN aN)
   exact ih x0 x1 x7 (IntKind.wrap .i64 (x8 + 1)) v3 h4 v5 h6 H1 (S2.wk2 aN aN)
  exact hE0 () H1 (S2.wk2 aN aN)
theorem zr18_first_ok (k : Nat) {h : H} {σ : Stamp} (x0 : List Int) {u0 : V} (hu0 : SlH h (dI .i64) x0 u0) (x1 : List Int) {u1 : V} (hu1 : SlH h (dI .i64) x1 u1) : Sim (p_zr18_first k x0 x1) (ev G X0 128 σ [u0,u1] h) (fun r s => s = ([.v (.p (.bool r))],h)):=by
 refine .ev rfl (Sim.ext (zr18_first_entry _ _ _ _ _ _) ?_)
 rw [p_zr18_first]
 have S0 : Fm 30 h [] [] [] (List.replicate 30 []::h):=Fm.start0
 refine .op ((S0.low hu0).len) ?_
 refine .ci ?_
 refine .as (zr18_first_l0_ok ?_ ?_ k x0 x1 ((x0.length : Int)) 0 u0 hu0 u1 hu1 (List.replicate 30 []::h) (S0.wk2 aN aN))
 ·intro _u H26 S27
  refine .ext (zr18_first_a0_0 _ _ _ _) ?_
  exact .fin (S27.finN (lC (sB _).lv lN)) rfl
 ·intro r28_4 H29 S30
  refine .ext (zr18_first_a0_ret _ _ _ _ _) ?_
  exact .fin (S30.finN (lC (sB _).lv lN)) rfl
end
end Go.Ev
namespace Go.Ev
open Go.Proofs
set_option linter.unusedVariables false
set_option linter.unusedSimpArgs false
set_option maxRecDepth 100000
noncomputable section
abbrev KT11:=Exit→Env→H→Option (List C × H)
variable (rec : CallF) (loop : LoopV) (σ : Stamp)
theorem zr18_place_entry (x0 : V) (x1 : Int) (h : H) : cvBody G rec loop 80 σ [x0,(.p (.int .i64 x1))] h =
(boxO false (0::0::0::σ) 2 (List.replicate 39 []::h) x0).bind fun q1 =>
(bif decide (x1 ≥ 0) then ((fA q1.1 1).bind fun t2 =>
(ldO false 1 q1.2 t2).bind fun t3 =>
(lenO t3).bind fun t4 =>
(castI .i64 t4).bind fun n5 =>
some (decide (x1 < n5))) else (some false)).bind fun b6 =>
(bif b6 then ((fA q1.1 2).bind fun t7 =>
(ldO false 1 q1.2 t7).bind fun t8 =>
(lenO t8).bind fun t9 =>
(castI .i64 t9).bind fun n10 =>
some (decide (x1 < n10))) else (some false)).bind fun b11 =>
(bif b11 then ((fA q1.1 1).bind fun t12 =>
(ldO false 1 q1.2 t12).bind fun t13 =>
(iS 1 t13 x1).bind fun t14 =>
(ldO false 1 q1.2 t14).bind fun t15 =>
(castI .i64 t15).bind fun n16 =>
some (decide (n16 ≥ 0))) else (some false)).bind fun b17 =>
(bif b17 then ((fA q1.1 0).bind fun t18 =>
(ldO false 1 q1.2 t18).bind fun t19 =>
(castI .i64 t19).bind fun n20 =>
some (decide (n20 ≥ 0))) else (some false)).bind fun b21 =>
(bif b21 then ((fA q1.1 0).bind fun t22 =>
(ldO false 1 q1.2 t22).bind fun t23 =>
(castI .i64 t23).bind fun n24 =>
some (decide (n24 ≤ 3))) else (some false)).bind fun b25 =>
fin false σ q1.2 [(.p (.bool b25))]:=by kernel_rfl
end
end Go.Ev
namespace Go.Ev
open Go.Proofs
set_option linter.unusedVariables false
set_option linter.unusedSimpArgs false
set_option maxRecDepth 100000
section
variable {β α : Type} {Q : β→α→Prop} {K : Exit × Env × H→Option α}
def p_zr18_place (x0 : TaiChoice) (x1 : Int) : Option (Bool) :=
(bif decide (x1 ≥ 0) then (some (decide (x1 < ((x0.Costs.length : Int))))) else (some false)).bind fun b9 =>
(bif b9 then (some (decide (x1 < ((x0.Goods.length : Int))))) else (some false)).bind fun b13 =>
(bif b13 then ((ix x0.Costs x1).bind fun a17 =>
some (decide (a17 ≥ 0))) else (some false)).bind fun b20 =>
(bif b20 then (some (decide (x0.Class ≥ 0))) else (some false)).bind fun b24 =>
(bif b24 then (some (decide (x0.Class ≤ 3))) else (some false)).bind fun b28 =>
some (b28)
theorem zr18_place_ok {h : H} {σ : Stamp} (x0 : TaiChoice) {u0 : List V} (hu0 : dTaiChoice.R x0 u0) (x1 : Int) : Sim (p_zr18_place x0 x1) (ev G X0 80 σ [(.agg u0),(.p (.int .i64 x1))] h) (fun r s => s = ([.v (.p (.bool r))],h)):=by
 refine .ev rfl (Sim.ext (zr18_place_entry _ _ _ _ _ _) ?_)
 rw [p_zr18_place]
 obtain ⟨v1,v3,rfl,h2,h4⟩:=dTaiChoice.inv hu0
 have S0 : Fm 39 h [] [] [] (List.replicate 39 []::h):=Fm.start0
 obtain ⟨H5,e6,S7⟩:=S0.box (own:=false) (d:=2) (s:=(0::0::0::σ)) (xs:=[(.p (.int .i64 x0.Class)),v1,v3]) (sC (sI _ _) (sC h2.still (sC h4.still sN))) (by decide) rfl
 refine .op (e6) ?_
 refine .ch (P:=fun r y => r = y) ?_ (fun b9 y10 h11 h12 => ?_)
 ·refine .cq ?_ ?_
  ·refine .fa ?_
   refine .op ((S7.atG (i:=0) rfl).ld (j:=1) rfl) ?_
   refine .op ((h2.h H5).len) ?_
   refine .ci ?_
   exact .ret rfl rfl
  ·exact .ret rfl rfl
 subst h12
 refine .ch (P:=fun r y => r = y) ?_ (fun b13 y14 h15 h16 => ?_)
 ·refine .cq ?_ ?_
  ·refine .fa ?_
   refine .op ((S7.atG (i:=0) rfl).ld (j:=2) rfl) ?_
   refine .op ((h4.h H5).len) ?_
   refine .ci ?_
   exact .ret rfl rfl
  ·exact .ret rfl rfl
 subst h16
 refine .ch (P:=fun r y => r = y) ?_ (fun b20 y21 h22 h23 => ?_)
 ·refine .cq ?_ ?_
  ·refine .fa ?_
   refine .op ((S7.atG (i:=0) rfl).ld (j:=1) rfl) ?_
   refine .bd fun a17 h18 => ?_
   refine .op ((h2.h H5).iS h18 rfl) ?_
   obtain ⟨_,rfl,hE19⟩:=(h2.h H5).el h18 rfl
   refine .op (hE19.ld (j:=0) rfl) ?_
   refine .ci ?_
   exact .ret rfl rfl
  ·exact .ret rfl rfl
 subst h23
 refine .ch (P:=fun r y => r = y) ?_ (fun b24 y25 h26 h27 => ?_)
 ·refine .cq ?_ ?_
  ·refine .fa ?_
   refine .op ((S7.atG (i:=0) rfl).ld (j:=0) rfl) ?_
   refine .ci ?_
   exact .ret rfl rfl
  ·exact .ret rfl rfl
 subst h27
 refine .ch (P:=fun r y => r = y) ?_ (fun b28 y29 h30 h31 => ?_)
 ·refine .cq ?_ ?_
  ·refine .fa ?_
   refine .op ((S7.atG (i:=0) rfl).ld (j:=0) rfl) ?_
   refine .ci ?_
   exact .ret rfl rfl
  ·exact .ret rfl rfl
 subst h31
 exact .fin (S7.finN (lC (sB _).lv lN)) rfl
def p_zr18_search_try_o_l0 {β : Type} (k : Nat) (rec : Tz18search→(List Int)→(List Int)→Int→Option (Tz18search)) (kE0 : Tz18search→Option β) (x3 : Int) (x8 : Int) (x10 : (List Int)) (x101 : Int) (x102 : Int) (yg4 : (List Int)) (yg77 : TaiChoice) (zp0 : Tz18search) : Option β:=match k with
| 0 => none
| k + 1 =>
bif decide (x102 < x101) then (
(p_zr18_place yg77 x102).bind fun r130 =>
(bif r130 then ((ix yg77.Costs x102).bind fun a135 =>
some (decide (a135 ≤ (IntKind.wrap .i64 (zp0.budget - x3))))) else (some false)).bind fun b138 =>
bif b138 then (
(ix [((yg4.getD 0 0)),((yg4.getD 1 0)),((yg4.getD 2 0)),((yg4.getD 3 0))] yg77.Class).bind fun a150 =>
(ix yg77.Goods x102).bind fun a152 =>
(ix [((yg4.getD 0 0)),((yg4.getD 1 0)),((yg4.getD 2 0)),((yg4.getD 3 0))] yg77.Class).bind fun a155 =>
(stx [((yg4.getD 0 0)),((yg4.getD 1 0)),((yg4.getD 2 0)),((yg4.getD 3 0))] yg77.Class (IntKind.wrap .i64 (a150 + a152))).bind fun a160 =>
(ix x10 x8).bind fun a162 =>
(stx x10 x8 x102).bind fun a167 =>
(ix yg77.Costs x102).bind fun a169 =>
(rec (⟨zp0.l,zp0.budget,zp0.best,[((zp0.good.getD 0 0)),((zp0.good.getD 1 0)),((zp0.good.getD 2 0)),((zp0.good.getD 3 0))],zp0.cost⟩ : Tz18search) a167 ([((a160.getD 0 0)),((a160.getD 1 0)),((a160.getD 2 0)),((a160.getD 3 0))]) (IntKind.wrap .i64 (x3 + a169))).bind fun r172 =>
p_zr18_search_try_o_l0 k rec kE0 x3 x8 a167 x101 (IntKind.wrap .i64 (x102 + 1)) ([((yg4.getD 0 0)),((yg4.getD 1 0)),((yg4.getD 2 0)),((yg4.getD 3 0))]) yg77 ((⟨r172.l,r172.budget,r172.best,[((r172.good.getD 0 0)),((r172.good.getD 1 0)),((r172.good.getD 2 0)),((r172.good.getD 3 0))],r172.cost⟩ : Tz18search)))
else (
p_zr18_search_try_o_l0 k rec kE0 x3 x8 x10 x101 (IntKind.wrap .i64 (x102 + 1)) ([((yg4.getD 0 0)),((yg4.getD 1 0)),((yg4.getD 2 0)),((yg4.getD 3 0))]) yg77 ((⟨zp0.l,zp0.budget,zp0.best,[((zp0.good.getD 0 0)),((zp0.good.getD 1 0)),((zp0.good.getD 2 0)),((zp0.good.getD 3 0))],zp0.cost⟩ : Tz18search))))
else (
kE0 ((⟨zp0.l,zp0.budget,zp0.best,[((zp0.good.getD 0 0)),((zp0.good.getD 1 0)),((zp0.good.getD 2 0)),((zp0.good.getD 3 0))],zp0.cost⟩ : Tz18search)))
def p_zr18_search_try_o (k : Nat) (x0 : Tz18search) (x1 : (List Int)) (x2 : (List Int)) (x3 : Int) : Option (Tz18search):=match k with
| 0 => none
| k + 1 =>
bif ((x1.length : Int)) == ((x0.l.length : Int)) then (
(bif x0.best.isEmpty then (some true) else ((p_zr18_Better k x2 ([((x0.good.getD 0 0)),((x0.good.getD 1 0)),((x0.good.getD 2 0)),((x0.good.getD 3 0))])).bind fun r6 =>
some r6)).bind fun b11 =>
(bif b11 then (some true) else ((p_zr18_Better k ([((x0.good.getD 0 0)),((x0.good.getD 1 0)),((x0.good.getD 2 0)),((x0.good.getD 3 0))]) x2).bind fun r15 =>
(bif !r15 then ((bif decide (x3 < x0.cost) then (some true) else ((bif x3 == x0.cost then ((p_zr18_first k x1 x0.best).bind fun r20 =>
some r20) else (some false)).bind fun b25 =>
some b25)).bind fun b29 =>
some b29) else (some false)).bind fun b33 =>
some b33)).bind fun b37 =>
bif b37 then (
(ap 8 (([] : List Int)) x1).bind fun a45 =>
(neO a45).bind fun _ =>
some ((⟨x0.l,x0.budget,a45,[((x2.getD 0 0)),((x2.getD 1 0)),((x2.getD 2 0)),((x2.getD 3 0))],x3⟩ : Tz18search)))
else (
some ((⟨x0.l,x0.budget,x0.best,[((x0.good.getD 0 0)),((x0.good.getD 1 0)),((x0.good.getD 2 0)),((x0.good.getD 3 0))],x0.cost⟩ : Tz18search))))
else (
(ix x0.l ((x1.length : Int))).bind fun a65 =>
(ap 8 (([] : List Int)) x1).bind fun a84 =>
(ap 8 a84 ([(-1)])).bind fun a91 =>
((p_zr18_search_try_o k) (⟨x0.l,x0.budget,x0.best,[((x0.good.getD 0 0)),((x0.good.getD 1 0)),((x0.good.getD 2 0)),((x0.good.getD 3 0))],x0.cost⟩ : Tz18search) a91 x2 x3).bind fun r97 =>
p_zr18_search_try_o_l0 k (p_zr18_search_try_o k) (fun zp0 =>
some ((⟨zp0.l,zp0.budget,zp0.best,[((zp0.good.getD 0 0)),((zp0.good.getD 1 0)),((zp0.good.getD 2 0)),((zp0.good.getD 3 0))],zp0.cost⟩ : Tz18search))) x3 ((x1.length : Int)) a91 ((a65.Costs.length : Int)) 0 x2 a65 ((⟨r97.l,r97.budget,r97.best,[((r97.good.getD 0 0)),((r97.good.getD 1 0)),((r97.good.getD 2 0)),((r97.good.getD 3 0))],r97.cost⟩ : Tz18search)))
theorem zr18_search_try_o_l0_ok {h : H} {l0 : Loc} {o0 : Nat} {rec : Tz18search→(List Int)→(List Int)→Int→Option (Tz18search)} {kE0 : Tz18search→Option β} (hrec : ∀ {h : H} {σ : Stamp} (x0 : Tz18search) {c0_0 : C} (hc0_0 : SoC dTaiChoice x0.l c0_0) (hn0_0 : Nn c0_0 3) {c0_2 : C} (hc0_2 : SoC (dI .i64) x0.best c0_2) (hn0_2 : Nq c0_2 1) {l0 : Loc} {o0 : Nat} (ha0 : AtC h l0 o0 ([c0_0,.v (.p (.int .i64 x0.budget)),c0_2,.v (.p (.int .i64 ((x0.good.getD 0 0)))),.v (.p (.int .i64 ((x0.good.getD 1 0)))),.v (.p (.int .i64 ((x0.good.getD 2 0)))),.v (.p (.int .i64 ((x0.good.getD 3 0)))),.v (.p (.int .i64 x0.cost))])) (x1 : List Int) {u1 : V} (hu1 : SlH h (dI .i64) x1 u1) (x2 : (List Int)) {u2 : List V} (hu2 : (dA 4 (dI .i64)).R x2 u2) (x3 : Int) (hk1_p0 : KN u1 l0),Sim (rec x0 x1 x2 x3) (ev G X0 79 σ [(.ref l0 o0),u1,(.agg u2),(.p (.int .i64 x3))] h) (fun r s => ∃ (cb0_0 : C),∃ (cb0_2 : C),SoC dTaiChoice r.l cb0_0∧Nn cb0_0 3∧SoC (dI .i64) r.best cb0_2∧Nq cb0_2 1∧s = ([],pts h [⟨l0,o0,[cb0_0,.v (.p (.int .i64 r.budget)),cb0_2,.v (.p (.int .i64 (r.good.getD 0 0))),.v (.p (.int .i64 (r.good.getD 1 0))),.v (.p (.int .i64 (r.good.getD 2 0))),.v (.p (.int .i64 (r.good.getD 3 0))),.v (.p (.int .i64 r.cost))]⟩]))) (hE0 : ∀ (zp0 : Tz18search) (c186 : C) (h187 : SoC dTaiChoice zp0.l c186) (h188 : Nn c186 3) (c189 : C) (h190 : SoC (dI .i64) zp0.best c189) (h191 : Nq c189 1) (H184 : Go.Ev.H) (_ : Fm 152 h [⟨l0,o0,[c186,.v (.p (.int .i64 zp0.budget)),c189,.v (.p (.int .i64 ((zp0.good.getD 0 0)))),.v (.p (.int .i64 ((zp0.good.getD 1 0)))),.v (.p (.int .i64 ((zp0.good.getD 2 0)))),.v (.p (.int .i64 ((zp0.good.getD 3 0)))),.v (.p (.int .i64 zp0.cost))]⟩] [] [] H184),Sim (kE0 zp0) (K ((.exit 0),(envL []),H184)) Q) (k : Nat) : ∀ (x3 : Int) (x8 : Int) (x10 : (List Int)) (x101 : Int) (x102 : Int) (yg4 : (List Int)) (yg77 : TaiChoice) (zp0 : Tz18search) (v111 : V) (s113 : Stamp) (w115 : List V) (h116 : dTaiChoice.R yg77 w115) (s117 : Stamp) (c119 : C) (h120 : SoC dTaiChoice zp0.l c119) (h121 : Nn c119 3) (c122 : C) (h123 : SoC (dI .i64) zp0.best c122) (h124 : Nq c122 1) (H109 : Go.Ev.H) (_ : Fm 152 h [⟨l0,o0,[c119,.v (.p (.int .i64 zp0.budget)),c122,.v (.p (.int .i64 ((zp0.good.getD 0 0)))),.v (.p (.int .i64 ((zp0.good.getD 1 0)))),.v (.p (.int .i64 ((zp0.good.getD 2 0)))),.v (.p (.int .i64 ((zp0.good.getD 3 0)))),.v (.p (.int .i64 zp0.cost))]⟩] [(6,s113,List.map C.v [(.p (.int .i64 ((yg4.getD 0 0)))),(.p (.int .i64 ((yg4.getD 1 0)))),(.p (.int .i64 ((yg4.getD 2 0)))),(.p (.int .i64 ((yg4.getD 3 0))))]),(9,s117,List.map C.v w115)] [⟨[91,93],v111,(dI .i64),x10⟩] H109) {σ : Stamp},Sim (p_zr18_search_try_o_l0 k rec kE0 x3 x8 x10 x101 x102 yg4 yg77 zp0) ((cvL G X0 zr18_search_try_c0 zr18_search_try_l0 σ (envL [(0,(.ref l0 o0)),(3,(.p (.int .i64 x3))),(6,(.ref ⟨h.length,6,0,s113,[]⟩ 0)),(8,(.p (.int .i64 x8))),(9,(.ref ⟨h.length,9,0,s117,[]⟩ 0)),(10,v111),(101,(.p (.int .i64 x101))),(102,(.p (.int .i64 x102)))]) H109).bind K) Q:=by
 induction k with
 | zero => intros; exact .no
 | succ k ih =>
  intro x3 x8 x10 x101 x102 yg4 yg77 zp0 v111 s113 w115 h116 s117 c119 h120 h121 c122 h123 h124 H109 S110 σ
  rw [p_zr18_search_try_o_l0]
  refine .round (Sim.ext (zr18_search_try_r0 _ _ _ _ _ _ _ _ _ _ _ _) ?_)
  obtain ⟨v125,v127,rfl,h126,h128⟩:=dTaiChoice.inv h116
  refine .cq ?_ ?_
  ·refine .op ((S110.atG (i:=1) rfl).ldVs (j:=0) (xs:=[(.p (.int .i64 yg77.Class)),v125,v127]) rfl rfl (by decide)) ?_
   refine .call (zr18_place_ok yg77 h116 x102) fun r130 cs131 H132 h133 q134 => ?_
   cases q134
   refine .ab ?_
   refine .ch (P:=fun r y => r = y) ?_ (fun b138 y139 h140 h141 => ?_)
   ·refine .cq ?_ ?_
    ·refine .fa ?_
     refine .op ((S110.atG (i:=1) rfl).ld (j:=1) rfl) ?_
     refine .bd fun a135 h136 => ?_
     refine .op ((h126.h H109).iS h136 rfl) ?_
     obtain ⟨_,rfl,hE137⟩:=(h126.h H109).el h136 rfl
     refine .op (hE137.ld (j:=0) rfl) ?_
     refine .ci ?_
     refine .nc ?_
     refine .fa ?_
     refine .op ((S110.atB (i:=0) rfl).ld (j:=1) rfl) ?_
     refine .ci ?_
     exact .ret rfl rfl
    ·exact .ret rfl rfl
   subst h141
   refine .cq ?_ ?_
   ·refine .op ((S110.atG (i:=0) rfl).ldVs (j:=0) (xs:=[.p (.int .i64 ((yg4.getD 0 0))),.p (.int .i64 ((yg4.getD 1 0))),.p (.int .i64 ((yg4.getD 2 0))),.p (.int .i64 ((yg4.getD 3 0)))]) rfl rfl (by decide)) ?_
    obtain ⟨H143,e144,S145⟩:=S110.al (d:=12) (s:=(1::0::1::1::0::1::1::0::σ)) (z:=[(.p (.int .i64 0)),(.p (.int .i64 0)),(.p (.int .i64 0)),(.p (.int .i64 0))]) (by decide) rfl
    refine .op (congrArg some e144) ?_
    obtain ⟨H147,e148,S149⟩:=S145.stGv (i:=0) (j:=0) (own:=false) (σ:=(2::0::1::1::0::1::1::0::σ)) (xs:=[.p (.int .i64 ((yg4.getD 0 0))),.p (.int .i64 ((yg4.getD 1 0))),.p (.int .i64 ((yg4.getD 2 0))),.p (.int .i64 ((yg4.getD 3 0)))]) rfl rfl (sC (sI _ _) (sC (sI _ _) (sC (sI _ _) (sC (sI _ _) sN)))) rfl rfl
    refine .op (sM e148) ?_
    refine .fa ?_
    refine .op ((S149.atG (i:=2) rfl).ld (j:=0) rfl) ?_
    refine .ci ?_
    refine .fa ?_
    refine .op ((S149.atG (i:=2) rfl).ld (j:=0) rfl) ?_
    refine .ci ?_
    refine .bd fun a150 h151 => ?_
    refine .op (iA_ok h151 rfl) ?_
    refine .op ((S149.atG (i:=0) rfl).ldIx (xs:=[((yg4.getD 0 0)),((yg4.getD 1 0)),((yg4.getD 2 0)),((yg4.getD 3 0))]) (j:=0) (n:=4) (f:=fun z => .p (.int .i64 z)) rfl h151 rfl) ?_
    refine .ci ?_
    refine .fa ?_
    refine .op ((S149.atG (i:=2) rfl).ld (j:=2) rfl) ?_
    refine .bd fun a152 h153 => ?_
    refine .op ((h128.h H147).iS h153 rfl) ?_
    obtain ⟨_,rfl,hE154⟩:=(h128.h H147).el h153 rfl
    refine .op (hE154.ld (j:=0) rfl) ?_
    refine .ci ?_
    refine .bd fun a155 h156 => ?_
    refine .op (iA_ok h156 rfl) ?_
    refine .bd fun a160 h161 => ?_
    obtain ⟨H157,e158,S159⟩:=S149.stIxG (i:=0) (j:=0) (n:=4) (own:=true) (σ:=(13::0::1::1::1::0::1::1::0::σ)) (xs:=[((yg4.getD 0 0)),((yg4.getD 1 0)),((yg4.getD 2 0)),((yg4.getD 3 0))]) (f:=fun z => .p (.int .i64 z)) (y:=(IntKind.wrap .i64 (a150 + a152))) rfl rfl (fun _ => sI _ _) rfl h161 rfl 0
    refine .op (sM e158) ?_
    refine .bd fun a162 h163 => ?_
    refine .op ((S159.sl (i:=0) rfl).iS h163 rfl) ?_
    refine .bd fun a167 h168 => ?_
    obtain ⟨H164,e165,S166⟩:=S159.setD (i:=0) (e:=1) (own:=true) (σ:=(4::0::1::1::1::1::0::1::1::0::σ)) (xv:=(.p (.int .i64 x102))) rfl h168 rfl rfl rfl rfl
    refine .op (sM e165) ?_
    refine .op ((S166.atG (i:=0) rfl).ldVs (j:=0) (xs:=[.p (.int .i64 ((a160.getD 0 0))),.p (.int .i64 ((a160.getD 1 0))),.p (.int .i64 ((a160.getD 2 0))),.p (.int .i64 ((a160.getD 3 0)))]) rfl rfl (by decide)) ?_
    refine .fa ?_
    refine .op ((S166.atG (i:=2) rfl).ld (j:=1) rfl) ?_
    refine .bd fun a169 h170 => ?_
    refine .op ((h126.h H164).iS h170 rfl) ?_
    obtain ⟨_,rfl,hE171⟩:=(h126.h H164).el h170 rfl
    refine .op (hE171.ld (j:=0) rfl) ?_
    refine .ci ?_
    refine .call (hrec (⟨zp0.l,zp0.budget,zp0.best,[((zp0.good.getD 0 0)),((zp0.good.getD 1 0)),((zp0.good.getD 2 0)),((zp0.good.getD 3 0))],zp0.cost⟩ : Tz18search) h120 h121 h123 h124 (S166.atB (i:=0) rfl) a167 (S166.sl (i:=0) rfl) ([((a160.getD 0 0)),((a160.getD 1 0)),((a160.getD 2 0)),((a160.getD 3 0))]) (show (dA 4 (dI .i64)).R ([((a160.getD 0 0)),((a160.getD 1 0)),((a160.getD 2 0)),((a160.getD 3 0))]) [.p (.int .i64 ((a160.getD 0 0))),.p (.int .i64 ((a160.getD 1 0))),.p (.int .i64 ((a160.getD 2 0))),.p (.int .i64 ((a160.getD 3 0)))] from (⟨rfl,dI_map [((a160.getD 0 0)),((a160.getD 1 0)),((a160.getD 2 0)),((a160.getD 3 0))]⟩ : (dA 4 (dI .i64)).R [((a160.getD 0 0)),((a160.getD 1 0)),((a160.getD 2 0)),((a160.getD 3 0))] [.p (.int .i64 ((a160.getD 0 0))),.p (.int .i64 ((a160.getD 1 0))),.p (.int .i64 ((a160.getD 2 0))),.p (.int .i64 ((a160.getD 3 0)))])) (IntKind.wrap .i64 (x3 + a169)) (S166.knD (k:=0) rfl (S166.ltB (i:=0) rfl))) fun r172 cs173 H174 h175 q176 => ?_
    obtain ⟨c177,c180,h178,h179,h181,h182,q176⟩:=q176
    cases q176
    have S183:=S166.setB (i:=0) (cs:=[c177,.v (.p (.int .i64 r172.budget)),c180,.v (.p (.int .i64 ((r172.good.getD 0 0)))),.v (.p (.int .i64 ((r172.good.getD 1 0)))),.v (.p (.int .i64 ((r172.good.getD 2 0)))),.v (.p (.int .i64 ((r172.good.getD 3 0)))),.v (.p (.int .i64 r172.cost))]) rfl rfl
    exact ih x3 x8 a167 x101 (IntKind.wrap .i64 (x102 + 1)) ([((yg4.getD 0 0)),((yg4.getD 1 0)),((yg4.getD 2 0)),((yg4.getD 3 0))]) yg77 ((⟨r172.l,r172.budget,r172.best,[((r172.good.getD 0 0)),((r172.good.getD 1 0)),((r172.good.getD 2 0)),((r172.good.getD 3 0))],r172.cost⟩ : Tz18search)) v111 s113 _ h116 s117 c177 h178 h179 c180 h181 h182 (ptC H164 l0 o0 ([c177,.v (.p (.int .i64 r172.budget)),c180,.v (.p (.int .i64 ((r172.good.getD 0 0)))),.v (.p (.int .i64 ((r172.good.getD 1 0)))),.v (.p (.int .i64 ((r172.good.getD 2 0)))),.v (.p (.int .i64 ((r172.good.getD 3 0)))),.v (.p (.int .i64 r172.cost))])) (S183.wk2 (aC (aM 1 rfl) (aC (aM 2 rfl) aN)) (aC ⟨[91,93],by simp,aM 0 rfl⟩ aN))
   exact ih x3 x8 x10 x101 (IntKind.wrap .i64 (x102 + 1)) ([((yg4.getD 0 0)),((yg4.getD 1 0)),((yg4.getD 2 0)),((yg4.getD 3 0))]) yg77 ((⟨zp0.l,zp0.budget,zp0.best,[((zp0.good.getD 0 0)),((zp0.good.getD 1 0)),((zp0.good.getD 2 0)),((zp0.good.getD 3 0))],zp0.cost⟩ : Tz18search)) v111 s113 _ h116 s117 c119 h120 h121 c122 h123 h124 H109 (S110.wk2 (aC (aM 0 rfl) (aC (aM 1 rfl) aN)) (aC ⟨[91,93],by simp,aM 0 rfl⟩ aN))
  exact hE0 ((⟨zp0.l,zp0.budget,zp0.best,[((zp0.good.getD 0 0)),((zp0.good.getD 1 0)),((zp0.good.getD 2 0)),((zp0.good.getD 3 0))],zp0.cost⟩ : Tz18search)) c119 h120 h121 c122 h123 h124 H109 (S110.wk2 aN aN)
theorem zr18_search_try_o_ok (k : Nat) : ∀ {h : H} {σ : Stamp} (x0 : Tz18search) {c0_0 : C} (hc0_0 : SoC dTaiChoice x0.l c0_0) (hn0_0 : Nn c0_0 3) {c0_2 : C} (hc0_2 : SoC (dI .i64) x0.best c0_2) (hn0_2 : Nq c0_2 1) {l0 : Loc} {o0 : Nat} (ha0 : AtC h l0 o0 ([c0_0,.v (.p (.int .i64 x0.budget)),c0_2,.v (.p (.int .i64 ((x0.good.getD 0 0)))),.v (.p (.int .i64 ((x0.good.getD 1 0)))),.v (.p (.int .i64 ((x0.good.getD 2 0)))),.v (.p (.int .i64 ((x0.good.getD 3 0)))),.v (.p (.int .i64 x0.cost))])) (x1 : List Int) {u1 : V} (hu1 : SlH h (dI .i64) x1 u1) (x2 : (List Int)) {u2 : List V} (hu2 : (dA 4 (dI .i64)).R x2 u2) (x3 : Int) (hk1_p0 : KN u1 l0),Sim (p_zr18_search_try_o k x0 x1 x2 x3) (ev G X0 79 σ [(.ref l0 o0),u1,(.agg u2),(.p (.int .i64 x3))] h) (fun r s => ∃ (cb0_0 : C),∃ (cb0_2 : C),SoC dTaiChoice r.l cb0_0∧Nn cb0_0 3∧SoC (dI .i64) r.best cb0_2∧Nq cb0_2 1∧s = ([],pts h [⟨l0,o0,[cb0_0,.v (.p (.int .i64 r.budget)),cb0_2,.v (.p (.int .i64 (r.good.getD 0 0))),.v (.p (.int .i64 (r.good.getD 1 0))),.v (.p (.int .i64 (r.good.getD 2 0))),.v (.p (.int .i64 (r.good.getD 3 0))),.v (.p (.int .i64 r.cost))]⟩])):=by
 induction k with
 | zero => intros; exact .no
 | succ k ih =>
  intro h σ x0 c0_0 hc0_0 hn0_0 c0_2 hc0_2 hn0_2 l0 o0 ha0 x1 u1 hu1 x2 u2 hu2 x3 hk1_p0
  refine .ev rfl (Sim.ext (zr18_search_try_entry _ _ _ _ _ _ _ _) ?_)
  rw [p_zr18_search_try_o]
  obtain rfl : u2 = [(.p (.int .i64 ((x2.getD 0 0)))),(.p (.int .i64 ((x2.getD 1 0)))),(.p (.int .i64 ((x2.getD 2 0)))),(.p (.int .i64 ((x2.getD 3 0))))]:=dA_int hu2
  have S0 : Fm 152 h [⟨l0,o0,[c0_0,.v (.p (.int .i64 x0.budget)),c0_2,.v (.p (.int .i64 ((x0.good.getD 0 0)))),.v (.p (.int .i64 ((x0.good.getD 1 0)))),.v (.p (.int .i64 ((x0.good.getD 2 0)))),.v (.p (.int .i64 ((x0.good.getD 3 0)))),.v (.p (.int .i64 x0.cost))]⟩] [] [] (List.replicate 152 []::h):=Fm.start1 ha0
  obtain ⟨H1,e2,S3⟩:=S0.box (own:=false) (d:=6) (s:=(0::0::0::σ)) (xs:=[(.p (.int .i64 ((x2.getD 0 0)))),(.p (.int .i64 ((x2.getD 1 0)))),(.p (.int .i64 ((x2.getD 2 0)))),(.p (.int .i64 ((x2.getD 3 0))))]) (sC (sI _ _) (sC (sI _ _) (sC (sI _ _) (sC (sI _ _) sN)))) (by decide) rfl
  refine .op (e2) ?_
  refine .op ((S3.lowN (aC hk1_p0 aN) hu1).len) ?_
  refine .ci ?_
  refine .nc ?_
  refine .fa ?_
  refine .op (hc0_0.ld (S3.atB (i:=0) rfl) (j:=0) rfl) ?_
  refine .op ((hc0_0.sl (S3.atB (i:=0) rfl) (j:=0) rfl).len) ?_
  refine .ci ?_
  refine .cq ?_ ?_
  ·refine .nc ?_
   refine .fa ?_
   refine .op (hc0_2.ld (S3.atB (i:=0) rfl) (j:=2) rfl) ?_
   refine .op (hc0_2.eqNil (e:=3) (by kernel_rfl) hn0_2) ?_
   refine .ab ?_
   refine .ch (P:=fun r y => (.p (.bool r),H1) = y) ?_ (fun b11 y12 h13 h14 => ?_)
   ·refine .cq ?_ ?_
    ·exact .ret rfl rfl
    ·refine .op ((S3.atG (i:=0) rfl).ldVs (j:=0) (xs:=[(.p (.int .i64 ((x2.getD 0 0)))),(.p (.int .i64 ((x2.getD 1 0)))),(.p (.int .i64 ((x2.getD 2 0)))),(.p (.int .i64 ((x2.getD 3 0))))]) rfl rfl (by decide)) ?_
     refine .nc ?_
     refine .fa ?_
     refine .op ((S3.atB (i:=0) rfl).ldVs (j:=3) (xs:=[.p (.int .i64 ((x0.good.getD 0 0))),.p (.int .i64 ((x0.good.getD 1 0))),.p (.int .i64 ((x0.good.getD 2 0))),.p (.int .i64 ((x0.good.getD 3 0)))]) rfl rfl (by decide)) ?_
     refine .call (zr18_Better_ok k x2 hu2 ([((x0.good.getD 0 0)),((x0.good.getD 1 0)),((x0.good.getD 2 0)),((x0.good.getD 3 0))]) (show (dA 4 (dI .i64)).R ([((x0.good.getD 0 0)),((x0.good.getD 1 0)),((x0.good.getD 2 0)),((x0.good.getD 3 0))]) [.p (.int .i64 ((x0.good.getD 0 0))),.p (.int .i64 ((x0.good.getD 1 0))),.p (.int .i64 ((x0.good.getD 2 0))),.p (.int .i64 ((x0.good.getD 3 0)))] from (⟨rfl,dI_map [((x0.good.getD 0 0)),((x0.good.getD 1 0)),((x0.good.getD 2 0)),((x0.good.getD 3 0))]⟩ : (dA 4 (dI .i64)).R [((x0.good.getD 0 0)),((x0.good.getD 1 0)),((x0.good.getD 2 0)),((x0.good.getD 3 0))] [.p (.int .i64 ((x0.good.getD 0 0))),.p (.int .i64 ((x0.good.getD 1 0))),.p (.int .i64 ((x0.good.getD 2 0))),.p (.int .i64 ((x0.good.getD 3 0)))]))) fun r6 cs7 H8 h9 q10 => ?_
     cases q10
     refine .ab ?_
     exact .ret rfl rfl
   subst h14
   refine .ab ?_
   refine .ch (P:=fun r y => (.p (.bool r),H1) = y) ?_ (fun b37 y38 h39 h40 => ?_)
   ·refine .cq ?_ ?_
    ·exact .ret rfl rfl
    ·refine .nc ?_
     refine .fa ?_
     refine .op ((S3.atB (i:=0) rfl).ldVs (j:=3) (xs:=[.p (.int .i64 ((x0.good.getD 0 0))),.p (.int .i64 ((x0.good.getD 1 0))),.p (.int .i64 ((x0.good.getD 2 0))),.p (.int .i64 ((x0.good.getD 3 0)))]) rfl rfl (by decide)) ?_
     refine .op ((S3.atG (i:=0) rfl).ldVs (j:=0) (xs:=[(.p (.int .i64 ((x2.getD 0 0)))),(.p (.int .i64 ((x2.getD 1 0)))),(.p (.int .i64 ((x2.getD 2 0)))),(.p (.int .i64 ((x2.getD 3 0))))]) rfl rfl (by decide)) ?_
     refine .call (zr18_Better_ok k ([((x0.good.getD 0 0)),((x0.good.getD 1 0)),((x0.good.getD 2 0)),((x0.good.getD 3 0))]) (show (dA 4 (dI .i64)).R ([((x0.good.getD 0 0)),((x0.good.getD 1 0)),((x0.good.getD 2 0)),((x0.good.getD 3 0))]) [.p (.int .i64 ((x0.good.getD 0 0))),.p (.int .i64 ((x0.good.getD 1 0))),.p (.int .i64 ((x0.good.getD 2 0))),.p (.int .i64 ((x0.good.getD 3 0)))] from (⟨rfl,dI_map [((x0.good.getD 0 0)),((x0.good.getD 1 0)),((x0.good.getD 2 0)),((x0.good.getD 3 0))]⟩ : (dA 4 (dI .i64)).R [((x0.good.getD 0 0)),((x0.good.getD 1 0)),((x0.good.getD 2 0)),((x0.good.getD 3 0))] [.p (.int .i64 ((x0.good.getD 0 0))),.p (.int .i64 ((x0.good.getD 1 0))),.p (.int .i64 ((x0.good.getD 2 0))),.p (.int .i64 ((x0.good.getD 3 0)))])) x2 hu2) fun r15 cs16 H17 h18 q19 => ?_
     cases q19
     refine .ab ?_
     refine .ch (P:=fun r y => (.p (.bool r),H1) = y) ?_ (fun b33 y34 h35 h36 => ?_)
     ·refine .cq ?_ ?_
      ·refine .nc ?_
       refine .fa ?_
       refine .op ((S3.atB (i:=0) rfl).ld (j:=7) rfl) ?_
       refine .ci ?_
       refine .ch (P:=fun r y => (.p (.bool r),H1) = y) ?_ (fun b29 y30 h31 h32 => ?_)
       ·refine .cq ?_ ?_
        ·exact .ret rfl rfl
        ·refine .nc ?_
         refine .fa ?_
         refine .op ((S3.atB (i:=0) rfl).ld (j:=7) rfl) ?_
         refine .ci ?_
         refine .ch (P:=fun r y => (.p (.bool r),H1) = y) ?_ (fun b25 y26 h27 h28 => ?_)
         ·refine .cq ?_ ?_
          ·refine .nc ?_
           refine .fa ?_
           refine .op (hc0_2.ld (S3.atB (i:=0) rfl) (j:=2) rfl) ?_
           refine .call (zr18_first_ok k x1 (S3.lowN (aC hk1_p0 aN) hu1) x0.best (hc0_2.sl (S3.atB (i:=0) rfl) (j:=2) rfl)) fun r20 cs21 H22 h23 q24 => ?_
           cases q24
           refine .ab ?_
           exact .ret rfl rfl
          ·exact .ret rfl rfl
         subst h28
         refine .ab ?_
         exact .ret rfl rfl
       subst h32
       refine .ab ?_
       exact .ret rfl rfl
      ·exact .ret rfl rfl
     subst h36
     refine .ab ?_
     exact .ret rfl rfl
   subst h40
   refine .ab ?_
   refine .cq ?_ ?_
   ·have h42 : SlF (dI .i64) ([] : List Int) (.fz [] 0 1 true):=SlF.lit (cs:=[]) RL.nil rfl rfl true
    refine .op (bldS pN (by kernel_rfl : _ = some (vOf h42))) ?_
    refine .op ((S3.atG (i:=0) rfl).ldVs (j:=0) (xs:=[(.p (.int .i64 ((x2.getD 0 0)))),(.p (.int .i64 ((x2.getD 1 0)))),(.p (.int .i64 ((x2.getD 2 0)))),(.p (.int .i64 ((x2.getD 3 0))))]) rfl rfl (by decide)) ?_
    have S44:=S3.nil' (dI .i64) [] (e:=1) rfl
    refine .bd fun a45 h46 => ?_
    obtain ⟨v47,H48,e49,S50⟩:=S44.app (i:=0) (d:=73) (e:=1) (own:=true) (σ:=(5::1::0::1::0::1::1::0::σ)) rfl (S44.lowN (aC hk1_p0 aN) hu1).y h46 rfl (by decide) (by decide) rfl
    refine .op (e49) ?_
    refine .nd ((S50.atG (i:=0) rfl).ldVs (j:=0) (xs:=[(.p (.int .i64 ((x2.getD 0 0)))),(.p (.int .i64 ((x2.getD 1 0)))),(.p (.int .i64 ((x2.getD 2 0)))),(.p (.int .i64 ((x2.getD 3 0))))]) rfl rfl (by decide)) ?_
    refine .nc ?_
    refine .fa ?_
    refine .bd fun _ h58 => ?_
    obtain ⟨c54,H51,e52,h55,h57,S53⟩:=S50.mvB (i:=0) (j:=2) (k:=0) (σ:=(10::1::0::1::0::1::1::0::σ)) rfl rfl rfl rfl rfl
    have h56:=Nq.mk (k:=1) h55 h57 rfl h58
    refine .op (sM e52) ?_
    refine .nd ((S53.atG (i:=0) rfl).ldVs (j:=0) (xs:=[(.p (.int .i64 ((x2.getD 0 0)))),(.p (.int .i64 ((x2.getD 1 0)))),(.p (.int .i64 ((x2.getD 2 0)))),(.p (.int .i64 ((x2.getD 3 0))))]) rfl rfl (by decide)) ?_
    refine .nc ?_
    refine .fa ?_
    obtain ⟨H59,e60,S61⟩:=S53.stBv (i:=0) (j:=3) (own:=false) (σ:=(13::1::0::1::0::1::1::0::σ)) (xs:=[(.p (.int .i64 ((x2.getD 0 0)))),(.p (.int .i64 ((x2.getD 1 0)))),(.p (.int .i64 ((x2.getD 2 0)))),(.p (.int .i64 ((x2.getD 3 0))))]) rfl (sC (sI _ _) (sC (sI _ _) (sC (sI _ _) (sC (sI _ _) sN)))) rfl rfl
    refine .op (sM e60) ?_
    refine .nc ?_
    refine .fa ?_
    obtain ⟨H62,e63,S64⟩:=S61.stB (i:=0) (j:=7) (own:=true) (σ:=(16::1::0::1::0::1::1::0::σ)) (x:=(.p (.int .i64 x3))) rfl (sI _ _) rfl
    refine .op (sM e63) ?_
    exact .fin (S64.finN lN) ⟨c0_0,c54,hc0_0,hn0_0,h55,h56,rfl⟩
   exact .fin (S3.finN lN) ⟨c0_0,c0_2,hc0_0,hn0_0,hc0_2,hn0_2,rfl⟩
  refine .nc ?_
  refine .fa ?_
  refine .op (hc0_0.ld (S3.atB (i:=0) rfl) (j:=0) rfl) ?_
  refine .bd fun a65 h66 => ?_
  refine .op ((hc0_0.sl (S3.atB (i:=0) rfl) (j:=0) rfl).iS h66 rfl) ?_
  obtain ⟨w68,h69,hE67⟩:=(hc0_0.sl (S3.atB (i:=0) rfl) (j:=0) rfl).el h66 rfl
  obtain ⟨v70,v72,rfl,h71,h73⟩:=dTaiChoice.inv h69
  refine .op (hE67.all (by simp)) ?_
  obtain ⟨H74,e75,S76⟩:=S3.al (d:=9) (s:=(7::0::1::1::1::0::σ)) (z:=[(.p (.int .i64 0)),(.p (.slice none 0 0)),(.p (.slice none 0 0))]) (by decide) rfl
  refine .op (congrArg some e75) ?_
  obtain ⟨H78,e79,S80⟩:=S76.stGv (i:=0) (j:=0) (own:=false) (σ:=(8::0::1::1::1::0::σ)) (xs:=[.p (.int .i64 a65.Class),v70,v72]) rfl rfl (sC (sI _ _) (sC h71.still (sC h73.still sN))) rfl rfl
  refine .op (sM e79) ?_
  have h81 : SlF (dI .i64) ([] : List Int) (.fz [] 0 1 true):=SlF.lit (cs:=[]) RL.nil rfl rfl true
  refine .op (bldS pN (by kernel_rfl : _ = some (vOf h81))) ?_
  have S83:=S80.nil' (dI .i64) [] (e:=1) rfl
  refine .bd fun a84 h85 => ?_
  obtain ⟨v86,H87,e88,S89⟩:=S83.app (i:=0) (d:=91) (e:=1) (own:=true) (σ:=(2::0::1::1::1::1::0::σ)) rfl (S83.lowN (aC hk1_p0 aN) hu1).y h85 rfl (by decide) (by decide) rfl
  refine .op (e88) ?_
  have h90:=SlF.int1 .i64 (-1)
  refine .op (bldS (pC rfl pN) (by kernel_rfl : _ = some (vOf h90))) ?_
  refine .bd fun a91 h92 => ?_
  obtain ⟨v93,H94,e95,S96⟩:=S89.app (i:=0) (d:=93) (e:=1) (own:=true) (σ:=(4::0::1::1::1::1::0::σ)) rfl (h90.h H87).y h92 rfl (by decide) (by decide) rfl
  refine .op (e95) ?_
  refine .op ((S96.atG (i:=1) rfl).ldVs (j:=0) (xs:=[(.p (.int .i64 ((x2.getD 0 0)))),(.p (.int .i64 ((x2.getD 1 0)))),(.p (.int .i64 ((x2.getD 2 0)))),(.p (.int .i64 ((x2.getD 3 0))))]) rfl rfl (by decide)) ?_
  refine .call (ih (⟨x0.l,x0.budget,x0.best,[((x0.good.getD 0 0)),((x0.good.getD 1 0)),((x0.good.getD 2 0)),((x0.good.getD 3 0))],x0.cost⟩ : Tz18search) hc0_0 hn0_0 hc0_2 hn0_2 (S96.atB (i:=0) rfl) a91 (S96.sl (i:=0) rfl) x2 hu2 x3 (S96.knD (k:=0) rfl (S96.ltB (i:=0) rfl))) fun r97 cs98 H99 h100 q101 => ?_
  obtain ⟨c102,c105,h103,h104,h106,h107,q101⟩:=q101
  cases q101
  have S108:=S96.setB (i:=0) (cs:=[c102,.v (.p (.int .i64 r97.budget)),c105,.v (.p (.int .i64 ((r97.good.getD 0 0)))),.v (.p (.int .i64 ((r97.good.getD 1 0)))),.v (.p (.int .i64 ((r97.good.getD 2 0)))),.v (.p (.int .i64 ((r97.good.getD 3 0)))),.v (.p (.int .i64 r97.cost))]) rfl rfl
  refine .fa ?_
  refine .op ((S108.atG (i:=0) rfl).ld (j:=1) rfl) ?_
  refine .op ((h71.h (ptC H94 l0 o0 ([c102,.v (.p (.int .i64 r97.budget)),c105,.v (.p (.int .i64 ((r97.good.getD 0 0)))),.v (.p (.int .i64 ((r97.good.getD 1 0)))),.v (.p (.int .i64 ((r97.good.getD 2 0)))),.v (.p (.int .i64 ((r97.good.getD 3 0)))),.v (.p (.int .i64 r97.cost))]))).len) ?_
  refine .ci ?_
  refine .as (zr18_search_try_o_l0_ok (@ih) ?_ k x3 ((x1.length : Int)) a91 ((a65.Costs.length : Int)) 0 x2 a65 ((⟨r97.l,r97.budget,r97.best,[((r97.good.getD 0 0)),((r97.good.getD 1 0)),((r97.good.getD 2 0)),((r97.good.getD 3 0))],r97.cost⟩ : Tz18search)) v93 (0::0::0::σ) _ (dTaiChoice.mk h71 h73) (7::0::1::1::1::0::σ) c102 h103 h104 c105 h106 h107 (ptC H94 l0 o0 ([c102,.v (.p (.int .i64 r97.budget)),c105,.v (.p (.int .i64 ((r97.good.getD 0 0)))),.v (.p (.int .i64 ((r97.good.getD 1 0)))),.v (.p (.int .i64 ((r97.good.getD 2 0)))),.v (.p (.int .i64 ((r97.good.getD 3 0)))),.v (.p (.int .i64 r97.cost))])) (S108.wk2 (aC (aM 1 rfl) (aC (aM 0 rfl) aN)) (aC ⟨[93,91],by simp,aM 0 rfl⟩ aN)))
  ·intro zp0 c195 h196 h197 c198 h199 h200 H193 S194
   refine .ext (zr18_search_try_a0_0 _ _ _ _) ?_
   exact .fin (S194.finN lN) ⟨c195,c198,h196,h197,h199,h200,rfl⟩
def p_zr18_Best_l0 {β : Type} (k : Nat) (kE0 : (List TaiChoice)→Tz18search→Option β) (x0 : (List TaiChoice)) (x6 : Int) (yg5 : Tz18search) : Option β:=match k with
| 0 => none
| k + 1 =>
(bif decide (x6 < ((x0.length : Int))) then (some (decide (x6 < 8))) else (some false)).bind fun b18 =>
bif b18 then (
(ix x0 x6).bind fun a23 =>
(p_zr18_few k a23).bind fun r32 =>
(ap 56 yg5.l ([r32])).bind fun a44 =>
p_zr18_Best_l0 k kE0 x0 (IntKind.wrap .i64 (x6 + 1)) ((⟨a44,yg5.budget,yg5.best,[((yg5.good.getD 0 0)),((yg5.good.getD 1 0)),((yg5.good.getD 2 0)),((yg5.good.getD 3 0))],yg5.cost⟩ : Tz18search)))
else (
kE0 x0 ((⟨yg5.l,yg5.budget,yg5.best,[((yg5.good.getD 0 0)),((yg5.good.getD 1 0)),((yg5.good.getD 2 0)),((yg5.good.getD 3 0))],yg5.cost⟩ : Tz18search)))
def p_zr18_Best (k : Nat) (x0 : (List TaiChoice)) (x1 : Int) : Option ((List Int)) :=
bif ((x0.length : Int)) == 0 then (
some ((([] : List Int))))
else (
p_zr18_Best_l0 k (fun r70_0 yg17 =>
(p_zr18_search_try_o k (⟨yg17.l,yg17.budget,yg17.best,[((yg17.good.getD 0 0)),((yg17.good.getD 1 0)),((yg17.good.getD 2 0)),((yg17.good.getD 3 0))],yg17.cost⟩ : Tz18search) (([] : List Int)) ([0,0,0,0]) 0).bind fun r83 =>
bif decide (((r83.best.length : Int)) < ((r70_0.length : Int))) then (
none)
else (
some (r83.best))) x0 0 ((⟨(([] : List TaiChoice)),((if 0 > ((if 4096 < x1 then 4096 else x1)) then 0 else ((if 4096 < x1 then 4096 else x1)))),(([] : List Int)),[0,0,0,0],0⟩ : Tz18search)))
theorem zr18_Best_l0_ok {h : H}  {kE0 : (List TaiChoice)→Tz18search→Option β} (hE0 : ∀ (q0 : (List TaiChoice)) (yg17 : Tz18search) (v60 : V) (h61 : SlH h dTaiChoice q0 v60) (c62 : C) (h63 : SoC dTaiChoice yg17.l c62) (h64 : Nn c62 3) (c65 : C) (h66 : SoC (dI .i64) yg17.best c65) (h67 : Nq c65 1) (s68 : Stamp) (H58 : Go.Ev.H) (_ : Fm 56 h [] [(15,s68,[c62,.v (.p (.int .i64 yg17.budget)),c65,.v (.p (.int .i64 ((yg17.good.getD 0 0)))),.v (.p (.int .i64 ((yg17.good.getD 1 0)))),.v (.p (.int .i64 ((yg17.good.getD 2 0)))),.v (.p (.int .i64 ((yg17.good.getD 3 0)))),.v (.p (.int .i64 yg17.cost))])] [] H58),Sim (kE0 q0 yg17) (K ((.exit 0),(envL [(0,v60),(5,(.ref ⟨h.length,15,0,s68,[]⟩ 0))]),H58)) Q) (k : Nat) : ∀ (x0 : (List TaiChoice)) (x6 : Int) (yg5 : Tz18search) (v8 : V) (h9 : SlH h dTaiChoice x0 v8) (c10 : C) (h11 : SoC dTaiChoice yg5.l c10) (h12 : Nn c10 3) (c13 : C) (h14 : SoC (dI .i64) yg5.best c13) (h15 : Nq c13 1) (s16 : Stamp) (H6 : Go.Ev.H) (_ : Fm 56 h [] [(15,s16,[c10,.v (.p (.int .i64 yg5.budget)),c13,.v (.p (.int .i64 ((yg5.good.getD 0 0)))),.v (.p (.int .i64 ((yg5.good.getD 1 0)))),.v (.p (.int .i64 ((yg5.good.getD 2 0)))),.v (.p (.int .i64 ((yg5.good.getD 3 0)))),.v (.p (.int .i64 yg5.cost))])] [] H6) {σ : Stamp},Sim (p_zr18_Best_l0 k kE0 x0 x6 yg5) ((cvL G X0 zr18_Best_c0 zr18_Best_l0 σ (envL [(0,v8),(5,(.ref ⟨h.length,15,0,s16,[]⟩ 0)),(6,(.p (.int .i64 x6)))]) H6).bind K) Q:=by
 induction k with
 | zero => intros; exact .no
 | succ k ih =>
  intro x0 x6 yg5 v8 h9 c10 h11 h12 c13 h14 h15 s16 H6 S7 σ
  rw [p_zr18_Best_l0]
  refine .round (Sim.ext (zr18_Best_r0 _ _ _ _ _ _ _) ?_)
  refine .op ((S7.low h9).len) ?_
  refine .ci ?_
  refine .ch (P:=fun r y => r = y) ?_ (fun b18 y19 h20 h21 => ?_)
  ·refine .cq ?_ ?_
   ·exact .ret rfl rfl
   ·exact .ret rfl rfl
  subst h21
  refine .cq ?_ ?_
  ·refine .nc ?_
   refine .fa ?_
   refine .op (h11.ld (S7.atG (i:=0) rfl) (j:=0) rfl) ?_
   refine .bd fun a23 h24 => ?_
   refine .op ((S7.low h9).iS h24 rfl) ?_
   obtain ⟨w26,h27,hE25⟩:=(S7.low h9).el h24 rfl
   obtain ⟨v28,v30,rfl,h29,h31⟩:=dTaiChoice.inv h27
   refine .op (hE25.all (by simp)) ?_
   refine .call (zr18_few_ok k a23 (show dTaiChoice.R a23 [.p (.int .i64 a23.Class),v28,v30] from (dTaiChoice.mk h29 h31))) fun r32 cs33 H34 h35 q36 => ?_
   obtain ⟨w37,h38,q36⟩:=q36
   cases q36
   obtain ⟨v39,v41,rfl,h40,h42⟩:=dTaiChoice.inv h38
   refine .nd (h11.ld (S7.atG (i:=0) rfl) (j:=0) rfl) ?_
   have h43 : SlF dTaiChoice [r32] (.fz [(.p (.int .i64 r32.Class)),v39,v41] 1 3 true):=SlF.lit (cs:=[(.p (.int .i64 r32.Class)),v39,v41]) (RL.cons h38 RL.nil) rfl rfl true
   refine .op (bldS (pC (c:=[(.p (.int .i64 r32.Class)),v39,v41]) rfl pN) (by kernel_rfl : _ = some (vOf h43))) ?_
   refine .bd fun a44 h45 => ?_
   obtain ⟨v46,c47,H48,e49,S50⟩:=S7.appG (i:=0) (j:=0) (d:=37) (e:=3) (own:=false) (σ:=(11::0::1::0::σ)) rfl rfl h11 h12 (h43.h H6).y h45 (by simp) rfl (by decide) (by decide) rfl rfl
   refine .op (e49) ?_
   refine .nc ?_
   refine .fa ?_
   obtain ⟨c55,H52,e53,h56,h57,S54⟩:=S50.mvG (i:=0) (j:=0) (k:=0) (σ:=(14::0::1::0::σ)) rfl rfl rfl rfl rfl rfl
   refine .op (sM e53) ?_
   exact ih x0 (IntKind.wrap .i64 (x6 + 1)) ((⟨a44,yg5.budget,yg5.best,[((yg5.good.getD 0 0)),((yg5.good.getD 1 0)),((yg5.good.getD 2 0)),((yg5.good.getD 3 0))],yg5.cost⟩ : Tz18search)) v8 h9 c55 h56 h57 c13 h14 h15 s16 H52 (S54.wk2 (aC (aM 0 rfl) aN) aN)
  exact hE0 x0 ((⟨yg5.l,yg5.budget,yg5.best,[((yg5.good.getD 0 0)),((yg5.good.getD 1 0)),((yg5.good.getD 2 0)),((yg5.good.getD 3 0))],yg5.cost⟩ : Tz18search)) v8 h9 c10 h11 h12 c13 h14 h15 s16 H6 (S7.wk2 (aC (aM 0 rfl) aN) aN)
theorem zr18_Best_ok (k : Nat) {h : H} {σ : Stamp} (x0 : List TaiChoice) {u0 : V} (hu0 : SlH h dTaiChoice x0 u0) (x1 : Int) : Sim (p_zr18_Best k x0 x1) (ev G X0 34 σ [u0,(.p (.int .i64 x1))] h) (fun r s => ∃ (c0 : C),∃ (a0 : List V),OwnS c0 (dI .i64).sz r.length a0∧(dI .i64).L r a0∧s = ([c0],h)):=by
 refine .ev rfl (Sim.ext (zr18_Best_entry _ _ _ _ _ _) ?_)
 rw [p_zr18_Best]
 have S0 : Fm 56 h [] [] [] (List.replicate 56 []::h):=Fm.start0
 refine .op ((S0.low hu0).len) ?_
 refine .ci ?_
 refine .cq ?_ ?_
 ·exact .fin (S0.finN (lC (SlF.nil (dI .i64)).still.lv lN)) ⟨(.v (.p (.slice none 0 0))),[],⟨by simp,.inl ⟨rfl,rfl,.inl rfl⟩⟩,rfl,rfl⟩
 refine .op (bldV (pC rfl pN) (by kernel_rfl : _ = some (.agg [.p (.slice none 0 0),.p (.int .i64 ((if 0 > ((if 4096 < x1 then 4096 else x1)) then 0 else ((if 4096 < x1 then 4096 else x1))))),.p (.slice none 0 0),.p (.int .i64 0),.p (.int .i64 0),.p (.int .i64 0),.p (.int .i64 0),.p (.int .i64 0)]))) ?_
 obtain ⟨H2,e3,S4⟩:=S0.box (own:=true) (d:=15) (s:=(4::0::1::1::0::σ)) (xs:=[.p (.slice none 0 0),.p (.int .i64 ((if 0 > ((if 4096 < x1 then 4096 else x1)) then 0 else ((if 4096 < x1 then 4096 else x1))))),.p (.slice none 0 0),.p (.int .i64 0),.p (.int .i64 0),.p (.int .i64 0),.p (.int .i64 0),.p (.int .i64 0)]) (sC (SlF.nil dTaiChoice).still (sC (sI _ _) (sC (SlF.nil (dI .i64)).still (sC (sI _ _) (sC (sI _ _) (sC (sI _ _) (sC (sI _ _) (sC (sI _ _) sN)))))))) (by decide) rfl
 refine .op (e3) ?_
 refine .as (zr18_Best_l0_ok ?_ k x0 0 ((⟨(([] : List TaiChoice)),((if 0 > ((if 4096 < x1 then 4096 else x1)) then 0 else ((if 4096 < x1 then 4096 else x1)))),(([] : List Int)),[0,0,0,0],0⟩ : Tz18search)) u0 hu0 (.v (.p (.slice none 0 0))) (SoC.frz (SlF.nil dTaiChoice)) (fun v h => by cases h; simp) (.v (.p (.slice none 0 0))) (SoC.frz (SlF.nil (dI .i64))) Nq.nil (4::0::1::1::0::σ) H2 (S4.wk2 (aC (aM 0 rfl) aN) aN))
 ·intro r70_0 yg17 v73 h74 c75 h76 h77 c78 h79 h80 s81 H71 S72
  refine .ext (zr18_Best_a0_0 _ _ _ _ _ _) ?_
  refine .op (bldV pN (by kernel_rfl : _ = some (.agg [.p (.int .i64 0),.p (.int .i64 0),.p (.int .i64 0),.p (.int .i64 0)]))) ?_
  refine .call (zr18_search_try_o_ok k (⟨yg17.l,yg17.budget,yg17.best,[((yg17.good.getD 0 0)),((yg17.good.getD 1 0)),((yg17.good.getD 2 0)),((yg17.good.getD 3 0))],yg17.cost⟩ : Tz18search) h76 h77 h79 h80 (S72.atG (i:=0) rfl) (([] : List Int)) ((SlF.nil (dI .i64)).h H71) ([0,0,0,0]) (show (dA 4 (dI .i64)).R ([0,0,0,0]) [.p (.int .i64 0),.p (.int .i64 0),.p (.int .i64 0),.p (.int .i64 0)] from (⟨rfl,dI_map [0,0,0,0]⟩ : (dA 4 (dI .i64)).R [0,0,0,0] [.p (.int .i64 0),.p (.int .i64 0),.p (.int .i64 0),.p (.int .i64 0)])) 0 (KN.frz (SlF.nil (dI .i64)))) fun r83 cs84 H85 h86 q87 => ?_
  obtain ⟨c88,c91,h89,h90,h92,h93,q87⟩:=q87
  cases q87
  have S94:=S72.setG (i:=0) (cs':=[c88,.v (.p (.int .i64 r83.budget)),c91,.v (.p (.int .i64 ((r83.good.getD 0 0)))),.v (.p (.int .i64 ((r83.good.getD 1 0)))),.v (.p (.int .i64 ((r83.good.getD 2 0)))),.v (.p (.int .i64 ((r83.good.getD 3 0)))),.v (.p (.int .i64 r83.cost))]) rfl rfl rfl
  refine .nc ?_
  refine .fa ?_
  refine .op (h92.ld (S94.atG (i:=0) rfl) (j:=2) rfl) ?_
  refine .as ?_
  refine .round (Sim.ext (zr18_Best_r1 _ _ _ _ _ _) ?_)
  refine .op ((h92.sl (S94.atG (i:=0) rfl) (j:=2) rfl).len) ?_
  refine .ci ?_
  refine .op ((S94.low h74).len) ?_
  refine .ci ?_
  refine .cq ?_ ?_
  ·exact .no
  refine .pure ?_
  refine .ext (zr18_Best_a1_2 _ _ _ _ _) ?_
  obtain ⟨c96,cs97,H98,e99,h100,h101,S102⟩:=S94.expCell (i:=0) (j:=2) (e:=1) rfl rfl rfl h92 (Nq.nn h93) rfl
  exact .fin (S102.finE (Ex.st (e99 _) Ex.nil)) ⟨c96,cs97,h100,h101,rfl⟩
end
end Go.Ev
namespace Go.Ev
open Go.Proofs
set_option linter.unusedVariables false
set_option linter.unusedSimpArgs false
set_option maxRecDepth 100000
noncomputable section
abbrev KT12:=Exit→Env→H→Option (List C × H)
variable (rec : CallF) (loop : LoopV) (σ : Stamp)
def zr18_Fits_c0 : Code:=(codeAt (bodyOf Try.f35) [1,0,1,0,0])
def zr18_Fits_l0 : Lv:=⟨7,64,[(0,7)]⟩
def zr18_Fits_k0 : KT12:=(kBlock 0 (kSeq G rec loop (codeAt (bodyOf Try.f35) [1,1]) ⟨64,64,[]⟩ (1::0::σ) (finC G false Try.f35 (1::σ))))
theorem zr18_Fits_entry (x0 : V) (x1 : V) (x2 : Int) (h : H) : cvBody G rec loop 35 σ [x0,x1,(.p (.int .i64 x2))] h =
(loop zr18_Fits_c0 zr18_Fits_l0 (1::0::1::0::σ) (envL [(0,x0),(1,x1),(2,(.p (.int .i64 x2))),(7,(.p (.int .i64 0)))]) (List.replicate 50 []::h)).bind fun r1 => zr18_Fits_k0 rec loop σ r1.1 r1.2.1 r1.2.2:=by kernel_rfl
theorem zr18_Fits_r0 (x0 : V) (x1 : V) (x2 : Int) (x7 : Int) (h : H) : cvRound G rec loop zr18_Fits_c0 zr18_Fits_l0 σ (envL [(0,x0),(1,x1),(2,(.p (.int .i64 x2))),(7,(.p (.int .i64 x7)))]) h =
(lenO x0).bind fun t2 =>
(castI .i64 t2).bind fun n3 =>
(bif decide (x7 < n3) then ((lenO x1).bind fun t4 =>
(castI .i64 t4).bind fun n5 =>
some (decide (x7 < n5))) else (some false)).bind fun b6 =>
bif b6 then (
(iS 1 x1 x7).bind fun t7 =>
(ldO false 1 h t7).bind fun t8 =>
(castI .i64 t8).bind fun n9 =>
(bif n9 != (-1) then ((iS 3 x0 x7).bind fun t10 =>
(ldO true 3 h t10).bind fun t11 =>
(iS 1 x1 x7).bind fun t12 =>
(ldO false 1 h t12).bind fun t13 =>
(castI .i64 t13).bind fun n14 =>
(callO rec 78 (10::0::0::1::0::σ) [t11] h (some 30)).bind fun q15 =>
need (ldO false 1 q15.2 t12 = some (.p (.int .i64 n14))) (
(callO rec 80 (15::0::0::1::0::σ) [q15.1,(.p (.int .i64 n14))] q15.2 (some 35)).bind fun q16 =>
(asB q16.1).bind fun b17 =>
some ((.p (.bool (!b17))),q16.2))) else (some ((.p (.bool false)),h))).bind fun q18 =>
(asB q18.1).bind fun b19 =>
bif b19 then (
some (.ret,(envL [(6,(.p (.bool false)))]),q18.2))
else (
loop zr18_Fits_c0 zr18_Fits_l0 (1::σ) (envL [(0,x0),(1,x1),(2,(.p (.int .i64 x2))),(7,(.p (.int .i64 (IntKind.wrap .i64 (x7 + 1)))))]) q18.2))
else (
some ((.exit 0),(envL [(0,x0),(1,x1),(2,(.p (.int .i64 x2)))]),h)):=by kernel_rfl
theorem zr18_Fits_a0_0 (x0 : V) (x1 : V) (x2 : Int) (h : H) : zr18_Fits_k0 rec loop σ (.exit 0) (envL [(0,x0),(1,x1),(2,(.p (.int .i64 x2)))]) h =
(lenO x0).bind fun t20 =>
(castI .i64 t20).bind fun n21 =>
(lenO x1).bind fun t22 =>
(castI .i64 t22).bind fun n23 =>
(bif n21 == n23 then ((callO rec 37 (8::0::1::1::0::σ) [x0,x1] h (some 46)).bind fun q24 =>
(castI .i64 q24.1).bind fun n25 =>
some ((.p (.bool (decide (n25 ≤ x2)))),q24.2)) else (some ((.p (.bool false)),h))).bind fun q26 =>
(asB q26.1).bind fun b27 =>
fin false σ q26.2 [(.p (.bool b27))]:=by kernel_rfl
theorem zr18_Fits_a0_ret (x6 : Bool) (h : H) : zr18_Fits_k0 rec loop σ .ret (envL [(6,(.p (.bool x6)))]) h =
fin false σ h [(.p (.bool x6))]:=by kernel_rfl
def zr18_Cost_c0 : Code:=(codeAt (bodyOf Try.f37) [1,1,0,1,0,0])
def zr18_Cost_l0 : Lv:=⟨32,16,[(0,32)]⟩
def zr18_Cost_k0 : KT12:=(kBlock 0 (kSeq G rec loop (codeAt (bodyOf Try.f37) [1,1,1]) ⟨16,16,[]⟩ (1::1::0::σ) (finC G false Try.f37 (1::σ))))
theorem zr18_Cost_entry (x0 : V) (x1 : V) (h : H) : cvBody G rec loop 37 σ [x0,x1] h =
(loop zr18_Cost_c0 zr18_Cost_l0 (1::0::1::1::0::σ) (envL [(0,x0),(1,x1),(5,(.p (.int .i64 0))),(6,(.p (.int .i64 0)))]) (List.replicate 73 []::h)).bind fun r1 => zr18_Cost_k0 rec loop σ r1.1 r1.2.1 r1.2.2:=by kernel_rfl
theorem zr18_Cost_r0 (x0 : V) (x1 : V) (x5 : Int) (x6 : Int) (h : H) : cvRound G rec loop zr18_Cost_c0 zr18_Cost_l0 σ (envL [(0,x0),(1,x1),(5,(.p (.int .i64 x5))),(6,(.p (.int .i64 x6)))]) h =
(lenO x0).bind fun t2 =>
(castI .i64 t2).bind fun n3 =>
(bif decide (x6 < n3) then ((lenO x1).bind fun t4 =>
(castI .i64 t4).bind fun n5 =>
some (decide (x6 < n5))) else (some false)).bind fun b6 =>
bif b6 then (
(iS 3 x0 x6).bind fun t7 =>
(ldO true 3 h t7).bind fun t8 =>
(callO rec 78 (4::0::0::1::0::σ) [t8] h (some 24)).bind fun q9 =>
(some (alO [.p (.int .i64 0),.p (.slice none 0 0),.p (.slice none 0 0)] (5::0::0::1::0::σ) 7 q9.2)).bind fun q10 =>
((stO false 3 (6::0::0::1::0::σ) q10.2 q10.1 q9.1).map fun h => (udf,h)).bind fun q11 =>
(iS 1 x1 x6).bind fun t12 =>
(ldO false 1 q11.2 t12).bind fun t13 =>
(castI .i64 t13).bind fun n14 =>
(bif decide (n14 ≥ 0) then ((iS 1 x1 x6).bind fun t15 =>
(ldO false 1 q11.2 t15).bind fun t16 =>
(castI .i64 t16).bind fun n17 =>
(fA q10.1 1).bind fun t18 =>
(ldO false 1 q11.2 t18).bind fun t19 =>
(lenO t19).bind fun t20 =>
(castI .i64 t20).bind fun n21 =>
some (decide (n17 < n21))) else (some false)).bind fun b22 =>
(bif b22 then ((fA q10.1 1).bind fun t23 =>
(ldO false 1 q11.2 t23).bind fun t24 =>
(iS 1 x1 x6).bind fun t25 =>
(ldO false 1 q11.2 t25).bind fun t26 =>
(castI .i64 t26).bind fun n27 =>
(iS 1 t24 n27).bind fun t28 =>
(ldO false 1 q11.2 t28).bind fun t29 =>
(castI .i64 t29).bind fun n30 =>
some (decide (n30 > 0))) else (some false)).bind fun b31 =>
bif b31 then (
(fA q10.1 1).bind fun t32 =>
(ldO false 1 q11.2 t32).bind fun t33 =>
(iS 1 x1 x6).bind fun t34 =>
(ldO false 1 q11.2 t34).bind fun t35 =>
(castI .i64 t35).bind fun n36 =>
(iS 1 t33 n36).bind fun t37 =>
(ldO false 1 q11.2 t37).bind fun t38 =>
(castI .i64 t38).bind fun n39 =>
bif decide (n39 > (IntKind.wrap .i64 (9223372036854775807 - x5))) then (
some (.ret,(envL [(4,(.p (.int .i64 9223372036854775807)))]),q11.2))
else (
(fA q10.1 1).bind fun t40 =>
(ldO false 1 q11.2 t40).bind fun t41 =>
(iS 1 x1 x6).bind fun t42 =>
(ldO false 1 q11.2 t42).bind fun t43 =>
(castI .i64 t43).bind fun n44 =>
(iS 1 t41 n44).bind fun t45 =>
(ldO false 1 q11.2 t45).bind fun t46 =>
(castI .i64 t46).bind fun n47 =>
loop zr18_Cost_c0 zr18_Cost_l0 (1::σ) (envL [(0,x0),(1,x1),(5,(.p (.int .i64 (IntKind.wrap .i64 (x5 + n47))))),(6,(.p (.int .i64 (IntKind.wrap .i64 (x6 + 1)))))]) q11.2))
else (
loop zr18_Cost_c0 zr18_Cost_l0 (1::σ) (envL [(0,x0),(1,x1),(5,(.p (.int .i64 x5))),(6,(.p (.int .i64 (IntKind.wrap .i64 (x6 + 1)))))]) q11.2))
else (
some ((.exit 0),(envL [(5,(.p (.int .i64 x5)))]),h)):=by kernel_rfl
theorem zr18_Cost_a0_0 (x5 : Int) (h : H) : zr18_Cost_k0 rec loop σ (.exit 0) (envL [(5,(.p (.int .i64 x5)))]) h =
fin false σ h [(.p (.int .i64 x5))]:=by kernel_rfl
theorem zr18_Cost_a0_ret (x4 : Int) (h : H) : zr18_Cost_k0 rec loop σ .ret (envL [(4,(.p (.int .i64 x4)))]) h =
fin false σ h [(.p (.int .i64 x4))]:=by kernel_rfl
end
end Go.Ev
namespace Go.Ev
open Go.Proofs
set_option linter.unusedVariables false
set_option linter.unusedSimpArgs false
set_option maxRecDepth 100000
section
variable {β α : Type} {Q : β→α→Prop} {K : Exit × Env × H→Option α}
def p_zr18_Cost_l0 {β : Type} (k : Nat) (kE0 : Int→Option β) (kE1 : Int→Option β) (x0 : (List TaiChoice)) (x1 : (List Int)) (x5 : Int) (x6 : Int) : Option β:=match k with
| 0 => none
| k + 1 =>
(bif decide (x6 < ((x0.length : Int))) then (some (decide (x6 < ((x1.length : Int))))) else (some false)).bind fun b7 =>
bif b7 then (
(ix x0 x6).bind fun a12 =>
(p_zr18_few k a12).bind fun r21 =>
(ix x1 x6).bind fun a39 =>
(bif decide (a39 ≥ 0) then ((ix x1 x6).bind fun a42 =>
some (decide (a42 < ((r21.Costs.length : Int))))) else (some false)).bind fun b45 =>
(bif b45 then ((ix x1 x6).bind fun a49 =>
(ix r21.Costs a49).bind fun a52 =>
some (decide (a52 > 0))) else (some false)).bind fun b55 =>
bif b55 then (
(ix x1 x6).bind fun a60 =>
(ix r21.Costs a60).bind fun a63 =>
bif decide (a63 > (IntKind.wrap .i64 (9223372036854775807 - x5))) then (
kE1 9223372036854775807)
else (
(ix x1 x6).bind fun a67 =>
(ix r21.Costs a67).bind fun a70 =>
p_zr18_Cost_l0 k kE0 kE1 x0 x1 (IntKind.wrap .i64 (x5 + a70)) (IntKind.wrap .i64 (x6 + 1))))
else (
p_zr18_Cost_l0 k kE0 kE1 x0 x1 x5 (IntKind.wrap .i64 (x6 + 1))))
else (
kE0 x5)
def p_zr18_Cost (k : Nat) (x0 : (List TaiChoice)) (x1 : (List Int)) : Option (Int) :=
p_zr18_Cost_l0 k (fun r77_5 =>
some (r77_5)) (fun r80_4 =>
some (r80_4)) x0 x1 0 0
theorem zr18_Cost_l0_ok {h : H}  {kE0 : Int→Option β} {kE1 : Int→Option β} (hE0 : ∀ (q5 : Int) (H73 : Go.Ev.H) (_ : Fm 73 h [] [] [] H73),Sim (kE0 q5) (K ((.exit 0),(envL [(5,(.p (.int .i64 q5)))]),H73)) Q) (hE1 : ∀ (q4 : Int) (H75 : Go.Ev.H) (_ : Fm 73 h [] [] [] H75),Sim (kE1 q4) (K (.ret,(envL [(4,(.p (.int .i64 q4)))]),H75)) Q) (k : Nat) : ∀ (x0 : (List TaiChoice)) (x1 : (List Int)) (x5 : Int) (x6 : Int) (v3 : V) (h4 : SlH h dTaiChoice x0 v3) (v5 : V) (h6 : SlH h (dI .i64) x1 v5) (H1 : Go.Ev.H) (_ : Fm 73 h [] [] [] H1) {σ : Stamp},Sim (p_zr18_Cost_l0 k kE0 kE1 x0 x1 x5 x6) ((cvL G X0 zr18_Cost_c0 zr18_Cost_l0 σ (envL [(0,v3),(1,v5),(5,(.p (.int .i64 x5))),(6,(.p (.int .i64 x6)))]) H1).bind K) Q:=by
 induction k with
 | zero => intros; exact .no
 | succ k ih =>
  intro x0 x1 x5 x6 v3 h4 v5 h6 H1 S2 σ
  rw [p_zr18_Cost_l0]
  refine .round (Sim.ext (zr18_Cost_r0 _ _ _ _ _ _ _ _) ?_)
  refine .op ((S2.low h4).len) ?_
  refine .ci ?_
  refine .ch (P:=fun r y => r = y) ?_ (fun b7 y8 h9 h10 => ?_)
  ·refine .cq ?_ ?_
   ·refine .op ((S2.low h6).len) ?_
    refine .ci ?_
    exact .ret rfl rfl
   ·exact .ret rfl rfl
  subst h10
  refine .cq ?_ ?_
  ·refine .bd fun a12 h13 => ?_
   refine .op ((S2.low h4).iS h13 rfl) ?_
   obtain ⟨w15,h16,hE14⟩:=(S2.low h4).el h13 rfl
   obtain ⟨v17,v19,rfl,h18,h20⟩:=dTaiChoice.inv h16
   refine .op (hE14.all (by simp)) ?_
   refine .call (zr18_few_ok k a12 (show dTaiChoice.R a12 [.p (.int .i64 a12.Class),v17,v19] from (dTaiChoice.mk h18 h20))) fun r21 cs22 H23 h24 q25 => ?_
   obtain ⟨w26,h27,q25⟩:=q25
   cases q25
   obtain ⟨v28,v30,rfl,h29,h31⟩:=dTaiChoice.inv h27
   obtain ⟨H32,e33,S34⟩:=S2.al (d:=7) (s:=(5::0::0::1::0::σ)) (z:=[(.p (.int .i64 0)),(.p (.slice none 0 0)),(.p (.slice none 0 0))]) (by decide) rfl
   refine .op (congrArg some e33) ?_
   obtain ⟨H36,e37,S38⟩:=S34.stGv (i:=0) (j:=0) (own:=false) (σ:=(6::0::0::1::0::σ)) (xs:=[(.p (.int .i64 r21.Class)),v28,v30]) rfl rfl (sC (sI _ _) (sC h29.still (sC h31.still sN))) rfl rfl
   refine .op (sM e37) ?_
   refine .bd fun a39 h40 => ?_
   refine .op ((S38.low h6).iS h40 rfl) ?_
   obtain ⟨_,rfl,hE41⟩:=(S38.low h6).el h40 rfl
   refine .op (hE41.ld (j:=0) rfl) ?_
   refine .ci ?_
   refine .ch (P:=fun r y => r = y) ?_ (fun b45 y46 h47 h48 => ?_)
   ·refine .cq ?_ ?_
    ·refine .bd fun a42 h43 => ?_
     refine .op ((S38.low h6).iS h43 rfl) ?_
     obtain ⟨_,rfl,hE44⟩:=(S38.low h6).el h43 rfl
     refine .op (hE44.ld (j:=0) rfl) ?_
     refine .ci ?_
     refine .fa ?_
     refine .op ((S38.atG (i:=0) rfl).ld (j:=1) rfl) ?_
     refine .op ((h29.h H36).len) ?_
     refine .ci ?_
     exact .ret rfl rfl
    ·exact .ret rfl rfl
   subst h48
   refine .ch (P:=fun r y => r = y) ?_ (fun b55 y56 h57 h58 => ?_)
   ·refine .cq ?_ ?_
    ·refine .fa ?_
     refine .op ((S38.atG (i:=0) rfl).ld (j:=1) rfl) ?_
     refine .bd fun a49 h50 => ?_
     refine .op ((S38.low h6).iS h50 rfl) ?_
     obtain ⟨_,rfl,hE51⟩:=(S38.low h6).el h50 rfl
     refine .op (hE51.ld (j:=0) rfl) ?_
     refine .ci ?_
     refine .bd fun a52 h53 => ?_
     refine .op ((h29.h H36).iS h53 rfl) ?_
     obtain ⟨_,rfl,hE54⟩:=(h29.h H36).el h53 rfl
     refine .op (hE54.ld (j:=0) rfl) ?_
     refine .ci ?_
     exact .ret rfl rfl
    ·exact .ret rfl rfl
   subst h58
   refine .cq ?_ ?_
   ·refine .fa ?_
    refine .op ((S38.atG (i:=0) rfl).ld (j:=1) rfl) ?_
    refine .bd fun a60 h61 => ?_
    refine .op ((S38.low h6).iS h61 rfl) ?_
    obtain ⟨_,rfl,hE62⟩:=(S38.low h6).el h61 rfl
    refine .op (hE62.ld (j:=0) rfl) ?_
    refine .ci ?_
    refine .bd fun a63 h64 => ?_
    refine .op ((h29.h H36).iS h64 rfl) ?_
    obtain ⟨_,rfl,hE65⟩:=(h29.h H36).el h64 rfl
    refine .op (hE65.ld (j:=0) rfl) ?_
    refine .ci ?_
    refine .cq ?_ ?_
    ·exact hE1 9223372036854775807 H36 (S38.wk2 aN aN)
    refine .fa ?_
    refine .op ((S38.atG (i:=0) rfl).ld (j:=1) rfl) ?_
    refine .bd fun a67 h68 => ?_
    refine .op ((S38.low h6).iS h68 rfl) ?_
    obtain ⟨_,rfl,hE69⟩:=(S38.low h6).el h68 rfl
    refine .op (hE69.ld (j:=0) rfl) ?_
    refine .ci ?_
    refine .bd fun a70 h71 => ?_
    refine .op ((h29.h H36).iS h71 rfl) ?_
    obtain ⟨_,rfl,hE72⟩:=(h29.h H36).el h71 rfl
    refine .op (hE72.ld (j:=0) rfl) ?_
    refine .ci ?_
    exact ih x0 x1 (IntKind.wrap .i64 (x5 + a70)) (IntKind.wrap .i64 (x6 + 1)) v3 h4 v5 h6 H36 (S38.wk2 aN aN)
   exact ih x0 x1 x5 (IntKind.wrap .i64 (x6 + 1)) v3 h4 v5 h6 H36 (S38.wk2 aN aN)
  exact hE0 x5 H1 (S2.wk2 aN aN)
theorem zr18_Cost_ok (k : Nat) {h : H} {σ : Stamp} (x0 : List TaiChoice) {u0 : V} (hu0 : SlH h dTaiChoice x0 u0) (x1 : List Int) {u1 : V} (hu1 : SlH h (dI .i64) x1 u1) : Sim (p_zr18_Cost k x0 x1) (ev G X0 37 σ [u0,u1] h) (fun r s => s = ([.v (.p (.int .i64 r))],h)):=by
 refine .ev rfl (Sim.ext (zr18_Cost_entry _ _ _ _ _ _) ?_)
 rw [p_zr18_Cost]
 have S0 : Fm 73 h [] [] [] (List.replicate 73 []::h):=Fm.start0
 refine .as (zr18_Cost_l0_ok ?_ ?_ k x0 x1 0 0 u0 hu0 u1 hu1 (List.replicate 73 []::h) (S0.wk2 aN aN))
 ·intro r77_5 H78 S79
  refine .ext (zr18_Cost_a0_0 _ _ _ _ _) ?_
  exact .fin (S79.finN (lC (sI _ _).lv lN)) rfl
 ·intro r80_4 H81 S82
  refine .ext (zr18_Cost_a0_ret _ _ _ _ _) ?_
  exact .fin (S82.finN (lC (sI _ _).lv lN)) rfl
def p_zr18_Fits_l0 {β : Type} (k : Nat) (kE0 : (List TaiChoice)→(List Int)→Int→Option β) (kE1 : Bool→Option β) (x0 : (List TaiChoice)) (x1 : (List Int)) (x2 : Int) (x7 : Int) : Option β:=match k with
| 0 => none
| k + 1 =>
(bif decide (x7 < ((x0.length : Int))) then (some (decide (x7 < ((x1.length : Int))))) else (some false)).bind fun b7 =>
bif b7 then (
(ix x1 x7).bind fun a12 =>
(bif a12 != (-1) then ((ix x0 x7).bind fun a15 =>
(ix x1 x7).bind fun a24 =>
(p_zr18_few k a15).bind fun r27 =>
(p_zr18_place r27 a24).bind fun r39 =>
some (!r39)) else (some false)).bind fun b44 =>
bif b44 then (
kE1 false)
else (
p_zr18_Fits_l0 k kE0 kE1 x0 x1 x2 (IntKind.wrap .i64 (x7 + 1))))
else (
kE0 x0 x1 x2)
def p_zr18_Fits (k : Nat) (x0 : (List TaiChoice)) (x1 : (List Int)) (x2 : Int) : Option (Bool) :=
p_zr18_Fits_l0 k (fun r57_0 r57_1 r57_2 =>
(bif ((r57_0.length : Int)) == ((r57_1.length : Int)) then ((p_zr18_Cost k r57_0 r57_1).bind fun r64 =>
some (decide (r64 ≤ r57_2))) else (some false)).bind fun b69 =>
some (b69)) (fun r73_6 =>
some (r73_6)) x0 x1 x2 0
theorem zr18_Fits_l0_ok {h : H}  {kE0 : (List TaiChoice)→(List Int)→Int→Option β} {kE1 : Bool→Option β} (hE0 : ∀ (q0 : (List TaiChoice)) (q1 : (List Int)) (q2 : Int) (v51 : V) (h52 : SlH h dTaiChoice q0 v51) (v53 : V) (h54 : SlH h (dI .i64) q1 v53) (H49 : Go.Ev.H) (_ : Fm 50 h [] [] [] H49),Sim (kE0 q0 q1 q2) (K ((.exit 0),(envL [(0,v51),(1,v53),(2,(.p (.int .i64 q2)))]),H49)) Q) (hE1 : ∀ (q6 : Bool) (H55 : Go.Ev.H) (_ : Fm 50 h [] [] [] H55),Sim (kE1 q6) (K (.ret,(envL [(6,(.p (.bool q6)))]),H55)) Q) (k : Nat) : ∀ (x0 : (List TaiChoice)) (x1 : (List Int)) (x2 : Int) (x7 : Int) (v3 : V) (h4 : SlH h dTaiChoice x0 v3) (v5 : V) (h6 : SlH h (dI .i64) x1 v5) (H1 : Go.Ev.H) (_ : Fm 50 h [] [] [] H1) {σ : Stamp},Sim (p_zr18_Fits_l0 k kE0 kE1 x0 x1 x2 x7) ((cvL G X0 zr18_Fits_c0 zr18_Fits_l0 σ (envL [(0,v3),(1,v5),(2,(.p (.int .i64 x2))),(7,(.p (.int .i64 x7)))]) H1).bind K) Q:=by
 induction k with
 | zero => intros; exact .no
 | succ k ih =>
  intro x0 x1 x2 x7 v3 h4 v5 h6 H1 S2 σ
  rw [p_zr18_Fits_l0]
  refine .round (Sim.ext (zr18_Fits_r0 _ _ _ _ _ _ _ _) ?_)
  refine .op ((S2.low h4).len) ?_
  refine .ci ?_
  refine .ch (P:=fun r y => r = y) ?_ (fun b7 y8 h9 h10 => ?_)
  ·refine .cq ?_ ?_
   ·refine .op ((S2.low h6).len) ?_
    refine .ci ?_
    exact .ret rfl rfl
   ·exact .ret rfl rfl
  subst h10
  refine .cq ?_ ?_
  ·refine .bd fun a12 h13 => ?_
   refine .op ((S2.low h6).iS h13 rfl) ?_
   obtain ⟨_,rfl,hE14⟩:=(S2.low h6).el h13 rfl
   refine .op (hE14.ld (j:=0) rfl) ?_
   refine .ci ?_
   refine .ch (P:=fun r y => (.p (.bool r),H1) = y) ?_ (fun b44 y45 h46 h47 => ?_)
   ·refine .cq ?_ ?_
    ·refine .bd fun a15 h16 => ?_
     refine .op ((S2.low h4).iS h16 rfl) ?_
     obtain ⟨w18,h19,hE17⟩:=(S2.low h4).el h16 rfl
     obtain ⟨v20,v22,rfl,h21,h23⟩:=dTaiChoice.inv h19
     refine .op (hE17.all (by simp)) ?_
     refine .bd fun a24 h25 => ?_
     refine .op ((S2.low h6).iS h25 rfl) ?_
     obtain ⟨_,rfl,hE26⟩:=(S2.low h6).el h25 rfl
     refine .op (hE26.ld (j:=0) rfl) ?_
     refine .ci ?_
     refine .call (zr18_few_ok k a15 (show dTaiChoice.R a15 [.p (.int .i64 a15.Class),v20,v22] from (dTaiChoice.mk h21 h23))) fun r27 cs28 H29 h30 q31 => ?_
     obtain ⟨w32,h33,q31⟩:=q31
     cases q31
     obtain ⟨v34,v36,rfl,h35,h37⟩:=dTaiChoice.inv h33
     obtain ⟨_,rfl,hE38⟩:=(S2.low h6).el h25 rfl
     refine .nd (hE38.ld (j:=0) rfl) ?_
     refine .call (zr18_place_ok r27 h33 a24) fun r39 cs40 H41 h42 q43 => ?_
     cases q43
     refine .ab ?_
     exact .ret rfl rfl
    ·exact .ret rfl rfl
   subst h47
   refine .ab ?_
   refine .cq ?_ ?_
   ·exact hE1 false H1 (S2.wk2 aN aN)
   exact ih x0 x1 x2 (IntKind.wrap .i64 (x7 + 1)) v3 h4 v5 h6 H1 (S2.wk2 aN aN)
  exact hE0 x0 x1 x2 v3 h4 v5 h6 H1 (S2.wk2 aN aN)
theorem zr18_Fits_ok (k : Nat) {h : H} {σ : Stamp} (x0 : List TaiChoice) {u0 : V} (hu0 : SlH h dTaiChoice x0 u0) (x1 : List Int) {u1 : V} (hu1 : SlH h (dI .i64) x1 u1) (x2 : Int) : Sim (p_zr18_Fits k x0 x1 x2) (ev G X0 35 σ [u0,u1,(.p (.int .i64 x2))] h) (fun r s => s = ([.v (.p (.bool r))],h)):=by
 refine .ev rfl (Sim.ext (zr18_Fits_entry _ _ _ _ _ _ _) ?_)
 rw [p_zr18_Fits]
 have S0 : Fm 50 h [] [] [] (List.replicate 50 []::h):=Fm.start0
 refine .as (zr18_Fits_l0_ok ?_ ?_ k x0 x1 x2 0 u0 hu0 u1 hu1 (List.replicate 50 []::h) (S0.wk2 aN aN))
 ·intro r57_0 r57_1 r57_2 v60 h61 v62 h63 H58 S59
  refine .ext (zr18_Fits_a0_0 _ _ _ _ _ _ _) ?_
  refine .op ((S59.low h61).len) ?_
  refine .ci ?_
  refine .op ((S59.low h63).len) ?_
  refine .ci ?_
  refine .ch (P:=fun r y => (.p (.bool r),H58) = y) ?_ (fun b69 y70 h71 h72 => ?_)
  ·refine .cq ?_ ?_
   ·refine .call (zr18_Cost_ok k r57_0 (S59.low h61) r57_1 (S59.low h63)) fun r64 cs65 H66 h67 q68 => ?_
    cases q68
    refine .ci ?_
    exact .ret rfl rfl
   ·exact .ret rfl rfl
  subst h72
  refine .ab ?_
  exact .fin (S59.finN (lC (sB _).lv lN)) rfl
 ·intro r73_6 H74 S75
  refine .ext (zr18_Fits_a0_ret _ _ _ _ _) ?_
  exact .fin (S75.finN (lC (sB _).lv lN)) rfl
end
end Go.Ev
namespace Go.Ev
namespace Knap
theorem getD_app {z w : List Int} {q : Nat} (h : q < z.length) : (z ++ w).getD q 0 = z.getD q 0:=by
 rw [List.getD_eq_getElem?_getD,List.getD_eq_getElem?_getD,List.getElem?_append_left h]
theorem getD_last {z : List Int} {v : Int} : (z ++ [v]).getD z.length 0 = v:=by
 rw [List.getD_eq_getElem?_getD]; simp
theorem few_loop {β : Type} (kE : List Int→TaiChoice→TaiChoice→Option β) {g : List Int} {a b : TaiChoice} (hg : g.length ≤ 4) (h0 : ∀ q,0 ≤ g.getD q 0) (h1 : ∀ q,g.getD q 0 ≤ 1048576) : ∀ m i k : Nat,i + m = g.length→m < k →
  p_zr18_few_l0 k kE (g.take i) g (g.length : Int) (i : Int) a b = kE g a b:=by
 intro m
 induction m with
 | zero =>
  intro i k hi hk
  obtain ⟨k,rfl⟩ : ∃ j,k = j + 1:=⟨k - 1,by omega⟩
  rw [p_zr18_few_l0,decide_eq_false (by omega),cond_false,List.take_of_length_le (by omega)]
 | succ m ih =>
  intro i k hi hk
  obtain ⟨k,rfl⟩ : ∃ j,k = j + 1:=⟨k - 1,by omega⟩
  have a0:=h0 i
  have a1:=h1 i
  have hy : (if 0 > (if 1073741824 < g.getD i 0 then 1073741824 else g.getD i 0) then 0 else (if 1073741824 < g.getD i 0 then 1073741824 else g.getD i 0)) = g.getD i 0:=by
   rw [if_neg (show ¬ 1073741824 < g.getD i 0 by omega)]
   split <;> omega
  have ht : g.take i ++ [g.getD i 0] = g.take (i + 1):=by
   rw [List.take_add_one,List.getElem?_eq_getElem (by omega),List.getD_eq_getElem?_getD,List.getElem?_eq_getElem (by omega)]; rfl
  rw [p_zr18_few_l0,decide_eq_true (by omega),cond_true,ix_z (by omega),Option.bind_some,decide_eq_true (by omega),cond_true,hy,ap_eq (by omega) (by simp; omega),Option.bind_some,ht,wrap_nat (by omega)]
  exact ih (i + 1) k (by omega) (by omega)
theorem few_ok {c : TaiChoice} (h : OkC c) {k : Nat} (hk : 6 ≤ k) : p_zr18_few k c = some c:=by
 unfold p_zr18_few
 have hl:=h.l4
 have hlen:=h.len
 have hmin : (if 4 < ((c.Costs.length : Int)) then 4 else ((c.Costs.length : Int))) = (c.Costs.length : Int):=by split <;> omega
 rw [hmin,sub_all rfl,Option.bind_some]
 exact few_loop (fun r76_3 yg29 _ => some (⟨yg29.Class,yg29.Costs,r76_3⟩ : TaiChoice)) (g:=c.Goods) (by omega) h.g0 h.gb c.Goods.length 0 k (by omega) (by omega)
theorem place_ok {c : TaiChoice} (h : OkC c) (p : Int) : p_zr18_place c p = some (hasB c p):=by
 unfold p_zr18_place
 have hlen:=h.len
 by_cases h0 : 0 ≤ p
 ·by_cases h1 : p < (c.Costs.length : Int)
  ·have e1 : decide (p < (c.Goods.length : Int)) = true:=decide_eq_true (by omega)
   have e2 : decide (c.Class ≥ 0) = true:=decide_eq_true h.c0
   have e3 : decide (c.Class ≤ 3) = true:=decide_eq_true (by have:=h.c4; omega)
   rw [ix_get (d:=0) h0 h1]
   by_cases h2 : 0 ≤ c.Costs.getD p.toNat 0
   ·have : hasB c p = true:=by rw [hasB,decide_eq_true_eq]; exact ⟨h0,h1,h2⟩
    rw [this]
    simp only [decide_eq_true h0,decide_eq_true h1,e1,e2,e3,decide_eq_true h2,cond_true,Option.bind_some,ge_iff_le]
   ·have : hasB c p = false:=by rw [hasB,decide_eq_false_iff_not]; exact fun h => h2 h.2.2
    rw [this]
    simp only [decide_eq_true h0,decide_eq_true h1,e1,decide_eq_false h2,cond_true,cond_false,Option.bind_some,ge_iff_le]
  ·have : hasB c p = false:=by rw [hasB,decide_eq_false_iff_not]; exact fun h => h1 h.2.1
   rw [this]
   simp only [decide_eq_true h0,decide_eq_false h1,cond_true,cond_false,Option.bind_some,ge_iff_le]
 ·have : hasB c p = false:=by rw [hasB,decide_eq_false_iff_not]; exact fun h => h0 h.1
  rw [this]
  simp only [decide_eq_false h0,cond_false,Option.bind_some,ge_iff_le]
theorem rbet_step {kE0 : Unit→Option Bool} {kE1 : Bool→Option Bool} {a b : List Int} {i k : Nat} (hi : i < 4) :
  p_zr18_Better_l0 (k + 1) kE0 kE1 (i : Int) a b = if a.getD i 0 = b.getD i 0 then p_zr18_Better_l0 k kE0 kE1 ((i + 1 : Nat) : Int) [a.getD 0 0,a.getD 1 0,a.getD 2 0,a.getD 3 0] [b.getD 0 0,b.getD 1 0,b.getD 2 0,b.getD 3 0] else kE1 (decide (a.getD i 0 > b.getD i 0)):=by
 rw [p_zr18_Better_l0,decide_eq_true (by omega),cond_true]
 have ha : ∀ a : List Int,ix [a.getD 0 0,a.getD 1 0,a.getD 2 0,a.getD 3 0] (i : Int) = some (a.getD i 0):=fun a => by
  have : i = 0 ∨ i = 1 ∨ i = 2 ∨ i = 3:=by omega
  rcases this with rfl | rfl | rfl | rfl <;> rfl
 rw [ha,Option.bind_some,ha,Option.bind_some,wrap_nat (by omega)]
 by_cases h : a.getD i 0 = b.getD i 0
 ·rw [if_pos h,h]
  simp only [bne_self_eq_false,cond_false]
 ·rw [if_neg h]
  have : (a.getD i 0 != b.getD i 0) = true:=bne_iff_ne.2 h
  rw [this,cond_true,Option.bind_some,Option.bind_some]
theorem rbet_ok {a b : List Int} (ha : G4 a) (hb : G4 b) {k : Nat} (hk : 10 ≤ k) : p_zr18_Better k a b = some (decide (key b < key a)):=by
 obtain ⟨k,rfl⟩ : ∃ j,k = j + 1 + 1 + 1 + 1 + 1:=⟨k - 5,by omega⟩
 unfold p_zr18_Better
 obtain ⟨ea,a0,a1,a2,a3⟩:=ha
 obtain ⟨eb,b0,b1,b2,b3⟩:=hb
 have s0:=@rbet_step (fun _ => some false) (fun r => some r) a b 0 (k + 1 + 1 + 1 + 1) (by omega)
 have s1:=@rbet_step (fun _ => some false) (fun r => some r) a b 1 (k + 1 + 1 + 1) (by omega)
 have s2:=@rbet_step (fun _ => some false) (fun r => some r) a b 2 (k + 1 + 1) (by omega)
 have s3:=@rbet_step (fun _ => some false) (fun r => some r) a b 3 (k + 1) (by omega)
 have s4 : p_zr18_Better_l0 (k + 1) (fun _ => some false) (fun r => some r) ((4 : Nat) : Int) a b = some false:=by rw [p_zr18_Better_l0]; rfl
 rw [← ea,← eb] at s0 s1 s2 s3
 rw [s1,s2,s3,s4] at s0
 refine s0.trans ?_
 unfold key
 generalize a.getD 0 0 = x0 at *
 generalize a.getD 1 0 = x1 at *
 generalize a.getD 2 0 = x2 at *
 generalize a.getD 3 0 = x3 at *
 generalize b.getD 0 0 = y0 at *
 generalize b.getD 1 0 = y1 at *
 generalize b.getD 2 0 = y2 at *
 generalize b.getD 3 0 = y3 at *
 clear s0 s1 s2 s3 s4 ea eb
 by_cases c0 : x0 = y0
 ·rw [if_pos c0]
  by_cases c1 : x1 = y1
  ·rw [if_pos c1]
   by_cases c2 : x2 = y2
   ·rw [if_pos c2]
    by_cases c3 : x3 = y3
    ·rw [if_pos c3]; congr 1; symm; exact decide_eq_false (by omega)
    ·rw [if_neg c3]; congr 1; rw [Bool.eq_iff_iff,decide_eq_true_eq,decide_eq_true_eq]; omega
   ·rw [if_neg c2]; congr 1; rw [Bool.eq_iff_iff,decide_eq_true_eq,decide_eq_true_eq]; omega
  ·rw [if_neg c1]; congr 1; rw [Bool.eq_iff_iff,decide_eq_true_eq,decide_eq_true_eq]; omega
 ·rw [if_neg c0]; congr 1; rw [Bool.eq_iff_iff,decide_eq_true_eq,decide_eq_true_eq]; omega
theorem first_loop {c y : List Int} (hl : y.length = c.length) (h8 : c.length ≤ 8) : ∀ m i k : Nat,i + m = c.length→m < k→(∀ q,q < i→c.getD q 0 = y.getD q 0) →
  ∃ r,p_zr18_first_l0 k (fun _ => some false) (fun r => some r) c y (c.length : Int) (i : Int) = some r∧(r = true→∃ q,q < c.length∧(∀ p,p < q→c.getD p 0 = y.getD p 0)∧c.getD q 0 < y.getD q 0):=by
 intro m
 induction m with
 | zero =>
  intro i k hi hk _
  obtain ⟨k,rfl⟩ : ∃ j,k = j + 1:=⟨k - 1,by omega⟩
  rw [p_zr18_first_l0,decide_eq_false (by omega),cond_false]
  exact ⟨false,rfl,fun h => by cases h⟩
 | succ m ih =>
  intro i k hi hk hq
  obtain ⟨k,rfl⟩ : ∃ j,k = j + 1:=⟨k - 1,by omega⟩
  rw [p_zr18_first_l0,decide_eq_true (by omega),cond_true,ix_z (by omega),Option.bind_some,ix_z (by omega),Option.bind_some,Option.bind_some,Option.bind_some,wrap_nat (by omega)]
  by_cases h : c.getD i 0 = y.getD i 0
  ·rw [h,bne_self_eq_false,cond_false]
   exact ih (i + 1) k (by omega) (by omega) fun q hq2 => by
    by_cases e : q = i
    ·rw [e,h]
    ·exact hq q (by omega)
  ·rw [show (c.getD i 0 != y.getD i 0) = true from bne_iff_ne.2 h,cond_true]
   exact ⟨_,rfl,fun hr => ⟨i,by omega,hq,by simpa using hr⟩⟩
theorem first_no {l : List TaiChoice} (hl : OkL l) (h8 : l.length ≤ 8) {c y : List Int} (hc : c.length = l.length) (hy : y.length = l.length) (fc : FA l c) (fy : FA l y) (h : cd y l.length < cd c l.length) {k : Nat} (hk : 10 ≤ k) : p_zr18_first k c y = some false:=by
 obtain ⟨r,e,hr⟩:=first_loop (c:=c) (y:=y) (by omega) (by omega) c.length 0 k (by omega) (by omega) (fun q hq => by omega)
 have : r = false:=by
  cases r
  ·rfl
  ·obtain ⟨q,q1,q2,q3⟩:=hr rfl
   have:=cd_lt hl fc fy q2 q3 (l.length - (q + 1)) (by omega)
   rw [show q + 1 + (l.length - (q + 1)) = l.length by omega] at this
   omega
 rw [this] at e
 exact e
end Knap
end Go.Ev
namespace Go.Ev
namespace Knap
abbrev RS:=Tz18search
structure RInv (l : List TaiChoice) (B : Int) (s : RS) : Prop where
 sl : s.l = l
 sb : s.budget = B
 g4 : s.good = [s.good.getD 0 0,s.good.getD 1 0,s.good.getD 2 0,s.good.getD 3 0]
 best : s.best ≠ []→s.best.length = l.length∧FA l s.best∧costL l s.best ≤ B∧s.good = goodL l s.best∧s.cost = costL l s.best
def RUp (l : List TaiChoice) (b b' : List Int) : Prop:=b ≠ []→b' ≠ []∧(b' = b ∨ obj l b < obj l b')
def RCov (l : List TaiChoice) (b : List Int) (z : List Int) : Prop:=b ≠ []∧Le l z b
theorem RCov.up {l : List TaiChoice} {b b' : List Int} {z : List Int} (h : RCov l b z) (u : RUp l b b') : RCov l b' z:=by
 obtain ⟨h1,h2⟩:=u h.1
 refine ⟨h1,?_⟩
 rcases h2 with h2 | h2
 ·rw [h2]; exact h.2
 ·rcases h.2 with h3 | h3
  ·exact .inl (by omega)
  ·exact .inl (by omega)
theorem RUp.trans {l : List TaiChoice} {a b c : List Int} (h : RUp l a b) (h' : RUp l b c) : RUp l a c:=fun hs => by
 obtain ⟨a1,a2⟩:=h hs
 obtain ⟨b1,b2⟩:=h' a1
 refine ⟨b1,?_⟩
 rcases a2 with a2 | a2 <;> rcases b2 with b2 | b2
 ·exact .inl (b2.trans a2)
 ·rw [a2] at b2; exact .inr b2
 ·rw [← b2] at a2; exact .inr a2
 ·exact .inr (by omega)
structure RPost (l : List TaiChoice) (B : Int) (c : List Int) (s s' : RS) : Prop where
 inv : RInv l B s'
 up : RUp l s.best s'.best
 cov : ∀ z : List Int,z.length = l.length→(∀ q,q < c.length→z.getD q 0 = c.getD q 0)→FA l z→costL l z ≤ B→RCov l s'.best z
 dst : s'.best ≠ []→s'.best = s.best ∨ ∀ q,q < c.length→s'.best.getD q 0 = c.getD q 0
def goodI (l : List TaiChoice) (c : List Int) (i : Nat) : List Int:=[sm (gf l c 0) i,sm (gf l c 1) i,sm (gf l c 2) i,sm (gf l c 3) i]
structure RPre (l : List TaiChoice) (B : Int) (c good : List Int) (cost : Int) (s : RS) : Prop where
 inv : RInv l B s
 hi : c.length ≤ l.length
 fit : ∀ q,q < c.length→fitB (ch l q) (c.getD q 0) = true
 gd : good = goodI l c c.length
 ct : cost = sm (cf l c) c.length
 le : cost ≤ B
 bef : s.best ≠ []→∀ z : List Int,(∀ q,q < c.length→z.getD q 0 = c.getD q 0)→FA l z→cd s.best l.length < cd z l.length
theorem reta {l : List TaiChoice} {B : Int} {s : RS} (h : RInv l B s) : (⟨s.l,s.budget,s.best,[s.good.getD 0 0,s.good.getD 1 0,s.good.getD 2 0,s.good.getD 3 0],s.cost⟩ : RS) = s:=by
 have:=h.g4
 rw [← this]
theorem rtry_leaf {l : List TaiChoice} {B : Int} (hl : OkL l) (h1 : 0 < l.length) (h8 : l.length ≤ 8) {s : RS} {c good : List Int} {cost : Int} {k : Nat} (hk : 10 ≤ k) (hp : RPre l B c good cost s) (hn : c.length = l.length) : ∃ s',p_zr18_search_try_o (k + 1) s c good cost = some s'∧RPost l B c s s':=by
 have hi:=hp.inv
 have hgd : good = goodL l c:=by rw [hp.gd]; rfl
 have hct : cost = costL l c:=hp.ct
 have hle:=hp.le
 have hfa : FA l c:=fun q hq => hp.fit q (by omega)
 have g4:=goodL_4 hl (z:=c) (by omega)
 have hnn : c ≠ []:=fun e => by rw [e] at hn; simp at hn; omega
 rw [p_zr18_search_try_o,hi.sl,hn]
 rw [show (((l.length : Nat) : Int) == ((l.length : Nat) : Int)) = true from beq_self_eq_true _,cond_true,hgd,hct]
 rw [hct] at hle
 have yes : ∃ s',(bif true then (ap 8 ([] : List Int) c).bind fun r37 => (neO r37).bind fun _ => some (⟨l,s.budget,r37,[(goodL l c).getD 0 0,(goodL l c).getD 1 0,(goodL l c).getD 2 0,(goodL l c).getD 3 0],costL l c⟩ : RS) else some (⟨l,s.budget,s.best,[s.good.getD 0 0,s.good.getD 1 0,s.good.getD 2 0,s.good.getD 3 0],s.cost⟩ : RS)) = some s'∧s' = ⟨l,B,c,goodL l c,costL l c⟩:=by
  rw [cond_true,ap_eq (by omega) (by simp; omega),Option.bind_some,List.nil_append,neO_ok hnn,Option.bind_some,hi.sb]
  exact ⟨_,rfl,by rw [← g4.len]⟩
 have postY : (s.best ≠ []→obj l s.best < obj l c)→RPost l B c s ⟨l,B,c,goodL l c,costL l c⟩:=fun hb =>
  ⟨⟨rfl,rfl,g4.len,fun _ => ⟨hn,hfa,hle,rfl,rfl⟩⟩,fun h => ⟨hnn,.inr (hb h)⟩,fun z hz hz2 _ _ => ⟨hnn,.inr ⟨obj_congr (y:=z) (z:=c) (by omega) hz2,by
   rw [cd_congr (y:=z) (z:=c) (n:=l.length) (fun q hq => hz2 q (by omega))]
   exact Int.le_refl _⟩⟩,fun _ => .inr fun _ _ => rfl⟩
 by_cases hb : s.best = []
 ·have e : s.best.isEmpty = true:=by rw [hb]; rfl
  rw [e]
  simp only [cond_true,Option.bind_some]
  obtain ⟨s',y1,rfl⟩:=yes
  exact ⟨_,y1,postY fun h => absurd hb h⟩
 ·have e : s.best.isEmpty = false:=by
   cases hx : s.best with
   | nil => exact absurd hx hb
   | cons => rfl
  obtain ⟨b1,b2,b3,b4,b5⟩:=hi.best hb
  have g5:=goodL_4 hl (z:=s.best) (by omega)
  have hgb : G4 s.good:=by rw [b4]; exact g5
  have hfn:=first_no hl h8 (c:=c) (y:=s.best) (by omega) b1 hfa b2 (hp.bef hb c (fun _ _ => rfl) hfa) hk
  rw [e,← hgb.len,rbet_ok g4 hgb hk,rbet_ok hgb g4 hk,hfn,b4,b5]
  simp only [cond_false,Option.bind_some]
  have ol:=obj_lt hl (y:=s.best) (z:=c) (by omega) (by omega)
  have hc : (bif decide (key (goodL l s.best) < key (goodL l c)) then some true else (bif !decide (key (goodL l c) < key (goodL l s.best)) then (bif decide (costL l c < costL l s.best) then some true else (bif costL l c == costL l s.best then some false else some false).bind fun b25 => some b25).bind fun b29 => some b29 else some false).bind fun b33 => some b33) = some (decide (obj l s.best < obj l c)):=by
   have hw : (bif costL l c == costL l s.best then some false else some false) = some false:=by cases costL l c == costL l s.best <;> rfl
   rw [hw]
   by_cases h1 : key (goodL l s.best) < key (goodL l c)
   ·rw [decide_eq_true h1,decide_eq_true (ol.1 (.inl h1))]; rfl
   ·rw [decide_eq_false h1,cond_false]
    by_cases h2 : key (goodL l c) < key (goodL l s.best)
    ·rw [decide_eq_true h2,decide_eq_false (show ¬ obj l s.best < obj l c from fun h => by rcases ol.2 h with h | h <;> omega)]; rfl
    ·rw [decide_eq_false h2]
     by_cases h3 : costL l c < costL l s.best
     ·rw [decide_eq_true h3,decide_eq_true (ol.1 (.inr ⟨by omega,h3⟩))]; rfl
     ·rw [decide_eq_false h3,decide_eq_false (show ¬ obj l s.best < obj l c from fun h => by rcases ol.2 h with h | h <;> omega)]; rfl
  rw [hc]
  simp only [Option.bind_some]
  by_cases hbt : obj l s.best < obj l c
  ·rw [decide_eq_true hbt]
   obtain ⟨s',y1,rfl⟩:=yes
   rw [b4] at y1
   exact ⟨_,y1,postY fun _ => hbt⟩
  ·rw [decide_eq_false hbt,cond_false]
   refine ⟨_,rfl,?_⟩
   rw [show (⟨l,s.budget,s.best,goodL l s.best,costL l s.best⟩ : RS) = s by rw [← b4,← b5,← hi.sl]]
   exact ⟨hi,fun h => ⟨h,.inl rfl⟩,fun z hz hz2 hzf _ => ⟨hb,by
    have e1:=obj_congr (l:=l) (y:=z) (z:=c) (by omega) hz2
    have e2:=hp.bef hb z hz2 hzf
    by_cases h : obj l z = obj l s.best
    ·exact .inr ⟨h,by omega⟩
    ·exact .inl (by omega)⟩,fun _ => .inl rfl⟩
structure RL (l : List TaiChoice) (B : Int) (c next : List Int) (j : Nat) (s0 s : RS) : Prop where
 inv : RInv l B s
 nl : next.length = c.length + 1
 nq : ∀ q,q < c.length→next.getD q 0 = c.getD q 0
 up : RUp l s0.best s.best
 cov : ∀ z : List Int,z.length = l.length→(∀ q,q < c.length→z.getD q 0 = c.getD q 0)→FA l z→costL l z ≤ B→z.getD c.length 0 < (j : Int)→RCov l s.best z
 dst : s.best ≠ []→s.best = s0.best ∨ ((∀ q,q < c.length→s.best.getD q 0 = c.getD q 0)∧s.best.getD c.length 0 < (j : Int))
theorem rpre_step {l : List TaiChoice} {B : Int} (hl : OkL l) {c good next : List Int} {cost : Int} {s0 s : RS} {p : Int} (hp : RPre l B c good cost s0) (hil : c.length < l.length) (hs : RInv l B s) (nl : next.length = c.length + 1) (nq : ∀ q,q < c.length→next.getD q 0 = c.getD q 0) (np : next.getD c.length 0 = p) (hf : fitB (ch l c.length) p = true) (hc : cost + cst (ch l c.length) p ≤ B)
  (hd : s.best ≠ []→s.best = s0.best ∨ ((∀ q,q < c.length→s.best.getD q 0 = c.getD q 0)∧s.best.getD c.length 0 < p)) : RPre l B next (goodI l next next.length) (cost + cst (ch l c.length) p) s:=by
 refine ⟨hs,by omega,fun q hq => ?_,rfl,?_,hc,fun hb z hz hzf => ?_⟩
 ·by_cases h : q = c.length
  ·rw [h,np]; exact hf
  ·rw [nq q (by omega)]; exact hp.fit q (by omega)
 ·rw [nl]
  show _ = sm (cf l next) c.length + cst (ch l c.length) (next.getD c.length 0)
  rw [np,hp.ct,cost_congr nq]
 ·have hz3 : ∀ q,q < c.length→z.getD q 0 = c.getD q 0:=fun q hq => by rw [hz q (by omega),nq q hq]
  rcases hd hb with hd | ⟨hd1,hd2⟩
  ·rw [hd]
   exact hp.bef (by rw [← hd]; exact hb) z hz3 hzf
  ·have e:=cd_lt hl (hs.best hb).2.1 hzf (i:=c.length) (fun q hq => by rw [hd1 q hq,hz3 q hq]) (by rw [hz c.length (by omega),np]; exact hd2) (l.length - (c.length + 1)) (by omega)
   rw [show c.length + 1 + (l.length - (c.length + 1)) = l.length by omega] at e
   exact e
theorem rl_step {l : List TaiChoice} {B : Int} {c next : List Int} {s0 s s1 : RS} {j : Nat} {p : Int} (nl : next.length = c.length + 1) (nq : ∀ q,q < c.length→next.getD q 0 = c.getD q 0) (np : next.getD c.length 0 = p) (hj : p = (j : Int) - 1)
  (up : RUp l s0.best s.best) (cov : ∀ z : List Int,z.length = l.length→(∀ q,q < c.length→z.getD q 0 = c.getD q 0)→FA l z→costL l z ≤ B→z.getD c.length 0 < p→RCov l s.best z)
  (dst : s.best ≠ []→s.best = s0.best ∨ ((∀ q,q < c.length→s.best.getD q 0 = c.getD q 0)∧s.best.getD c.length 0 < p)) (h : RPost l B next s s1) : RL l B c next j s0 s1:=by
 refine ⟨h.inv,nl,nq,up.trans h.up,fun z h1 h2 h3 h4 h5 => ?_,fun hb => ?_⟩
 ·by_cases hz : z.getD c.length 0 = p
  ·refine h.cov z h1 (fun q hq => ?_) h3 h4
   by_cases e : q = c.length
   ·rw [e,hz,np]
   ·rw [h2 q (by omega),nq q (by omega)]
  ·exact (cov z h1 h2 h3 h4 (by omega)).up h.up
 ·rcases h.dst hb with hd | hd
  ·rw [hd] at hb ⊢
   exact (dst hb).imp id fun ⟨a,b⟩ => ⟨a,by omega⟩
  ·exact .inr ⟨fun q hq => by rw [hd q (by omega),nq q hq],by rw [hd c.length (by omega),np]; omega⟩
theorem rtry_loop {l : List TaiChoice} {B : Int} (hl : OkL l) (h8 : l.length ≤ 8) (hB : B ≤ 1048576) {c good : List Int} {cost : Int} {s0 : RS} (hp : RPre l B c good cost s0) (hil : c.length < l.length) {rec : RS→List Int→List Int→Int→Option RS}
  (hrec : ∀ c' good' cost' s,c'.length = c.length + 1→RPre l B c' good' cost' s→∃ s',rec s c' good' cost' = some s'∧RPost l B c' s s') (kE : RS→Option RS) :
  ∀ m j k : Nat,j + m = (ch l c.length).Costs.length→m < k→∀ s next,RL l B c next j s0 s→∃ s' next',p_zr18_search_try_o_l0 k rec kE cost (c.length : Int) next ((ch l c.length).Costs.length : Int) (j : Int) good (ch l c.length) s = kE s'∧RL l B c next' (ch l c.length).Costs.length s0 s':=by
 have ok:=hl c.length
 have hcl:=ok.l4
 have hlen:=ok.len
 have hg4 : [good.getD 0 0,good.getD 1 0,good.getD 2 0,good.getD 3 0] = good:=by rw [hp.gd]; rfl
 have hcost:=cf_bd hl c c.length
 have hct:=hp.ct
 have hle:=hp.le
 intro m
 induction m with
 | zero =>
  intro j k hj hk s next hs
  obtain ⟨k,rfl⟩ : ∃ j,k = j + 1:=⟨k - 1,by omega⟩
  rw [p_zr18_search_try_o_l0,reta hs.inv,decide_eq_false (by omega),cond_false]
  have : j = (ch l c.length).Costs.length:=by omega
  rw [← this]
  exact ⟨s,next,rfl,hs⟩
 | succ m ih =>
  intro j k hj hk s next hs
  obtain ⟨k,rfl⟩ : ∃ j,k = j + 1:=⟨k - 1,by omega⟩
  have hi:=hs.inv
  have hjj : ((j : Int)).toNat = j:=by omega
  rw [p_zr18_search_try_o_l0,reta hi,decide_eq_true (by omega),cond_true,hg4,wrap_nat (i:=j) (by omega)]
  rw [place_ok ok,Option.bind_some]
  have skip : (∀ z : List Int,z.length = l.length→(∀ q,q < c.length→z.getD q 0 = c.getD q 0)→FA l z→costL l z ≤ B→z.getD c.length 0 = (j : Int)→False)→∃ s' next',p_zr18_search_try_o_l0 k rec kE cost (c.length : Int) next ((ch l c.length).Costs.length : Int) ((j + 1 : Nat) : Int) good (ch l c.length) s = kE s'∧RL l B c next' (ch l c.length).Costs.length s0 s':=fun hno =>
   ih (j + 1) k (by omega) (by omega) s next ⟨hi,hs.nl,hs.nq,hs.up,fun z h1 h2 h3 h4 h5 => by
    by_cases hz : z.getD c.length 0 = (j : Int)
    ·exact (hno z h1 h2 h3 h4 hz).elim
    ·exact hs.cov z h1 h2 h3 h4 (by omega),fun h => (hs.dst h).imp id fun ⟨a,b⟩ => ⟨a,by omega⟩⟩
  cases hh : hasB (ch l c.length) (j : Int)
  ·simp only [cond_false,Option.bind_some]
   exact skip fun z h1 _ h3 _ h5 => by
    have:=fit_has (h3 c.length hil) (by omega)
    rw [h5,hh] at this
    cases this
  ·have hb2:=hh
   simp only [hasB,decide_eq_true_eq] at hb2
   have ec:=cst_has hh
   have lo:=@cst_lo (ch l c.length) (j : Int)
   have hi2:=cst_hi ok (p:=(j : Int))
   have hfit : fitB (ch l c.length) (j : Int) = true:=by rw [fitB,hh,Bool.or_true]
   rw [cond_true,ix_get (d:=0) hb2.1 hb2.2.1,Option.bind_some,← ec,Option.bind_some,hi.sb,wrap_i64 (n:=B - cost) (by omega) (by omega)]
   by_cases hc : cst (ch l c.length) (j : Int) ≤ B - cost
   ·rw [decide_eq_true hc,cond_true]
    have c0:=ok.c0
    have c4:=ok.c4
    have nl:=hs.nl
    have hgl:=ok.g0 ((j : Int)).toNat
    have hgh:=ok.gb ((j : Int)).toNat
    have hgd : gdv (ch l c.length) (j : Int) = (ch l c.length).Goods.getD ((j : Int)).toNat 0:=gdv_has hh
    have b0:=gf_bd hl c 0 c.length
    have b1:=gf_bd hl c 1 c.length
    have b2:=gf_bd hl c 2 c.length
    have b3:=gf_bd hl c 3 c.length
    have hset : ∀ q,(next.set c.length (j : Int)).getD q 0 = if q = c.length then (j : Int) else next.getD q 0:=fun q => getD_set (by omega)
    have nl2 : (next.set c.length (j : Int)).length = c.length + 1:=by rw [List.length_set,nl]
    have nq2 : ∀ q,q < c.length→(next.set c.length (j : Int)).getD q 0 = c.getD q 0:=fun q hq => by rw [hset,if_neg (by omega),hs.nq q hq]
    have np2 : (next.set c.length (j : Int)).getD c.length 0 = (j : Int):=by rw [hset,if_pos rfl]
    have hgsum : ∀ jj,sm (gf l (next.set c.length (j : Int)) jj) (c.length + 1) = sm (gf l c jj) c.length + (if (ch l c.length).Class = jj then (ch l c.length).Goods.getD ((j : Int)).toNat 0 else 0):=fun jj => by
     show sm (gf l (next.set c.length (j : Int)) jj) c.length + gf l (next.set c.length (j : Int)) jj c.length = _
     rw [good_congr nq2]
     unfold gf
     rw [np2,hgd]
    have hpre:=rpre_step hl hp hil hi nl2 nq2 np2 hfit (by omega) hs.dst
    obtain ⟨s1,r1,p1⟩:=hrec _ _ _ _ nl2 hpre
    have hG : ∀ rest : List Int→Option RS,((ix good (ch l c.length).Class).bind fun a150 => (ix (ch l c.length).Goods (j : Int)).bind fun a152 => (ix good (ch l c.length).Class).bind fun _ => (stx good (ch l c.length).Class (IntKind.wrap .i64 (a150 + a152))).bind fun a160 => rest [a160.getD 0 0,a160.getD 1 0,a160.getD 2 0,a160.getD 3 0]) = rest (goodI l (next.set c.length (j : Int)) (next.set c.length (j : Int)).length):=fun rest => by
     rw [hp.gd]
     unfold goodI
     rw [nl2,hgsum,hgsum,hgsum,hgsum,ix4 c0 c4,Option.bind_some,ix_get (d:=0) hb2.1 (by omega),Option.bind_some,Option.bind_some]
     generalize (ch l c.length).Goods.getD ((j : Int)).toNat 0 = y at *
     have hw : IntKind.wrap .i64 ((if (ch l c.length).Class = 0 then sm (gf l c 0) c.length else if (ch l c.length).Class = 1 then sm (gf l c 1) c.length else if (ch l c.length).Class = 2 then sm (gf l c 2) c.length else sm (gf l c 3) c.length) + y) = (if (ch l c.length).Class = 0 then sm (gf l c 0) c.length else if (ch l c.length).Class = 1 then sm (gf l c 1) c.length else if (ch l c.length).Class = 2 then sm (gf l c 2) c.length else sm (gf l c 3) c.length) + y:=by
      refine wrap_i64 ?_ ?_
      ·(repeat' split) <;> omega
      ·(repeat' split) <;> omega
     rw [hw,set4 c0 c4,Option.bind_some]
     simp only [List.getD_cons_zero,List.getD_cons_succ]
     congr 1
     have : (ch l c.length).Class = 0 ∨ (ch l c.length).Class = 1 ∨ (ch l c.length).Class = 2 ∨ (ch l c.length).Class = 3:=by omega
     rcases this with h | h | h | h <;> rw [h] <;> simp
    have hstx : stx next (c.length : Int) (j : Int) = some (next.set c.length (j : Int)):=by
     unfold stx
     rw [if_pos ⟨by omega,by omega⟩]; rfl
    have hw2 : IntKind.wrap .i64 (cost + cst (ch l c.length) (j : Int)) = cost + cst (ch l c.length) (j : Int):=wrap_i64 (by omega) (by omega)
    obtain ⟨s',next',e1,e2⟩:=ih (j + 1) k (by omega) (by omega) s1 (next.set c.length (j : Int)) (rl_step (j:=j + 1) nl2 nq2 np2 (by omega) hs.up hs.cov hs.dst p1)
    refine ⟨s',next',Eq.trans ?_ e1,e2⟩
    refine (hG fun gg => (ix next (c.length : Int)).bind fun _ => (stx next (c.length : Int) (j : Int)).bind fun a167 => (some (cst (ch l c.length) (j : Int))).bind fun a169 => (rec s a167 gg (IntKind.wrap .i64 (cost + a169))).bind fun r172 => p_zr18_search_try_o_l0 k rec kE cost (c.length : Int) a167 ((ch l c.length).Costs.length : Int) ((j + 1 : Nat) : Int) good (ch l c.length) ⟨r172.l,r172.budget,r172.best,[r172.good.getD 0 0,r172.good.getD 1 0,r172.good.getD 2 0,r172.good.getD 3 0],r172.cost⟩).trans ?_
    rw [ix_z (by omega),Option.bind_some,hstx,Option.bind_some,Option.bind_some,hw2,r1,Option.bind_some,reta p1.inv]
   ·rw [decide_eq_false hc,cond_false]
    exact skip fun z h1 h2 _ h4 h5 => by
     have e1:=sm_mono (f:=cf l z) (fun _ => cst_lo) (i:=c.length + 1) (l.length - (c.length + 1))
     rw [show c.length + 1 + (l.length - (c.length + 1)) = z.length by omega] at e1
     have e2 : sm (cf l z) (c.length + 1) = sm (cf l z) c.length + cst (ch l c.length) (j : Int):=by rw [← h5]; rfl
     rw [cost_congr h2] at e2
     unfold costL at h4
     omega
theorem rtry_ok {l : List TaiChoice} {B : Int} (hl : OkL l) (h1 : 0 < l.length) (h8 : l.length ≤ 8) (hB : B ≤ 1048576) : ∀ m k : Nat,∀ c good : List Int,∀ cost s,c.length + m = l.length→10 + m < k→RPre l B c good cost s→∃ s',p_zr18_search_try_o k s c good cost = some s'∧RPost l B c s s':=by
 intro m
 induction m with
 | zero =>
  intro k c good cost s hi hk hp
  obtain ⟨k,rfl⟩ : ∃ j,k = j + 1:=⟨k - 1,by omega⟩
  exact rtry_leaf hl h1 h8 (by omega) hp (by omega)
 | succ m ih =>
  intro k c good cost s hi hk hp
  obtain ⟨k,rfl⟩ : ∃ j,k = j + 1:=⟨k - 1,by omega⟩
  have e : ((c.length : Int) == ((l.length : Nat) : Int)) = false:=beq_eq_false_iff_ne.2 (by omega)
  have hs:=reta hp.inv
  rw [hp.inv.sl] at hs
  have ok:=hl c.length
  have nl : (c ++ [-1]).length = c.length + 1:=by simp
  have nq : ∀ q,q < c.length→(c ++ [-1]).getD q 0 = c.getD q 0:=fun q hq => getD_app hq
  have np : (c ++ [-1]).getD c.length 0 = -1:=getD_last
  have hz : cst (ch l c.length) (-1) = 0:=cst_no has_neg
  have hgz : gdv (ch l c.length) (-1) = 0:=gdv_no has_neg
  have hpre:=rpre_step hl hp (by omega) hp.inv nl nq np rfl (by rw [hz]; have:=hp.le; omega) (fun h => .inl rfl)
  have hgg : goodI l (c ++ [-1]) (c ++ [-1]).length = good:=by
   rw [hp.gd,nl]
   have : ∀ jj,sm (gf l (c ++ [-1]) jj) (c.length + 1) = sm (gf l c jj) c.length:=fun jj => by
    show sm (gf l (c ++ [-1]) jj) c.length + gf l (c ++ [-1]) jj c.length = _
    rw [good_congr nq]
    unfold gf
    rw [np,hgz]
    simp
   unfold goodI
   rw [this,this,this,this]
  rw [hz,Int.add_zero,hgg] at hpre
  obtain ⟨s1,r1,p1⟩:=ih k (c ++ [-1]) good cost s (by omega) (by omega) hpre
  have hb0 : ∀ z : List Int,z.length = l.length→(∀ q,q < c.length→z.getD q 0 = c.getD q 0)→FA l z→costL l z ≤ B→z.getD c.length 0 < -1→RCov l s.best z:=fun z _ _ h3 _ h5 => by
   have:=fit_range ok (h3 c.length (by omega))
   omega
  obtain ⟨s',next',r,p⟩:=rtry_loop hl h8 hB hp (by omega) (rec:=p_zr18_search_try_o k) (fun c' good' cost' s hc h => ih k c' good' cost' s (by omega) (by omega) h) (fun zp0 => some (⟨zp0.l,zp0.budget,zp0.best,[zp0.good.getD 0 0,zp0.good.getD 1 0,zp0.good.getD 2 0,zp0.good.getD 3 0],zp0.cost⟩ : RS)) (ch l c.length).Costs.length 0 k (by omega) (by have:=ok.l4; omega) s1 (c ++ [-1])
   (rl_step (j:=0) nl nq np (by omega) (fun h => ⟨h,.inl rfl⟩) hb0 (fun _ => .inl rfl) p1)
  rw [p_zr18_search_try_o,hp.inv.sl,e,cond_false,ix_ch (by omega),Option.bind_some,ap_eq (by omega) (by simp; omega),Option.bind_some,List.nil_append,ap_eq (by omega) (by simp; omega),Option.bind_some,hs,r1,Option.bind_some,reta p1.inv]
  refine ⟨s',r.trans (by rw [reta p.inv]),p.inv,p.up,fun z h1 h2 h3 h4 => p.cov z h1 h2 h3 h4 ?_,fun h => (p.dst h).imp id fun q => q.1⟩
  have hf:=h3 c.length (by omega)
  by_cases h0 : 0 ≤ z.getD c.length 0
  ·have hh:=fit_has hf h0
   simp only [hasB,decide_eq_true_eq] at hh
   exact hh.2.1
  ·omega
end Knap
end Go.Ev
namespace Go.Ev
open Go.Proofs
set_option linter.unusedVariables false
set_option linter.unusedSimpArgs false
set_option maxRecDepth 100000
noncomputable section
abbrev KT13:=Exit→Env→H→Option (List C × H)
variable (rec : CallF) (loop : LoopV) (σ : Stamp)
theorem zb_Within_entry (x0 : Int) (x1 : Int) (x2 : Int) (h : H) : cvBody G rec loop 30 σ [(.p (.int .i64 x0)),(.p (.int .i64 x1)),(.p (.int .i64 x2))] h =
(bif decide (x0 ≥ x1) then (some (decide (x0 ≤ x2))) else (some false)).bind fun b1 =>
bif b1 then (
fin false σ (List.replicate 33 []::h) [(.p (.int .i64 x0))])
else (
(remI .i64 x0 (IntKind.wrap .i64 ((IntKind.wrap .i64 (x2 - x1)) + 1))).bind fun t2 =>
(castI .i64 t2).bind fun n3 =>
bif decide (n3 < 0) then (
fin false σ (List.replicate 33 []::h) [(.p (.int .i64 (IntKind.wrap .i64 (x1 + (IntKind.wrap .i64 ((IntKind.wrap .i64 ((IntKind.wrap .i64 (n3 + x2)) - x1)) + 1))))))])
else (
fin false σ (List.replicate 33 []::h) [(.p (.int .i64 (IntKind.wrap .i64 (x1 + n3))))])):=by kernel_rfl
end
end Go.Ev
namespace Go.Ev
open Go.Proofs
set_option linter.unusedVariables false
set_option linter.unusedSimpArgs false
set_option maxRecDepth 100000
section
variable {β α : Type} {Q : β→α→Prop} {K : Exit × Env × H→Option α}
def p_zb_Within (x0 : Int) (x1 : Int) (x2 : Int) : Option (Int) :=
(bif decide (x0 ≥ x1) then (some (decide (x0 ≤ x2))) else (some false)).bind fun b1 =>
bif b1 then (
some (x0))
else (
(remP x0 (IntKind.wrap .i64 ((IntKind.wrap .i64 (x2 - x1)) + 1))).bind fun n6 =>
bif decide (n6 < 0) then (
some ((IntKind.wrap .i64 (x1 + (IntKind.wrap .i64 ((IntKind.wrap .i64 ((IntKind.wrap .i64 (n6 + x2)) - x1)) + 1))))))
else (
some ((IntKind.wrap .i64 (x1 + n6)))))
theorem zb_Within_ok {h : H} {σ : Stamp} (x0 : Int) (x1 : Int) (x2 : Int) : Sim (p_zb_Within x0 x1 x2) (ev G X0 30 σ [(.p (.int .i64 x0)),(.p (.int .i64 x1)),(.p (.int .i64 x2))] h) (fun r s => s = ([.v (.p (.int .i64 r))],h)):=by
 refine .ev rfl (Sim.ext (zb_Within_entry _ _ _ _ _ _ _) ?_)
 rw [p_zb_Within]
 have S0 : Fm 33 h [] [] [] (List.replicate 33 []::h):=Fm.start0
 refine .ch (P:=fun r y => r = y) ?_ (fun b1 y2 h3 h4 => ?_)
 ·refine .cq ?_ ?_
  ·exact .ret rfl rfl
  ·exact .ret rfl rfl
 subst h4
 refine .cq ?_ ?_
 ·exact .fin (S0.finN (lC (sI _ _).lv lN)) rfl
 refine .bd fun n6 h7 => ?_
 refine .op (remP_ok h7) ?_
 refine .ci ?_
 refine .cq ?_ ?_
 ·exact .fin (S0.finN (lC (sI _ _).lv lN)) rfl
 exact .fin (S0.finN (lC (sI _ _).lv lN)) rfl
end
end Go.Ev
namespace Go.Ev
theorem within_lo {x hi : Int} (h0 : 0 ≤ hi) (h1 : hi < 2 ^ 40) : ∃ r,p_zb_Within x 0 hi = some r∧0 ≤ r∧r ≤ hi:=by
 unfold p_zb_Within
 by_cases h : 0 ≤ x∧x ≤ hi
 ·refine ⟨x,?_,h.1,h.2⟩
  have e1 : decide (x ≥ 0) = true:=by simpa using h.1
  have e2 : decide (x ≤ hi) = true:=by simpa using h.2
  simp only [e1,e2,cond_true,Option.bind_some]
 ·have e : ∀ (a : Bool) (b : Bool),(a && b) = false→((bif a then (some b) else (some false)) : Option Bool) = some false:=by
   intro a b; cases a <;> cases b <;> simp
  rw [e (decide (x ≥ 0)) (decide (x ≤ hi)) (by simp; omega),Option.bind_some,cond_false]
  have w1 : IntKind.wrap .i64 (IntKind.wrap .i64 (hi - 0) + 1) = hi + 1:=by
   rw [wrap_i64 (n:=hi - 0) (by omega) (by omega),wrap_i64 (by omega) (by omega)]; omega
  have hb : -(hi + 1) < x.tmod (hi + 1)∧x.tmod (hi + 1) < hi + 1:=by
   have h1:=Int.tmod_lt_of_pos x (show 0 < hi + 1 by omega)
   have h2:=Int.neg_tmod x (hi + 1)
   have h3:=Int.tmod_lt_of_pos (-x) (show 0 < hi + 1 by omega)
   omega
  rw [w1]
  unfold remP
  rw [if_neg (by omega),Option.bind_some]
  generalize x.tmod (hi + 1) = m at hb
  by_cases hm : m < 0
  ·have : decide (m < 0) = true:=by simpa using hm
   rw [this,cond_true]
   refine ⟨_,rfl,?_⟩
   rw [wrap_i64 (n:=m + hi) (by omega) (by omega),wrap_i64 (n:=m + hi - 0) (by omega) (by omega),wrap_i64 (n:=m + hi - 0 + 1) (by omega) (by omega),wrap_i64 (by omega) (by omega)]
   omega
  ·have : decide (m < 0) = false:=by simpa using hm
   rw [this,cond_false]
   refine ⟨_,rfl,?_⟩
   rw [wrap_i64 (by omega) (by omega)]
   omega
end Go.Ev
namespace Go.Ev
open Go.Proofs
set_option linter.unusedVariables false
set_option linter.unusedSimpArgs false
set_option maxRecDepth 100000
noncomputable section
abbrev KT14:=Exit→Env→H→Option (List C × H)
variable (rec : CallF) (loop : LoopV) (σ : Stamp)
theorem zk_Tape_Next_entry (x0 : V) (x1 : Int) (h : H) : cvBody G rec loop 56 σ [x0,(.p (.int .i64 x1))] h =
(nilChk x0).bind fun t1 =>
(fA t1 1).bind fun t2 =>
(ldO false 1 (List.replicate 40 []::h) t2).bind fun t3 =>
(castI .i64 t3).bind fun n4 =>
(nilChk x0).bind fun t5 =>
(fA t5 0).bind fun t6 =>
(ldO false 1 (List.replicate 40 []::h) t6).bind fun t7 =>
(lenO t7).bind fun t8 =>
(castI .i64 t8).bind fun n9 =>
(bif decide (n4 ≥ n9) then (some true) else (some (decide (x1 < 1)))).bind fun b10 =>
bif b10 then (
fin false σ (List.replicate 40 []::h) [(.p (.int .i64 0))])
else (
(nilChk x0).bind fun t11 =>
(fA t11 1).bind fun t12 =>
(ldO false 1 (List.replicate 40 []::h) t12).bind fun t13 =>
(castI .i64 t13).bind fun n14 =>
(nilChk x0).bind fun t15 =>
(fA t15 1).bind fun t16 =>
((stO true 1 (7::0::1::1::0::σ) (List.replicate 40 []::h) t16 (.p (.int .i64 (IntKind.wrap .i64 (n14 + 1))))).map fun h => (udf,h)).bind fun q17 =>
(nilChk x0).bind fun t18 =>
(fA t18 0).bind fun t19 =>
(ldO false 1 q17.2 t19).bind fun t20 =>
(nilChk x0).bind fun t21 =>
(fA t21 1).bind fun t22 =>
(ldO false 1 q17.2 t22).bind fun t23 =>
(castI .i64 t23).bind fun n24 =>
(iS 1 t20 (IntKind.wrap .i64 (n24 - 1))).bind fun t25 =>
(ldO false 1 q17.2 t25).bind fun t26 =>
(castI .i64 t26).bind fun n27 =>
(callO rec 30 (11::0::1::1::1::0::σ) [(.p (.int .i64 n27)),(.p (.int .i64 0)),(.p (.int .i64 1073741824))] q17.2 (some 37)).bind fun q28 =>
(castI .i64 q28.1).bind fun n29 =>
(remI .i64 n29 x1).bind fun t30 =>
(castI .i64 t30).bind fun n31 =>
fin false σ q28.2 [(.p (.int .i64 n31))]):=by kernel_rfl
end
end Go.Ev
namespace Go.Ev
open Go.Proofs
set_option linter.unusedVariables false
set_option linter.unusedSimpArgs false
set_option maxRecDepth 100000
section
variable {β α : Type} {Q : β→α→Prop} {K : Exit × Env × H→Option α}
def p_zk_Tape_Next (x0 : TzTape) (x1 : Int) : Option (Int × TzTape) :=
(bif decide (x0.f_At ≥ ((x0.f_L.length : Int))) then (some true) else (some (decide (x1 < 1)))).bind fun b1 =>
bif b1 then (
some (0,x0))
else (
(ix x0.f_L (IntKind.wrap .i64 ((IntKind.wrap .i64 (x0.f_At + 1)) - 1))).bind fun a9 =>
(p_zb_Within a9 0 1073741824).bind fun r12 =>
(remP r12 x1).bind fun n17 =>
some (n17,(⟨x0.f_L,(IntKind.wrap .i64 (x0.f_At + 1))⟩ : TzTape)))
theorem zk_Tape_Next_ok {h : H} {σ : Stamp} (x0 : TzTape) {u0_0 : V} (hu0_0 : SlF (dI .i64) x0.f_L u0_0) {l0 : Loc} {o0 : Nat} (ha0 : AtC h l0 o0 (List.map C.v [u0_0,(.p (.int .i64 x0.f_At))])) (x1 : Int) : Sim (p_zk_Tape_Next x0 x1) (ev G X0 56 σ [(.ref l0 o0),(.p (.int .i64 x1))] h) (fun r s => ∃ (vb0_0 : V),SlF (dI .i64) r.2.f_L vb0_0∧s = ([.v (.p (.int .i64 r.1))],pts h [⟨l0,o0,[.v vb0_0,.v (.p (.int .i64 r.2.f_At))]⟩])):=by
 refine .ev rfl (Sim.ext (zk_Tape_Next_entry _ _ _ _ _ _) ?_)
 rw [p_zk_Tape_Next]
 have S0 : Fm 40 h [⟨l0,o0,List.map C.v [u0_0,(.p (.int .i64 x0.f_At))]⟩] [] [] (List.replicate 40 []::h):=Fm.start1 ha0
 refine .nc ?_
 refine .fa ?_
 refine .op ((S0.atB (i:=0) rfl).ld (j:=1) rfl) ?_
 refine .ci ?_
 refine .nc ?_
 refine .fa ?_
 refine .op ((S0.atB (i:=0) rfl).ld (j:=0) rfl) ?_
 refine .op ((hu0_0.h (List.replicate 40 []::h)).len) ?_
 refine .ci ?_
 refine .ch (P:=fun r y => r = y) ?_ (fun b1 y2 h3 h4 => ?_)
 ·refine .cq ?_ ?_
  ·exact .ret rfl rfl
  ·exact .ret rfl rfl
 subst h4
 refine .cq ?_ ?_
 ·exact .fin (S0.finN (lC (sI _ _).lv lN)) ⟨u0_0,hu0_0,rfl⟩
 refine .nc ?_
 refine .fa ?_
 refine .op ((S0.atB (i:=0) rfl).ld (j:=1) rfl) ?_
 refine .ci ?_
 refine .nc ?_
 refine .fa ?_
 obtain ⟨H6,e7,S8⟩:=S0.stB (i:=0) (j:=1) (own:=true) (σ:=(7::0::1::1::0::σ)) (x:=(.p (.int .i64 (IntKind.wrap .i64 (x0.f_At + 1))))) rfl (sI _ _) rfl
 refine .op (sM e7) ?_
 refine .nc ?_
 refine .fa ?_
 refine .op ((S8.atB (i:=0) rfl).ld (j:=0) rfl) ?_
 refine .nc ?_
 refine .fa ?_
 refine .op ((S8.atB (i:=0) rfl).ld (j:=1) rfl) ?_
 refine .ci ?_
 refine .bd fun a9 h10 => ?_
 refine .op ((hu0_0.h H6).iS h10 rfl) ?_
 obtain ⟨_,rfl,hE11⟩:=(hu0_0.h H6).el h10 rfl
 refine .op (hE11.ld (j:=0) rfl) ?_
 refine .ci ?_
 refine .call (zb_Within_ok a9 0 1073741824) fun r12 cs13 H14 h15 q16 => ?_
 cases q16
 refine .ci ?_
 refine .bd fun n17 h18 => ?_
 refine .op (remP_ok h18) ?_
 refine .ci ?_
 exact .fin (S8.finN (lC (sI _ _).lv lN)) ⟨u0_0,hu0_0,rfl⟩
end
end Go.Ev
namespace Go.Ev
def TP (t : TzTape) : Prop:=0 ≤ t.f_At∧t.f_At ≤ t.f_L.length∧t.f_L.length < 2 ^ 50
theorem next_tape {t : TzTape} (h : TP t) {n : Int} (h1 : 1 ≤ n) : ∃ r t',p_zk_Tape_Next t n = some (r,t')∧(0 ≤ r∧r < n)∧TP t':=by
 obtain ⟨a1,a2,a3⟩:=h
 unfold p_zk_Tape_Next
 have e2 : decide (n < 1) = false:=by simp; omega
 by_cases hc : t.f_At ≥ t.f_L.length
 ·have e1 : decide (t.f_At ≥ (t.f_L.length : Int)) = true:=by simpa using hc
  simp only [e1,cond_true,Option.bind_some]
  exact ⟨0,t,rfl,⟨by omega,by omega⟩,a1,a2,a3⟩
 ·have e1 : decide (t.f_At ≥ (t.f_L.length : Int)) = false:=by simpa using hc
  obtain ⟨i,hi⟩ : ∃ i : Nat,t.f_At = i:=⟨t.f_At.toNat,by omega⟩
  have hlt : i < t.f_L.length:=by omega
  have w1 : IntKind.wrap .i64 (t.f_At + 1) = t.f_At + 1:=wrap_i64 (by omega) (by omega)
  have w2 : IntKind.wrap .i64 (t.f_At + 1 - 1) = (i : Int):=by rw [wrap_i64 (by omega) (by omega)]; omega
  have hx : ix t.f_L (i : Int) = some t.f_L[i]:=ix_at (by simp [hlt])
  obtain ⟨r,hr,r0,r1⟩:=within_lo (x:=t.f_L[i]) (hi:=1073741824) (by omega) (by omega)
  simp only [e1,e2,cond_false,Option.bind_some,w1,w2,hx,hr]
  unfold remP
  rw [if_neg (by omega),Option.bind_some]
  refine ⟨_,_,rfl,⟨Int.tmod_nonneg _ r0,Int.tmod_lt_of_pos _ (by omega)⟩,?_⟩
  unfold TP
  simp only
  omega
end Go.Ev
namespace Go.Ev
open Go.Proofs
set_option linter.unusedVariables false
set_option linter.unusedSimpArgs false
set_option maxRecDepth 100000
noncomputable section
abbrev KT15:=Exit→Env→H→Option (List C × H)
variable (rec : CallF) (loop : LoopV) (σ : Stamp)
theorem zl19_AllocStays_entry (x0 : V) (x1 : Int) (x2 : Int) (x3 : V) (h : H) : cvBody G rec loop 11 σ [x0,(.p (.int .i64 x1)),(.p (.int .i64 x2)),x3] h =
(callO rec 32 (4::0::1::0::σ) [x0,(.p (.int .i64 (IntKind.wrap .i64 (1 + (intBits .and .i64 x1 3)))))] (List.replicate 70 []::h) (some 17)).bind fun q1 =>
(callO rec 33 (3::0::1::1::1::0::σ) [q1.1,(.p (.int .i64 (intBits .and .i64 x2 31))),x3] q1.2 (some 23)).bind fun q2 =>
(callO rec 34 (2::0::1::1::1::1::0::σ) [q1.1,(.p (.int .i64 (intBits .and .i64 x2 31)))] q2.2 (some 26)).bind fun q3 =>
(callO rec 35 (3::0::0::1::1::1::1::1::0::σ) [q1.1,q2.1,(.p (.int .i64 (intBits .and .i64 x2 31)))] q3.2 (some 30)).bind fun q4 =>
(asB q4.1).bind fun b5 =>
(bif !b5 then (some ((.p (.bool true)),q4.2)) else ((callO rec 36 (8::0::0::1::1::1::1::1::0::σ) [q2.1,q3.1] q4.2 (some 35)).bind fun q6 =>
(asB q6.1).bind fun b7 =>
(bif !b7 then ((callO rec 36 (13::0::0::1::1::1::1::1::0::σ) [q2.1,x3] q6.2 (some 40)).bind fun q8 =>
(asB q8.1).bind fun b9 =>
(bif !b9 then (some ((.p (.bool true)),q8.2)) else ((callO rec 37 (18::0::0::1::1::1::1::1::0::σ) [q1.1,q3.1] q8.2 (some 45)).bind fun q10 =>
(castI .i64 q10.1).bind fun n11 =>
some ((.p (.bool (decide (n11 ≤ (IntKind.wrap .i64 ((intBits .and .i64 x2 31) - (IntKind.wrap .i64 (Int.tdiv (intBits .and .i64 x2 31) 8)))))))),q10.2))).bind fun q12 =>
(asB q12.1).bind fun b13 =>
some ((.p (.bool b13)),q12.2)) else (some ((.p (.bool false)),q6.2))).bind fun q14 =>
(asB q14.1).bind fun b15 =>
some ((.p (.bool b15)),q14.2))).bind fun q16 =>
(asB q16.1).bind fun b17 =>
bif b17 then (
fin false σ q16.2 [(.p (.bool false))])
else (
(callO rec 33 (3::0::1::1::1::1::1::1::0::σ) [q1.1,(.p (.int .i64 (intBits .and .i64 x2 31))),q2.1] q16.2 (some 57)).bind fun q18 =>
(callO rec 36 (5::0::1::1::1::1::1::1::0::σ) [q18.1,q2.1] q18.2 (some 59)).bind fun q19 =>
(asB q19.1).bind fun b20 =>
(bif b20 then ((callO rec 33 (9::0::1::1::1::1::1::1::0::σ) [q1.1,(.p (.int .i64 (intBits .and .i64 x2 31))),(.p (.slice .none 0 0))] q19.2 (some 63)).bind fun q21 =>
(callO rec 36 (11::0::1::1::1::1::1::1::0::σ) [q21.1,q3.1] q21.2 (some 65)).bind fun q22 =>
(asB q22.1).bind fun b23 =>
some ((.p (.bool b23)),q22.2)) else (some ((.p (.bool false)),q19.2))).bind fun q24 =>
(asB q24.1).bind fun b25 =>
(bif b25 then ((callO rec 38 (14::0::1::1::1::1::1::1::0::σ) [] q24.2 (some 68)).bind fun q26 =>
(asB q26.1).bind fun b27 =>
some ((.p (.bool b27)),q26.2)) else (some ((.p (.bool false)),q24.2))).bind fun q28 =>
(asB q28.1).bind fun b29 =>
fin false σ q28.2 [(.p (.bool b29))]):=by kernel_rfl
theorem alloc_Pick_entry (x0 : V) (x1 : Int) (x2 : V) (h : H) : cvBody G rec loop 33 σ [x0,(.p (.int .i64 x1)),x2] h =
(callO rec 72 (2::0::1::0::σ) [x0,(.p (.int .i64 x1))] (List.replicate 34 []::h) (some 10)).bind fun q1 =>
(callO rec 73 (3::0::0::1::1::0::σ) [x0,x2,(.p (.int .i64 x1))] q1.2 (some 14)).bind fun q2 =>
(asB q2.1).bind fun b3 =>
(bif b3 then ((callO rec 74 (7::0::0::1::1::0::σ) [x2,q1.1] q2.2 (some 18)).bind fun q4 =>
(asB q4.1).bind fun b5 =>
some ((.p (.bool (!b5))),q4.2)) else (some ((.p (.bool false)),q2.2))).bind fun q6 =>
(asB q6.1).bind fun b7 =>
(bif b7 then ((callO rec 75 (13::0::0::1::1::0::σ) [x0,q1.1] q6.2 (some 24)).bind fun q8 =>
(castI .i64 q8.1).bind fun n9 =>
(callO rec 76 (16::0::0::1::1::0::σ) [(.p (.int .i64 x1))] q8.2 (some 27)).bind fun q10 =>
(castI .i64 q10.1).bind fun n11 =>
some ((.p (.bool (decide (n9 > (IntKind.wrap .i64 (x1 - n11)))))),q10.2)) else (some ((.p (.bool false)),q6.2))).bind fun q12 =>
(asB q12.1).bind fun b13 =>
bif b13 then (
(callO rec 77 (1::0::1::0::1::1::0::σ) [x2] q12.2 (some 32)).bind fun q14 =>
fin false σ q14.2 [q14.1])
else (
fin false σ q12.2 [q1.1]):=by kernel_rfl
theorem alloc_Margin_entry (x0 : Int) (h : H) : cvBody G rec loop 76 σ [(.p (.int .i64 x0))] h =
fin false σ (List.replicate 6 []::h) [(.p (.int .i64 (IntKind.wrap .i64 (Int.tdiv ((if x0 > 0 then x0 else 0)) 8))))]:=by kernel_rfl
end
end Go.Ev
namespace Go.Ev
open Go.Proofs
set_option linter.unusedVariables false
set_option linter.unusedSimpArgs false
set_option maxRecDepth 100000
section
variable {β α : Type} {Q : β→α→Prop} {K : Exit × Env × H→Option α}
def p_alloc_Margin (x0 : Int) : Option (Int) :=
some ((IntKind.wrap .i64 (Int.tdiv ((if x0 > 0 then x0 else 0)) 8)))
theorem alloc_Margin_ok {h : H} {σ : Stamp} (x0 : Int) : Sim (p_alloc_Margin x0) (ev G X0 76 σ [(.p (.int .i64 x0))] h) (fun r s => s = ([.v (.p (.int .i64 r))],h)):=by
 refine .ev rfl (Sim.ext (alloc_Margin_entry _ _ _ _ _) ?_)
 rw [p_alloc_Margin]
 have S0 : Fm 6 h [] [] [] (List.replicate 6 []::h):=Fm.start0
 exact .fin (S0.finN (lC (sI _ _).lv lN)) rfl
end
end Go.Ev
namespace Go.Ev
open Go.Proofs
set_option linter.unusedVariables false
set_option linter.unusedSimpArgs false
set_option maxRecDepth 100000
noncomputable section
abbrev KT16:=Exit→Env→H→Option (List C × H)
variable (rec : CallF) (loop : LoopV) (σ : Stamp)
def slices_Equal_Lint_int_c0 : Code:=(codeAt (bodyOf Try.f74) [1,1,0,1,0,0])
def slices_Equal_Lint_int_l0 : Lv:=⟨0,16,[(0,0)]⟩
def slices_Equal_Lint_int_k0 : KT16:=(kBlock 0 (kSeq G rec loop (codeAt (bodyOf Try.f74) [1,1,1]) ⟨16,16,[]⟩ (1::1::0::σ) (finC G false Try.f74 (1::σ))))
theorem slices_Equal_Lint_int_entry (x0 : V) (x1 : V) (h : H) : cvBody G rec loop 74 σ [x0,x1] h =
(lenO x0).bind fun t1 =>
(castI .i64 t1).bind fun n2 =>
(lenO x1).bind fun t3 =>
(castI .i64 t3).bind fun n4 =>
bif n2 != n4 then (
fin false σ (List.replicate 26 []::h) [(.p (.bool false))])
else (
(lenO x0).bind fun t5 =>
(castI .i64 t5).bind fun n6 =>
(loop slices_Equal_Lint_int_c0 slices_Equal_Lint_int_l0 (1::0::1::1::0::σ) (envL [(0,x0),(1,x1),(12,(.p (.int .i64 n6))),(13,(.p (.int .i64 0)))]) (List.replicate 26 []::h)).bind fun r7 => slices_Equal_Lint_int_k0 rec loop σ r7.1 r7.2.1 r7.2.2):=by kernel_rfl
theorem slices_Equal_Lint_int_r0 (x0 : V) (x1 : V) (x12 : Int) (x13 : Int) (h : H) : cvRound G rec loop slices_Equal_Lint_int_c0 slices_Equal_Lint_int_l0 σ (envL [(0,x0),(1,x1),(12,(.p (.int .i64 x12))),(13,(.p (.int .i64 x13)))]) h =
bif decide (x13 < x12) then (
(iS 1 x0 x13).bind fun t8 =>
(ldO false 1 h t8).bind fun t9 =>
(castI .i64 t9).bind fun n10 =>
(iS 1 x1 x13).bind fun t11 =>
(ldO false 1 h t11).bind fun t12 =>
(castI .i64 t12).bind fun n13 =>
bif n10 != n13 then (
some (.ret,(envL [(4,(.p (.bool false)))]),h))
else (
loop slices_Equal_Lint_int_c0 slices_Equal_Lint_int_l0 (1::σ) (envL [(0,x0),(1,x1),(12,(.p (.int .i64 x12))),(13,(.p (.int .i64 (IntKind.wrap .i64 (x13 + 1)))))]) h))
else (
some ((.exit 0),(envL []),h)):=by kernel_rfl
theorem slices_Equal_Lint_int_a0_0  (h : H) : slices_Equal_Lint_int_k0 rec loop σ (.exit 0) (envL []) h =
fin false σ h [(.p (.bool true))]:=by kernel_rfl
theorem slices_Equal_Lint_int_a0_ret (x4 : Bool) (h : H) : slices_Equal_Lint_int_k0 rec loop σ .ret (envL [(4,(.p (.bool x4)))]) h =
fin false σ h [(.p (.bool x4))]:=by kernel_rfl
end
end Go.Ev
namespace Go.Ev
open Go.Proofs
set_option linter.unusedVariables false
set_option linter.unusedSimpArgs false
set_option maxRecDepth 100000
section
variable {β α : Type} {Q : β→α→Prop} {K : Exit × Env × H→Option α}
def p_slices_Equal_Lint_int_l0 {β : Type} (k : Nat) (kE0 : Unit→Option β) (kE1 : Bool→Option β) (x0 : (List Int)) (x1 : (List Int)) (x12 : Int) (x13 : Int) : Option β:=match k with
| 0 => none
| k + 1 =>
bif decide (x13 < x12) then (
(ix x0 x13).bind fun a9 =>
(ix x1 x13).bind fun a12 =>
bif a9 != a12 then (
kE1 false)
else (
p_slices_Equal_Lint_int_l0 k kE0 kE1 x0 x1 x12 (IntKind.wrap .i64 (x13 + 1))))
else (
kE0 ())
def p_slices_Equal_Lint_int (k : Nat) (x0 : (List Int)) (x1 : (List Int)) : Option (Bool) :=
bif ((x0.length : Int)) != ((x1.length : Int)) then (
some (false))
else (
p_slices_Equal_Lint_int_l0 k (fun (_ : Unit) =>
some (true)) (fun r23_4 =>
some (r23_4)) x0 x1 ((x0.length : Int)) 0)
theorem slices_Equal_Lint_int_l0_ok {h : H}  {kE0 : Unit→Option β} {kE1 : Bool→Option β} (hE0 : ∀ (_u : Unit) (H16 : Go.Ev.H) (_ : Fm 26 h [] [] [] H16),Sim (kE0 ()) (K ((.exit 0),(envL []),H16)) Q) (hE1 : ∀ (q4 : Bool) (H18 : Go.Ev.H) (_ : Fm 26 h [] [] [] H18),Sim (kE1 q4) (K (.ret,(envL [(4,(.p (.bool q4)))]),H18)) Q) (k : Nat) : ∀ (x0 : (List Int)) (x1 : (List Int)) (x12 : Int) (x13 : Int) (v4 : V) (h5 : SlH h (dI .i64) x0 v4) (v6 : V) (h7 : SlH h (dI .i64) x1 v6) (H2 : Go.Ev.H) (_ : Fm 26 h [] [] [] H2) {σ : Stamp},Sim (p_slices_Equal_Lint_int_l0 k kE0 kE1 x0 x1 x12 x13) ((cvL G X0 slices_Equal_Lint_int_c0 slices_Equal_Lint_int_l0 σ (envL [(0,v4),(1,v6),(12,(.p (.int .i64 x12))),(13,(.p (.int .i64 x13)))]) H2).bind K) Q:=by
 induction k with
 | zero => intros; exact .no
 | succ k ih =>
  intro x0 x1 x12 x13 v4 h5 v6 h7 H2 S3 σ
  rw [p_slices_Equal_Lint_int_l0]
  refine .round (Sim.ext (slices_Equal_Lint_int_r0 _ _ _ _ _ _ _ _) ?_)
  refine .cq ?_ ?_
  ·refine .bd fun a9 h10 => ?_
   refine .op ((S3.low h5).iS h10 rfl) ?_
   obtain ⟨_,rfl,hE11⟩:=(S3.low h5).el h10 rfl
   refine .op (hE11.ld (j:=0) rfl) ?_
   refine .ci ?_
   refine .bd fun a12 h13 => ?_
   refine .op ((S3.low h7).iS h13 rfl) ?_
   obtain ⟨_,rfl,hE14⟩:=(S3.low h7).el h13 rfl
   refine .op (hE14.ld (j:=0) rfl) ?_
   refine .ci ?_
   refine .cq ?_ ?_
   ·exact hE1 false H2 (S3.wk2 aN aN)
   exact ih x0 x1 x12 (IntKind.wrap .i64 (x13 + 1)) v4 h5 v6 h7 H2 (S3.wk2 aN aN)
  exact hE0 () H2 (S3.wk2 aN aN)
theorem slices_Equal_Lint_int_ok (k : Nat) {h : H} {σ : Stamp} (x0 : List Int) {u0 : V} (hu0 : SlH h (dI .i64) x0 u0) (x1 : List Int) {u1 : V} (hu1 : SlH h (dI .i64) x1 u1) : Sim (p_slices_Equal_Lint_int k x0 x1) (ev G X0 74 σ [u0,u1] h) (fun r s => s = ([.v (.p (.bool r))],h)):=by
 refine .ev rfl (Sim.ext (slices_Equal_Lint_int_entry _ _ _ _ _ _) ?_)
 rw [p_slices_Equal_Lint_int]
 have S0 : Fm 26 h [] [] [] (List.replicate 26 []::h):=Fm.start0
 refine .op ((S0.low hu0).len) ?_
 refine .ci ?_
 refine .op ((S0.low hu1).len) ?_
 refine .ci ?_
 refine .cq ?_ ?_
 ·exact .fin (S0.finN (lC (sB _).lv lN)) rfl
 refine .op ((S0.low hu0).len) ?_
 refine .ci ?_
 refine .as (slices_Equal_Lint_int_l0_ok ?_ ?_ k x0 x1 ((x0.length : Int)) 0 u0 hu0 u1 hu1 (List.replicate 26 []::h) (S0.wk2 aN aN))
 ·intro _u H21 S22
  refine .ext (slices_Equal_Lint_int_a0_0 _ _ _ _) ?_
  exact .fin (S22.finN (lC (sB _).lv lN)) rfl
 ·intro r23_4 H24 S25
  refine .ext (slices_Equal_Lint_int_a0_ret _ _ _ _ _) ?_
  exact .fin (S25.finN (lC (sB _).lv lN)) rfl
def p_alloc_Pick (k : Nat) (x0 : (List TaiChoice)) (x1 : Int) (x2 : (List Int)) : Option ((List Int)) :=
(p_knap_Best k x0 x1).bind fun r1 =>
(p_knap_Fits k x0 x2 x1).bind fun r15 =>
(bif r15 then ((p_slices_Equal_Lint_int k x2 r1).bind fun r20 =>
some (!r20)) else (some false)).bind fun b25 =>
(bif b25 then ((p_knap_Cost k x0 r1).bind fun r29 =>
(p_alloc_Margin x1).bind fun r34 =>
some (decide (r29 > (IntKind.wrap .i64 (x1 - r34))))) else (some false)).bind fun b39 =>
bif b39 then (
(p_clone 8 x2).bind fun r44 =>
some (r44))
else (
some (r1))
theorem alloc_Pick_ok (k : Nat) {h : H} {σ : Stamp} (x0 : List TaiChoice) {u0 : V} (hu0 : SlF dTaiChoice x0 u0) (x1 : Int) (x2 : List Int) {u2 : V} (hu2 : SlH h (dI .i64) x2 u2) : Sim (p_alloc_Pick k x0 x1 x2) (ev G X0 33 σ [u0,(.p (.int .i64 x1)),u2] h) (fun r s => ∃ (c0 : C),∃ (a0 : List V),OwnS c0 (dI .i64).sz r.length a0∧(dI .i64).L r a0∧s = ([c0],h)):=by
 refine .ev rfl (Sim.ext (alloc_Pick_entry _ _ _ _ _ _ _) ?_)
 rw [p_alloc_Pick]
 have S0 : Fm 34 h [] [] [] (List.replicate 34 []::h):=Fm.start0
 refine .call (knap_Best_ok k x0 hu0 x1) fun r1 cs2 H3 h4 q5 => ?_
 obtain ⟨c6,cs7,h8,h9,q5⟩:=q5
 cases q5
 obtain ⟨v10,H11,e12,S13⟩:=S0.land (dt:=(dI .i64)) (d:=10) (e:=0) (n:=0) h8 h9 (by decide) rfl
 erw [e12]
 refine .call (knap_Fits_ok k x0 (hu0.h H11) x2 (S13.low hu2) x1) fun r15 cs16 H17 h18 q19 => ?_
 cases q19
 refine .ab ?_
 refine .ch (P:=fun r y => (.p (.bool r),H11) = y) ?_ (fun b25 y26 h27 h28 => ?_)
 ·refine .cq ?_ ?_
  ·refine .call (slices_Equal_Lint_int_ok k x2 (S13.low hu2) r1 (S13.sl (i:=0) rfl)) fun r20 cs21 H22 h23 q24 => ?_
   cases q24
   refine .ab ?_
   exact .ret rfl rfl
  ·exact .ret rfl rfl
 subst h28
 refine .ab ?_
 refine .ch (P:=fun r y => (.p (.bool r),H11) = y) ?_ (fun b39 y40 h41 h42 => ?_)
 ·refine .cq ?_ ?_
  ·refine .call (knap_Cost_ok k x0 (hu0.h H11) r1 (S13.sl (i:=0) rfl)) fun r29 cs30 H31 h32 q33 => ?_
   cases q33
   refine .ci ?_
   refine .call (alloc_Margin_ok x1) fun r34 cs35 H36 h37 q38 => ?_
   cases q38
   refine .ci ?_
   exact .ret rfl rfl
  ·exact .ret rfl rfl
 subst h42
 refine .ab ?_
 refine .cq ?_ ?_
 ·refine .call (clone_ok (b:=8) (f:=77) (tt:=3) (e:=1) (τ:=fun σ => _::_::_::_::_::σ) (fun x h => slices_Clone_Lint_int_entry _ _ _ x h) (S13.low hu2) rfl (by decide) (by decide) (by decide) (by kernel_rfl) (by kernel_rfl) rfl) fun r44 cs45 H46 h47 q48 => ?_
  obtain ⟨c49,cs50,h51,h52,q48⟩:=q48
  cases q48
  obtain ⟨v53,H54,e55,S56⟩:=S13.land (dt:=(dI .i64)) (d:=32) (e:=0) (n:=0) h51 h52 (by decide) rfl
  erw [e55]
  obtain ⟨c63,cs64,H58,e59,h61,h62,S60⟩:=S56.expOwn (i:=0) (τ:=0::1::σ) rfl rfl rfl
  exact .fin (S60.finE (Ex.st e59 Ex.nil)) ⟨c63,cs64,h61,h62,rfl⟩
 obtain ⟨c70,cs71,H65,e66,h68,h69,S67⟩:=S13.expOwn (i:=0) (τ:=0::1::σ) rfl rfl rfl
 exact .fin (S67.finE (Ex.st e66 Ex.nil)) ⟨c70,cs71,h68,h69,rfl⟩
end
end Go.Ev
namespace Go.Ev
open Go.Proofs
set_option linter.unusedVariables false
set_option linter.unusedSimpArgs false
set_option maxRecDepth 100000
noncomputable section
abbrev KT17:=Exit→Env→H→Option (List C × H)
variable (rec : CallF) (loop : LoopV) (σ : Stamp)
theorem zl19_known_entry  (h : H) : cvBody G rec loop 38 σ [] h =
(bSV Try.prog 43 2 [(0,(.p (.int .i64 2))),(1,(.p (.int .i64 6)))]).bind fun t1 =>
(bSV Try.prog 43 2 [(0,(.p (.int .i64 1))),(1,(.p (.int .i64 5)))]).bind fun t2 =>
(buildV Try.prog 92 [(1,t1),(2,t2)]).bind fun t3 =>
(bSV Try.prog 66 1 [(0,t3)]).bind fun t4 =>
(callO rec 33 (1::0::1::1::0::σ) [t4,(.p (.int .i64 8)),(.p (.slice .none 0 0))] (List.replicate 82 []::h) (some 11)).bind fun q5 =>
(bSV Try.prog 43 1 [(0,(.p (.int .i64 0)))]).bind fun t6 =>
(callO rec 33 (4::0::1::1::0::σ) [t4,(.p (.int .i64 6)),t6] q5.2 (some 14)).bind fun q7 =>
(bSV Try.prog 43 1 [(0,(.p (.int .i64 0)))]).bind fun t8 =>
(callO rec 33 (7::0::1::1::0::σ) [t4,(.p (.int .i64 16)),t8] q7.2 (some 17)).bind fun q9 =>
(bSV Try.prog 43 1 [(0,(.p (.int .i64 1)))]).bind fun t10 =>
(callO rec 33 (2::0::1::1::1::0::σ) [t4,(.p (.int .i64 5)),t10] q9.2 (some 20)).bind fun q11 =>
(callO rec 81 (0::0::1::1::1::1::0::σ) [(.p (.int .i64 999))] q11.2 (some 21)).bind fun q12 =>
(castI .i64 q12.1).bind fun n13 =>
(bif n13 == 0 then ((callO rec 81 (3::0::1::1::1::1::0::σ) [(.p (.int .i64 4611686018427387904))] q12.2 (some 24)).bind fun q14 =>
(castI .i64 q14.1).bind fun n15 =>
some ((.p (.bool (n15 == 4096))),q14.2)) else (some ((.p (.bool false)),q12.2))).bind fun q16 =>
(asB q16.1).bind fun b17 =>
(bif b17 then ((callO rec 76 (7::0::1::1::1::1::0::σ) [(.p (.int .i64 80))] q16.2 (some 28)).bind fun q18 =>
(castI .i64 q18.1).bind fun n19 =>
some ((.p (.bool (n19 == 10))),q18.2)) else (some ((.p (.bool false)),q16.2))).bind fun q20 =>
(asB q20.1).bind fun b21 =>
(bif b21 then ((bSV Try.prog 43 1 [(0,(.p (.int .i64 1)))]).bind fun t22 =>
(callO rec 36 (13::0::1::1::1::1::0::σ) [q5.1,t22] q20.2 (some 34)).bind fun q23 =>
(asB q23.1).bind fun b24 =>
some ((.p (.bool b24)),q23.2)) else (some ((.p (.bool false)),q20.2))).bind fun q25 =>
(asB q25.1).bind fun b26 =>
(bif b26 then ((bSV Try.prog 43 1 [(0,(.p (.int .i64 1)))]).bind fun t27 =>
(callO rec 36 (18::0::1::1::1::1::0::σ) [q7.1,t27] q25.2 (some 39)).bind fun q28 =>
(asB q28.1).bind fun b29 =>
some ((.p (.bool b29)),q28.2)) else (some ((.p (.bool false)),q25.2))).bind fun q30 =>
(asB q30.1).bind fun b31 =>
(bif b31 then ((bSV Try.prog 43 1 [(0,(.p (.int .i64 1)))]).bind fun t32 =>
(callO rec 36 (23::0::1::1::1::1::0::σ) [q9.1,t32] q30.2 (some 44)).bind fun q33 =>
(asB q33.1).bind fun b34 =>
some ((.p (.bool b34)),q33.2)) else (some ((.p (.bool false)),q30.2))).bind fun q35 =>
(asB q35.1).bind fun b36 =>
(bif b36 then ((bSV Try.prog 43 1 [(0,(.p (.int .i64 0)))]).bind fun t37 =>
(callO rec 36 (28::0::1::1::1::1::0::σ) [q11.1,t37] q35.2 (some 49)).bind fun q38 =>
(asB q38.1).bind fun b39 =>
some ((.p (.bool b39)),q38.2)) else (some ((.p (.bool false)),q35.2))).bind fun q40 =>
(asB q40.1).bind fun b41 =>
(bif b41 then ((bSV Try.prog 43 1 [(0,(.p (.int .i64 0)))]).bind fun t42 =>
(callO rec 33 (33::0::1::1::1::1::0::σ) [t4,(.p (.int .i64 8)),t42] q40.2 (some 54)).bind fun q43 =>
(bSV Try.prog 43 1 [(0,(.p (.int .i64 1)))]).bind fun t44 =>
(callO rec 36 (35::0::1::1::1::1::0::σ) [q43.1,t44] q43.2 (some 56)).bind fun q45 =>
(asB q45.1).bind fun b46 =>
some ((.p (.bool b46)),q45.2)) else (some ((.p (.bool false)),q40.2))).bind fun q47 =>
(asB q47.1).bind fun b48 =>
(bif b48 then ((callO rec 44 (38::0::1::1::1::1::0::σ) [(.p (.pointer .none)),(.p (.int .i64 5)),(.p (.int .i64 1)),(.p (.int .i64 0)),(.p (.bool true))] q47.2 (some 59)).bind fun q49 =>
(fV false 1 1 q49.1).bind fun t50 =>
(lenO t50).bind fun t51 =>
(castI .i64 t51).bind fun n52 =>
some ((.p (.bool (n52 == 0))),q49.2)) else (some ((.p (.bool false)),q47.2))).bind fun q53 =>
(asB q53.1).bind fun b54 =>
(bif b54 then ((callO rec 81 (44::0::1::1::1::1::0::σ) [(.p (.int .i64 (-5)))] q53.2 (some 65)).bind fun q55 =>
(castI .i64 q55.1).bind fun n56 =>
some ((.p (.bool (n56 == 0))),q55.2)) else (some ((.p (.bool false)),q53.2))).bind fun q57 =>
(asB q57.1).bind fun b58 =>
(bif b58 then ((callO rec 76 (48::0::1::1::1::1::0::σ) [(.p (.int .i64 (-80)))] q57.2 (some 69)).bind fun q59 =>
(castI .i64 q59.1).bind fun n60 =>
some ((.p (.bool (n60 == 0))),q59.2)) else (some ((.p (.bool false)),q57.2))).bind fun q61 =>
(asB q61.1).bind fun b62 =>
(bif b62 then ((bSV Try.prog 43 2 [(0,(.p (.int .i64 2))),(1,(.p (.int .i64 15)))]).bind fun t63 =>
(bSV Try.prog 43 2 [(0,(.p (.int .i64 1))),(1,(.p (.int .i64 5)))]).bind fun t64 =>
(buildV Try.prog 92 [(1,t63),(2,t64)]).bind fun t65 =>
(bSV Try.prog 66 1 [(0,t65)]).bind fun t66 =>
(bSV Try.prog 43 1 [(0,(.p (.int .i64 0)))]).bind fun t67 =>
(callO rec 33 (57::0::1::1::1::1::0::σ) [t66,(.p (.int .i64 16)),t67] q61.2 (some 78)).bind fun q68 =>
(bSV Try.prog 43 1 [(0,(.p (.int .i64 0)))]).bind fun t69 =>
(callO rec 36 (59::0::1::1::1::1::0::σ) [q68.1,t69] q68.2 (some 80)).bind fun q70 =>
(asB q70.1).bind fun b71 =>
some ((.p (.bool b71)),q70.2)) else (some ((.p (.bool false)),q61.2))).bind fun q72 =>
(asB q72.1).bind fun b73 =>
fin false σ q72.2 [(.p (.bool b73))]:=by kernel_rfl
theorem alloc_Budget_entry (x0 : Int) (h : H) : cvBody G rec loop 81 σ [(.p (.int .i64 x0))] h =
fin false σ (List.replicate 7 []::h) [(.p (.int .i64 ((if ((if 4096 < (IntKind.wrap .i64 (Int.tdiv x0 1000)) then 4096 else (IntKind.wrap .i64 (Int.tdiv x0 1000)))) > 0 then ((if 4096 < (IntKind.wrap .i64 (Int.tdiv x0 1000)) then 4096 else (IntKind.wrap .i64 (Int.tdiv x0 1000)))) else 0))))]:=by kernel_rfl
end
end Go.Ev
namespace Go.Ev
open Go.Proofs
set_option linter.unusedVariables false
set_option linter.unusedSimpArgs false
set_option maxRecDepth 100000
section
variable {β α : Type} {Q : β→α→Prop} {K : Exit × Env × H→Option α}
def p_alloc_Budget (x0 : Int) : Option (Int) :=
some (((if ((if 4096 < (IntKind.wrap .i64 (Int.tdiv x0 1000)) then 4096 else (IntKind.wrap .i64 (Int.tdiv x0 1000)))) > 0 then ((if 4096 < (IntKind.wrap .i64 (Int.tdiv x0 1000)) then 4096 else (IntKind.wrap .i64 (Int.tdiv x0 1000)))) else 0)))
theorem alloc_Budget_ok {h : H} {σ : Stamp} (x0 : Int) : Sim (p_alloc_Budget x0) (ev G X0 81 σ [(.p (.int .i64 x0))] h) (fun r s => s = ([.v (.p (.int .i64 r))],h)):=by
 refine .ev rfl (Sim.ext (alloc_Budget_entry _ _ _ _ _) ?_)
 rw [p_alloc_Budget]
 have S0 : Fm 7 h [] [] [] (List.replicate 7 []::h):=Fm.start0
 exact .fin (S0.finN (lC (sI _ _).lv lN)) rfl
end
end Go.Ev
namespace Go.Ev
open Go.Proofs
set_option linter.unusedVariables false
set_option linter.unusedSimpArgs false
set_option maxRecDepth 100000
noncomputable section
abbrev KT18:=Exit→Env→H→Option (List C × H)
variable (rec : CallF) (loop : LoopV) (σ : Stamp)
def alloc_Choice_c0 : Code:=(codeAt (bodyOf Try.f44) [1,1,1,0,1,0,0])
def alloc_Choice_l0 : Lv:=⟨3072,1024,[(0,3072)]⟩
def alloc_Choice_k0 : KT18:=(kBlock 0 (kSeq G rec loop (codeAt (bodyOf Try.f44) [1,1,1,1]) ⟨1024,1024,[]⟩ (1::1::1::0::σ) (finC G false Try.f44 (1::σ))))
theorem alloc_Choice_entry (x0 : V) (x1 : Int) (x2 : Int) (x3 : Int) (x4 : Bool) (h : H) : cvBody G rec loop 44 σ [x0,(.p (.int .i64 x1)),(.p (.int .i64 x2)),(.p (.int .i64 x3)),(.p (.bool x4))] h =
(some (alO [.p (.int .i64 0),.p (.slice none 0 0),.p (.slice none 0 0)] (0::0::0::σ) 10 (List.replicate 68 []::h))).bind fun q1 =>
(binV Try.prog q1.2 .eql 77 x0 (.p (.pointer .none))).bind fun t2 =>
(asB t2).bind fun b3 =>
bif b3 then (
(buildV Try.prog 92 []).bind fun t4 =>
((stO false 3 (1::0::1::0::1::0::σ) q1.2 q1.1 t4).map fun h => (udf,h)).bind fun q5 =>
((ldO true 3 q5.2 q1.1).bind fun t6 => (some []).map (t6::·)).bind fun t7 => fin false σ q5.2 t7)
else (
(buildV Try.prog 92 [(0,(.p (.int .i64 x2)))]).bind fun t8 =>
(some (alO [.p (.int .i64 0),.p (.slice none 0 0),.p (.slice none 0 0)] (2::0::1::1::0::σ) 11 q1.2)).bind fun q9 =>
((stO false 3 (3::0::1::1::0::σ) q9.2 q9.1 t8).map fun h => (udf,h)).bind fun q10 =>
(callO rec 93 (1::0::0::1::1::1::0::σ) [x0] q10.2 (some 20)).bind fun q11 =>
(castI .i64 q11.1).bind fun n12 =>
(loop alloc_Choice_c0 alloc_Choice_l0 (1::0::1::1::1::0::σ) (envL [(0,x0),(1,(.p (.int .i64 x1))),(3,(.p (.int .i64 x3))),(4,(.p (.bool x4))),(10,q1.1),(11,q9.1),(20,(.p (.int .i64 n12))),(21,(.p (.int .i64 0)))]) q11.2).bind fun r13 => alloc_Choice_k0 rec loop σ r13.1 r13.2.1 r13.2.2):=by kernel_rfl
end
end Go.Ev
namespace Go.Ev
open Go.Proofs
set_option linter.unusedVariables false
set_option linter.unusedSimpArgs false
set_option maxRecDepth 100000
section
variable {β α : Type} {Q : β→α→Prop} {K : Exit × Env × H→Option α}
def p_alloc_Choice_nilp (x1 : Int) (x2 : Int) (x3 : Int) (x4 : Bool) : Option (TaiChoice) :=
some (((⟨0,(([] : List Int)),(([] : List Int))⟩ : TaiChoice)))
theorem alloc_Choice_nilp_ok {h : H} {σ : Stamp} (x1 : Int) (x2 : Int) (x3 : Int) (x4 : Bool) : Sim (p_alloc_Choice_nilp x1 x2 x3 x4) (ev G X0 44 σ [(.p (.pointer none)),(.p (.int .i64 x1)),(.p (.int .i64 x2)),(.p (.int .i64 x3)),(.p (.bool x4))] h) (fun r s => ∃ (w0 : List V),dTaiChoice.R r w0∧s = ([.v (.agg w0)],h)):=by
 refine .ev rfl (Sim.ext (alloc_Choice_entry _ _ _ _ _ _ _ _ _) ?_)
 rw [p_alloc_Choice_nilp]
 have S0 : Fm 68 h [] [] [] (List.replicate 68 []::h):=Fm.start0
 obtain ⟨H1,e2,S3⟩:=S0.al (d:=10) (s:=(0::0::0::σ)) (z:=[(.p (.int .i64 0)),(.p (.slice none 0 0)),(.p (.slice none 0 0))]) (by decide) rfl
 refine .op (congrArg some e2) ?_
 refine .op ((by kernel_rfl : _ = some (.p (.bool true)))) ?_
 refine .ab ?_
 refine .cdt rfl ?_
 refine .op (bldV pN (by kernel_rfl : _ = some (.agg [.p (.int .i64 0),.p (.slice none 0 0),.p (.slice none 0 0)]))) ?_
 obtain ⟨H5,e6,S7⟩:=S3.stGv (i:=0) (j:=0) (own:=false) (σ:=(1::0::1::0::1::0::σ)) (xs:=[.p (.int .i64 0),.p (.slice none 0 0),.p (.slice none 0 0)]) rfl rfl (sC (sI _ _) (sC (SlF.nil (dI .i64)).still (sC (SlF.nil (dI .i64)).still sN))) rfl rfl
 refine .op (sM e6) ?_
 have e8 : ldO true 3 H5 (.ref ⟨h.length,10,0,(0::0::0::σ),[]⟩ 0) = some (.agg [.p (.int .i64 0),.p (.slice none 0 0),.p (.slice none 0 0)]):=(S7.atG (i:=0) rfl).ldVs (j:=0) rfl rfl (by decide)
 refine .op (congrArg (Option.bind · _) e8) ?_
 exact .fin (S7.finN (lC (Stills.lv (dTaiChoice.still (dTaiChoice.mk (SlF.nil (dI .i64)) (SlF.nil (dI .i64))))) lN)) ⟨_,(dTaiChoice.mk (SlF.nil (dI .i64)) (SlF.nil (dI .i64))),rfl⟩
end
end Go.Ev
namespace Go.Ev
open Go.Proofs
set_option linter.unusedVariables false
set_option linter.unusedSimpArgs false
set_option maxRecDepth 100000
noncomputable section
abbrev KT19:=Exit→Env→H→Option (List C × H)
variable (rec : CallF) (loop : LoopV) (σ : Stamp)
def zr18_Ints_c0 : Code:=(codeAt (bodyOf Try.f36) [1,1,0,1,0,0])
def zr18_Ints_l0 : Lv:=⟨0,16,[(0,0)]⟩
def zr18_Ints_k0 : KT19:=(kBlock 0 (kSeq G rec loop (codeAt (bodyOf Try.f36) [1,1,1]) ⟨16,16,[]⟩ (1::1::0::σ) (finC G false Try.f36 (1::σ))))
theorem zr18_Ints_entry (x0 : V) (x1 : V) (h : H) : cvBody G rec loop 36 σ [x0,x1] h =
(lenO x0).bind fun t1 =>
(castI .i64 t1).bind fun n2 =>
(lenO x1).bind fun t3 =>
(castI .i64 t3).bind fun n4 =>
bif n2 != n4 then (
fin false σ (List.replicate 26 []::h) [(.p (.bool false))])
else (
(lenO x0).bind fun t5 =>
(castI .i64 t5).bind fun n6 =>
(loop zr18_Ints_c0 zr18_Ints_l0 (1::0::1::1::0::σ) (envL [(0,x0),(1,x1),(12,(.p (.int .i64 n6))),(13,(.p (.int .i64 0)))]) (List.replicate 26 []::h)).bind fun r7 => zr18_Ints_k0 rec loop σ r7.1 r7.2.1 r7.2.2):=by kernel_rfl
theorem zr18_Ints_r0 (x0 : V) (x1 : V) (x12 : Int) (x13 : Int) (h : H) : cvRound G rec loop zr18_Ints_c0 zr18_Ints_l0 σ (envL [(0,x0),(1,x1),(12,(.p (.int .i64 x12))),(13,(.p (.int .i64 x13)))]) h =
bif decide (x13 < x12) then (
(iS 1 x0 x13).bind fun t8 =>
(ldO false 1 h t8).bind fun t9 =>
(castI .i64 t9).bind fun n10 =>
(iS 1 x1 x13).bind fun t11 =>
(ldO false 1 h t11).bind fun t12 =>
(castI .i64 t12).bind fun n13 =>
bif n10 != n13 then (
some (.ret,(envL [(4,(.p (.bool false)))]),h))
else (
loop zr18_Ints_c0 zr18_Ints_l0 (1::σ) (envL [(0,x0),(1,x1),(12,(.p (.int .i64 x12))),(13,(.p (.int .i64 (IntKind.wrap .i64 (x13 + 1)))))]) h))
else (
some ((.exit 0),(envL []),h)):=by kernel_rfl
theorem zr18_Ints_a0_0  (h : H) : zr18_Ints_k0 rec loop σ (.exit 0) (envL []) h =
fin false σ h [(.p (.bool true))]:=by kernel_rfl
theorem zr18_Ints_a0_ret (x4 : Bool) (h : H) : zr18_Ints_k0 rec loop σ .ret (envL [(4,(.p (.bool x4)))]) h =
fin false σ h [(.p (.bool x4))]:=by kernel_rfl
end
end Go.Ev
namespace Go.Ev
open Go.Proofs
set_option linter.unusedVariables false
set_option linter.unusedSimpArgs false
set_option maxRecDepth 100000
section
variable {β α : Type} {Q : β→α→Prop} {K : Exit × Env × H→Option α}
def p_zr18_Ints_l0 {β : Type} (k : Nat) (kE0 : Unit→Option β) (kE1 : Bool→Option β) (x0 : (List Int)) (x1 : (List Int)) (x12 : Int) (x13 : Int) : Option β:=match k with
| 0 => none
| k + 1 =>
bif decide (x13 < x12) then (
(ix x0 x13).bind fun a9 =>
(ix x1 x13).bind fun a12 =>
bif a9 != a12 then (
kE1 false)
else (
p_zr18_Ints_l0 k kE0 kE1 x0 x1 x12 (IntKind.wrap .i64 (x13 + 1))))
else (
kE0 ())
def p_zr18_Ints (k : Nat) (x0 : (List Int)) (x1 : (List Int)) : Option (Bool) :=
bif ((x0.length : Int)) != ((x1.length : Int)) then (
some (false))
else (
p_zr18_Ints_l0 k (fun (_ : Unit) =>
some (true)) (fun r23_4 =>
some (r23_4)) x0 x1 ((x0.length : Int)) 0)
theorem zr18_Ints_l0_ok {h : H}  {kE0 : Unit→Option β} {kE1 : Bool→Option β} (hE0 : ∀ (_u : Unit) (H16 : Go.Ev.H) (_ : Fm 26 h [] [] [] H16),Sim (kE0 ()) (K ((.exit 0),(envL []),H16)) Q) (hE1 : ∀ (q4 : Bool) (H18 : Go.Ev.H) (_ : Fm 26 h [] [] [] H18),Sim (kE1 q4) (K (.ret,(envL [(4,(.p (.bool q4)))]),H18)) Q) (k : Nat) : ∀ (x0 : (List Int)) (x1 : (List Int)) (x12 : Int) (x13 : Int) (v4 : V) (h5 : SlH h (dI .i64) x0 v4) (v6 : V) (h7 : SlH h (dI .i64) x1 v6) (H2 : Go.Ev.H) (_ : Fm 26 h [] [] [] H2) {σ : Stamp},Sim (p_zr18_Ints_l0 k kE0 kE1 x0 x1 x12 x13) ((cvL G X0 zr18_Ints_c0 zr18_Ints_l0 σ (envL [(0,v4),(1,v6),(12,(.p (.int .i64 x12))),(13,(.p (.int .i64 x13)))]) H2).bind K) Q:=by
 induction k with
 | zero => intros; exact .no
 | succ k ih =>
  intro x0 x1 x12 x13 v4 h5 v6 h7 H2 S3 σ
  rw [p_zr18_Ints_l0]
  refine .round (Sim.ext (zr18_Ints_r0 _ _ _ _ _ _ _ _) ?_)
  refine .cq ?_ ?_
  ·refine .bd fun a9 h10 => ?_
   refine .op ((S3.low h5).iS h10 rfl) ?_
   obtain ⟨_,rfl,hE11⟩:=(S3.low h5).el h10 rfl
   refine .op (hE11.ld (j:=0) rfl) ?_
   refine .ci ?_
   refine .bd fun a12 h13 => ?_
   refine .op ((S3.low h7).iS h13 rfl) ?_
   obtain ⟨_,rfl,hE14⟩:=(S3.low h7).el h13 rfl
   refine .op (hE14.ld (j:=0) rfl) ?_
   refine .ci ?_
   refine .cq ?_ ?_
   ·exact hE1 false H2 (S3.wk2 aN aN)
   exact ih x0 x1 x12 (IntKind.wrap .i64 (x13 + 1)) v4 h5 v6 h7 H2 (S3.wk2 aN aN)
  exact hE0 () H2 (S3.wk2 aN aN)
theorem zr18_Ints_ok (k : Nat) {h : H} {σ : Stamp} (x0 : List Int) {u0 : V} (hu0 : SlH h (dI .i64) x0 u0) (x1 : List Int) {u1 : V} (hu1 : SlH h (dI .i64) x1 u1) : Sim (p_zr18_Ints k x0 x1) (ev G X0 36 σ [u0,u1] h) (fun r s => s = ([.v (.p (.bool r))],h)):=by
 refine .ev rfl (Sim.ext (zr18_Ints_entry _ _ _ _ _ _) ?_)
 rw [p_zr18_Ints]
 have S0 : Fm 26 h [] [] [] (List.replicate 26 []::h):=Fm.start0
 refine .op ((S0.low hu0).len) ?_
 refine .ci ?_
 refine .op ((S0.low hu1).len) ?_
 refine .ci ?_
 refine .cq ?_ ?_
 ·exact .fin (S0.finN (lC (sB _).lv lN)) rfl
 refine .op ((S0.low hu0).len) ?_
 refine .ci ?_
 refine .as (zr18_Ints_l0_ok ?_ ?_ k x0 x1 ((x0.length : Int)) 0 u0 hu0 u1 hu1 (List.replicate 26 []::h) (S0.wk2 aN aN))
 ·intro _u H21 S22
  refine .ext (zr18_Ints_a0_0 _ _ _ _) ?_
  exact .fin (S22.finN (lC (sB _).lv lN)) rfl
 ·intro r23_4 H24 S25
  refine .ext (zr18_Ints_a0_ret _ _ _ _ _) ?_
  exact .fin (S25.finN (lC (sB _).lv lN)) rfl
def p_zl19_known (k : Nat)  : Option (Bool) :=
(p_alloc_Pick k ([((⟨0,([2,6]),([1,5])⟩ : TaiChoice))]) 8 (([] : List Int))).bind fun r4 =>
(p_alloc_Pick k ([((⟨0,([2,6]),([1,5])⟩ : TaiChoice))]) 6 ([0])).bind fun r19 =>
(p_alloc_Pick k ([((⟨0,([2,6]),([1,5])⟩ : TaiChoice))]) 16 ([0])).bind fun r34 =>
(p_alloc_Pick k ([((⟨0,([2,6]),([1,5])⟩ : TaiChoice))]) 5 ([1])).bind fun r49 =>
(p_alloc_Budget 999).bind fun r63 =>
(bif r63 == 0 then ((p_alloc_Budget 4611686018427387904).bind fun r68 =>
some (r68 == 4096)) else (some false)).bind fun b73 =>
(bif b73 then ((p_alloc_Margin 80).bind fun r77 =>
some (r77 == 10)) else (some false)).bind fun b82 =>
(bif b82 then ((p_zr18_Ints k r4 ([1])).bind fun r87 =>
some r87) else (some false)).bind fun b92 =>
(bif b92 then ((p_zr18_Ints k r19 ([1])).bind fun r97 =>
some r97) else (some false)).bind fun b102 =>
(bif b102 then ((p_zr18_Ints k r34 ([1])).bind fun r107 =>
some r107) else (some false)).bind fun b112 =>
(bif b112 then ((p_zr18_Ints k r49 ([0])).bind fun r117 =>
some r117) else (some false)).bind fun b122 =>
bif b122 then ((p_alloc_Pick k ([((⟨0,([2,6]),([1,5])⟩ : TaiChoice))]) 8 ([0])).bind fun r127 =>
(p_zr18_Ints k r127 ([1])).bind fun r142 =>
(bif r142 then ((p_alloc_Choice_nilp 5 1 0 true).bind fun r147 =>
some (((r147.Costs.length : Int)) == 0)) else (some false)).bind fun b158 =>
(bif b158 then ((p_alloc_Budget (-5)).bind fun r162 =>
some (r162 == 0)) else (some false)).bind fun b167 =>
(bif b167 then ((p_alloc_Margin (-80)).bind fun r171 =>
some (r171 == 0)) else (some false)).bind fun b176 =>
bif b176 then ((p_alloc_Pick k ([((⟨0,([2,15]),([1,5])⟩ : TaiChoice))]) 16 ([0])).bind fun r184 =>
(p_zr18_Ints k r184 ([0])).bind fun r199 =>
some (r199)) else (some (false))) else ((bif false then ((p_alloc_Choice_nilp 5 1 0 true).bind fun r204 =>
some (((r204.Costs.length : Int)) == 0)) else (some false)).bind fun b215 =>
(bif b215 then ((p_alloc_Budget (-5)).bind fun r219 =>
some (r219 == 0)) else (some false)).bind fun b224 =>
(bif b224 then ((p_alloc_Margin (-80)).bind fun r228 =>
some (r228 == 0)) else (some false)).bind fun b233 =>
bif b233 then ((p_alloc_Pick k ([((⟨0,([2,15]),([1,5])⟩ : TaiChoice))]) 16 ([0])).bind fun r241 =>
(p_zr18_Ints k r241 ([0])).bind fun r256 =>
some (r256)) else (some (false)))
theorem zl19_known_ok (k : Nat) {h : H} {σ : Stamp}  : Sim (p_zl19_known k ) (ev G X0 38 σ [] h) (fun r s => s = ([.v (.p (.bool r))],h)):=by
 refine .ev rfl (Sim.ext (zl19_known_entry _ _ _ _) ?_)
 rw [p_zl19_known]
 have S0 : Fm 82 h [] [] [] (List.replicate 82 []::h):=Fm.start0
 have h1 : SlF (dI .i64) [2,6] (.fz [(.p (.int .i64 2)),(.p (.int .i64 6))] 2 1 true):=SlF.lit (cs:=[(.p (.int .i64 2)),(.p (.int .i64 6))]) (RL.cons (show (dI .i64).R 2 [(.p (.int .i64 2))] from rfl) (RL.cons (show (dI .i64).R 6 [(.p (.int .i64 6))] from rfl) RL.nil)) rfl rfl true
 refine .op (bldS (pC rfl (pC rfl pN)) (by kernel_rfl : _ = some (vOf h1))) ?_
 have h2 : SlF (dI .i64) [1,5] (.fz [(.p (.int .i64 1)),(.p (.int .i64 5))] 2 1 true):=SlF.lit (cs:=[(.p (.int .i64 1)),(.p (.int .i64 5))]) (RL.cons (show (dI .i64).R 1 [(.p (.int .i64 1))] from rfl) (RL.cons (show (dI .i64).R 5 [(.p (.int .i64 5))] from rfl) RL.nil)) rfl rfl true
 refine .op (bldS (pC rfl (pC rfl pN)) (by kernel_rfl : _ = some (vOf h2))) ?_
 refine .op (bldV (pC h1.still.cells (pC h2.still.cells pN)) (by kernel_rfl : _ = some (.agg [.p (.int .i64 0),.fz [(.p (.int .i64 2)),(.p (.int .i64 6))] 2 1 true,.fz [(.p (.int .i64 1)),(.p (.int .i64 5))] 2 1 true]))) ?_
 have h3 : SlF dTaiChoice [((⟨0,([2,6]),([1,5])⟩ : TaiChoice))] (.fz [(.p (.int .i64 0)),(.fz [(.p (.int .i64 2)),(.p (.int .i64 6))] 2 1 true),(.fz [(.p (.int .i64 1)),(.p (.int .i64 5))] 2 1 true)] 1 3 true):=SlF.lit (cs:=[(.p (.int .i64 0)),(.fz [(.p (.int .i64 2)),(.p (.int .i64 6))] 2 1 true),(.fz [(.p (.int .i64 1)),(.p (.int .i64 5))] 2 1 true)]) (RL.cons (show dTaiChoice.R ((⟨0,([2,6]),([1,5])⟩ : TaiChoice)) [.p (.int .i64 0),.fz [(.p (.int .i64 2)),(.p (.int .i64 6))] 2 1 true,.fz [(.p (.int .i64 1)),(.p (.int .i64 5))] 2 1 true] from (dTaiChoice.mk h1 h2)) RL.nil) rfl rfl true
 refine .op (bldS (pC (c:=[.p (.int .i64 0),.fz [(.p (.int .i64 2)),(.p (.int .i64 6))] 2 1 true,.fz [(.p (.int .i64 1)),(.p (.int .i64 5))] 2 1 true]) rfl pN) (by kernel_rfl : _ = some (vOf h3))) ?_
 refine .call (alloc_Pick_ok k ([((⟨0,([2,6]),([1,5])⟩ : TaiChoice))]) h3 8 (([] : List Int)) ((SlF.nil (dI .i64)).h (List.replicate 82 []::h))) fun r4 cs5 H6 h7 q8 => ?_
 obtain ⟨c9,cs10,h11,h12,q8⟩:=q8
 cases q8
 obtain ⟨v13,H14,e15,S16⟩:=S0.land (dt:=(dI .i64)) (d:=11) (e:=0) (n:=0) h11 h12 (by decide) rfl
 erw [e15]
 have h18:=SlF.int1 .i64 0
 refine .op (bldS (pC rfl pN) (by kernel_rfl : _ = some (vOf h18))) ?_
 refine .call (alloc_Pick_ok k ([((⟨0,([2,6]),([1,5])⟩ : TaiChoice))]) h3 6 ([0]) (h18.h H14)) fun r19 cs20 H21 h22 q23 => ?_
 obtain ⟨c24,cs25,h26,h27,q23⟩:=q23
 cases q23
 obtain ⟨v28,H29,e30,S31⟩:=S16.land (dt:=(dI .i64)) (d:=14) (e:=0) (n:=0) h26 h27 (by decide) rfl
 erw [e30]
 have h33:=SlF.int1 .i64 0
 refine .op (bldS (pC rfl pN) (by kernel_rfl : _ = some (vOf h33))) ?_
 refine .call (alloc_Pick_ok k ([((⟨0,([2,6]),([1,5])⟩ : TaiChoice))]) h3 16 ([0]) (h33.h H29)) fun r34 cs35 H36 h37 q38 => ?_
 obtain ⟨c39,cs40,h41,h42,q38⟩:=q38
 cases q38
 obtain ⟨v43,H44,e45,S46⟩:=S31.land (dt:=(dI .i64)) (d:=17) (e:=0) (n:=0) h41 h42 (by decide) rfl
 erw [e45]
 have h48:=SlF.int1 .i64 1
 refine .op (bldS (pC rfl pN) (by kernel_rfl : _ = some (vOf h48))) ?_
 refine .call (alloc_Pick_ok k ([((⟨0,([2,6]),([1,5])⟩ : TaiChoice))]) h3 5 ([1]) (h48.h H44)) fun r49 cs50 H51 h52 q53 => ?_
 obtain ⟨c54,cs55,h56,h57,q53⟩:=q53
 cases q53
 obtain ⟨v58,H59,e60,S61⟩:=S46.land (dt:=(dI .i64)) (d:=20) (e:=0) (n:=0) h56 h57 (by decide) rfl
 erw [e60]
 refine .call (alloc_Budget_ok 999) fun r63 cs64 H65 h66 q67 => ?_
 cases q67
 refine .ci ?_
 refine .ch (P:=fun r y => (.p (.bool r),H59) = y) ?_ (fun b73 y74 h75 h76 => ?_)
 ·refine .cq ?_ ?_
  ·refine .call (alloc_Budget_ok 4611686018427387904) fun r68 cs69 H70 h71 q72 => ?_
   cases q72
   refine .ci ?_
   exact .ret rfl rfl
  ·exact .ret rfl rfl
 subst h76
 refine .ab ?_
 refine .ch (P:=fun r y => (.p (.bool r),H59) = y) ?_ (fun b82 y83 h84 h85 => ?_)
 ·refine .cq ?_ ?_
  ·refine .call (alloc_Margin_ok 80) fun r77 cs78 H79 h80 q81 => ?_
   cases q81
   refine .ci ?_
   exact .ret rfl rfl
  ·exact .ret rfl rfl
 subst h85
 refine .ab ?_
 refine .ch (P:=fun r y => (.p (.bool r),H59) = y) ?_ (fun b92 y93 h94 h95 => ?_)
 ·refine .cq ?_ ?_
  ·have h86:=SlF.int1 .i64 1
   refine .op (bldS (pC rfl pN) (by kernel_rfl : _ = some (vOf h86))) ?_
   refine .call (zr18_Ints_ok k r4 (S61.sl (i:=3) rfl) ([1]) (h86.h H59)) fun r87 cs88 H89 h90 q91 => ?_
   cases q91
   refine .ab ?_
   exact .ret rfl rfl
  ·exact .ret rfl rfl
 subst h95
 refine .ab ?_
 refine .ch (P:=fun r y => (.p (.bool r),H59) = y) ?_ (fun b102 y103 h104 h105 => ?_)
 ·refine .cq ?_ ?_
  ·have h96:=SlF.int1 .i64 1
   refine .op (bldS (pC rfl pN) (by kernel_rfl : _ = some (vOf h96))) ?_
   refine .call (zr18_Ints_ok k r19 (S61.sl (i:=2) rfl) ([1]) (h96.h H59)) fun r97 cs98 H99 h100 q101 => ?_
   cases q101
   refine .ab ?_
   exact .ret rfl rfl
  ·exact .ret rfl rfl
 subst h105
 refine .ab ?_
 refine .ch (P:=fun r y => (.p (.bool r),H59) = y) ?_ (fun b112 y113 h114 h115 => ?_)
 ·refine .cq ?_ ?_
  ·have h106:=SlF.int1 .i64 1
   refine .op (bldS (pC rfl pN) (by kernel_rfl : _ = some (vOf h106))) ?_
   refine .call (zr18_Ints_ok k r34 (S61.sl (i:=1) rfl) ([1]) (h106.h H59)) fun r107 cs108 H109 h110 q111 => ?_
   cases q111
   refine .ab ?_
   exact .ret rfl rfl
  ·exact .ret rfl rfl
 subst h115
 refine .ab ?_
 refine .ch (P:=fun r y => (.p (.bool r),H59) = y) ?_ (fun b122 y123 h124 h125 => ?_)
 ·refine .cq ?_ ?_
  ·have h116:=SlF.int1 .i64 0
   refine .op (bldS (pC rfl pN) (by kernel_rfl : _ = some (vOf h116))) ?_
   refine .call (zr18_Ints_ok k r49 (S61.sl (i:=0) rfl) ([0]) (h116.h H59)) fun r117 cs118 H119 h120 q121 => ?_
   cases q121
   refine .ab ?_
   exact .ret rfl rfl
  ·exact .ret rfl rfl
 subst h125
 refine .ab ?_
 refine .cqk ?_ ?_
 ·refine .as ?_
  have h126:=SlF.int1 .i64 0
  refine .op (bldS (pC rfl pN) (by kernel_rfl : _ = some (vOf h126))) ?_
  refine .call (alloc_Pick_ok k ([((⟨0,([2,6]),([1,5])⟩ : TaiChoice))]) h3 8 ([0]) (h126.h H59)) fun r127 cs128 H129 h130 q131 => ?_
  obtain ⟨c132,cs133,h134,h135,q131⟩:=q131
  cases q131
  obtain ⟨v136,H137,e138,S139⟩:=S61.land (dt:=(dI .i64)) (d:=54) (e:=0) (n:=0) h134 h135 (by decide) rfl
  erw [e138]
  have h141:=SlF.int1 .i64 1
  refine .op (bldS (pC rfl pN) (by kernel_rfl : _ = some (vOf h141))) ?_
  refine .call (zr18_Ints_ok k r127 (S139.sl (i:=0) rfl) ([1]) (h141.h H137)) fun r142 cs143 H144 h145 q146 => ?_
  cases q146
  refine .ab ?_
  refine .pure ?_
  refine .ab ?_
  refine .ch (P:=fun r y => (.p (.bool r),H137) = y) ?_ (fun b158 y159 h160 h161 => ?_)
  ·refine .cq ?_ ?_
   ·refine .call (alloc_Choice_nilp_ok 5 1 0 true) fun r147 cs148 H149 h150 q151 => ?_
    obtain ⟨w152,h153,q151⟩:=q151
    cases q151
    obtain ⟨v154,v156,rfl,h155,h157⟩:=dTaiChoice.inv h153
    refine .or ?_
    refine .op ((h155.h H137).len) ?_
    refine .ci ?_
    exact .ret rfl rfl
   ·exact .ret rfl rfl
  subst h161
  refine .ab ?_
  refine .ch (P:=fun r y => (.p (.bool r),H137) = y) ?_ (fun b167 y168 h169 h170 => ?_)
  ·refine .cq ?_ ?_
   ·refine .call (alloc_Budget_ok (-5)) fun r162 cs163 H164 h165 q166 => ?_
    cases q166
    refine .ci ?_
    exact .ret rfl rfl
   ·exact .ret rfl rfl
  subst h170
  refine .ab ?_
  refine .ch (P:=fun r y => (.p (.bool r),H137) = y) ?_ (fun b176 y177 h178 h179 => ?_)
  ·refine .cq ?_ ?_
   ·refine .call (alloc_Margin_ok (-80)) fun r171 cs172 H173 h174 q175 => ?_
    cases q175
    refine .ci ?_
    exact .ret rfl rfl
   ·exact .ret rfl rfl
  subst h179
  refine .ab ?_
  refine .cqk ?_ ?_
  ·refine .as ?_
   have h180 : SlF (dI .i64) [2,15] (.fz [(.p (.int .i64 2)),(.p (.int .i64 15))] 2 1 true):=SlF.lit (cs:=[(.p (.int .i64 2)),(.p (.int .i64 15))]) (RL.cons (show (dI .i64).R 2 [(.p (.int .i64 2))] from rfl) (RL.cons (show (dI .i64).R 15 [(.p (.int .i64 15))] from rfl) RL.nil)) rfl rfl true
   refine .op (bldS (pC rfl (pC rfl pN)) (by kernel_rfl : _ = some (vOf h180))) ?_
   have h181 : SlF (dI .i64) [1,5] (.fz [(.p (.int .i64 1)),(.p (.int .i64 5))] 2 1 true):=SlF.lit (cs:=[(.p (.int .i64 1)),(.p (.int .i64 5))]) (RL.cons (show (dI .i64).R 1 [(.p (.int .i64 1))] from rfl) (RL.cons (show (dI .i64).R 5 [(.p (.int .i64 5))] from rfl) RL.nil)) rfl rfl true
   refine .op (bldS (pC rfl (pC rfl pN)) (by kernel_rfl : _ = some (vOf h181))) ?_
   refine .op (bldV (pC h180.still.cells (pC h181.still.cells pN)) (by kernel_rfl : _ = some (.agg [.p (.int .i64 0),.fz [(.p (.int .i64 2)),(.p (.int .i64 15))] 2 1 true,.fz [(.p (.int .i64 1)),(.p (.int .i64 5))] 2 1 true]))) ?_
   have h182 : SlF dTaiChoice [((⟨0,([2,15]),([1,5])⟩ : TaiChoice))] (.fz [(.p (.int .i64 0)),(.fz [(.p (.int .i64 2)),(.p (.int .i64 15))] 2 1 true),(.fz [(.p (.int .i64 1)),(.p (.int .i64 5))] 2 1 true)] 1 3 true):=SlF.lit (cs:=[(.p (.int .i64 0)),(.fz [(.p (.int .i64 2)),(.p (.int .i64 15))] 2 1 true),(.fz [(.p (.int .i64 1)),(.p (.int .i64 5))] 2 1 true)]) (RL.cons (show dTaiChoice.R ((⟨0,([2,15]),([1,5])⟩ : TaiChoice)) [.p (.int .i64 0),.fz [(.p (.int .i64 2)),(.p (.int .i64 15))] 2 1 true,.fz [(.p (.int .i64 1)),(.p (.int .i64 5))] 2 1 true] from (dTaiChoice.mk h180 h181)) RL.nil) rfl rfl true
   refine .op (bldS (pC (c:=[.p (.int .i64 0),.fz [(.p (.int .i64 2)),(.p (.int .i64 15))] 2 1 true,.fz [(.p (.int .i64 1)),(.p (.int .i64 5))] 2 1 true]) rfl pN) (by kernel_rfl : _ = some (vOf h182))) ?_
   have h183:=SlF.int1 .i64 0
   refine .op (bldS (pC rfl pN) (by kernel_rfl : _ = some (vOf h183))) ?_
   refine .call (alloc_Pick_ok k ([((⟨0,([2,15]),([1,5])⟩ : TaiChoice))]) h182 16 ([0]) (h183.h H137)) fun r184 cs185 H186 h187 q188 => ?_
   obtain ⟨c189,cs190,h191,h192,q188⟩:=q188
   cases q188
   obtain ⟨v193,H194,e195,S196⟩:=S139.land (dt:=(dI .i64)) (d:=78) (e:=0) (n:=0) h191 h192 (by decide) rfl
   erw [e195]
   have h198:=SlF.int1 .i64 0
   refine .op (bldS (pC rfl pN) (by kernel_rfl : _ = some (vOf h198))) ?_
   refine .call (zr18_Ints_ok k r184 (S196.sl (i:=0) rfl) ([0]) (h198.h H194)) fun r199 cs200 H201 h202 q203 => ?_
   cases q203
   refine .ab ?_
   refine .pure ?_
   refine .ab ?_
   exact .fin (S196.finN (lC (sB _).lv lN)) rfl
  ·refine .as ?_
   refine .pure ?_
   refine .ab ?_
   exact .fin (S139.finN (lC (sB _).lv lN)) rfl
 ·refine .as ?_
  refine .pure ?_
  refine .ab ?_
  refine .ch (P:=fun r y => (.p (.bool r),H59) = y) ?_ (fun b215 y216 h217 h218 => ?_)
  ·refine .cq ?_ ?_
   ·refine .call (alloc_Choice_nilp_ok 5 1 0 true) fun r204 cs205 H206 h207 q208 => ?_
    obtain ⟨w209,h210,q208⟩:=q208
    cases q208
    obtain ⟨v211,v213,rfl,h212,h214⟩:=dTaiChoice.inv h210
    refine .or ?_
    refine .op ((h212.h H59).len) ?_
    refine .ci ?_
    exact .ret rfl rfl
   ·exact .ret rfl rfl
  subst h218
  refine .ab ?_
  refine .ch (P:=fun r y => (.p (.bool r),H59) = y) ?_ (fun b224 y225 h226 h227 => ?_)
  ·refine .cq ?_ ?_
   ·refine .call (alloc_Budget_ok (-5)) fun r219 cs220 H221 h222 q223 => ?_
    cases q223
    refine .ci ?_
    exact .ret rfl rfl
   ·exact .ret rfl rfl
  subst h227
  refine .ab ?_
  refine .ch (P:=fun r y => (.p (.bool r),H59) = y) ?_ (fun b233 y234 h235 h236 => ?_)
  ·refine .cq ?_ ?_
   ·refine .call (alloc_Margin_ok (-80)) fun r228 cs229 H230 h231 q232 => ?_
    cases q232
    refine .ci ?_
    exact .ret rfl rfl
   ·exact .ret rfl rfl
  subst h236
  refine .ab ?_
  refine .cqk ?_ ?_
  ·refine .as ?_
   have h237 : SlF (dI .i64) [2,15] (.fz [(.p (.int .i64 2)),(.p (.int .i64 15))] 2 1 true):=SlF.lit (cs:=[(.p (.int .i64 2)),(.p (.int .i64 15))]) (RL.cons (show (dI .i64).R 2 [(.p (.int .i64 2))] from rfl) (RL.cons (show (dI .i64).R 15 [(.p (.int .i64 15))] from rfl) RL.nil)) rfl rfl true
   refine .op (bldS (pC rfl (pC rfl pN)) (by kernel_rfl : _ = some (vOf h237))) ?_
   have h238 : SlF (dI .i64) [1,5] (.fz [(.p (.int .i64 1)),(.p (.int .i64 5))] 2 1 true):=SlF.lit (cs:=[(.p (.int .i64 1)),(.p (.int .i64 5))]) (RL.cons (show (dI .i64).R 1 [(.p (.int .i64 1))] from rfl) (RL.cons (show (dI .i64).R 5 [(.p (.int .i64 5))] from rfl) RL.nil)) rfl rfl true
   refine .op (bldS (pC rfl (pC rfl pN)) (by kernel_rfl : _ = some (vOf h238))) ?_
   refine .op (bldV (pC h237.still.cells (pC h238.still.cells pN)) (by kernel_rfl : _ = some (.agg [.p (.int .i64 0),.fz [(.p (.int .i64 2)),(.p (.int .i64 15))] 2 1 true,.fz [(.p (.int .i64 1)),(.p (.int .i64 5))] 2 1 true]))) ?_
   have h239 : SlF dTaiChoice [((⟨0,([2,15]),([1,5])⟩ : TaiChoice))] (.fz [(.p (.int .i64 0)),(.fz [(.p (.int .i64 2)),(.p (.int .i64 15))] 2 1 true),(.fz [(.p (.int .i64 1)),(.p (.int .i64 5))] 2 1 true)] 1 3 true):=SlF.lit (cs:=[(.p (.int .i64 0)),(.fz [(.p (.int .i64 2)),(.p (.int .i64 15))] 2 1 true),(.fz [(.p (.int .i64 1)),(.p (.int .i64 5))] 2 1 true)]) (RL.cons (show dTaiChoice.R ((⟨0,([2,15]),([1,5])⟩ : TaiChoice)) [.p (.int .i64 0),.fz [(.p (.int .i64 2)),(.p (.int .i64 15))] 2 1 true,.fz [(.p (.int .i64 1)),(.p (.int .i64 5))] 2 1 true] from (dTaiChoice.mk h237 h238)) RL.nil) rfl rfl true
   refine .op (bldS (pC (c:=[.p (.int .i64 0),.fz [(.p (.int .i64 2)),(.p (.int .i64 15))] 2 1 true,.fz [(.p (.int .i64 1)),(.p (.int .i64 5))] 2 1 true]) rfl pN) (by kernel_rfl : _ = some (vOf h239))) ?_
   have h240:=SlF.int1 .i64 0
   refine .op (bldS (pC rfl pN) (by kernel_rfl : _ = some (vOf h240))) ?_
   refine .call (alloc_Pick_ok k ([((⟨0,([2,15]),([1,5])⟩ : TaiChoice))]) h239 16 ([0]) (h240.h H59)) fun r241 cs242 H243 h244 q245 => ?_
   obtain ⟨c246,cs247,h248,h249,q245⟩:=q245
   cases q245
   obtain ⟨v250,H251,e252,S253⟩:=S61.land (dt:=(dI .i64)) (d:=78) (e:=0) (n:=0) h248 h249 (by decide) rfl
   erw [e252]
   have h255:=SlF.int1 .i64 0
   refine .op (bldS (pC rfl pN) (by kernel_rfl : _ = some (vOf h255))) ?_
   refine .call (zr18_Ints_ok k r241 (S253.sl (i:=0) rfl) ([0]) (h255.h H251)) fun r256 cs257 H258 h259 q260 => ?_
   cases q260
   refine .ab ?_
   refine .pure ?_
   refine .ab ?_
   exact .fin (S253.finN (lC (sB _).lv lN)) rfl
  ·refine .as ?_
   refine .pure ?_
   refine .ab ?_
   exact .fin (S61.finN (lC (sB _).lv lN)) rfl
end
end Go.Ev
namespace Go.Ev
open Go.Proofs
set_option linter.unusedVariables false
set_option linter.unusedSimpArgs false
set_option maxRecDepth 100000
noncomputable section
abbrev KT20:=Exit→Env→H→Option (List C × H)
variable (rec : CallF) (loop : LoopV) (σ : Stamp)
def zl19_row_c0 : Code:=(codeAt (bodyOf Try.f32) [1,1,1,0,1,0,0])
def zl19_row_l0 : Lv:=⟨64,16,[(0,64)]⟩
def zl19_row_k0 : KT20:=(kBlock 0 (kSeq G rec loop (codeAt (bodyOf Try.f32) [1,1,1,1]) ⟨16,16,[]⟩ (1::1::1::0::σ) (finC G true Try.f32 (1::σ))))
def zl19_row_c1 : Code:=(codeAt (bodyOf Try.f32) [1,1,1,0,1,0,0,1,0,0,1,0,1,0,0])
def zl19_row_l1 : Lv:=⟨482,16,[(2,482),(1,226),(0,64)]⟩
def zl19_row_k1 : Exit→Env→H→Option (Exit × Env × H):=(kBlock 2 (kSeq G rec loop (codeAt (bodyOf Try.f32) [1,1,1,0,1,0,0,1,0,0,1,1]) ⟨226,16,[(1,226),(0,64)]⟩ (1::0::1::0::σ) (kBlock 1 (kSeq G rec loop (codeAt (bodyOf Try.f32) [1,1,1,0,1,0,0,1,1]) ⟨226,16,[(0,64)]⟩ (1::0::σ) (kRound loop (codeAt (bodyOf Try.f32) [1,1,1,0,1,0,0]) ⟨64,16,[(0,64)]⟩ σ)))))
theorem zl19_row_entry (x0 : V) (x1 : Int) (h : H) : cvBody G rec loop 32 σ [x0,(.p (.int .i64 x1))] h =
(buildV Try.prog 76 [(0,x0)]).bind fun t1 =>
(boxO true (2::0::1::0::σ) 12 (List.replicate 47 []::h) t1).bind fun q2 =>
(loop zl19_row_c0 zl19_row_l0 (1::0::1::1::1::0::σ) (envL [(1,(.p (.int .i64 x1))),(5,q2.1),(6,(.p (.slice .none 0 0))),(7,(.p (.int .i64 0)))]) q2.2).bind fun r3 => zl19_row_k0 rec loop σ r3.1 r3.2.1 r3.2.2:=by kernel_rfl
theorem zl19_row_r0 (x1 : Int) (x5 : V) (x6 : V) (x7 : Int) (h : H) : cvRound G rec loop zl19_row_c0 zl19_row_l0 σ (envL [(1,(.p (.int .i64 x1))),(5,x5),(6,x6),(7,(.p (.int .i64 x7)))]) h =
bif decide (x7 < x1) then (
(callO rec 56 (1::0::0::1::0::σ) [x5,(.p (.int .i64 4))] h (some 19)).bind fun q4 =>
(castI .i64 q4.1).bind fun n5 =>
(buildV Try.prog 92 [(0,(.p (.int .i64 n5)))]).bind fun t6 =>
(some (alO [.p (.int .i64 0),.p (.slice none 0 0),.p (.slice none 0 0)] (3::0::0::1::0::σ) 8 q4.2)).bind fun q7 =>
((stO false 3 (4::0::0::1::0::σ) q7.2 q7.1 t6).map fun h => (udf,h)).bind fun q8 =>
(callO rec 56 (1::0::0::1::0::1::0::σ) [x5,(.p (.int .i64 4))] q8.2 (some 22)).bind fun q9 =>
(castI .i64 q9.1).bind fun n10 =>
(loop zl19_row_c1 zl19_row_l1 (1::0::1::0::1::0::σ) (envL [(1,(.p (.int .i64 x1))),(5,x5),(6,x6),(7,(.p (.int .i64 x7))),(8,q7.1),(9,(.p (.int .i64 n10)))]) q9.2).bind fun r11 => zl19_row_k1 rec loop σ r11.1 r11.2.1 r11.2.2)
else (
some ((.exit 0),(envL [(6,x6)]),h)):=by kernel_rfl
theorem zl19_row_a0_0 (x6 : V) (h : H) : zl19_row_k0 rec loop σ (.exit 0) (envL [(6,x6)]) h =
fin true σ h [x6]:=by kernel_rfl
theorem zl19_row_r1 (x1 : Int) (x5 : V) (x6 : V) (x7 : Int) (x8 : V) (x9 : Int) (h : H) : cvRound G rec loop zl19_row_c1 zl19_row_l1 σ (envL [(1,(.p (.int .i64 x1))),(5,x5),(6,x6),(7,(.p (.int .i64 x7))),(8,x8),(9,(.p (.int .i64 x9)))]) h =
bif decide (x9 > 0) then (
(fA x8 1).bind fun t12 =>
(ldO false 1 h t12).bind fun t13 =>
(fA x8 2).bind fun t14 =>
(ldO false 1 h t14).bind fun t15 =>
(callO rec 56 (3::0::1::0::σ) [x5,(.p (.int .i64 12))] h (some 30)).bind fun q16 =>
(castI .i64 q16.1).bind fun n17 =>
need (ldO false 1 q16.2 t14 = some t15) (
need (ldO false 1 q16.2 t12 = some t13) (
(bSV Try.prog 43 1 [(0,(.p (.int .i64 (IntKind.wrap .i64 (n17 - 1)))))]).bind fun t18 =>
(apO true 1 8 (6::0::1::0::σ) 33 q16.2 t13 t18).bind fun q19 =>
need (ldO false 1 q19.2 t14 = some t15) (
(fA x8 1).bind fun t20 =>
(callO rec 56 (10::0::1::0::σ) [x5,(.p (.int .i64 9))] q19.2 (some 37)).bind fun q21 =>
(castI .i64 q21.1).bind fun n22 =>
need (ldO false 1 q21.2 t14 = some t15) (
(bSV Try.prog 43 1 [(0,(.p (.int .i64 n22)))]).bind fun t23 =>
(apO true 1 8 (12::0::1::0::σ) 39 q21.2 t15 t23).bind fun q24 =>
((stO true 1 (14::0::1::0::σ) q24.2 t20 q19.1).map fun h => (udf,h)).bind fun q25 =>
(fA x8 2).bind fun t26 =>
((stO true 1 (16::0::1::0::σ) q25.2 t26 q24.1).map fun h => (udf,h)).bind fun q27 =>
loop zl19_row_c1 zl19_row_l1 (1::σ) (envL [(1,(.p (.int .i64 x1))),(5,x5),(6,x6),(7,(.p (.int .i64 x7))),(8,x8),(9,(.p (.int .i64 (IntKind.wrap .i64 (x9 - 1)))))]) q27.2)))))
else (
some ((.exit 2),(envL [(1,(.p (.int .i64 x1))),(5,x5),(6,x6),(7,(.p (.int .i64 x7))),(8,x8)]),h)):=by kernel_rfl
theorem zl19_row_a1_2 (x1 : Int) (x5 : V) (x6 : V) (x7 : Int) (x8 : V) (h : H) : zl19_row_k1 rec loop σ (.exit 2) (envL [(1,(.p (.int .i64 x1))),(5,x5),(6,x6),(7,(.p (.int .i64 x7))),(8,x8)]) h =
(ldO true 3 h x8).bind fun t28 =>
(bSV Try.prog 66 1 [(0,t28)]).bind fun t29 =>
(apO false 3 56 (3::1::1::0::1::0::σ) 45 h x6 t29).bind fun q30 =>
loop zl19_row_c0 zl19_row_l0 (1::σ) (envL [(1,(.p (.int .i64 x1))),(5,x5),(6,q30.1),(7,(.p (.int .i64 (IntKind.wrap .i64 (x7 + 1)))))]) q30.2:=by kernel_rfl
end
end Go.Ev
namespace Go.Ev
open Go.Proofs
set_option linter.unusedVariables false
set_option linter.unusedSimpArgs false
set_option maxRecDepth 100000
section
variable {β α : Type} {Q : β→α→Prop} {K : Exit × Env × H→Option α}
def p_zl19_row_l1 {β : Type} (k : Nat) (kE0 : Int→(List TaiChoice)→Int→TzTape→TaiChoice→Option β) (x1 : Int) (x6 : (List TaiChoice)) (x7 : Int) (x9 : Int) (yg14 : TzTape) (yg29 : TaiChoice) : Option β:=match k with
| 0 => none
| k + 1 =>
bif decide (x9 > 0) then (
(p_zk_Tape_Next yg14 12).bind fun r60 =>
(ap 8 yg29.Costs ([(IntKind.wrap .i64 (r60.1 - 1))])).bind fun a69 =>
(p_zk_Tape_Next r60.2 9).bind fun r77 =>
(ap 8 yg29.Goods ([r77.1])).bind fun a86 =>
p_zl19_row_l1 k kE0 x1 x6 x7 (IntKind.wrap .i64 (x9 - 1)) r77.2 ((⟨yg29.Class,a69,a86⟩ : TaiChoice)))
else (
kE0 x1 x6 x7 yg14 yg29)
def p_zl19_row_l0 {β : Type} (k : Nat) (kE0 : (List TaiChoice)→Option β) (x1 : Int) (x6 : (List TaiChoice)) (x7 : Int) (yg4 : TzTape) : Option β:=match k with
| 0 => none
| k + 1 =>
bif decide (x7 < x1) then (
(p_zk_Tape_Next yg4 4).bind fun r18 =>
(p_zk_Tape_Next r18.2 4).bind fun r33 =>
p_zl19_row_l1 k (fun r124_1 r124_6 r124_7 yg48 yg56 =>
(ap 56 r124_6 [yg56]).bind fun a156 =>
p_zl19_row_l0 k kE0 r124_1 a156 (IntKind.wrap .i64 (r124_7 + 1)) yg48) x1 x6 x7 r33.1 r33.2 ((⟨r18.1,(([] : List Int)),(([] : List Int))⟩ : TaiChoice)))
else (
kE0 x6)
def p_zl19_row (k : Nat) (x0 : (List Int)) (x1 : Int) : Option ((List TaiChoice)) :=
p_zl19_row_l0 k (fun r168_6 =>
some (r168_6)) x1 (([] : List TaiChoice)) 0 ((⟨x0,0⟩ : TzTape))
theorem zl19_row_l1_ok {h : H}  {kE0 : Int→(List TaiChoice)→Int→TzTape→TaiChoice→Option β} (hE0 : ∀ (q1 : Int) (q6 : (List TaiChoice)) (q7 : Int) (yg48 : TzTape) (yg56 : TaiChoice) (v108 : V) (w110 : List V) (h111 : dTzTape.R yg48 w110) (s112 : Stamp) (c114 : C) (h115 : SoC (dI .i64) yg56.Costs c114) (h116 : Nn c114 1) (c117 : C) (h118 : SoC (dI .i64) yg56.Goods c117) (h119 : Nn c117 1) (s120 : Stamp) (H106 : Go.Ev.H) (_ : Fm 47 h [] [(12,s112,List.map C.v w110),(8,s120,[.v (.p (.int .i64 yg56.Class)),c114,c117])] [⟨[45],v108,dTaiChoice,q6⟩] H106),Sim (kE0 q1 q6 q7 yg48 yg56) (K ((.exit 2),(envL [(1,(.p (.int .i64 q1))),(5,(.ref ⟨h.length,12,0,s112,[]⟩ 0)),(6,v108),(7,(.p (.int .i64 q7))),(8,(.ref ⟨h.length,8,0,s120,[]⟩ 0))]),H106)) Q) (k : Nat) : ∀ (x1 : Int) (x6 : (List TaiChoice)) (x7 : Int) (x9 : Int) (yg14 : TzTape) (yg29 : TaiChoice) (v43 : V) (w45 : List V) (h46 : dTzTape.R yg14 w45) (s47 : Stamp) (c49 : C) (h50 : SoC (dI .i64) yg29.Costs c49) (h51 : Nn c49 1) (c52 : C) (h53 : SoC (dI .i64) yg29.Goods c52) (h54 : Nn c52 1) (s55 : Stamp) (H41 : Go.Ev.H) (_ : Fm 47 h [] [(12,s47,List.map C.v w45),(8,s55,[.v (.p (.int .i64 yg29.Class)),c49,c52])] [⟨[45],v43,dTaiChoice,x6⟩] H41) {σ : Stamp},Sim (p_zl19_row_l1 k kE0 x1 x6 x7 x9 yg14 yg29) ((cvL G X0 zl19_row_c1 zl19_row_l1 σ (envL [(1,(.p (.int .i64 x1))),(5,(.ref ⟨h.length,12,0,s47,[]⟩ 0)),(6,v43),(7,(.p (.int .i64 x7))),(8,(.ref ⟨h.length,8,0,s55,[]⟩ 0)),(9,(.p (.int .i64 x9)))]) H41).bind K) Q:=by
 induction k with
 | zero => intros; exact .no
 | succ k ih =>
  intro x1 x6 x7 x9 yg14 yg29 v43 w45 h46 s47 c49 h50 h51 c52 h53 h54 s55 H41 S42 σ
  rw [p_zl19_row_l1]
  refine .round (Sim.ext (zl19_row_r1 _ _ _ _ _ _ _ _ _ _) ?_)
  obtain ⟨v57,rfl,h58⟩:=dTzTape.inv h46
  refine .cq ?_ ?_
  ·refine .fa ?_
   refine .op (h50.ld (S42.atG (i:=1) rfl) (j:=1) rfl) ?_
   refine .fa ?_
   refine .op (h53.ld (S42.atG (i:=1) rfl) (j:=2) rfl) ?_
   refine .call (zk_Tape_Next_ok yg14 h58 (S42.atG (i:=0) rfl) 12) fun r60 cs61 H62 h63 q64 => ?_
   obtain ⟨v65,h66,q64⟩:=q64
   cases q64
   have S67:=S42.setG (i:=0) (cs':=List.map C.v [v65,(.p (.int .i64 r60.2.f_At))]) rfl rfl rfl
   refine .ci ?_
   refine .nd (h53.ld (S67.atG (i:=1) rfl) (j:=2) rfl) ?_
   refine .nd (h50.ld (S67.atG (i:=1) rfl) (j:=1) rfl) ?_
   have h68:=SlF.int1 .i64 (IntKind.wrap .i64 (r60.1 - 1))
   refine .op (bldS (pC rfl pN) (by kernel_rfl : _ = some (vOf h68))) ?_
   refine .bd fun a69 h70 => ?_
   obtain ⟨v71,c72,H73,e74,S75⟩:=S67.appG (i:=1) (j:=1) (d:=33) (e:=1) (own:=true) (σ:=(6::0::1::0::σ)) rfl rfl h50 h51 (h68.h (ptC H41 ⟨h.length,12,0,s47,[]⟩ 0 (List.map C.v [v65,(.p (.int .i64 r60.2.f_At))]))).y h70 (by simp) rfl (by decide) (by decide) rfl rfl
   refine .op (e74) ?_
   refine .nd (h53.ld (S75.atG (i:=1) rfl) (j:=2) rfl) ?_
   refine .fa ?_
   refine .call (zk_Tape_Next_ok r60.2 h66 (S75.atG (i:=0) rfl) 9) fun r77 cs78 H79 h80 q81 => ?_
   obtain ⟨v82,h83,q81⟩:=q81
   cases q81
   have S84:=S75.setG (i:=0) (cs':=List.map C.v [v82,(.p (.int .i64 r77.2.f_At))]) rfl rfl rfl
   refine .ci ?_
   refine .nd (h53.ld (S84.atG (i:=1) rfl) (j:=2) rfl) ?_
   have h85:=SlF.int1 .i64 r77.1
   refine .op (bldS (pC rfl pN) (by kernel_rfl : _ = some (vOf h85))) ?_
   refine .bd fun a86 h87 => ?_
   obtain ⟨v88,c89,H90,e91,S92⟩:=S84.appG (i:=1) (j:=2) (d:=39) (e:=1) (own:=true) (σ:=(12::0::1::0::σ)) rfl rfl h53 h54 (h85.h (ptC H73 ⟨h.length,12,0,s47,[]⟩ 0 (List.map C.v [v82,(.p (.int .i64 r77.2.f_At))]))).y h87 (by simp) rfl (by decide) (by decide) rfl rfl
   refine .op (e91) ?_
   obtain ⟨c97,H94,e95,h98,h99,S96⟩:=S92.mvG (i:=1) (j:=1) (k:=1) (σ:=(14::0::1::0::σ)) rfl rfl rfl rfl rfl rfl
   refine .op (sM e95) ?_
   refine .fa ?_
   obtain ⟨c103,H100,e101,h104,h105,S102⟩:=S96.mvG (i:=1) (j:=2) (k:=0) (σ:=(16::0::1::0::σ)) rfl rfl rfl rfl rfl rfl
   refine .op (sM e101) ?_
   exact ih x1 x6 x7 (IntKind.wrap .i64 (x9 - 1)) r77.2 ((⟨yg29.Class,a69,a86⟩ : TaiChoice)) v43 _ (dTzTape.mk h83) s47 c97 h98 h99 c103 h104 h105 s55 H100 (S102.wk2 (aC (aM 0 rfl) (aC (aM 1 rfl) aN)) (aC ⟨[45],by simp,aM 0 rfl⟩ aN))
  exact hE0 x1 x6 x7 yg14 yg29 v43 _ h46 s47 c49 h50 h51 c52 h53 h54 s55 H41 (S42.wk2 (aC (aM 0 rfl) (aC (aM 1 rfl) aN)) (aC ⟨[45],by simp,aM 0 rfl⟩ aN))
theorem zl19_row_l0_ok {h : H}  {kE0 : (List TaiChoice)→Option β} (hE0 : ∀ (q6 : (List TaiChoice)) (v164 : V) (H162 : Go.Ev.H) (_ : Fm 47 h [] [] [⟨[45],v164,dTaiChoice,q6⟩] H162),Sim (kE0 q6) (K ((.exit 0),(envL [(6,v164)]),H162)) Q) (k : Nat) : ∀ (x1 : Int) (x6 : (List TaiChoice)) (x7 : Int) (yg4 : TzTape) (v9 : V) (w11 : List V) (h12 : dTzTape.R yg4 w11) (s13 : Stamp) (H7 : Go.Ev.H) (_ : Fm 47 h [] [(12,s13,List.map C.v w11)] [⟨[45],v9,dTaiChoice,x6⟩] H7) {σ : Stamp},Sim (p_zl19_row_l0 k kE0 x1 x6 x7 yg4) ((cvL G X0 zl19_row_c0 zl19_row_l0 σ (envL [(1,(.p (.int .i64 x1))),(5,(.ref ⟨h.length,12,0,s13,[]⟩ 0)),(6,v9),(7,(.p (.int .i64 x7)))]) H7).bind K) Q:=by
 induction k with
 | zero => intros; exact .no
 | succ k ih =>
  intro x1 x6 x7 yg4 v9 w11 h12 s13 H7 S8 σ
  rw [p_zl19_row_l0]
  refine .round (Sim.ext (zl19_row_r0 _ _ _ _ _ _ _ _) ?_)
  obtain ⟨v15,rfl,h16⟩:=dTzTape.inv h12
  refine .cq ?_ ?_
  ·refine .call (zk_Tape_Next_ok yg4 h16 (S8.atG (i:=0) rfl) 4) fun r18 cs19 H20 h21 q22 => ?_
   obtain ⟨v23,h24,q22⟩:=q22
   cases q22
   have S25:=S8.setG (i:=0) (cs':=List.map C.v [v23,(.p (.int .i64 r18.2.f_At))]) rfl rfl rfl
   refine .ci ?_
   refine .op (bldV (pC rfl pN) (by kernel_rfl : _ = some (.agg [.p (.int .i64 r18.1),.p (.slice none 0 0),.p (.slice none 0 0)]))) ?_
   obtain ⟨H26,e27,S28⟩:=S25.al (d:=8) (s:=(3::0::0::1::0::σ)) (z:=[(.p (.int .i64 0)),(.p (.slice none 0 0)),(.p (.slice none 0 0))]) (by decide) rfl
   refine .op (congrArg some e27) ?_
   obtain ⟨H30,e31,S32⟩:=S28.stGv (i:=0) (j:=0) (own:=false) (σ:=(4::0::0::1::0::σ)) (xs:=[.p (.int .i64 r18.1),.p (.slice none 0 0),.p (.slice none 0 0)]) rfl rfl (sC (sI _ _) (sC (SlF.nil (dI .i64)).still (sC (SlF.nil (dI .i64)).still sN))) rfl rfl
   refine .op (sM e31) ?_
   refine .call (zk_Tape_Next_ok r18.2 h24 (S32.atG (i:=1) rfl) 4) fun r33 cs34 H35 h36 q37 => ?_
   obtain ⟨v38,h39,q37⟩:=q37
   cases q37
   have S40:=S32.setG (i:=1) (cs':=List.map C.v [v38,(.p (.int .i64 r33.2.f_At))]) rfl rfl rfl
   refine .ci ?_
   refine .as (zl19_row_l1_ok ?_ k x1 x6 x7 r33.1 r33.2 ((⟨r18.1,(([] : List Int)),(([] : List Int))⟩ : TaiChoice)) v9 _ (dTzTape.mk h39) s13 (.v (.p (.slice none 0 0))) (SoC.frz (SlF.nil (dI .i64))) (fun v h => by cases h; simp) (.v (.p (.slice none 0 0))) (SoC.frz (SlF.nil (dI .i64))) (fun v h => by cases h; simp) (3::0::0::1::0::σ) (ptC H30 ⟨h.length,12,0,s13,[]⟩ 0 (List.map C.v [v38,(.p (.int .i64 r33.2.f_At))])) (S40.wk2 (aC (aM 1 rfl) (aC (aM 0 rfl) aN)) (aC ⟨[45],by simp,aM 0 rfl⟩ aN)))
   ·intro r124_1 r124_6 r124_7 yg48 yg56 v127 w129 h130 s131 c133 h134 h135 c136 h137 h138 s139 H125 S126
    refine .ext (zl19_row_a1_2 _ _ _ _ _ _ _ _ _) ?_
    obtain ⟨v141,rfl,h142⟩:=dTzTape.inv h130
    obtain ⟨v143,h144,h145⟩:=h134.fr
    obtain ⟨v146,h147,h148⟩:=h137.fr
    obtain ⟨w149,H150,h155,e151,e152,e153,S154⟩:=S126.frzV (i:=1) (n:=3) (ys:=[(.p (.int .i64 yg56.Class)),v143,v146]) rfl rfl ⟨(FrC.v (sI _ _)),⟨h144,⟨h147,trivial⟩⟩⟩ rfl (by decide)
    refine .op (e151) ?_
    refine .op (bldS1 (e:=3) (te:=92) (z:=[.p (.int .i64 0),.p (.slice none 0 0),.p (.slice none 0 0)]) (by kernel_rfl) (by kernel_rfl) ⟨⟨rfl,by kernel_rfl,by decide,by decide⟩,trivial⟩ (h155.trans rfl)) ?_
    refine .bd fun a156 h157 => ?_
    obtain ⟨v158,H159,e160,S161⟩:=S154.appFrz (i:=0) (d:=45) (e:=3) (σ:=(3::1::1::0::1::0::σ)) (t:=true) e153 rfl (show dTaiChoice.R yg56 [.p (.int .i64 yg56.Class),v143,v146] from (dTaiChoice.mk h145 h148)) h155 h157 rfl (by decide) (by decide) rfl
    refine .op (e160) ?_
    exact ih r124_1 a156 (IntKind.wrap .i64 (r124_7 + 1)) yg48 v158 _ h130 s131 H159 (S161.wk2 (aC (aM 0 rfl) aN) (aC ⟨[45,45],by simp,aM 0 rfl⟩ aN))
  exact hE0 x6 v9 H7 (S8.wk2 aN (aC ⟨[45],by simp,aM 0 rfl⟩ aN))
theorem zl19_row_ok (k : Nat) {h : H} {σ : Stamp} (x0 : List Int) {u0 : V} (hu0 : SlF (dI .i64) x0 u0) (x1 : Int) : Sim (p_zl19_row k x0 x1) (ev G X0 32 σ [u0,(.p (.int .i64 x1))] h) (fun r s => ∃ (v0 : V),SlF dTaiChoice r v0∧s = ([.v v0],h)):=by
 refine .ev rfl (Sim.ext (zl19_row_entry _ _ _ _ _ _) ?_)
 rw [p_zl19_row]
 have S0 : Fm 47 h [] [] [] (List.replicate 47 []::h):=Fm.start0
 refine .op (bldV (pC hu0.still.cells pN) (by kernel_rfl : _ = some (.agg [u0,.p (.int .i64 0)]))) ?_
 obtain ⟨H1,e2,S3⟩:=S0.box (own:=true) (d:=12) (s:=(2::0::1::0::σ)) (xs:=[u0,.p (.int .i64 0)]) (sC hu0.still (sC (sI _ _) sN)) (by decide) rfl
 refine .op (e2) ?_
 have S167:=S3.nil dTaiChoice []
 refine .as (zl19_row_l0_ok ?_ k x1 (([] : List TaiChoice)) 0 ((⟨x0,0⟩ : TzTape)) (.p (.slice none 0 0)) _ (dTzTape.mk hu0) (2::0::1::0::σ) H1 (S167.wk2 (aC (aM 0 rfl) aN) (aC ⟨[],by simp,aM 0 rfl⟩ aN)))
 ·intro r168_6 v171 H169 S170
  refine .ext (zl19_row_a0_0 _ _ _ _ _) ?_
  obtain ⟨v178,H173,e174,h176,S175⟩:=S170.expFrz (i:=0) (τ:=0::1::σ) rfl rfl
  exact .fin (S175.finE (Ex.st e174 Ex.nil)) ⟨v178,h176,rfl⟩
def p_zl19_AllocStays (k : Nat) (x0 : (List Int)) (x1 : Int) (x2 : Int) (x3 : (List Int)) : Option (Bool) :=
(p_zl19_row k x0 (IntKind.wrap .i64 (1 + (intBits .and .i64 x1 3)))).bind fun r1 =>
(p_alloc_Pick k r1 (intBits .and .i64 x2 31) x3).bind fun r8 =>
(p_zr18_Best k r1 (intBits .and .i64 x2 31)).bind fun r22 =>
(p_zr18_Fits k r1 r8 (intBits .and .i64 x2 31)).bind fun r36 =>
(bif !r36 then (some true) else ((p_zr18_Ints k r8 r22).bind fun r41 =>
(bif !r41 then ((p_zr18_Ints k r8 x3).bind fun r46 =>
(bif !r46 then (some true) else ((p_zr18_Cost k r1 r22).bind fun r51 =>
some (decide (r51 ≤ (IntKind.wrap .i64 ((intBits .and .i64 x2 31) - (IntKind.wrap .i64 (Int.tdiv (intBits .and .i64 x2 31) 8)))))))).bind fun b56 =>
some b56) else (some false)).bind fun b60 =>
some b60)).bind fun b64 =>
bif b64 then (
some (false))
else (
(p_alloc_Pick k r1 (intBits .and .i64 x2 31) r8).bind fun r69 =>
(p_zr18_Ints k r69 r8).bind fun r83 =>
bif r83 then ((p_alloc_Pick k r1 (intBits .and .i64 x2 31) (([] : List Int))).bind fun r88 =>
(p_zr18_Ints k r88 r22).bind fun r102 =>
(bif r102 then ((p_zl19_known k).bind fun r107 =>
some r107) else (some false)).bind fun b112 =>
some (b112)) else ((bif false then ((p_zl19_known k).bind fun r116 =>
some r116) else (some false)).bind fun b121 =>
some (b121)))
theorem zl19_AllocStays_ok (k : Nat) {h : H} {σ : Stamp} (x0 : List Int) {u0 : V} (hu0 : SlF (dI .i64) x0 u0) (x1 : Int) (x2 : Int) (x3 : List Int) {u3 : V} (hu3 : SlH h (dI .i64) x3 u3) : Sim (p_zl19_AllocStays k x0 x1 x2 x3) (ev G X0 11 σ [u0,(.p (.int .i64 x1)),(.p (.int .i64 x2)),u3] h) (fun r s => s = ([.v (.p (.bool r))],h)):=by
 refine .ev rfl (Sim.ext (zl19_AllocStays_entry _ _ _ _ _ _ _ _) ?_)
 rw [p_zl19_AllocStays]
 have S0 : Fm 70 h [] [] [] (List.replicate 70 []::h):=Fm.start0
 refine .call (zl19_row_ok k x0 hu0 (IntKind.wrap .i64 (1 + (intBits .and .i64 x1 3)))) fun r1 cs2 H3 h4 q5 => ?_
 obtain ⟨v6,h7,q5⟩:=q5
 cases q5
 refine .call (alloc_Pick_ok k r1 h7 (intBits .and .i64 x2 31) x3 (S0.low hu3)) fun r8 cs9 H10 h11 q12 => ?_
 obtain ⟨c13,cs14,h15,h16,q12⟩:=q12
 cases q12
 obtain ⟨v17,H18,e19,S20⟩:=S0.land (dt:=(dI .i64)) (d:=23) (e:=0) (n:=0) h15 h16 (by decide) rfl
 erw [e19]
 refine .call (zr18_Best_ok k r1 (h7.h H18) (intBits .and .i64 x2 31)) fun r22 cs23 H24 h25 q26 => ?_
 obtain ⟨c27,cs28,h29,h30,q26⟩:=q26
 cases q26
 obtain ⟨v31,H32,e33,S34⟩:=S20.land (dt:=(dI .i64)) (d:=26) (e:=0) (n:=0) h29 h30 (by decide) rfl
 erw [e33]
 refine .call (zr18_Fits_ok k r1 (h7.h H32) r8 (S34.sl (i:=1) rfl) (intBits .and .i64 x2 31)) fun r36 cs37 H38 h39 q40 => ?_
 cases q40
 refine .ab ?_
 refine .ch (P:=fun r y => (.p (.bool r),H32) = y) ?_ (fun b64 y65 h66 h67 => ?_)
 ·refine .cq ?_ ?_
  ·exact .ret rfl rfl
  ·refine .call (zr18_Ints_ok k r8 (S34.sl (i:=1) rfl) r22 (S34.sl (i:=0) rfl)) fun r41 cs42 H43 h44 q45 => ?_
   cases q45
   refine .ab ?_
   refine .ch (P:=fun r y => (.p (.bool r),H32) = y) ?_ (fun b60 y61 h62 h63 => ?_)
   ·refine .cq ?_ ?_
    ·refine .call (zr18_Ints_ok k r8 (S34.sl (i:=1) rfl) x3 (S34.low hu3)) fun r46 cs47 H48 h49 q50 => ?_
     cases q50
     refine .ab ?_
     refine .ch (P:=fun r y => (.p (.bool r),H32) = y) ?_ (fun b56 y57 h58 h59 => ?_)
     ·refine .cq ?_ ?_
      ·exact .ret rfl rfl
      ·refine .call (zr18_Cost_ok k r1 (h7.h H32) r22 (S34.sl (i:=0) rfl)) fun r51 cs52 H53 h54 q55 => ?_
       cases q55
       refine .ci ?_
       exact .ret rfl rfl
     subst h59
     refine .ab ?_
     exact .ret rfl rfl
    ·exact .ret rfl rfl
   subst h63
   refine .ab ?_
   exact .ret rfl rfl
 subst h67
 refine .ab ?_
 refine .cq ?_ ?_
 ·exact .fin (S34.finN (lC (sB _).lv lN)) rfl
 refine .call (alloc_Pick_ok k r1 h7 (intBits .and .i64 x2 31) r8 (S34.sl (i:=1) rfl)) fun r69 cs70 H71 h72 q73 => ?_
 obtain ⟨c74,cs75,h76,h77,q73⟩:=q73
 cases q73
 obtain ⟨v78,H79,e80,S81⟩:=S34.land (dt:=(dI .i64)) (d:=57) (e:=0) (n:=0) h76 h77 (by decide) rfl
 erw [e80]
 refine .call (zr18_Ints_ok k r69 (S81.sl (i:=0) rfl) r8 (S81.sl (i:=2) rfl)) fun r83 cs84 H85 h86 q87 => ?_
 cases q87
 refine .ab ?_
 refine .cqk ?_ ?_
 ·refine .as ?_
  refine .call (alloc_Pick_ok k r1 h7 (intBits .and .i64 x2 31) (([] : List Int)) ((SlF.nil (dI .i64)).h H79)) fun r88 cs89 H90 h91 q92 => ?_
  obtain ⟨c93,cs94,h95,h96,q92⟩:=q92
  cases q92
  obtain ⟨v97,H98,e99,S100⟩:=S81.land (dt:=(dI .i64)) (d:=63) (e:=0) (n:=0) h95 h96 (by decide) rfl
  erw [e99]
  refine .call (zr18_Ints_ok k r88 (S100.sl (i:=0) rfl) r22 (S100.sl (i:=2) rfl)) fun r102 cs103 H104 h105 q106 => ?_
  cases q106
  refine .ab ?_
  refine .pure ?_
  refine .ab ?_
  refine .ch (P:=fun r y => (.p (.bool r),H98) = y) ?_ (fun b112 y113 h114 h115 => ?_)
  ·refine .cq ?_ ?_
   ·refine .call (zl19_known_ok k ) fun r107 cs108 H109 h110 q111 => ?_
    cases q111
    refine .ab ?_
    exact .ret rfl rfl
   ·exact .ret rfl rfl
  subst h115
  refine .ab ?_
  exact .fin (S100.finN (lC (sB _).lv lN)) rfl
 ·refine .as ?_
  refine .pure ?_
  refine .ab ?_
  refine .ch (P:=fun r y => (.p (.bool r),H79) = y) ?_ (fun b121 y122 h123 h124 => ?_)
  ·refine .cq ?_ ?_
   ·refine .call (zl19_known_ok k ) fun r116 cs117 H118 h119 q120 => ?_
    cases q120
    refine .ab ?_
    exact .ret rfl rfl
   ·exact .ret rfl rfl
  subst h124
  refine .ab ?_
  exact .fin (S81.finN (lC (sB _).lv lN)) rfl
end
end Go.Ev
namespace Go.Ev
namespace Knap
theorem row_l1 {β : Type} (kE : Int→List TaiChoice→Int→TzTape→TaiChoice→Option β) {x1 x7 : Int} {x5 : List TaiChoice} {cls : Int} (h0 : 0 ≤ cls) (h3 : cls ≤ 3) : ∀ m k : Nat,∀ t : TzTape,∀ cs gs : List Int,m < k→TP t→cs.length = gs.length→cs.length + m ≤ 3→(∀ x ∈ cs,x ≤ 14)→(∀ x ∈ gs,0 ≤ x∧x ≤ 1048576) →
  ∃ t' c',p_zl19_row_l1 k kE x1 x5 x7 (m : Int) t ⟨cls,cs,gs⟩ = kE x1 x5 x7 t' c'∧TP t'∧OkC c':=by
 intro m
 induction m with
 | zero =>
  intro k t cs gs hk ht hlen hl hc hg
  obtain ⟨k,rfl⟩ : ∃ j,k = j + 1:=⟨k - 1,by omega⟩
  rw [p_zl19_row_l1]
  exact ⟨t,⟨cls,cs,gs⟩,rfl,ht,okC_of h0 h3 hlen (by omega) hc hg⟩
 | succ m ih =>
  intro k t cs gs hk ht hlen hl hc hg
  obtain ⟨k,rfl⟩ : ∃ j,k = j + 1:=⟨k - 1,by omega⟩
  rw [p_zl19_row_l1]
  have e1 : decide (((m + 1 : Nat) : Int) > 0) = true:=decide_eq_true (by omega)
  obtain ⟨v,t1,n1,⟨v0,v1⟩,ht1⟩:=next_tape ht (n:=12) (by omega)
  obtain ⟨w,t2,n2,⟨w0,w1⟩,ht2⟩:=next_tape ht1 (n:=9) (by omega)
  have ew : IntKind.wrap .i64 (((m + 1 : Nat) : Int) - 1) = (m : Int):=by rw [wrap_i64 (by omega) (by omega)]; omega
  have ev : IntKind.wrap .i64 (v - 1) = v - 1:=wrap_i64 (by omega) (by omega)
  rw [e1,cond_true,n1,Option.bind_some,ap_eq (by omega) (by simp; omega),Option.bind_some,n2,Option.bind_some,ap_eq (by omega) (by simp; omega),Option.bind_some,ew,ev]
  exact ih k t2 (cs ++ [v - 1]) (gs ++ [w]) (by omega) ht2 (by simp [hlen]) (by simp; omega) (fun x hx => by
   rcases List.mem_append.1 hx with h | h
   ·exact hc x h
   ·rw [List.mem_singleton.1 h]; omega) (fun x hx => by
   rcases List.mem_append.1 hx with h | h
   ·exact hg x h
   ·rw [List.mem_singleton.1 h]; omega)
theorem row_l0 {β : Type} (kE : List TaiChoice→Option β) {n : Nat} (hn : n ≤ 8) : ∀ m k i : Nat,∀ t : TzTape,∀ l : List TaiChoice,m + i = n→10 + m < k→TP t→l.length = i→(∀ c ∈ l,OkC c) →
  ∃ l',p_zl19_row_l0 k kE (n : Int) l (i : Int) t = kE l'∧l'.length = n∧∀ c ∈ l',OkC c:=by
 intro m
 induction m with
 | zero =>
  intro k i t l hi hk _ hl hc
  obtain ⟨k,rfl⟩ : ∃ j,k = j + 1:=⟨k - 1,by omega⟩
  rw [p_zl19_row_l0,decide_eq_false (by omega)]
  exact ⟨l,rfl,by omega,hc⟩
 | succ m ih =>
  intro k i t l hi hk ht hl hc
  obtain ⟨k,rfl⟩ : ∃ j,k = j + 1:=⟨k - 1,by omega⟩
  rw [p_zl19_row_l0,decide_eq_true (by omega)]
  obtain ⟨v,t1,n1,⟨v0,v1⟩,ht1⟩:=next_tape ht (n:=4) (by omega)
  obtain ⟨w,t2,n2,⟨w0,w1⟩,ht2⟩:=next_tape ht1 (n:=4) (by omega)
  rw [cond_true,n1,Option.bind_some,n2,Option.bind_some]
  obtain ⟨q,rfl⟩ : ∃ q : Nat,w = (q : Int):=⟨w.toNat,by omega⟩
  simp only
  obtain ⟨t',c',r1,r2,r3⟩:=row_l1 (fun r124_1 r124_5 r124_7 yg48 yg56 => (ap 56 r124_5 [yg56]).bind fun a156 => p_zl19_row_l0 k kE r124_1 a156 (IntKind.wrap .i64 (r124_7 + 1)) yg48) (x1:=(n : Int)) (x7:=(i : Int)) (x5:=l) v0 (by omega) q k t2 [] [] (by omega) ht2 rfl (by simp; omega) (by simp) (by simp)
  rw [r1,ap_eq (by omega) (by simp; omega),Option.bind_some,wrap_nat (by omega)]
  exact ih k (i + 1) t' (l ++ [c']) (by omega) (by omega) r2 (by simp [hl]) (fun c h => by
   rcases List.mem_append.1 h with h | h
   ·exact hc c h
   ·rw [List.mem_singleton.1 h]; exact r3)
theorem row_ok {ns : List Int} (hns : ns.length < 2 ^ 50) {n k : Nat} (hn : n ≤ 8) (hk : 30 ≤ k) : ∃ l,p_zl19_row k ns (n : Int) = some l∧l.length = n∧∀ c ∈ l,OkC c:=by
 unfold p_zl19_row
 exact row_l0 (fun r => some r) hn n k 0 ⟨ns,0⟩ [] (by omega) (by omega) ⟨Int.le_refl _,by show (0 : Int) ≤ ns.length; omega,hns⟩ rfl (by simp)
theorem rbest_l0 {β : Type} (kE : List TaiChoice→Tz18search→Option β) {x : List TaiChoice} (hl : OkL x) (h8 : x.length ≤ 8) {B : Int} : ∀ m i k : Nat,i + m = x.length→10 + m < k →
  p_zr18_Best_l0 k kE x (i : Int) ⟨x.take i,B,[],[0,0,0,0],0⟩ = kE x ⟨x,B,[],[0,0,0,0],0⟩:=by
 intro m
 induction m with
 | zero =>
  intro i k hi hk
  obtain ⟨k,rfl⟩ : ∃ j,k = j + 1:=⟨k - 1,by omega⟩
  rw [p_zr18_Best_l0,decide_eq_false (by omega),cond_false,Option.bind_some,cond_false,List.take_of_length_le (by omega)]
  rfl
 | succ m ih =>
  intro i k hi hk
  obtain ⟨k,rfl⟩ : ∃ j,k = j + 1:=⟨k - 1,by omega⟩
  have ht : x.take i ++ [ch x i] = x.take (i + 1):=by
   unfold ch
   rw [List.take_add_one,List.getElem?_eq_getElem (by omega),List.getD_eq_getElem?_getD,List.getElem?_eq_getElem (by omega)]; rfl
  rw [p_zr18_Best_l0,decide_eq_true (by omega),cond_true,Option.bind_some,decide_eq_true (by omega),cond_true,ix_ch (by omega),Option.bind_some,few_ok (hl i) (by omega),Option.bind_some,ap_eq (by omega) (by simp; omega),Option.bind_some,ht,wrap_nat (by omega)]
  exact ih (i + 1) k (by omega) (by omega)
theorem rbest_first {l : List TaiChoice} (hl : OkL l) (h1 : 0 < l.length) (h8 : l.length ≤ 8) {b : Int} (b0 : 0 ≤ b) (b1 : b ≤ 4096) {k : Nat} (hk : 40 ≤ k) :
  ∃ x,p_zr18_Best k l b = some x∧x.length = l.length∧FA l x∧costL l x ≤ b∧∀ z : List Int,z.length = l.length→FA l z→costL l z ≤ b→Le l z x:=by
 unfold p_zr18_Best
 have e2 : ((l.length : Int) == 0) = false:=beq_eq_false_iff_ne.2 (by omega)
 have e3 : (if 0 > ((if 4096 < b then 4096 else b)) then 0 else ((if 4096 < b then 4096 else b))) = b:=by
  rw [if_neg (show ¬ 4096 < b by omega)]
  split <;> omega
 rw [e2,cond_false,e3]
 have hp : RPre l b [] [0,0,0,0] 0 ⟨l,b,[],[0,0,0,0],0⟩:=⟨⟨rfl,rfl,rfl,fun h => absurd rfl h⟩,by simp,fun q hq => by simp at hq,rfl,rfl,b0,fun h => absurd rfl h⟩
 obtain ⟨s',r1,p⟩:=rtry_ok hl h1 h8 (by omega) l.length k [] [0,0,0,0] 0 _ (by simp) (by omega) hp
 have hc:=p.cov _ (by simp) (fun q hq => by simp at hq) none_fits (by rw [none_costs]; exact b0)
 obtain ⟨c1,c2,c3,_,_⟩:=p.inv.best hc.1
 refine ⟨s'.best,?_,c1,c2,c3,fun z h1 h2 h3 => (p.cov z h1 (fun q hq => by simp at hq) h2 h3).2⟩
 refine (rbest_l0 _ hl h8 l.length 0 k (by omega) (by omega)).trans ?_
 simp only
 have r2 : p_zr18_search_try_o k ⟨l,b,[],[([0,0,0,0] : List Int).getD 0 0,([0,0,0,0] : List Int).getD 1 0,([0,0,0,0] : List Int).getD 2 0,([0,0,0,0] : List Int).getD 3 0],0⟩ [] [0,0,0,0] 0 = some s':=r1
 rw [r2,Option.bind_some,decide_eq_false (by omega),cond_false]
theorem cd_eq {l : List TaiChoice} (hl : OkL l) {y z : List Int} (hy : FA l y) (hz : FA l z) : ∀ n : Nat,n ≤ l.length→cd y n = cd z n→∀ q,q < n→y.getD q 0 = z.getD q 0
 | 0,_,_ => fun q hq => by omega
 | n + 1,hn,h => by
  have h1:=fit_range (hl n) (hy n (by omega))
  have h2:=fit_range (hl n) (hz n (by omega))
  simp only [cd] at h
  have e1 : cd y n = cd z n:=by omega
  intro q hq
  by_cases e : q = n
  ·rw [e]; omega
  ·exact cd_eq hl hy hz n (by omega) e1 q (by omega)
theorem list_eq {y z : List Int} (hl : y.length = z.length) (h : ∀ q,q < z.length→y.getD q 0 = z.getD q 0) : y = z:=by
 refine List.ext_getElem? fun q => ?_
 by_cases hq : q < z.length
 ·have:=h q hq
  rw [List.getD_eq_getElem?_getD,List.getD_eq_getElem?_getD,List.getElem?_eq_getElem (by omega),List.getElem?_eq_getElem hq] at this
  rw [List.getElem?_eq_getElem (by omega),List.getElem?_eq_getElem hq]
  exact congrArg some this
 ·rw [List.getElem?_eq_none (by omega),List.getElem?_eq_none (by omega)]
theorem one_best {l : List TaiChoice} (hl : OkL l) {x y : List Int} (xl : x.length = l.length) (yl : y.length = l.length) (xf : FA l x) (yf : FA l y) (h1 : Le l x y) (h2 : Le l y x) : x = y:=by
 have : cd x l.length = cd y l.length:=by
  rcases h1 with h1 | h1 <;> rcases h2 with h2 | h2 <;> omega
 exact list_eq (by omega) fun q hq => cd_eq hl xf yf l.length (by omega) this q (by omega)
theorem ints_loop {a b : List Int} (hl : a.length = b.length) : ∀ m i k : Nat,i + m = a.length→m < k→(∀ q,q < i→a.getD q 0 = b.getD q 0)→a.length < 1000 →
  p_zr18_Ints_l0 k (fun (_ : Unit) => some true) (fun r => some r) a b (a.length : Int) (i : Int) = some (decide (a = b)):=by
 intro m
 induction m with
 | zero =>
  intro i k hi hk hq _
  obtain ⟨k,rfl⟩ : ∃ j,k = j + 1:=⟨k - 1,by omega⟩
  rw [p_zr18_Ints_l0,decide_eq_false (by omega),cond_false,decide_eq_true (list_eq hl fun q h => hq q (by omega))]
 | succ m ih =>
  intro i k hi hk hq h1000
  obtain ⟨k,rfl⟩ : ∃ j,k = j + 1:=⟨k - 1,by omega⟩
  rw [p_zr18_Ints_l0,decide_eq_true (by omega),cond_true,ix_z (by omega),Option.bind_some,ix_z (by omega),Option.bind_some,wrap_nat (by omega)]
  by_cases h : a.getD i 0 = b.getD i 0
  ·rw [show (a.getD i 0 != b.getD i 0) = false by rw [h,bne_self_eq_false],cond_false]
   exact ih (i + 1) k (by omega) (by omega) (fun q hq2 => by
    by_cases e : q = i
    ·rw [e,h]
    ·exact hq q (by omega)) h1000
  ·rw [show (a.getD i 0 != b.getD i 0) = true from bne_iff_ne.2 h,cond_true,decide_eq_false (fun e => h (by rw [e]))]
theorem ints_ok {a b : List Int} {k : Nat} (hk : 20 ≤ k) (ha : a.length ≤ 8) : p_zr18_Ints k a b = some (decide (a = b)):=by
 unfold p_zr18_Ints
 by_cases hl : a.length = b.length
 ·rw [show ((a.length : Int) != (b.length : Int)) = false by rw [hl,bne_self_eq_false],cond_false]
  exact ints_loop hl a.length 0 k (by omega) (by omega) (fun q hq => by omega) (by omega)
 ·rw [show ((a.length : Int) != (b.length : Int)) = true from bne_iff_ne.2 (by omega),cond_true,decide_eq_false (fun e => hl (by rw [e]))]
theorem equal_loop {a b : List Int} (hl : a.length = b.length) : ∀ m i k : Nat,i + m = a.length→m < k→(∀ q,q < i→a.getD q 0 = b.getD q 0)→a.length < 1000 →
  p_slices_Equal_Lint_int_l0 k (fun (_ : Unit) => some true) (fun r => some r) a b (a.length : Int) (i : Int) = some (decide (a = b)):=by
 intro m
 induction m with
 | zero =>
  intro i k hi hk hq _
  obtain ⟨k,rfl⟩ : ∃ j,k = j + 1:=⟨k - 1,by omega⟩
  rw [p_slices_Equal_Lint_int_l0,decide_eq_false (by omega),cond_false,decide_eq_true (list_eq hl fun q h => hq q (by omega))]
 | succ m ih =>
  intro i k hi hk hq h1000
  obtain ⟨k,rfl⟩ : ∃ j,k = j + 1:=⟨k - 1,by omega⟩
  rw [p_slices_Equal_Lint_int_l0,decide_eq_true (by omega),cond_true,ix_z (by omega),Option.bind_some,ix_z (by omega),Option.bind_some,wrap_nat (by omega)]
  by_cases h : a.getD i 0 = b.getD i 0
  ·rw [show (a.getD i 0 != b.getD i 0) = false by rw [h,bne_self_eq_false],cond_false]
   exact ih (i + 1) k (by omega) (by omega) (fun q hq2 => by
    by_cases e : q = i
    ·rw [e,h]
    ·exact hq q (by omega)) h1000
  ·rw [show (a.getD i 0 != b.getD i 0) = true from bne_iff_ne.2 h,cond_true,decide_eq_false (fun e => h (by rw [e]))]
theorem equal_ok {a b : List Int} {k : Nat} (hk : 20 ≤ k) (ha : a.length ≤ 8) : p_slices_Equal_Lint_int k a b = some (decide (a = b)):=by
 unfold p_slices_Equal_Lint_int
 by_cases hl : a.length = b.length
 ·rw [show ((a.length : Int) != (b.length : Int)) = false by rw [hl,bne_self_eq_false],cond_false]
  exact equal_loop hl a.length 0 k (by omega) (by omega) (fun q hq => by omega) (by omega)
 ·rw [show ((a.length : Int) != (b.length : Int)) = true from bne_iff_ne.2 (by omega),cond_true,decide_eq_false (fun e => hl (by rw [e]))]
theorem rcost_loop {l : List TaiChoice} {z : List Int} (hl : OkL l) (hlz : z.length = l.length) (h8 : l.length ≤ 8) : ∀ m i k : Nat,i + m = z.length→10 + m < k →
  p_zr18_Cost_l0 k (fun r => some r) (fun r => some r) l z (sm (cf l z) i) (i : Int) = some (costL l z):=by
 intro m
 induction m with
 | zero =>
  intro i k hi hk
  obtain ⟨k,rfl⟩ : ∃ j,k = j + 1:=⟨k - 1,by omega⟩
  rw [p_zr18_Cost_l0,decide_eq_false (by omega),cond_false,Option.bind_some,cond_false]
  have : i = z.length:=by omega
  rw [this]; rfl
 | succ m ih =>
  intro i k hi hk
  obtain ⟨k,rfl⟩ : ∃ j,k = j + 1:=⟨k - 1,by omega⟩
  have nx:=ih (i + 1) k (by omega) (by omega)
  have hs : sm (cf l z) (i + 1) = sm (cf l z) i + cst (ch l i) (z.getD i 0):=rfl
  have bd:=cf_bd hl z i
  have ch1:=cst_hi (hl i) (p:=z.getD i 0)
  have ch0:=@cst_lo (ch l i) (z.getD i 0)
  have ok:=hl i
  rw [p_zr18_Cost_l0,decide_eq_true (by omega),cond_true,Option.bind_some,decide_eq_true (by omega),cond_true,ix_ch (by omega),Option.bind_some,few_ok ok (by omega),Option.bind_some,ix_z (by omega)]
  simp only [Option.bind_some]
  rw [wrap_nat (by omega),wrap_i64 (n:=9223372036854775807 - sm (cf l z) i) (by omega) (by omega)]
  by_cases h0 : z.getD i 0 ≥ 0
  ·by_cases h1 : z.getD i 0 < ((ch l i).Costs.length : Int)
   ·have hx:=ix_get (xs:=(ch l i).Costs) (d:=0) h0 h1
    rw [decide_eq_true h0,cond_true,decide_eq_true h1,Option.bind_some,cond_true,hx]
    simp only [Option.bind_some]
    by_cases h2 : (ch l i).Costs.getD (z.getD i 0).toNat 0 > 0
    ·have hh : hasB (ch l i) (z.getD i 0) = true:=by rw [hasB,decide_eq_true_eq]; exact ⟨h0,h1,by omega⟩
     have ec:=cst_has hh
     rw [decide_eq_true h2,cond_true,← ec,decide_eq_false (by omega),cond_false,wrap_i64 (n:=sm (cf l z) i + cst (ch l i) (z.getD i 0)) (by omega) (by omega),← hs]
     exact nx
    ·rw [decide_eq_false h2,cond_false]
     have ez : cst (ch l i) (z.getD i 0) = 0:=by
      cases hh : hasB (ch l i) (z.getD i 0)
      ·exact cst_no hh
      ·rw [cst_has hh]
       have hb2:=hh
       simp only [hasB,decide_eq_true_eq] at hb2
       omega
     rw [hs,ez,Int.add_zero] at nx
     exact nx
   ·rw [decide_eq_true h0,cond_true,decide_eq_false h1,Option.bind_some,cond_false,Option.bind_some,cond_false]
    have ez : cst (ch l i) (z.getD i 0) = 0:=cst_no (by rw [hasB,decide_eq_false_iff_not]; exact fun h => h1 h.2.1)
    rw [hs,ez,Int.add_zero] at nx
    exact nx
  ·rw [decide_eq_false h0,cond_false,Option.bind_some,cond_false,Option.bind_some,cond_false]
   have ez : cst (ch l i) (z.getD i 0) = 0:=cst_no (by rw [hasB,decide_eq_false_iff_not]; exact fun h => h0 h.1)
   rw [hs,ez,Int.add_zero] at nx
   exact nx
theorem rcost_ok {l : List TaiChoice} {z : List Int} (hl : OkL l) (hlz : z.length = l.length) (h8 : l.length ≤ 8) {k : Nat} (hk : 20 ≤ k) : p_zr18_Cost k l z = some (costL l z) :=
 rcost_loop hl hlz h8 z.length 0 k (by omega) (by omega)
theorem rfits_loop {β : Type} {l : List TaiChoice} {z : List Int} (hl : OkL l) (hlz : z.length = l.length) (h8 : l.length ≤ 8) {b : Int} (kE0 : List TaiChoice→List Int→Int→Option β) (kE1 : Bool→Option β) (hf : FA l z) : ∀ m i k : Nat,i + m = z.length→10 + m < k →
  p_zr18_Fits_l0 k kE0 kE1 l z b (i : Int) = kE0 l z b:=by
 intro m
 induction m with
 | zero =>
  intro i k hi hk
  obtain ⟨k,rfl⟩ : ∃ j,k = j + 1:=⟨k - 1,by omega⟩
  rw [p_zr18_Fits_l0,decide_eq_false (by omega),cond_false,Option.bind_some,cond_false]
 | succ m ih =>
  intro i k hi hk
  obtain ⟨k,rfl⟩ : ∃ j,k = j + 1:=⟨k - 1,by omega⟩
  have ok:=hl i
  have hfi:=hf i (by omega)
  rw [p_zr18_Fits_l0,decide_eq_true (by omega),cond_true,Option.bind_some,decide_eq_true (by omega),cond_true,ix_z (by omega),Option.bind_some,ix_ch (by omega),Option.bind_some,Option.bind_some,few_ok ok (by omega),Option.bind_some,place_ok ok,Option.bind_some,wrap_nat (by omega)]
  have e : (bif z.getD i 0 != -1 then some (!hasB (ch l i) (z.getD i 0)) else some false) = some false:=by
   by_cases h : z.getD i 0 = -1
   ·rw [h]; rfl
   ·rw [show (z.getD i 0 != -1) = true from bne_iff_ne.2 h,cond_true]
    simp only [fitB,Bool.or_eq_true,beq_iff_eq] at hfi
    rw [hfi.resolve_left h]; rfl
  rw [e,Option.bind_some,cond_false]
  exact ih (i + 1) k (by omega) (by omega)
theorem rfits_ok {l : List TaiChoice} {z : List Int} (hl : OkL l) (hlz : z.length = l.length) (h8 : l.length ≤ 8) {b : Int} (hf : FA l z) (hc : costL l z ≤ b) {k : Nat} (hk : 20 ≤ k) : p_zr18_Fits k l z b = some true:=by
 unfold p_zr18_Fits
 refine (rfits_loop hl hlz h8 _ _ hf z.length 0 k (by omega) (by omega)).trans ?_
 rw [show ((l.length : Int) == (z.length : Int)) = true by rw [hlz,beq_self_eq_true],cond_true,rcost_ok hl hlz h8 hk]
 simp only [Option.bind_some]
 rw [decide_eq_true hc]
theorem known19 : p_zl19_known 64 = some true:=by kernel_rfl
theorem pick_ok {l : List TaiChoice} (hl : OkL l) (h1 : 0 < l.length) (h8 : l.length ≤ 8) {b : Int} (b0 : 0 ≤ b) (b1 : b ≤ 4096) {x : List Int} (hx : p_knap_Best 64 l b = some x) (xl : x.length = l.length) (last : List Int) :
  ∃ r,p_alloc_Pick 64 l b last = some r∧(r = x ∨ (r = last∧last.length = l.length∧FA l last∧costL l last ≤ b∧last ≠ x∧b - b / 8 < costL l x))∧(last = x→r = x)∧(last.length ≠ l.length→r = x)∧(last.length = l.length→FA l last→costL l last ≤ b→last ≠ x→b - b / 8 < costL l x→r = last):=by
 have hm : p_alloc_Margin b = some (b / 8):=by
  unfold p_alloc_Margin
  have e1 : (if b > 0 then b else 0) = b:=by split <;> omega
  rw [e1,Int.tdiv_eq_ediv_of_nonneg b0,wrap_i64 (by omega) (by omega)]
 have hcx:=cost_ok hl xl h8 (k:=64) (by omega)
 have hw : IntKind.wrap .i64 (b - b / 8) = b - b / 8:=wrap_i64 (by omega) (by omega)
 unfold p_alloc_Pick
 rw [hx,Option.bind_some]
 by_cases hll : last.length = l.length
 ·obtain ⟨r,f1,f2⟩:=fits_iff (b:=b) hl hll h8 (k:=64) (by omega)
  rw [f1,Option.bind_some,equal_ok (by omega) (by omega),hcx,hm]
  simp only [Option.bind_some]
  rw [hw]
  cases hr : r
  ·have hno : ¬ (FA l last∧costL l last ≤ b):=fun h => by rw [f2.2 h] at hr; cases hr
   simp only [cond_false,Option.bind_some]
   exact ⟨x,rfl,.inl rfl,fun _ => rfl,fun _ => rfl,fun _ h2 h3 => absurd ⟨h2,h3⟩ hno⟩
  ·obtain ⟨g1,g2⟩:=f2.1 hr
   by_cases he : last = x
   ·simp only [decide_eq_true he,Bool.not_true,cond_true,cond_false,Option.bind_some]
    exact ⟨x,rfl,.inl rfl,fun _ => rfl,fun _ => rfl,fun _ _ _ h => absurd he h⟩
   ·by_cases hc : costL l x > b - b / 8
    ·simp only [decide_eq_false he,Bool.not_false,cond_true,Option.bind_some,decide_eq_true hc]
     rw [clone_eq (by omega) (by omega),Option.bind_some]
     exact ⟨last,rfl,.inr ⟨rfl,hll,g1,g2,he,hc⟩,fun h => absurd h he,fun h => absurd hll h,fun _ _ _ _ _ => rfl⟩
    ·simp only [decide_eq_false he,Bool.not_false,cond_true,cond_false,Option.bind_some,decide_eq_false hc]
     exact ⟨x,rfl,.inl rfl,fun _ => rfl,fun _ => rfl,fun _ _ _ _ h => absurd h hc⟩
 ·have hf : p_knap_Fits 64 l last b = some false:=by
   unfold p_knap_Fits
   rw [show ((l.length : Int) != (last.length : Int)) = true from bne_iff_ne.2 (by omega),cond_true]
  rw [hf]
  simp only [cond_false,Option.bind_some]
  exact ⟨x,rfl,.inl rfl,fun _ => rfl,fun _ => rfl,fun h => absurd h hll⟩
theorem allocStays_p {x0 : List Int} (h0 : x0.length < 2 ^ 50) (x1 x2 : Int) (x3 : List Int) : p_zl19_AllocStays 64 x0 x1 x2 x3 = some true:=by
 unfold p_zl19_AllocStays
 obtain ⟨n,hn,hn4⟩ : ∃ n : Nat,IntKind.wrap .i64 (1 + (intBits .and .i64 x1 3)) = (n : Int)∧1 ≤ n∧n ≤ 4:=by
  obtain ⟨a,b⟩:=and3 x1
  exact ⟨(1 + intBits .and .i64 x1 3).toNat,by rw [wrap_i64 (by omega) (by omega)]; omega,by omega,by omega⟩
 obtain ⟨l,hr,hln,hc⟩:=row_ok h0 (n:=n) (k:=64) (by omega) (by omega)
 have hl:=okL_of hc
 obtain ⟨b0,b1⟩:=and31 x2
 generalize intBits .and .i64 x2 31 = b at *
 obtain ⟨x,hx,xl,xf,xc,xb⟩:=best_first hl (by omega) (by omega) b0 (by omega) (k:=64) (by omega)
 obtain ⟨y,hy,yl,yf,yc,yb⟩:=rbest_first hl (by omega) (by omega) b0 (by omega) (k:=64) (by omega)
 have exy : y = x:=one_best hl yl xl yf xf (xb y yl yf yc) (yb x xl xf xc)
 subst exy
 obtain ⟨r,p1,p2,p3,p4,p5⟩:=pick_ok hl (by omega) (by omega) b0 (by omega) hx xl x3
 obtain ⟨r2,q1,q2,q3,q4,q5⟩:=pick_ok hl (by omega) (by omega) b0 (by omega) hx xl r
 obtain ⟨r3,s1,s2,s3,s4,s5⟩:=pick_ok hl (by omega) (by omega) b0 (by omega) hx xl []
 have e3 : r3 = y:=s4 (by simp; omega)
 have hw : IntKind.wrap .i64 (b - IntKind.wrap .i64 (Int.tdiv b 8)) = b - b / 8:=by
  rw [Int.tdiv_eq_ediv_of_nonneg b0,wrap_i64 (n:=b / 8) (by omega) (by omega),wrap_i64 (by omega) (by omega)]
 rw [hn,hr,Option.bind_some,p1,Option.bind_some,hy,Option.bind_some,hw,s1,e3,q1]
 have key : r.length = l.length∧FA l r∧costL l r ≤ b∧r2 = r∧(r = y ∨ (r = x3∧r ≠ y∧b - b / 8 < costL l y)):=by
  rcases p2 with rfl | ⟨rfl,a1,a2,a3,a4,a5⟩
  ·exact ⟨xl,xf,xc,q3 rfl,.inl rfl⟩
  ·exact ⟨a1,a2,a3,q5 a1 a2 a3 a4 a5,.inr ⟨rfl,a4,a5⟩⟩
 obtain ⟨k1,k2,k3,k4,k5⟩:=key
 rw [k4,rfits_ok hl k1 (by omega) k2 k3 (by omega),Option.bind_some,ints_ok (by omega) (by omega),ints_ok (by omega) (by omega),rcost_ok hl xl (by omega) (by omega)]
 simp only [Option.bind_some,Bool.not_true,cond_false]
 rw [ints_ok (by omega) (by omega),ints_ok (by omega) (by omega)]
 simp only [Option.bind_some,decide_true,cond_true,known19]
 rcases k5 with h | ⟨h,h',h''⟩
 ·simp only [decide_eq_true h,Bool.not_true,cond_false,Option.bind_some]
 ·simp only [decide_eq_false h',decide_eq_true h,Bool.not_false,Bool.not_true,cond_true,cond_false,Option.bind_some]
  rw [decide_eq_false (by omega)]
  simp only [cond_false]
end Knap
theorem allocStays_ev (a0 : (DT.slice 8 (.int .i64)).D) (a1 a2 : Int) (a3 : (DT.slice 8 (.int .i64)).D) (w0 : (DT.slice 8 (.int .i64)).ok a0) (_ : (DT.int .i64).ok a1) (_ : (DT.int .i64).ok a2) (_ : (DT.slice 8 (.int .i64)).ok a3) :
  ev G X0 11 [] [(DT.slice 8 (.int .i64)).val a0,(DT.int .i64).val a1,(DT.int .i64).val a2,(DT.slice 8 (.int .i64)).val a3] [] = some ([.v (bV true)],[]):=by
 have hl : (Option.getD a0 []).length < 2 ^ 50:=by
  cases a0 with
  | none => exact Nat.two_pow_pos 50
  | some l =>
   have:=w0.1
   have hr : reachBytes ≤ 140737488355328:=by decide
   have e : (Option.getD (some l) []).length = l.length:=rfl
   omega
 obtain ⟨_,h1,rfl⟩:=zl19_AllocStays_ok 64 (h:=[]) (σ:=[]) (Option.getD a0 []) (slF_ints a0) a1 a2 (Option.getD a3 []) ((slF_ints a3).h _) _ (Knap.allocStays_p hl a1 a2 _)
 exact h1
end Go.Ev
