/- A part of the proof that follows: a closed sentence: chapter 12's runs, asks of forty scripts -/
import Derived.Test.YtceljnchfgimbaaMAlarmNumbers2
import Derived.KernelRfl
namespace Go.Ev
open Go.Proofs
set_option linter.unusedVariables false
set_option linter.unusedSimpArgs false
set_option maxRecDepth 100000
section
variable {β α : Type} {Q : β→α→Prop} {K : Exit × Env × H→Option α}
def p_slices_partialInsertionSortCmpFunc_alarm_Due_alarm_Table_Set_1_l1 {β : Type} (k : Nat) (kE0 : Int→Int→Int→Int→(List T_alarm_Due)→Option β) (x1 : Int) (x2 : Int) (x9 : Int) (x10 : Int) (zw0 : (List T_alarm_Due)) : Option β:=match k with
| 0 => none
| k + 1 =>
(bif decide (x9 < x2) then ((ix zw0 x9).bind fun a10 =>
(ix zw0 (IntKind.wrap .i64 (x9 - 1))).bind fun a15 =>
(p_alarm_Table_Set_1 k a10 a15).bind fun r20 =>
some (!(decide (r20 < 0)))) else (some false)).bind fun b25 =>
bif b25 then (
p_slices_partialInsertionSortCmpFunc_alarm_Due_alarm_Table_Set_1_l1 k kE0 x1 x2 (IntKind.wrap .i64 (x9 + 1)) x10 zw0)
else (
kE0 x1 x2 x9 x10 zw0)
def p_slices_partialInsertionSortCmpFunc_alarm_Due_alarm_Table_Set_1_l2 {β : Type} (k : Nat) (kE0 : Int→Int→Int→Int→(List T_alarm_Due)→Option β) (x1 : Int) (x2 : Int) (x9 : Int) (x10 : Int) (x11 : Int) (zw0 : (List T_alarm_Due)) : Option β:=match k with
| 0 => none
| k + 1 =>
bif decide (x11 ≥ 1) then (
(ix zw0 x11).bind fun a75 =>
(ix zw0 (IntKind.wrap .i64 (x11 - 1))).bind fun a80 =>
(p_alarm_Table_Set_1 k a75 a80).bind fun r85 =>
bif !(decide (r85 < 0)) then (
kE0 x1 x2 x9 x10 zw0)
else (
(ix zw0 (IntKind.wrap .i64 (x11 - 1))).bind fun a91 =>
(ix zw0 x11).bind fun a96 =>
(ix zw0 x11).bind fun a101 =>
(stx zw0 x11 a91).bind fun a106 =>
(ix a106 (IntKind.wrap .i64 (x11 - 1))).bind fun a110 =>
(stx a106 (IntKind.wrap .i64 (x11 - 1)) a96).bind fun a115 =>
p_slices_partialInsertionSortCmpFunc_alarm_Due_alarm_Table_Set_1_l2 k kE0 x1 x2 x9 x10 (IntKind.wrap .i64 (x11 - 1)) a115))
else (
kE0 x1 x2 x9 x10 zw0)
def p_slices_partialInsertionSortCmpFunc_alarm_Due_alarm_Table_Set_1_l3 {β : Type} (k : Nat) (kE0 : Int→Int→Int→Int→(List T_alarm_Due)→Option β) (x1 : Int) (x2 : Int) (x9 : Int) (x10 : Int) (x12 : Int) (zw0 : (List T_alarm_Due)) : Option β:=match k with
| 0 => none
| k + 1 =>
bif decide (x12 < x2) then (
(ix zw0 x12).bind fun a134 =>
(ix zw0 (IntKind.wrap .i64 (x12 - 1))).bind fun a139 =>
(p_alarm_Table_Set_1 k a134 a139).bind fun r144 =>
bif !(decide (r144 < 0)) then (
kE0 x1 x2 x9 x10 zw0)
else (
(ix zw0 (IntKind.wrap .i64 (x12 - 1))).bind fun a150 =>
(ix zw0 x12).bind fun a155 =>
(ix zw0 x12).bind fun a160 =>
(stx zw0 x12 a150).bind fun a165 =>
(ix a165 (IntKind.wrap .i64 (x12 - 1))).bind fun a169 =>
(stx a165 (IntKind.wrap .i64 (x12 - 1)) a155).bind fun a174 =>
p_slices_partialInsertionSortCmpFunc_alarm_Due_alarm_Table_Set_1_l3 k kE0 x1 x2 x9 x10 (IntKind.wrap .i64 (x12 + 1)) a174))
else (
kE0 x1 x2 x9 x10 zw0)
def p_slices_partialInsertionSortCmpFunc_alarm_Due_alarm_Table_Set_1_l0 {β : Type} (k : Nat) (kE0 : (List T_alarm_Due)→Option β) (kE1 : Bool→(List T_alarm_Due)→Option β) (x1 : Int) (x2 : Int) (x9 : Int) (x10 : Int) (zw0 : (List T_alarm_Due)) : Option β:=match k with
| 0 => none
| k + 1 =>
bif decide (x10 < 5) then (
p_slices_partialInsertionSortCmpFunc_alarm_Due_alarm_Table_Set_1_l1 k (fun r34_1 r34_2 r34_9 r34_10 zw0 =>
bif r34_9 == r34_2 then (
kE1 true zw0)
else (
bif decide ((IntKind.wrap .i64 (r34_2 - r34_1)) < 50) then (
kE1 false zw0)
else (
(ix zw0 (IntKind.wrap .i64 (r34_9 - 1))).bind fun a41 =>
(ix zw0 r34_9).bind fun a46 =>
(ix zw0 r34_9).bind fun a51 =>
(stx zw0 r34_9 a41).bind fun a56 =>
(ix a56 (IntKind.wrap .i64 (r34_9 - 1))).bind fun a60 =>
(stx a56 (IntKind.wrap .i64 (r34_9 - 1)) a46).bind fun a65 =>
bif decide ((IntKind.wrap .i64 (r34_9 - r34_1)) ≥ 2) then (
p_slices_partialInsertionSortCmpFunc_alarm_Due_alarm_Table_Set_1_l2 k (fun r123_1 r123_2 r123_9 r123_10 zw0 =>
bif decide ((IntKind.wrap .i64 (r123_2 - r123_9)) ≥ 2) then (
p_slices_partialInsertionSortCmpFunc_alarm_Due_alarm_Table_Set_1_l3 k (fun r182_1 r182_2 r182_9 r182_10 zw0 =>
p_slices_partialInsertionSortCmpFunc_alarm_Due_alarm_Table_Set_1_l0 k kE0 kE1 r182_1 r182_2 r182_9 (IntKind.wrap .i64 (r182_10 + 1)) zw0) r123_1 r123_2 r123_9 r123_10 (IntKind.wrap .i64 (r123_9 + 1)) zw0)
else (
p_slices_partialInsertionSortCmpFunc_alarm_Due_alarm_Table_Set_1_l0 k kE0 kE1 r123_1 r123_2 r123_9 (IntKind.wrap .i64 (r123_10 + 1)) zw0)) r34_1 r34_2 r34_9 r34_10 (IntKind.wrap .i64 (r34_9 - 1)) a65)
else (
bif decide ((IntKind.wrap .i64 (r34_2 - r34_9)) ≥ 2) then (
p_slices_partialInsertionSortCmpFunc_alarm_Due_alarm_Table_Set_1_l3 k (fun r188_1 r188_2 r188_9 r188_10 zw0 =>
p_slices_partialInsertionSortCmpFunc_alarm_Due_alarm_Table_Set_1_l0 k kE0 kE1 r188_1 r188_2 r188_9 (IntKind.wrap .i64 (r188_10 + 1)) zw0) r34_1 r34_2 r34_9 r34_10 (IntKind.wrap .i64 (r34_9 + 1)) a65)
else (
p_slices_partialInsertionSortCmpFunc_alarm_Due_alarm_Table_Set_1_l0 k kE0 kE1 r34_1 r34_2 r34_9 (IntKind.wrap .i64 (r34_10 + 1)) a65))))) x1 x2 x9 x10 zw0)
else (
kE0 zw0)
def p_slices_partialInsertionSortCmpFunc_alarm_Due_alarm_Table_Set_1 (k : Nat) (x0 : (List T_alarm_Due)) (x1 : Int) (x2 : Int) : Option (Bool × (List T_alarm_Due)) :=
p_slices_partialInsertionSortCmpFunc_alarm_Due_alarm_Table_Set_1_l0 k (fun zw0 =>
some (false,zw0)) (fun r206_8 zw0 =>
some (r206_8,zw0)) x1 x2 (IntKind.wrap .i64 (x1 + 1)) 0 x0
theorem slices_partialInsertionSortCmpFunc_alarm_Due_alarm_Table_Set_1_l1_ok {h : H} {l0 : Loc} {o0 : Nat} {u0 : V} {kE0 : Int→Int→Int→Int→(List T_alarm_Due)→Option β} (hE0 : ∀ (q1 : Int) (q2 : Int) (q9 : Int) (q10 : Int) (zw0 : (List T_alarm_Due)) (w32 : List C) (h33 : WL l0 o0 dT_alarm_Due zw0 u0 w32) (H30 : Go.Ev.H) (_ : Fm 141 h [⟨l0,o0,w32⟩] [] [] H30),Sim (kE0 q1 q2 q9 q10 zw0) (K ((.exit 2),(envL [(0,u0),(1,(.p (.int .i64 q1))),(2,(.p (.int .i64 q2))),(3,(.clo 47 [])),(9,(.p (.int .i64 q9))),(10,(.p (.int .i64 q10)))]),H30)) Q) (k : Nat) : ∀ (x1 : Int) (x2 : Int) (x9 : Int) (x10 : Int) (zw0 : (List T_alarm_Due)) (w8 : List C) (h9 : WL l0 o0 dT_alarm_Due zw0 u0 w8) (H6 : Go.Ev.H) (_ : Fm 141 h [⟨l0,o0,w8⟩] [] [] H6) {σ : Stamp},Sim (p_slices_partialInsertionSortCmpFunc_alarm_Due_alarm_Table_Set_1_l1 k kE0 x1 x2 x9 x10 zw0) ((cvL G X0 slices_partialInsertionSortCmpFunc_alarm_Due_c1 slices_partialInsertionSortCmpFunc_alarm_Due_l1 σ (envL [(0,u0),(1,(.p (.int .i64 x1))),(2,(.p (.int .i64 x2))),(3,(.clo 47 [])),(9,(.p (.int .i64 x9))),(10,(.p (.int .i64 x10)))]) H6).bind K) Q:=by
 induction k with
 | zero => intros; exact .no
 | succ k ih =>
  intro x1 x2 x9 x10 zw0 w8 h9 H6 S7 σ
  rw [p_slices_partialInsertionSortCmpFunc_alarm_Due_alarm_Table_Set_1_l1]
  refine .round (Sim.ext (slices_partialInsertionSortCmpFunc_alarm_Due_r1 _ _ _ _ _ _ _ _ _ _) ?_)
  refine .ch (P:=fun r y => (.p (.bool r),H6) = y) ?_ (fun b25 y26 h27 h28 => ?_)
  ·refine .cq ?_ ?_
   ·refine .bd fun a10 h11 => ?_
    refine .op ((S7.slW (i:=0) rfl h9).iS h11 rfl) ?_
    obtain ⟨w13,h14,hE12⟩:=(S7.slW (i:=0) rfl h9).el h11 rfl
    obtain rfl:=dT_alarm_Due.inv h14
    refine .op (hE12.all (by simp)) ?_
    refine .bd fun a15 h16 => ?_
    refine .op ((S7.slW (i:=0) rfl h9).iS h16 rfl) ?_
    obtain ⟨w18,h19,hE17⟩:=(S7.slW (i:=0) rfl h9).el h16 rfl
    obtain rfl:=dT_alarm_Due.inv h19
    refine .op (hE17.all (by simp)) ?_
    refine .clo ?_
    refine .call (alarm_Table_Set_1_ok k a10 (show dT_alarm_Due.R a10 [.p (.int .i64 a10.f_At),.p (.int .u64 a10.Key)] from (dT_alarm_Due.mk)) a15 (show dT_alarm_Due.R a15 [.p (.int .i64 a15.f_At),.p (.int .u64 a15.Key)] from (dT_alarm_Due.mk))) fun r20 cs21 H22 h23 q24 => ?_
    cases q24
    refine .ci ?_
    exact .ret rfl rfl
   ·exact .ret rfl rfl
  subst h28
  refine .ab ?_
  refine .cq ?_ ?_
  ·exact ih x1 x2 (IntKind.wrap .i64 (x9 + 1)) x10 zw0 w8 h9 H6 (S7.wk2 aN aN)
  exact hE0 x1 x2 x9 x10 zw0 w8 h9 H6 (S7.wk2 aN aN)
theorem slices_partialInsertionSortCmpFunc_alarm_Due_alarm_Table_Set_1_l2_ok {h : H} {l0 : Loc} {o0 : Nat} {u0 : V} {kE0 : Int→Int→Int→Int→(List T_alarm_Due)→Option β} (hE0 : ∀ (q1 : Int) (q2 : Int) (q9 : Int) (q10 : Int) (zw0 : (List T_alarm_Due)) (w121 : List C) (h122 : WL l0 o0 dT_alarm_Due zw0 u0 w121) (H119 : Go.Ev.H) (_ : Fm 141 h [⟨l0,o0,w121⟩] [] [] H119),Sim (kE0 q1 q2 q9 q10 zw0) (K ((.exit 4),(envL [(0,u0),(1,(.p (.int .i64 q1))),(2,(.p (.int .i64 q2))),(3,(.clo 47 [])),(9,(.p (.int .i64 q9))),(10,(.p (.int .i64 q10)))]),H119)) Q) (k : Nat) : ∀ (x1 : Int) (x2 : Int) (x9 : Int) (x10 : Int) (x11 : Int) (zw0 : (List T_alarm_Due)) (w72 : List C) (h73 : WL l0 o0 dT_alarm_Due zw0 u0 w72) (H70 : Go.Ev.H) (_ : Fm 141 h [⟨l0,o0,w72⟩] [] [] H70) {σ : Stamp},Sim (p_slices_partialInsertionSortCmpFunc_alarm_Due_alarm_Table_Set_1_l2 k kE0 x1 x2 x9 x10 x11 zw0) ((cvL G X0 slices_partialInsertionSortCmpFunc_alarm_Due_c2 slices_partialInsertionSortCmpFunc_alarm_Due_l2 σ (envL [(0,u0),(1,(.p (.int .i64 x1))),(2,(.p (.int .i64 x2))),(3,(.clo 47 [])),(9,(.p (.int .i64 x9))),(10,(.p (.int .i64 x10))),(11,(.p (.int .i64 x11)))]) H70).bind K) Q:=by
 induction k with
 | zero => intros; exact .no
 | succ k ih =>
  intro x1 x2 x9 x10 x11 zw0 w72 h73 H70 S71 σ
  rw [p_slices_partialInsertionSortCmpFunc_alarm_Due_alarm_Table_Set_1_l2]
  refine .round (Sim.ext (slices_partialInsertionSortCmpFunc_alarm_Due_r2 _ _ _ _ _ _ _ _ _ _ _) ?_)
  refine .cq ?_ ?_
  ·refine .bd fun a75 h76 => ?_
   refine .op ((S71.slW (i:=0) rfl h73).iS h76 rfl) ?_
   obtain ⟨w78,h79,hE77⟩:=(S71.slW (i:=0) rfl h73).el h76 rfl
   obtain rfl:=dT_alarm_Due.inv h79
   refine .op (hE77.all (by simp)) ?_
   refine .bd fun a80 h81 => ?_
   refine .op ((S71.slW (i:=0) rfl h73).iS h81 rfl) ?_
   obtain ⟨w83,h84,hE82⟩:=(S71.slW (i:=0) rfl h73).el h81 rfl
   obtain rfl:=dT_alarm_Due.inv h84
   refine .op (hE82.all (by simp)) ?_
   refine .clo ?_
   refine .call (alarm_Table_Set_1_ok k a75 (show dT_alarm_Due.R a75 [.p (.int .i64 a75.f_At),.p (.int .u64 a75.Key)] from (dT_alarm_Due.mk)) a80 (show dT_alarm_Due.R a80 [.p (.int .i64 a80.f_At),.p (.int .u64 a80.Key)] from (dT_alarm_Due.mk))) fun r85 cs86 H87 h88 q89 => ?_
   cases q89
   refine .ci ?_
   refine .cq ?_ ?_
   ·exact hE0 x1 x2 x9 x10 zw0 w72 h73 H70 (S71.wk2 aN aN)
   refine .bd fun a91 h92 => ?_
   refine .op ((S71.slW (i:=0) rfl h73).iS h92 rfl) ?_
   obtain ⟨w94,h95,hE93⟩:=(S71.slW (i:=0) rfl h73).el h92 rfl
   obtain rfl:=dT_alarm_Due.inv h95
   refine .op (hE93.all (by simp)) ?_
   refine .bd fun a96 h97 => ?_
   refine .op ((S71.slW (i:=0) rfl h73).iS h97 rfl) ?_
   obtain ⟨w99,h100,hE98⟩:=(S71.slW (i:=0) rfl h73).el h97 rfl
   obtain rfl:=dT_alarm_Due.inv h100
   refine .op (hE98.all (by simp)) ?_
   refine .bd fun a101 h102 => ?_
   refine .op ((S71.slW (i:=0) rfl h73).iS h102 rfl) ?_
   refine .bd fun a106 h107 => ?_
   obtain ⟨w108,H103,e104,h109,S105⟩:=S71.setWA (i:=0) (e:=2) (own:=false) (σ:=(15::1::0::1::0::σ)) (nv:=[.p (.int .i64 a91.f_At),.p (.int .u64 a91.Key)]) (xv:=(.agg [.p (.int .i64 a91.f_At),.p (.int .u64 a91.Key)])) rfl h73 h107 rfl (stN_agg (sC (sI _ _) (sC (sI _ _) sN))) (show dT_alarm_Due.R a91 [.p (.int .i64 a91.f_At),.p (.int .u64 a91.Key)] from (dT_alarm_Due.mk)) rfl
   refine .op (sM e104) ?_
   refine .bd fun a110 h111 => ?_
   refine .op ((S105.slW (i:=0) rfl h109).iS h111 rfl) ?_
   refine .bd fun a115 h116 => ?_
   obtain ⟨w117,H112,e113,h118,S114⟩:=S105.setWA (i:=0) (e:=2) (own:=false) (σ:=(17::1::0::1::0::σ)) (nv:=[.p (.int .i64 a96.f_At),.p (.int .u64 a96.Key)]) (xv:=(.agg [.p (.int .i64 a96.f_At),.p (.int .u64 a96.Key)])) rfl h109 h116 rfl (stN_agg (sC (sI _ _) (sC (sI _ _) sN))) (show dT_alarm_Due.R a96 [.p (.int .i64 a96.f_At),.p (.int .u64 a96.Key)] from (dT_alarm_Due.mk)) rfl
   refine .op (sM e113) ?_
   exact ih x1 x2 x9 x10 (IntKind.wrap .i64 (x11 - 1)) a115 w117 h118 H112 (S114.wk2 aN aN)
  exact hE0 x1 x2 x9 x10 zw0 w72 h73 H70 (S71.wk2 aN aN)
theorem slices_partialInsertionSortCmpFunc_alarm_Due_alarm_Table_Set_1_l3_ok {h : H} {l0 : Loc} {o0 : Nat} {u0 : V} {kE0 : Int→Int→Int→Int→(List T_alarm_Due)→Option β} (hE0 : ∀ (q1 : Int) (q2 : Int) (q9 : Int) (q10 : Int) (zw0 : (List T_alarm_Due)) (w180 : List C) (h181 : WL l0 o0 dT_alarm_Due zw0 u0 w180) (H178 : Go.Ev.H) (_ : Fm 141 h [⟨l0,o0,w180⟩] [] [] H178),Sim (kE0 q1 q2 q9 q10 zw0) (K ((.exit 6),(envL [(0,u0),(1,(.p (.int .i64 q1))),(2,(.p (.int .i64 q2))),(3,(.clo 47 [])),(9,(.p (.int .i64 q9))),(10,(.p (.int .i64 q10)))]),H178)) Q) (k : Nat) : ∀ (x1 : Int) (x2 : Int) (x9 : Int) (x10 : Int) (x12 : Int) (zw0 : (List T_alarm_Due)) (w131 : List C) (h132 : WL l0 o0 dT_alarm_Due zw0 u0 w131) (H129 : Go.Ev.H) (_ : Fm 141 h [⟨l0,o0,w131⟩] [] [] H129) {σ : Stamp},Sim (p_slices_partialInsertionSortCmpFunc_alarm_Due_alarm_Table_Set_1_l3 k kE0 x1 x2 x9 x10 x12 zw0) ((cvL G X0 slices_partialInsertionSortCmpFunc_alarm_Due_c3 slices_partialInsertionSortCmpFunc_alarm_Due_l3 σ (envL [(0,u0),(1,(.p (.int .i64 x1))),(2,(.p (.int .i64 x2))),(3,(.clo 47 [])),(9,(.p (.int .i64 x9))),(10,(.p (.int .i64 x10))),(12,(.p (.int .i64 x12)))]) H129).bind K) Q:=by
 induction k with
 | zero => intros; exact .no
 | succ k ih =>
  intro x1 x2 x9 x10 x12 zw0 w131 h132 H129 S130 σ
  rw [p_slices_partialInsertionSortCmpFunc_alarm_Due_alarm_Table_Set_1_l3]
  refine .round (Sim.ext (slices_partialInsertionSortCmpFunc_alarm_Due_r3 _ _ _ _ _ _ _ _ _ _ _) ?_)
  refine .cq ?_ ?_
  ·refine .bd fun a134 h135 => ?_
   refine .op ((S130.slW (i:=0) rfl h132).iS h135 rfl) ?_
   obtain ⟨w137,h138,hE136⟩:=(S130.slW (i:=0) rfl h132).el h135 rfl
   obtain rfl:=dT_alarm_Due.inv h138
   refine .op (hE136.all (by simp)) ?_
   refine .bd fun a139 h140 => ?_
   refine .op ((S130.slW (i:=0) rfl h132).iS h140 rfl) ?_
   obtain ⟨w142,h143,hE141⟩:=(S130.slW (i:=0) rfl h132).el h140 rfl
   obtain rfl:=dT_alarm_Due.inv h143
   refine .op (hE141.all (by simp)) ?_
   refine .clo ?_
   refine .call (alarm_Table_Set_1_ok k a134 (show dT_alarm_Due.R a134 [.p (.int .i64 a134.f_At),.p (.int .u64 a134.Key)] from (dT_alarm_Due.mk)) a139 (show dT_alarm_Due.R a139 [.p (.int .i64 a139.f_At),.p (.int .u64 a139.Key)] from (dT_alarm_Due.mk))) fun r144 cs145 H146 h147 q148 => ?_
   cases q148
   refine .ci ?_
   refine .cq ?_ ?_
   ·exact hE0 x1 x2 x9 x10 zw0 w131 h132 H129 (S130.wk2 aN aN)
   refine .bd fun a150 h151 => ?_
   refine .op ((S130.slW (i:=0) rfl h132).iS h151 rfl) ?_
   obtain ⟨w153,h154,hE152⟩:=(S130.slW (i:=0) rfl h132).el h151 rfl
   obtain rfl:=dT_alarm_Due.inv h154
   refine .op (hE152.all (by simp)) ?_
   refine .bd fun a155 h156 => ?_
   refine .op ((S130.slW (i:=0) rfl h132).iS h156 rfl) ?_
   obtain ⟨w158,h159,hE157⟩:=(S130.slW (i:=0) rfl h132).el h156 rfl
   obtain rfl:=dT_alarm_Due.inv h159
   refine .op (hE157.all (by simp)) ?_
   refine .bd fun a160 h161 => ?_
   refine .op ((S130.slW (i:=0) rfl h132).iS h161 rfl) ?_
   refine .bd fun a165 h166 => ?_
   obtain ⟨w167,H162,e163,h168,S164⟩:=S130.setWA (i:=0) (e:=2) (own:=false) (σ:=(15::1::0::1::0::σ)) (nv:=[.p (.int .i64 a150.f_At),.p (.int .u64 a150.Key)]) (xv:=(.agg [.p (.int .i64 a150.f_At),.p (.int .u64 a150.Key)])) rfl h132 h166 rfl (stN_agg (sC (sI _ _) (sC (sI _ _) sN))) (show dT_alarm_Due.R a150 [.p (.int .i64 a150.f_At),.p (.int .u64 a150.Key)] from (dT_alarm_Due.mk)) rfl
   refine .op (sM e163) ?_
   refine .bd fun a169 h170 => ?_
   refine .op ((S164.slW (i:=0) rfl h168).iS h170 rfl) ?_
   refine .bd fun a174 h175 => ?_
   obtain ⟨w176,H171,e172,h177,S173⟩:=S164.setWA (i:=0) (e:=2) (own:=false) (σ:=(17::1::0::1::0::σ)) (nv:=[.p (.int .i64 a155.f_At),.p (.int .u64 a155.Key)]) (xv:=(.agg [.p (.int .i64 a155.f_At),.p (.int .u64 a155.Key)])) rfl h168 h175 rfl (stN_agg (sC (sI _ _) (sC (sI _ _) sN))) (show dT_alarm_Due.R a155 [.p (.int .i64 a155.f_At),.p (.int .u64 a155.Key)] from (dT_alarm_Due.mk)) rfl
   refine .op (sM e172) ?_
   exact ih x1 x2 x9 x10 (IntKind.wrap .i64 (x12 + 1)) a174 w176 h177 H171 (S173.wk2 aN aN)
  exact hE0 x1 x2 x9 x10 zw0 w131 h132 H129 (S130.wk2 aN aN)
theorem slices_partialInsertionSortCmpFunc_alarm_Due_alarm_Table_Set_1_l0_ok {h : H} {l0 : Loc} {o0 : Nat} {u0 : V} {kE0 : (List T_alarm_Due)→Option β} {kE1 : Bool→(List T_alarm_Due)→Option β} (hE0 : ∀ (zw0 : (List T_alarm_Due)) (w195 : List C) (h196 : WL l0 o0 dT_alarm_Due zw0 u0 w195) (H193 : Go.Ev.H) (_ : Fm 141 h [⟨l0,o0,w195⟩] [] [] H193),Sim (kE0 zw0) (K ((.exit 0),(envL []),H193)) Q) (hE1 : ∀ (q8 : Bool) (zw0 : (List T_alarm_Due)) (w199 : List C) (h200 : WL l0 o0 dT_alarm_Due zw0 u0 w199) (H197 : Go.Ev.H) (_ : Fm 141 h [⟨l0,o0,w199⟩] [] [] H197),Sim (kE1 q8 zw0) (K (.ret,(envL [(8,(.p (.bool q8)))]),H197)) Q) (k : Nat) : ∀ (x1 : Int) (x2 : Int) (x9 : Int) (x10 : Int) (zw0 : (List T_alarm_Due)) (w3 : List C) (h4 : WL l0 o0 dT_alarm_Due zw0 u0 w3) (H1 : Go.Ev.H) (_ : Fm 141 h [⟨l0,o0,w3⟩] [] [] H1) {σ : Stamp},Sim (p_slices_partialInsertionSortCmpFunc_alarm_Due_alarm_Table_Set_1_l0 k kE0 kE1 x1 x2 x9 x10 zw0) ((cvL G X0 slices_partialInsertionSortCmpFunc_alarm_Due_c0 slices_partialInsertionSortCmpFunc_alarm_Due_l0 σ (envL [(0,u0),(1,(.p (.int .i64 x1))),(2,(.p (.int .i64 x2))),(3,(.clo 47 [])),(9,(.p (.int .i64 x9))),(10,(.p (.int .i64 x10)))]) H1).bind K) Q:=by
 induction k with
 | zero => intros; exact .no
 | succ k ih =>
  intro x1 x2 x9 x10 zw0 w3 h4 H1 S2 σ
  rw [p_slices_partialInsertionSortCmpFunc_alarm_Due_alarm_Table_Set_1_l0]
  refine .round (Sim.ext (slices_partialInsertionSortCmpFunc_alarm_Due_r0 _ _ _ _ _ _ _ _ _ _) ?_)
  refine .cq ?_ ?_
  ·refine .as (slices_partialInsertionSortCmpFunc_alarm_Due_alarm_Table_Set_1_l1_ok ?_ k x1 x2 x9 x10 zw0 w3 h4 H1 (S2.wk2 aN aN))
   ·intro r34_1 r34_2 r34_9 r34_10 zw0 w37 h38 H35 S36
    refine .ext (slices_partialInsertionSortCmpFunc_alarm_Due_a1_2 _ _ _ _ _ _ _ _ _ _) ?_
    refine .cq ?_ ?_
    ·exact hE1 true zw0 w37 h38 H35 (S36.wk2 aN aN)
    refine .cq ?_ ?_
    ·exact hE1 false zw0 w37 h38 H35 (S36.wk2 aN aN)
    refine .bd fun a41 h42 => ?_
    refine .op ((S36.slW (i:=0) rfl h38).iS h42 rfl) ?_
    obtain ⟨w44,h45,hE43⟩:=(S36.slW (i:=0) rfl h38).el h42 rfl
    obtain rfl:=dT_alarm_Due.inv h45
    refine .op (hE43.all (by simp)) ?_
    refine .bd fun a46 h47 => ?_
    refine .op ((S36.slW (i:=0) rfl h38).iS h47 rfl) ?_
    obtain ⟨w49,h50,hE48⟩:=(S36.slW (i:=0) rfl h38).el h47 rfl
    obtain rfl:=dT_alarm_Due.inv h50
    refine .op (hE48.all (by simp)) ?_
    refine .bd fun a51 h52 => ?_
    refine .op ((S36.slW (i:=0) rfl h38).iS h52 rfl) ?_
    refine .bd fun a56 h57 => ?_
    obtain ⟨w58,H53,e54,h59,S55⟩:=S36.setWA (i:=0) (e:=2) (own:=false) (σ:=(15::0::1::1::1::0::1::0::σ)) (nv:=[.p (.int .i64 a41.f_At),.p (.int .u64 a41.Key)]) (xv:=(.agg [.p (.int .i64 a41.f_At),.p (.int .u64 a41.Key)])) rfl h38 h57 rfl (stN_agg (sC (sI _ _) (sC (sI _ _) sN))) (show dT_alarm_Due.R a41 [.p (.int .i64 a41.f_At),.p (.int .u64 a41.Key)] from (dT_alarm_Due.mk)) rfl
    refine .op (sM e54) ?_
    refine .bd fun a60 h61 => ?_
    refine .op ((S55.slW (i:=0) rfl h59).iS h61 rfl) ?_
    refine .bd fun a65 h66 => ?_
    obtain ⟨w67,H62,e63,h68,S64⟩:=S55.setWA (i:=0) (e:=2) (own:=false) (σ:=(17::0::1::1::1::0::1::0::σ)) (nv:=[.p (.int .i64 a46.f_At),.p (.int .u64 a46.Key)]) (xv:=(.agg [.p (.int .i64 a46.f_At),.p (.int .u64 a46.Key)])) rfl h59 h66 rfl (stN_agg (sC (sI _ _) (sC (sI _ _) sN))) (show dT_alarm_Due.R a46 [.p (.int .i64 a46.f_At),.p (.int .u64 a46.Key)] from (dT_alarm_Due.mk)) rfl
    refine .op (sM e63) ?_
    refine .cq ?_ ?_
    ·refine .as (slices_partialInsertionSortCmpFunc_alarm_Due_alarm_Table_Set_1_l2_ok ?_ k r34_1 r34_2 r34_9 r34_10 (IntKind.wrap .i64 (r34_9 - 1)) a65 w67 h68 H62 (S64.wk2 aN aN))
     ·intro r123_1 r123_2 r123_9 r123_10 zw0 w126 h127 H124 S125
      refine .ext (slices_partialInsertionSortCmpFunc_alarm_Due_a2_4 _ _ _ _ _ _ _ _ _ _) ?_
      refine .cq ?_ ?_
      ·refine .as (slices_partialInsertionSortCmpFunc_alarm_Due_alarm_Table_Set_1_l3_ok ?_ k r123_1 r123_2 r123_9 r123_10 (IntKind.wrap .i64 (r123_9 + 1)) zw0 w126 h127 H124 (S125.wk2 aN aN))
       ·intro r182_1 r182_2 r182_9 r182_10 zw0 w185 h186 H183 S184
        refine .ext (slices_partialInsertionSortCmpFunc_alarm_Due_a3_6 _ _ _ _ _ _ _ _ _ _) ?_
        exact ih r182_1 r182_2 r182_9 (IntKind.wrap .i64 (r182_10 + 1)) zw0 w185 h186 H183 (S184.wk2 aN aN)
      exact ih r123_1 r123_2 r123_9 (IntKind.wrap .i64 (r123_10 + 1)) zw0 w126 h127 H124 (S125.wk2 aN aN)
    refine .cq ?_ ?_
    ·refine .as (slices_partialInsertionSortCmpFunc_alarm_Due_alarm_Table_Set_1_l3_ok ?_ k r34_1 r34_2 r34_9 r34_10 (IntKind.wrap .i64 (r34_9 + 1)) a65 w67 h68 H62 (S64.wk2 aN aN))
     ·intro r188_1 r188_2 r188_9 r188_10 zw0 w191 h192 H189 S190
      refine .ext (slices_partialInsertionSortCmpFunc_alarm_Due_a3_6 _ _ _ _ _ _ _ _ _ _) ?_
      exact ih r188_1 r188_2 r188_9 (IntKind.wrap .i64 (r188_10 + 1)) zw0 w191 h192 H189 (S190.wk2 aN aN)
    exact ih r34_1 r34_2 r34_9 (IntKind.wrap .i64 (r34_10 + 1)) a65 w67 h68 H62 (S64.wk2 aN aN)
  exact hE0 zw0 w3 h4 H1 (S2.wk2 aN aN)
theorem slices_partialInsertionSortCmpFunc_alarm_Due_alarm_Table_Set_1_ok (k : Nat) {h : H} {σ : Stamp} (x0 : List T_alarm_Due) {u0 : V} {l0 : Loc} {o0 : Nat} {w0 : List C} (hw0 : WL l0 o0 dT_alarm_Due x0 u0 w0) (ha0 : AtC h l0 o0 w0) (x1 : Int) (x2 : Int) : Sim (p_slices_partialInsertionSortCmpFunc_alarm_Due_alarm_Table_Set_1 k x0 x1 x2) (ev G X0 147 σ [u0,(.p (.int .i64 x1)),(.p (.int .i64 x2)),(.clo 47 [])] h) (fun r s => ∃ (wb0 : List C),WL l0 o0 dT_alarm_Due r.2 u0 wb0∧s = ([.v (.p (.bool r.1))],pts h [⟨l0,o0,wb0⟩])):=by
 refine .ev rfl (Sim.ext (slices_partialInsertionSortCmpFunc_alarm_Due_entry _ _ _ _ _ _ _ _) ?_)
 rw [p_slices_partialInsertionSortCmpFunc_alarm_Due_alarm_Table_Set_1]
 have S0 : Fm 141 h [⟨l0,o0,w0⟩] [] [] (List.replicate 141 []::h):=Fm.start1 ha0
 refine .as (slices_partialInsertionSortCmpFunc_alarm_Due_alarm_Table_Set_1_l0_ok ?_ ?_ k x1 x2 (IntKind.wrap .i64 (x1 + 1)) 0 x0 w0 hw0 (List.replicate 141 []::h) (S0.wk2 aN aN))
 ·intro zw0 w204 h205 H202 S203
  refine .ext (slices_partialInsertionSortCmpFunc_alarm_Due_a0_0 _ _ _ _) ?_
  exact .fin (S203.finN (lC (sB _).lv lN)) ⟨w204,h205,rfl⟩
 ·intro r206_8 zw0 w209 h210 H207 S208
  refine .ext (slices_partialInsertionSortCmpFunc_alarm_Due_a0_ret _ _ _ _ _) ?_
  exact .fin (S208.finN (lC (sB _).lv lN)) ⟨w209,h210,rfl⟩
end
end Go.Ev
namespace Go.Ev
open Go.Proofs
set_option linter.unusedVariables false
set_option linter.unusedSimpArgs false
set_option maxRecDepth 100000
noncomputable section
abbrev KT16:=Exit→Env→H→Option (List C × H)
variable (rec : CallF) (loop : LoopV) (σ : Stamp)
def slices_partitionCmpFunc_alarm_Due_c0 : Code:=(codeAt (bodyOf Try.f149) [1,1,1,0,0,0])
def slices_partitionCmpFunc_alarm_Due_l0 : Lv:=⟨12307,3072,[(0,12307)]⟩
def slices_partitionCmpFunc_alarm_Due_k0 : KT16:=(kBlock 0 (kSeq G rec loop (codeAt (bodyOf Try.f149) [1,1,1,1]) ⟨3072,3072,[]⟩ (1::1::1::0::σ) (finC G false Try.f149 (1::σ))))
def slices_partitionCmpFunc_alarm_Due_c1 : Code:=(codeAt (bodyOf Try.f149) [1,1,1,1,0,0,0])
def slices_partitionCmpFunc_alarm_Due_l1 : Lv:=⟨12307,3072,[(2,12307)]⟩
def slices_partitionCmpFunc_alarm_Due_k1 : KT16:=(kBlock 2 (kSeq G rec loop (codeAt (bodyOf Try.f149) [1,1,1,1,1]) ⟨3072,3072,[]⟩ (1::1::1::1::0::σ) (finC G false Try.f149 (1::σ))))
def slices_partitionCmpFunc_alarm_Due_c2 : Code:=(codeAt (bodyOf Try.f149) [1,1,1,1,1,1,1,1,1,0,0,0])
def slices_partitionCmpFunc_alarm_Due_l2 : Lv:=⟨8195,3072,[(4,8195)]⟩
def slices_partitionCmpFunc_alarm_Due_k2 : KT16:=(kBlock 4 (kSeq G rec loop (codeAt (bodyOf Try.f149) [1,1,1,1,1,1,1,1,1,1]) ⟨3072,3072,[]⟩ (1::1::1::1::1::1::1::1::1::0::σ) (finC G false Try.f149 (1::σ))))
def slices_partitionCmpFunc_alarm_Due_c3 : Code:=(codeAt (bodyOf Try.f149) [1,1,1,1,1,1,1,1,1,0,0,0,0,0,0,0])
def slices_partitionCmpFunc_alarm_Due_l3 : Lv:=⟨12307,3072,[(6,12307),(5,12307),(4,8195)]⟩
def slices_partitionCmpFunc_alarm_Due_k3 : Exit→Env→H→Option (Exit × Env × H):=(kBlock 6 (kSeq G rec loop (codeAt (bodyOf Try.f149) [1,1,1,1,1,1,1,1,1,0,0,0,0,1]) ⟨12307,3072,[(5,12307),(4,8195)]⟩ (0::σ) (kBlock 5 (kRound loop (codeAt (bodyOf Try.f149) [1,1,1,1,1,1,1,1,1,0,0,0]) ⟨8195,3072,[(4,8195)]⟩ σ))))
def slices_partitionCmpFunc_alarm_Due_c4 : Code:=(codeAt (bodyOf Try.f149) [1,1,1,1,1,1,1,1,1,0,0,0,0,1,0,0,0])
def slices_partitionCmpFunc_alarm_Due_l4 : Lv:=⟨12307,3072,[(8,12307),(5,12307),(4,8195)]⟩
def slices_partitionCmpFunc_alarm_Due_k4 : Exit→Env→H→Option (Exit × Env × H):=(kBlock 8 (kSeq G rec loop (codeAt (bodyOf Try.f149) [1,1,1,1,1,1,1,1,1,0,0,0,0,1,1]) ⟨12307,3072,[(5,12307),(4,8195)]⟩ (1::0::σ) (kBlock 5 (kRound loop (codeAt (bodyOf Try.f149) [1,1,1,1,1,1,1,1,1,0,0,0]) ⟨8195,3072,[(4,8195)]⟩ σ))))
theorem slices_partitionCmpFunc_alarm_Due_entry (x0 : V) (x1 : Int) (x2 : Int) (x3 : Int) (x4 : V) (h : H) : cvBody G rec loop 149 σ [x0,(.p (.int .i64 x1)),(.p (.int .i64 x2)),(.p (.int .i64 x3)),x4] h =
(iS 2 x0 x3).bind fun t1 =>
(ldO true 2 (List.replicate 178 []::h) t1).bind fun t2 =>
(iS 2 x0 x1).bind fun t3 =>
(ldO true 2 (List.replicate 178 []::h) t3).bind fun t4 =>
(iS 2 x0 x1).bind fun t5 =>
((stO false 2 (13::0::1::0::σ) (List.replicate 178 []::h) t5 t2).map fun h => (udf,h)).bind fun q6 =>
(iS 2 x0 x3).bind fun t7 =>
((stO false 2 (15::0::1::0::σ) q6.2 t7 t4).map fun h => (udf,h)).bind fun q8 =>
(loop slices_partitionCmpFunc_alarm_Due_c0 slices_partitionCmpFunc_alarm_Due_l0 (0::1::1::1::0::σ) (envL [(0,x0),(1,(.p (.int .i64 x1))),(4,x4),(12,(.p (.int .i64 (IntKind.wrap .i64 (x1 + 1))))),(13,(.p (.int .i64 (IntKind.wrap .i64 (x2 - 1)))))]) q8.2).bind fun r9 => slices_partitionCmpFunc_alarm_Due_k0 rec loop σ r9.1 r9.2.1 r9.2.2:=by kernel_rfl
theorem slices_partitionCmpFunc_alarm_Due_r0 (x0 : V) (x1 : Int) (x4 : V) (x12 : Int) (x13 : Int) (h : H) : cvRound G rec loop slices_partitionCmpFunc_alarm_Due_c0 slices_partitionCmpFunc_alarm_Due_l0 σ (envL [(0,x0),(1,(.p (.int .i64 x1))),(4,x4),(12,(.p (.int .i64 x12))),(13,(.p (.int .i64 x13)))]) h =
(bif decide (x12 ≤ x13) then ((iS 2 x0 x12).bind fun t10 =>
(ldO true 2 h t10).bind fun t11 =>
(iS 2 x0 x1).bind fun t12 =>
(ldO true 2 h t12).bind fun t13 =>
(cloO rec x4 (13::0::0::0::σ) [t11,t13] h (some 45)).bind fun q14 =>
(castI .i64 q14.1).bind fun n15 =>
some ((.p (.bool (decide (n15 < 0)))),q14.2)) else (some ((.p (.bool false)),h))).bind fun q16 =>
(asB q16.1).bind fun b17 =>
bif b17 then (
loop slices_partitionCmpFunc_alarm_Due_c0 slices_partitionCmpFunc_alarm_Due_l0 (1::σ) (envL [(0,x0),(1,(.p (.int .i64 x1))),(4,x4),(12,(.p (.int .i64 (IntKind.wrap .i64 (x12 + 1))))),(13,(.p (.int .i64 x13)))]) q16.2)
else (
some ((.exit 0),(envL [(0,x0),(1,(.p (.int .i64 x1))),(4,x4),(12,(.p (.int .i64 x12))),(13,(.p (.int .i64 x13)))]),q16.2)):=by kernel_rfl
theorem slices_partitionCmpFunc_alarm_Due_a0_0 (x0 : V) (x1 : Int) (x4 : V) (x12 : Int) (x13 : Int) (h : H) : slices_partitionCmpFunc_alarm_Due_k0 rec loop σ (.exit 0) (envL [(0,x0),(1,(.p (.int .i64 x1))),(4,x4),(12,(.p (.int .i64 x12))),(13,(.p (.int .i64 x13)))]) h =
(loop slices_partitionCmpFunc_alarm_Due_c1 slices_partitionCmpFunc_alarm_Due_l1 (0::1::1::1::1::0::σ) (envL [(0,x0),(1,(.p (.int .i64 x1))),(4,x4),(12,(.p (.int .i64 x12))),(13,(.p (.int .i64 x13)))]) h).bind fun r18 => slices_partitionCmpFunc_alarm_Due_k1 rec loop σ r18.1 r18.2.1 r18.2.2:=by kernel_rfl
theorem slices_partitionCmpFunc_alarm_Due_r1 (x0 : V) (x1 : Int) (x4 : V) (x12 : Int) (x13 : Int) (h : H) : cvRound G rec loop slices_partitionCmpFunc_alarm_Due_c1 slices_partitionCmpFunc_alarm_Due_l1 σ (envL [(0,x0),(1,(.p (.int .i64 x1))),(4,x4),(12,(.p (.int .i64 x12))),(13,(.p (.int .i64 x13)))]) h =
(bif decide (x12 ≤ x13) then ((iS 2 x0 x13).bind fun t19 =>
(ldO true 2 h t19).bind fun t20 =>
(iS 2 x0 x1).bind fun t21 =>
(ldO true 2 h t21).bind fun t22 =>
(cloO rec x4 (13::0::0::0::σ) [t20,t22] h (some 63)).bind fun q23 =>
(castI .i64 q23.1).bind fun n24 =>
some ((.p (.bool (!(decide (n24 < 0))))),q23.2)) else (some ((.p (.bool false)),h))).bind fun q25 =>
(asB q25.1).bind fun b26 =>
bif b26 then (
loop slices_partitionCmpFunc_alarm_Due_c1 slices_partitionCmpFunc_alarm_Due_l1 (1::σ) (envL [(0,x0),(1,(.p (.int .i64 x1))),(4,x4),(12,(.p (.int .i64 x12))),(13,(.p (.int .i64 (IntKind.wrap .i64 (x13 - 1)))))]) q25.2)
else (
some ((.exit 2),(envL [(0,x0),(1,(.p (.int .i64 x1))),(4,x4),(12,(.p (.int .i64 x12))),(13,(.p (.int .i64 x13)))]),q25.2)):=by kernel_rfl
theorem slices_partitionCmpFunc_alarm_Due_a1_2 (x0 : V) (x1 : Int) (x4 : V) (x12 : Int) (x13 : Int) (h : H) : slices_partitionCmpFunc_alarm_Due_k1 rec loop σ (.exit 2) (envL [(0,x0),(1,(.p (.int .i64 x1))),(4,x4),(12,(.p (.int .i64 x12))),(13,(.p (.int .i64 x13)))]) h =
bif decide (x12 > x13) then (
(iS 2 x0 x1).bind fun t27 =>
(ldO true 2 h t27).bind fun t28 =>
(iS 2 x0 x13).bind fun t29 =>
(ldO true 2 h t29).bind fun t30 =>
(iS 2 x0 x13).bind fun t31 =>
((stO false 2 (13::0::1::0::1::1::1::1::1::0::σ) h t31 t28).map fun h => (udf,h)).bind fun q32 =>
(iS 2 x0 x1).bind fun t33 =>
((stO false 2 (15::0::1::0::1::1::1::1::1::0::σ) q32.2 t33 t30).map fun h => (udf,h)).bind fun q34 =>
fin false σ q34.2 [(.p (.int .i64 x13)),(.p (.bool true))])
else (
(iS 2 x0 x13).bind fun t35 =>
(ldO true 2 h t35).bind fun t36 =>
(iS 2 x0 x12).bind fun t37 =>
(ldO true 2 h t37).bind fun t38 =>
(iS 2 x0 x12).bind fun t39 =>
((stO false 2 (13::0::1::1::1::1::1::1::0::σ) h t39 t36).map fun h => (udf,h)).bind fun q40 =>
(iS 2 x0 x13).bind fun t41 =>
((stO false 2 (15::0::1::1::1::1::1::1::0::σ) q40.2 t41 t38).map fun h => (udf,h)).bind fun q42 =>
(loop slices_partitionCmpFunc_alarm_Due_c2 slices_partitionCmpFunc_alarm_Due_l2 (0::1::1::1::1::1::1::1::1::1::0::σ) (envL [(0,x0),(1,(.p (.int .i64 x1))),(4,x4),(12,(.p (.int .i64 (IntKind.wrap .i64 (x12 + 1))))),(13,(.p (.int .i64 (IntKind.wrap .i64 (x13 - 1)))))]) q42.2).bind fun r43 => slices_partitionCmpFunc_alarm_Due_k2 rec loop σ r43.1 r43.2.1 r43.2.2):=by kernel_rfl
theorem slices_partitionCmpFunc_alarm_Due_r2 (x0 : V) (x1 : Int) (x4 : V) (x12 : Int) (x13 : Int) (h : H) : cvRound G rec loop slices_partitionCmpFunc_alarm_Due_c2 slices_partitionCmpFunc_alarm_Due_l2 σ (envL [(0,x0),(1,(.p (.int .i64 x1))),(4,x4),(12,(.p (.int .i64 x12))),(13,(.p (.int .i64 x13)))]) h =
(loop slices_partitionCmpFunc_alarm_Due_c3 slices_partitionCmpFunc_alarm_Due_l3 (0::0::σ) (envL [(0,x0),(1,(.p (.int .i64 x1))),(4,x4),(12,(.p (.int .i64 x12))),(13,(.p (.int .i64 x13)))]) h).bind fun r44 => slices_partitionCmpFunc_alarm_Due_k3 rec loop σ r44.1 r44.2.1 r44.2.2:=by kernel_rfl
theorem slices_partitionCmpFunc_alarm_Due_a2_4 (x0 : V) (x1 : Int) (x13 : Int) (h : H) : slices_partitionCmpFunc_alarm_Due_k2 rec loop σ (.exit 4) (envL [(0,x0),(1,(.p (.int .i64 x1))),(13,(.p (.int .i64 x13)))]) h =
(iS 2 x0 x1).bind fun t45 =>
(ldO true 2 h t45).bind fun t46 =>
(iS 2 x0 x13).bind fun t47 =>
(ldO true 2 h t47).bind fun t48 =>
(iS 2 x0 x13).bind fun t49 =>
((stO false 2 (13::0::1::1::1::1::1::1::1::1::1::1::0::σ) h t49 t46).map fun h => (udf,h)).bind fun q50 =>
(iS 2 x0 x1).bind fun t51 =>
((stO false 2 (15::0::1::1::1::1::1::1::1::1::1::1::0::σ) q50.2 t51 t48).map fun h => (udf,h)).bind fun q52 =>
fin false σ q52.2 [(.p (.int .i64 x13)),(.p (.bool false))]:=by kernel_rfl
theorem slices_partitionCmpFunc_alarm_Due_r3 (x0 : V) (x1 : Int) (x4 : V) (x12 : Int) (x13 : Int) (h : H) : cvRound G rec loop slices_partitionCmpFunc_alarm_Due_c3 slices_partitionCmpFunc_alarm_Due_l3 σ (envL [(0,x0),(1,(.p (.int .i64 x1))),(4,x4),(12,(.p (.int .i64 x12))),(13,(.p (.int .i64 x13)))]) h =
(bif decide (x12 ≤ x13) then ((iS 2 x0 x12).bind fun t53 =>
(ldO true 2 h t53).bind fun t54 =>
(iS 2 x0 x1).bind fun t55 =>
(ldO true 2 h t55).bind fun t56 =>
(cloO rec x4 (13::0::0::0::σ) [t54,t56] h (some 118)).bind fun q57 =>
(castI .i64 q57.1).bind fun n58 =>
some ((.p (.bool (decide (n58 < 0)))),q57.2)) else (some ((.p (.bool false)),h))).bind fun q59 =>
(asB q59.1).bind fun b60 =>
bif b60 then (
loop slices_partitionCmpFunc_alarm_Due_c3 slices_partitionCmpFunc_alarm_Due_l3 (1::σ) (envL [(0,x0),(1,(.p (.int .i64 x1))),(4,x4),(12,(.p (.int .i64 (IntKind.wrap .i64 (x12 + 1))))),(13,(.p (.int .i64 x13)))]) q59.2)
else (
some ((.exit 6),(envL [(0,x0),(1,(.p (.int .i64 x1))),(4,x4),(12,(.p (.int .i64 x12))),(13,(.p (.int .i64 x13)))]),q59.2)):=by kernel_rfl
theorem slices_partitionCmpFunc_alarm_Due_a3_6 (x0 : V) (x1 : Int) (x4 : V) (x12 : Int) (x13 : Int) (h : H) : slices_partitionCmpFunc_alarm_Due_k3 rec loop σ (.exit 6) (envL [(0,x0),(1,(.p (.int .i64 x1))),(4,x4),(12,(.p (.int .i64 x12))),(13,(.p (.int .i64 x13)))]) h =
(loop slices_partitionCmpFunc_alarm_Due_c4 slices_partitionCmpFunc_alarm_Due_l4 (0::1::0::σ) (envL [(0,x0),(1,(.p (.int .i64 x1))),(4,x4),(12,(.p (.int .i64 x12))),(13,(.p (.int .i64 x13)))]) h).bind fun r61 => slices_partitionCmpFunc_alarm_Due_k4 rec loop σ r61.1 r61.2.1 r61.2.2:=by kernel_rfl
theorem slices_partitionCmpFunc_alarm_Due_r4 (x0 : V) (x1 : Int) (x4 : V) (x12 : Int) (x13 : Int) (h : H) : cvRound G rec loop slices_partitionCmpFunc_alarm_Due_c4 slices_partitionCmpFunc_alarm_Due_l4 σ (envL [(0,x0),(1,(.p (.int .i64 x1))),(4,x4),(12,(.p (.int .i64 x12))),(13,(.p (.int .i64 x13)))]) h =
(bif decide (x12 ≤ x13) then ((iS 2 x0 x13).bind fun t62 =>
(ldO true 2 h t62).bind fun t63 =>
(iS 2 x0 x1).bind fun t64 =>
(ldO true 2 h t64).bind fun t65 =>
(cloO rec x4 (13::0::0::0::σ) [t63,t65] h (some 136)).bind fun q66 =>
(castI .i64 q66.1).bind fun n67 =>
some ((.p (.bool (!(decide (n67 < 0))))),q66.2)) else (some ((.p (.bool false)),h))).bind fun q68 =>
(asB q68.1).bind fun b69 =>
bif b69 then (
loop slices_partitionCmpFunc_alarm_Due_c4 slices_partitionCmpFunc_alarm_Due_l4 (1::σ) (envL [(0,x0),(1,(.p (.int .i64 x1))),(4,x4),(12,(.p (.int .i64 x12))),(13,(.p (.int .i64 (IntKind.wrap .i64 (x13 - 1)))))]) q68.2)
else (
some ((.exit 8),(envL [(0,x0),(1,(.p (.int .i64 x1))),(4,x4),(12,(.p (.int .i64 x12))),(13,(.p (.int .i64 x13)))]),q68.2)):=by kernel_rfl
theorem slices_partitionCmpFunc_alarm_Due_a4_8 (x0 : V) (x1 : Int) (x4 : V) (x12 : Int) (x13 : Int) (h : H) : slices_partitionCmpFunc_alarm_Due_k4 rec loop σ (.exit 8) (envL [(0,x0),(1,(.p (.int .i64 x1))),(4,x4),(12,(.p (.int .i64 x12))),(13,(.p (.int .i64 x13)))]) h =
bif decide (x12 > x13) then (
some ((.exit 4),(envL [(0,x0),(1,(.p (.int .i64 x1))),(13,(.p (.int .i64 x13)))]),h))
else (
(iS 2 x0 x13).bind fun t70 =>
(ldO true 2 h t70).bind fun t71 =>
(iS 2 x0 x12).bind fun t72 =>
(ldO true 2 h t72).bind fun t73 =>
(iS 2 x0 x12).bind fun t74 =>
((stO false 2 (13::0::1::1::1::0::σ) h t74 t71).map fun h => (udf,h)).bind fun q75 =>
(iS 2 x0 x13).bind fun t76 =>
((stO false 2 (15::0::1::1::1::0::σ) q75.2 t76 t73).map fun h => (udf,h)).bind fun q77 =>
loop slices_partitionCmpFunc_alarm_Due_c2 slices_partitionCmpFunc_alarm_Due_l2 (1::σ) (envL [(0,x0),(1,(.p (.int .i64 x1))),(4,x4),(12,(.p (.int .i64 (IntKind.wrap .i64 (x12 + 1))))),(13,(.p (.int .i64 (IntKind.wrap .i64 (x13 - 1)))))]) q77.2):=by kernel_rfl
end
end Go.Ev
namespace Go.Ev
open Go.Proofs
set_option linter.unusedVariables false
set_option linter.unusedSimpArgs false
set_option maxRecDepth 100000
section
variable {β α : Type} {Q : β→α→Prop} {K : Exit × Env × H→Option α}
def p_slices_partitionCmpFunc_alarm_Due_alarm_Table_Set_1_l0 {β : Type} (k : Nat) (kE0 : Int→Int→Int→(List T_alarm_Due)→Option β) (x1 : Int) (x12 : Int) (x13 : Int) (zw0 : (List T_alarm_Due)) : Option β:=match k with
| 0 => none
| k + 1 =>
(bif decide (x12 ≤ x13) then ((ix zw0 x12).bind fun a33 =>
(ix zw0 x1).bind fun a38 =>
(p_alarm_Table_Set_1 k a33 a38).bind fun r43 =>
some (decide (r43 < 0))) else (some false)).bind fun b48 =>
bif b48 then (
p_slices_partitionCmpFunc_alarm_Due_alarm_Table_Set_1_l0 k kE0 x1 (IntKind.wrap .i64 (x12 + 1)) x13 zw0)
else (
kE0 x1 x12 x13 zw0)
def p_slices_partitionCmpFunc_alarm_Due_alarm_Table_Set_1_l1 {β : Type} (k : Nat) (kE0 : Int→Int→Int→(List T_alarm_Due)→Option β) (x1 : Int) (x12 : Int) (x13 : Int) (zw0 : (List T_alarm_Due)) : Option β:=match k with
| 0 => none
| k + 1 =>
(bif decide (x12 ≤ x13) then ((ix zw0 x13).bind fun a66 =>
(ix zw0 x1).bind fun a71 =>
(p_alarm_Table_Set_1 k a66 a71).bind fun r76 =>
some (!(decide (r76 < 0)))) else (some false)).bind fun b81 =>
bif b81 then (
p_slices_partitionCmpFunc_alarm_Due_alarm_Table_Set_1_l1 k kE0 x1 x12 (IntKind.wrap .i64 (x13 - 1)) zw0)
else (
kE0 x1 x12 x13 zw0)
def p_slices_partitionCmpFunc_alarm_Due_alarm_Table_Set_1_l3 {β : Type} (k : Nat) (kE0 : Int→Int→Int→(List T_alarm_Due)→Option β) (x1 : Int) (x12 : Int) (x13 : Int) (zw0 : (List T_alarm_Due)) : Option β:=match k with
| 0 => none
| k + 1 =>
(bif decide (x12 ≤ x13) then ((ix zw0 x12).bind fun a160 =>
(ix zw0 x1).bind fun a165 =>
(p_alarm_Table_Set_1 k a160 a165).bind fun r170 =>
some (decide (r170 < 0))) else (some false)).bind fun b175 =>
bif b175 then (
p_slices_partitionCmpFunc_alarm_Due_alarm_Table_Set_1_l3 k kE0 x1 (IntKind.wrap .i64 (x12 + 1)) x13 zw0)
else (
kE0 x1 x12 x13 zw0)
def p_slices_partitionCmpFunc_alarm_Due_alarm_Table_Set_1_l4 {β : Type} (k : Nat) (kE0 : Int→Int→Int→(List T_alarm_Due)→Option β) (x1 : Int) (x12 : Int) (x13 : Int) (zw0 : (List T_alarm_Due)) : Option β:=match k with
| 0 => none
| k + 1 =>
(bif decide (x12 ≤ x13) then ((ix zw0 x13).bind fun a193 =>
(ix zw0 x1).bind fun a198 =>
(p_alarm_Table_Set_1 k a193 a198).bind fun r203 =>
some (!(decide (r203 < 0)))) else (some false)).bind fun b208 =>
bif b208 then (
p_slices_partitionCmpFunc_alarm_Due_alarm_Table_Set_1_l4 k kE0 x1 x12 (IntKind.wrap .i64 (x13 - 1)) zw0)
else (
kE0 x1 x12 x13 zw0)
def p_slices_partitionCmpFunc_alarm_Due_alarm_Table_Set_1_l2 {β : Type} (k : Nat) (kE0 : Int→Int→(List T_alarm_Due)→Option β) (x1 : Int) (x12 : Int) (x13 : Int) (zw0 : (List T_alarm_Due)) : Option β:=match k with
| 0 => none
| k + 1 =>
p_slices_partitionCmpFunc_alarm_Due_alarm_Table_Set_1_l3 k (fun r184_1 r184_12 r184_13 zw0 =>
p_slices_partitionCmpFunc_alarm_Due_alarm_Table_Set_1_l4 k (fun r217_1 r217_12 r217_13 zw0 =>
bif decide (r217_12 > r217_13) then (
kE0 r217_1 r217_13 zw0)
else (
(ix zw0 r217_13).bind fun a223 =>
(ix zw0 r217_12).bind fun a228 =>
(ix zw0 r217_12).bind fun a233 =>
(stx zw0 r217_12 a223).bind fun a238 =>
(ix a238 r217_13).bind fun a242 =>
(stx a238 r217_13 a228).bind fun a247 =>
p_slices_partitionCmpFunc_alarm_Due_alarm_Table_Set_1_l2 k kE0 r217_1 (IntKind.wrap .i64 (r217_12 + 1)) (IntKind.wrap .i64 (r217_13 - 1)) a247)) r184_1 r184_12 r184_13 zw0) x1 x12 x13 zw0
def p_slices_partitionCmpFunc_alarm_Due_alarm_Table_Set_1 (k : Nat) (x0 : (List T_alarm_Due)) (x1 : Int) (x2 : Int) (x3 : Int) : Option (Int × Bool × (List T_alarm_Due)) :=
(ix x0 x3).bind fun a1 =>
(ix x0 x1).bind fun a6 =>
(ix x0 x1).bind fun a11 =>
(stx x0 x1 a1).bind fun a16 =>
(ix a16 x3).bind fun a20 =>
(stx a16 x3 a6).bind fun a25 =>
p_slices_partitionCmpFunc_alarm_Due_alarm_Table_Set_1_l0 k (fun r57_1 r57_12 r57_13 zw0 =>
p_slices_partitionCmpFunc_alarm_Due_alarm_Table_Set_1_l1 k (fun r90_1 r90_12 r90_13 zw0 =>
bif decide (r90_12 > r90_13) then (
(ix zw0 r90_1).bind fun a96 =>
(ix zw0 r90_13).bind fun a101 =>
(ix zw0 r90_13).bind fun a106 =>
(stx zw0 r90_13 a96).bind fun a111 =>
(ix a111 r90_1).bind fun a115 =>
(stx a111 r90_1 a101).bind fun a120 =>
some (r90_13,true,a120))
else (
(ix zw0 r90_13).bind fun a124 =>
(ix zw0 r90_12).bind fun a129 =>
(ix zw0 r90_12).bind fun a134 =>
(stx zw0 r90_12 a124).bind fun a139 =>
(ix a139 r90_13).bind fun a143 =>
(stx a139 r90_13 a129).bind fun a148 =>
p_slices_partitionCmpFunc_alarm_Due_alarm_Table_Set_1_l2 k (fun r255_1 r255_13 zw0 =>
(ix zw0 r255_1).bind fun a260 =>
(ix zw0 r255_13).bind fun a265 =>
(ix zw0 r255_13).bind fun a270 =>
(stx zw0 r255_13 a260).bind fun a275 =>
(ix a275 r255_1).bind fun a279 =>
(stx a275 r255_1 a265).bind fun a284 =>
some (r255_13,false,a284)) r90_1 (IntKind.wrap .i64 (r90_12 + 1)) (IntKind.wrap .i64 (r90_13 - 1)) a148)) r57_1 r57_12 r57_13 zw0) x1 (IntKind.wrap .i64 (x1 + 1)) (IntKind.wrap .i64 (x2 - 1)) a25
theorem slices_partitionCmpFunc_alarm_Due_alarm_Table_Set_1_l0_ok {h : H} {l0 : Loc} {o0 : Nat} {u0 : V} {kE0 : Int→Int→Int→(List T_alarm_Due)→Option β} (hE0 : ∀ (q1 : Int) (q12 : Int) (q13 : Int) (zw0 : (List T_alarm_Due)) (w55 : List C) (h56 : WL l0 o0 dT_alarm_Due zw0 u0 w55) (H53 : Go.Ev.H) (_ : Fm 178 h [⟨l0,o0,w55⟩] [] [] H53),Sim (kE0 q1 q12 q13 zw0) (K ((.exit 0),(envL [(0,u0),(1,(.p (.int .i64 q1))),(4,(.clo 47 [])),(12,(.p (.int .i64 q12))),(13,(.p (.int .i64 q13)))]),H53)) Q) (k : Nat) : ∀ (x1 : Int) (x12 : Int) (x13 : Int) (zw0 : (List T_alarm_Due)) (w31 : List C) (h32 : WL l0 o0 dT_alarm_Due zw0 u0 w31) (H29 : Go.Ev.H) (_ : Fm 178 h [⟨l0,o0,w31⟩] [] [] H29) {σ : Stamp},Sim (p_slices_partitionCmpFunc_alarm_Due_alarm_Table_Set_1_l0 k kE0 x1 x12 x13 zw0) ((cvL G X0 slices_partitionCmpFunc_alarm_Due_c0 slices_partitionCmpFunc_alarm_Due_l0 σ (envL [(0,u0),(1,(.p (.int .i64 x1))),(4,(.clo 47 [])),(12,(.p (.int .i64 x12))),(13,(.p (.int .i64 x13)))]) H29).bind K) Q:=by
 induction k with
 | zero => intros; exact .no
 | succ k ih =>
  intro x1 x12 x13 zw0 w31 h32 H29 S30 σ
  rw [p_slices_partitionCmpFunc_alarm_Due_alarm_Table_Set_1_l0]
  refine .round (Sim.ext (slices_partitionCmpFunc_alarm_Due_r0 _ _ _ _ _ _ _ _ _) ?_)
  refine .ch (P:=fun r y => (.p (.bool r),H29) = y) ?_ (fun b48 y49 h50 h51 => ?_)
  ·refine .cq ?_ ?_
   ·refine .bd fun a33 h34 => ?_
    refine .op ((S30.slW (i:=0) rfl h32).iS h34 rfl) ?_
    obtain ⟨w36,h37,hE35⟩:=(S30.slW (i:=0) rfl h32).el h34 rfl
    obtain rfl:=dT_alarm_Due.inv h37
    refine .op (hE35.all (by simp)) ?_
    refine .bd fun a38 h39 => ?_
    refine .op ((S30.slW (i:=0) rfl h32).iS h39 rfl) ?_
    obtain ⟨w41,h42,hE40⟩:=(S30.slW (i:=0) rfl h32).el h39 rfl
    obtain rfl:=dT_alarm_Due.inv h42
    refine .op (hE40.all (by simp)) ?_
    refine .clo ?_
    refine .call (alarm_Table_Set_1_ok k a33 (show dT_alarm_Due.R a33 [.p (.int .i64 a33.f_At),.p (.int .u64 a33.Key)] from (dT_alarm_Due.mk)) a38 (show dT_alarm_Due.R a38 [.p (.int .i64 a38.f_At),.p (.int .u64 a38.Key)] from (dT_alarm_Due.mk))) fun r43 cs44 H45 h46 q47 => ?_
    cases q47
    refine .ci ?_
    exact .ret rfl rfl
   ·exact .ret rfl rfl
  subst h51
  refine .ab ?_
  refine .cq ?_ ?_
  ·exact ih x1 (IntKind.wrap .i64 (x12 + 1)) x13 zw0 w31 h32 H29 (S30.wk2 aN aN)
  exact hE0 x1 x12 x13 zw0 w31 h32 H29 (S30.wk2 aN aN)
theorem slices_partitionCmpFunc_alarm_Due_alarm_Table_Set_1_l1_ok {h : H} {l0 : Loc} {o0 : Nat} {u0 : V} {kE0 : Int→Int→Int→(List T_alarm_Due)→Option β} (hE0 : ∀ (q1 : Int) (q12 : Int) (q13 : Int) (zw0 : (List T_alarm_Due)) (w88 : List C) (h89 : WL l0 o0 dT_alarm_Due zw0 u0 w88) (H86 : Go.Ev.H) (_ : Fm 178 h [⟨l0,o0,w88⟩] [] [] H86),Sim (kE0 q1 q12 q13 zw0) (K ((.exit 2),(envL [(0,u0),(1,(.p (.int .i64 q1))),(4,(.clo 47 [])),(12,(.p (.int .i64 q12))),(13,(.p (.int .i64 q13)))]),H86)) Q) (k : Nat) : ∀ (x1 : Int) (x12 : Int) (x13 : Int) (zw0 : (List T_alarm_Due)) (w64 : List C) (h65 : WL l0 o0 dT_alarm_Due zw0 u0 w64) (H62 : Go.Ev.H) (_ : Fm 178 h [⟨l0,o0,w64⟩] [] [] H62) {σ : Stamp},Sim (p_slices_partitionCmpFunc_alarm_Due_alarm_Table_Set_1_l1 k kE0 x1 x12 x13 zw0) ((cvL G X0 slices_partitionCmpFunc_alarm_Due_c1 slices_partitionCmpFunc_alarm_Due_l1 σ (envL [(0,u0),(1,(.p (.int .i64 x1))),(4,(.clo 47 [])),(12,(.p (.int .i64 x12))),(13,(.p (.int .i64 x13)))]) H62).bind K) Q:=by
 induction k with
 | zero => intros; exact .no
 | succ k ih =>
  intro x1 x12 x13 zw0 w64 h65 H62 S63 σ
  rw [p_slices_partitionCmpFunc_alarm_Due_alarm_Table_Set_1_l1]
  refine .round (Sim.ext (slices_partitionCmpFunc_alarm_Due_r1 _ _ _ _ _ _ _ _ _) ?_)
  refine .ch (P:=fun r y => (.p (.bool r),H62) = y) ?_ (fun b81 y82 h83 h84 => ?_)
  ·refine .cq ?_ ?_
   ·refine .bd fun a66 h67 => ?_
    refine .op ((S63.slW (i:=0) rfl h65).iS h67 rfl) ?_
    obtain ⟨w69,h70,hE68⟩:=(S63.slW (i:=0) rfl h65).el h67 rfl
    obtain rfl:=dT_alarm_Due.inv h70
    refine .op (hE68.all (by simp)) ?_
    refine .bd fun a71 h72 => ?_
    refine .op ((S63.slW (i:=0) rfl h65).iS h72 rfl) ?_
    obtain ⟨w74,h75,hE73⟩:=(S63.slW (i:=0) rfl h65).el h72 rfl
    obtain rfl:=dT_alarm_Due.inv h75
    refine .op (hE73.all (by simp)) ?_
    refine .clo ?_
    refine .call (alarm_Table_Set_1_ok k a66 (show dT_alarm_Due.R a66 [.p (.int .i64 a66.f_At),.p (.int .u64 a66.Key)] from (dT_alarm_Due.mk)) a71 (show dT_alarm_Due.R a71 [.p (.int .i64 a71.f_At),.p (.int .u64 a71.Key)] from (dT_alarm_Due.mk))) fun r76 cs77 H78 h79 q80 => ?_
    cases q80
    refine .ci ?_
    exact .ret rfl rfl
   ·exact .ret rfl rfl
  subst h84
  refine .ab ?_
  refine .cq ?_ ?_
  ·exact ih x1 x12 (IntKind.wrap .i64 (x13 - 1)) zw0 w64 h65 H62 (S63.wk2 aN aN)
  exact hE0 x1 x12 x13 zw0 w64 h65 H62 (S63.wk2 aN aN)
theorem slices_partitionCmpFunc_alarm_Due_alarm_Table_Set_1_l3_ok {h : H} {l0 : Loc} {o0 : Nat} {u0 : V} {kE0 : Int→Int→Int→(List T_alarm_Due)→Option β} (hE0 : ∀ (q1 : Int) (q12 : Int) (q13 : Int) (zw0 : (List T_alarm_Due)) (w182 : List C) (h183 : WL l0 o0 dT_alarm_Due zw0 u0 w182) (H180 : Go.Ev.H) (_ : Fm 178 h [⟨l0,o0,w182⟩] [] [] H180),Sim (kE0 q1 q12 q13 zw0) (K ((.exit 6),(envL [(0,u0),(1,(.p (.int .i64 q1))),(4,(.clo 47 [])),(12,(.p (.int .i64 q12))),(13,(.p (.int .i64 q13)))]),H180)) Q) (k : Nat) : ∀ (x1 : Int) (x12 : Int) (x13 : Int) (zw0 : (List T_alarm_Due)) (w158 : List C) (h159 : WL l0 o0 dT_alarm_Due zw0 u0 w158) (H156 : Go.Ev.H) (_ : Fm 178 h [⟨l0,o0,w158⟩] [] [] H156) {σ : Stamp},Sim (p_slices_partitionCmpFunc_alarm_Due_alarm_Table_Set_1_l3 k kE0 x1 x12 x13 zw0) ((cvL G X0 slices_partitionCmpFunc_alarm_Due_c3 slices_partitionCmpFunc_alarm_Due_l3 σ (envL [(0,u0),(1,(.p (.int .i64 x1))),(4,(.clo 47 [])),(12,(.p (.int .i64 x12))),(13,(.p (.int .i64 x13)))]) H156).bind K) Q:=by
 induction k with
 | zero => intros; exact .no
 | succ k ih =>
  intro x1 x12 x13 zw0 w158 h159 H156 S157 σ
  rw [p_slices_partitionCmpFunc_alarm_Due_alarm_Table_Set_1_l3]
  refine .round (Sim.ext (slices_partitionCmpFunc_alarm_Due_r3 _ _ _ _ _ _ _ _ _) ?_)
  refine .ch (P:=fun r y => (.p (.bool r),H156) = y) ?_ (fun b175 y176 h177 h178 => ?_)
  ·refine .cq ?_ ?_
   ·refine .bd fun a160 h161 => ?_
    refine .op ((S157.slW (i:=0) rfl h159).iS h161 rfl) ?_
    obtain ⟨w163,h164,hE162⟩:=(S157.slW (i:=0) rfl h159).el h161 rfl
    obtain rfl:=dT_alarm_Due.inv h164
    refine .op (hE162.all (by simp)) ?_
    refine .bd fun a165 h166 => ?_
    refine .op ((S157.slW (i:=0) rfl h159).iS h166 rfl) ?_
    obtain ⟨w168,h169,hE167⟩:=(S157.slW (i:=0) rfl h159).el h166 rfl
    obtain rfl:=dT_alarm_Due.inv h169
    refine .op (hE167.all (by simp)) ?_
    refine .clo ?_
    refine .call (alarm_Table_Set_1_ok k a160 (show dT_alarm_Due.R a160 [.p (.int .i64 a160.f_At),.p (.int .u64 a160.Key)] from (dT_alarm_Due.mk)) a165 (show dT_alarm_Due.R a165 [.p (.int .i64 a165.f_At),.p (.int .u64 a165.Key)] from (dT_alarm_Due.mk))) fun r170 cs171 H172 h173 q174 => ?_
    cases q174
    refine .ci ?_
    exact .ret rfl rfl
   ·exact .ret rfl rfl
  subst h178
  refine .ab ?_
  refine .cq ?_ ?_
  ·exact ih x1 (IntKind.wrap .i64 (x12 + 1)) x13 zw0 w158 h159 H156 (S157.wk2 aN aN)
  exact hE0 x1 x12 x13 zw0 w158 h159 H156 (S157.wk2 aN aN)
theorem slices_partitionCmpFunc_alarm_Due_alarm_Table_Set_1_l4_ok {h : H} {l0 : Loc} {o0 : Nat} {u0 : V} {kE0 : Int→Int→Int→(List T_alarm_Due)→Option β} (hE0 : ∀ (q1 : Int) (q12 : Int) (q13 : Int) (zw0 : (List T_alarm_Due)) (w215 : List C) (h216 : WL l0 o0 dT_alarm_Due zw0 u0 w215) (H213 : Go.Ev.H) (_ : Fm 178 h [⟨l0,o0,w215⟩] [] [] H213),Sim (kE0 q1 q12 q13 zw0) (K ((.exit 8),(envL [(0,u0),(1,(.p (.int .i64 q1))),(4,(.clo 47 [])),(12,(.p (.int .i64 q12))),(13,(.p (.int .i64 q13)))]),H213)) Q) (k : Nat) : ∀ (x1 : Int) (x12 : Int) (x13 : Int) (zw0 : (List T_alarm_Due)) (w191 : List C) (h192 : WL l0 o0 dT_alarm_Due zw0 u0 w191) (H189 : Go.Ev.H) (_ : Fm 178 h [⟨l0,o0,w191⟩] [] [] H189) {σ : Stamp},Sim (p_slices_partitionCmpFunc_alarm_Due_alarm_Table_Set_1_l4 k kE0 x1 x12 x13 zw0) ((cvL G X0 slices_partitionCmpFunc_alarm_Due_c4 slices_partitionCmpFunc_alarm_Due_l4 σ (envL [(0,u0),(1,(.p (.int .i64 x1))),(4,(.clo 47 [])),(12,(.p (.int .i64 x12))),(13,(.p (.int .i64 x13)))]) H189).bind K) Q:=by
 induction k with
 | zero => intros; exact .no
 | succ k ih =>
  intro x1 x12 x13 zw0 w191 h192 H189 S190 σ
  rw [p_slices_partitionCmpFunc_alarm_Due_alarm_Table_Set_1_l4]
  refine .round (Sim.ext (slices_partitionCmpFunc_alarm_Due_r4 _ _ _ _ _ _ _ _ _) ?_)
  refine .ch (P:=fun r y => (.p (.bool r),H189) = y) ?_ (fun b208 y209 h210 h211 => ?_)
  ·refine .cq ?_ ?_
   ·refine .bd fun a193 h194 => ?_
    refine .op ((S190.slW (i:=0) rfl h192).iS h194 rfl) ?_
    obtain ⟨w196,h197,hE195⟩:=(S190.slW (i:=0) rfl h192).el h194 rfl
    obtain rfl:=dT_alarm_Due.inv h197
    refine .op (hE195.all (by simp)) ?_
    refine .bd fun a198 h199 => ?_
    refine .op ((S190.slW (i:=0) rfl h192).iS h199 rfl) ?_
    obtain ⟨w201,h202,hE200⟩:=(S190.slW (i:=0) rfl h192).el h199 rfl
    obtain rfl:=dT_alarm_Due.inv h202
    refine .op (hE200.all (by simp)) ?_
    refine .clo ?_
    refine .call (alarm_Table_Set_1_ok k a193 (show dT_alarm_Due.R a193 [.p (.int .i64 a193.f_At),.p (.int .u64 a193.Key)] from (dT_alarm_Due.mk)) a198 (show dT_alarm_Due.R a198 [.p (.int .i64 a198.f_At),.p (.int .u64 a198.Key)] from (dT_alarm_Due.mk))) fun r203 cs204 H205 h206 q207 => ?_
    cases q207
    refine .ci ?_
    exact .ret rfl rfl
   ·exact .ret rfl rfl
  subst h211
  refine .ab ?_
  refine .cq ?_ ?_
  ·exact ih x1 x12 (IntKind.wrap .i64 (x13 - 1)) zw0 w191 h192 H189 (S190.wk2 aN aN)
  exact hE0 x1 x12 x13 zw0 w191 h192 H189 (S190.wk2 aN aN)
theorem slices_partitionCmpFunc_alarm_Due_alarm_Table_Set_1_l2_ok {h : H} {l0 : Loc} {o0 : Nat} {u0 : V} {kE0 : Int→Int→(List T_alarm_Due)→Option β} (hE0 : ∀ (q1 : Int) (q13 : Int) (zw0 : (List T_alarm_Due)) (w253 : List C) (h254 : WL l0 o0 dT_alarm_Due zw0 u0 w253) (H251 : Go.Ev.H) (_ : Fm 178 h [⟨l0,o0,w253⟩] [] [] H251),Sim (kE0 q1 q13 zw0) (K ((.exit 4),(envL [(0,u0),(1,(.p (.int .i64 q1))),(13,(.p (.int .i64 q13)))]),H251)) Q) (k : Nat) : ∀ (x1 : Int) (x12 : Int) (x13 : Int) (zw0 : (List T_alarm_Due)) (w154 : List C) (h155 : WL l0 o0 dT_alarm_Due zw0 u0 w154) (H152 : Go.Ev.H) (_ : Fm 178 h [⟨l0,o0,w154⟩] [] [] H152) {σ : Stamp},Sim (p_slices_partitionCmpFunc_alarm_Due_alarm_Table_Set_1_l2 k kE0 x1 x12 x13 zw0) ((cvL G X0 slices_partitionCmpFunc_alarm_Due_c2 slices_partitionCmpFunc_alarm_Due_l2 σ (envL [(0,u0),(1,(.p (.int .i64 x1))),(4,(.clo 47 [])),(12,(.p (.int .i64 x12))),(13,(.p (.int .i64 x13)))]) H152).bind K) Q:=by
 induction k with
 | zero => intros; exact .no
 | succ k ih =>
  intro x1 x12 x13 zw0 w154 h155 H152 S153 σ
  rw [p_slices_partitionCmpFunc_alarm_Due_alarm_Table_Set_1_l2]
  refine .round (Sim.ext (slices_partitionCmpFunc_alarm_Due_r2 _ _ _ _ _ _ _ _ _) ?_)
  refine .as (slices_partitionCmpFunc_alarm_Due_alarm_Table_Set_1_l3_ok ?_ k x1 x12 x13 zw0 w154 h155 H152 (S153.wk2 aN aN))
  ·intro r184_1 r184_12 r184_13 zw0 w187 h188 H185 S186
   refine .ext (slices_partitionCmpFunc_alarm_Due_a3_6 _ _ _ _ _ _ _ _ _) ?_
   refine .as (slices_partitionCmpFunc_alarm_Due_alarm_Table_Set_1_l4_ok ?_ k r184_1 r184_12 r184_13 zw0 w187 h188 H185 (S186.wk2 aN aN))
   ·intro r217_1 r217_12 r217_13 zw0 w220 h221 H218 S219
    refine .ext (slices_partitionCmpFunc_alarm_Due_a4_8 _ _ _ _ _ _ _ _ _) ?_
    refine .cq ?_ ?_
    ·exact hE0 r217_1 r217_13 zw0 w220 h221 H218 (S219.wk2 aN aN)
    refine .bd fun a223 h224 => ?_
    refine .op ((S219.slW (i:=0) rfl h221).iS h224 rfl) ?_
    obtain ⟨w226,h227,hE225⟩:=(S219.slW (i:=0) rfl h221).el h224 rfl
    obtain rfl:=dT_alarm_Due.inv h227
    refine .op (hE225.all (by simp)) ?_
    refine .bd fun a228 h229 => ?_
    refine .op ((S219.slW (i:=0) rfl h221).iS h229 rfl) ?_
    obtain ⟨w231,h232,hE230⟩:=(S219.slW (i:=0) rfl h221).el h229 rfl
    obtain rfl:=dT_alarm_Due.inv h232
    refine .op (hE230.all (by simp)) ?_
    refine .bd fun a233 h234 => ?_
    refine .op ((S219.slW (i:=0) rfl h221).iS h234 rfl) ?_
    refine .bd fun a238 h239 => ?_
    obtain ⟨w240,H235,e236,h241,S237⟩:=S219.setWA (i:=0) (e:=2) (own:=false) (σ:=(13::0::1::1::1::0::σ)) (nv:=[.p (.int .i64 a223.f_At),.p (.int .u64 a223.Key)]) (xv:=(.agg [.p (.int .i64 a223.f_At),.p (.int .u64 a223.Key)])) rfl h221 h239 rfl (stN_agg (sC (sI _ _) (sC (sI _ _) sN))) (show dT_alarm_Due.R a223 [.p (.int .i64 a223.f_At),.p (.int .u64 a223.Key)] from (dT_alarm_Due.mk)) rfl
    refine .op (sM e236) ?_
    refine .bd fun a242 h243 => ?_
    refine .op ((S237.slW (i:=0) rfl h241).iS h243 rfl) ?_
    refine .bd fun a247 h248 => ?_
    obtain ⟨w249,H244,e245,h250,S246⟩:=S237.setWA (i:=0) (e:=2) (own:=false) (σ:=(15::0::1::1::1::0::σ)) (nv:=[.p (.int .i64 a228.f_At),.p (.int .u64 a228.Key)]) (xv:=(.agg [.p (.int .i64 a228.f_At),.p (.int .u64 a228.Key)])) rfl h241 h248 rfl (stN_agg (sC (sI _ _) (sC (sI _ _) sN))) (show dT_alarm_Due.R a228 [.p (.int .i64 a228.f_At),.p (.int .u64 a228.Key)] from (dT_alarm_Due.mk)) rfl
    refine .op (sM e245) ?_
    exact ih r217_1 (IntKind.wrap .i64 (r217_12 + 1)) (IntKind.wrap .i64 (r217_13 - 1)) a247 w249 h250 H244 (S246.wk2 aN aN)
theorem slices_partitionCmpFunc_alarm_Due_alarm_Table_Set_1_ok (k : Nat) {h : H} {σ : Stamp} (x0 : List T_alarm_Due) {u0 : V} {l0 : Loc} {o0 : Nat} {w0 : List C} (hw0 : WL l0 o0 dT_alarm_Due x0 u0 w0) (ha0 : AtC h l0 o0 w0) (x1 : Int) (x2 : Int) (x3 : Int) : Sim (p_slices_partitionCmpFunc_alarm_Due_alarm_Table_Set_1 k x0 x1 x2 x3) (ev G X0 149 σ [u0,(.p (.int .i64 x1)),(.p (.int .i64 x2)),(.p (.int .i64 x3)),(.clo 47 [])] h) (fun r s => ∃ (wb0 : List C),WL l0 o0 dT_alarm_Due r.2.2 u0 wb0∧s = ([.v (.p (.int .i64 r.1)),.v (.p (.bool r.2.1))],pts h [⟨l0,o0,wb0⟩])):=by
 refine .ev rfl (Sim.ext (slices_partitionCmpFunc_alarm_Due_entry _ _ _ _ _ _ _ _ _) ?_)
 rw [p_slices_partitionCmpFunc_alarm_Due_alarm_Table_Set_1]
 have S0 : Fm 178 h [⟨l0,o0,w0⟩] [] [] (List.replicate 178 []::h):=Fm.start1 ha0
 refine .bd fun a1 h2 => ?_
 refine .op ((S0.slW (i:=0) rfl hw0).iS h2 rfl) ?_
 obtain ⟨w4,h5,hE3⟩:=(S0.slW (i:=0) rfl hw0).el h2 rfl
 obtain rfl:=dT_alarm_Due.inv h5
 refine .op (hE3.all (by simp)) ?_
 refine .bd fun a6 h7 => ?_
 refine .op ((S0.slW (i:=0) rfl hw0).iS h7 rfl) ?_
 obtain ⟨w9,h10,hE8⟩:=(S0.slW (i:=0) rfl hw0).el h7 rfl
 obtain rfl:=dT_alarm_Due.inv h10
 refine .op (hE8.all (by simp)) ?_
 refine .bd fun a11 h12 => ?_
 refine .op ((S0.slW (i:=0) rfl hw0).iS h12 rfl) ?_
 refine .bd fun a16 h17 => ?_
 obtain ⟨w18,H13,e14,h19,S15⟩:=S0.setWA (i:=0) (e:=2) (own:=false) (σ:=(13::0::1::0::σ)) (nv:=[.p (.int .i64 a1.f_At),.p (.int .u64 a1.Key)]) (xv:=(.agg [.p (.int .i64 a1.f_At),.p (.int .u64 a1.Key)])) rfl hw0 h17 rfl (stN_agg (sC (sI _ _) (sC (sI _ _) sN))) (show dT_alarm_Due.R a1 [.p (.int .i64 a1.f_At),.p (.int .u64 a1.Key)] from (dT_alarm_Due.mk)) rfl
 refine .op (sM e14) ?_
 refine .bd fun a20 h21 => ?_
 refine .op ((S15.slW (i:=0) rfl h19).iS h21 rfl) ?_
 refine .bd fun a25 h26 => ?_
 obtain ⟨w27,H22,e23,h28,S24⟩:=S15.setWA (i:=0) (e:=2) (own:=false) (σ:=(15::0::1::0::σ)) (nv:=[.p (.int .i64 a6.f_At),.p (.int .u64 a6.Key)]) (xv:=(.agg [.p (.int .i64 a6.f_At),.p (.int .u64 a6.Key)])) rfl h19 h26 rfl (stN_agg (sC (sI _ _) (sC (sI _ _) sN))) (show dT_alarm_Due.R a6 [.p (.int .i64 a6.f_At),.p (.int .u64 a6.Key)] from (dT_alarm_Due.mk)) rfl
 refine .op (sM e23) ?_
 refine .as (slices_partitionCmpFunc_alarm_Due_alarm_Table_Set_1_l0_ok ?_ k x1 (IntKind.wrap .i64 (x1 + 1)) (IntKind.wrap .i64 (x2 - 1)) a25 w27 h28 H22 (S24.wk2 aN aN))
 ·intro r57_1 r57_12 r57_13 zw0 w60 h61 H58 S59
  refine .ext (slices_partitionCmpFunc_alarm_Due_a0_0 _ _ _ _ _ _ _ _ _) ?_
  refine .as (slices_partitionCmpFunc_alarm_Due_alarm_Table_Set_1_l1_ok ?_ k r57_1 r57_12 r57_13 zw0 w60 h61 H58 (S59.wk2 aN aN))
  ·intro r90_1 r90_12 r90_13 zw0 w93 h94 H91 S92
   refine .ext (slices_partitionCmpFunc_alarm_Due_a1_2 _ _ _ _ _ _ _ _ _) ?_
   refine .cq ?_ ?_
   ·refine .bd fun a96 h97 => ?_
    refine .op ((S92.slW (i:=0) rfl h94).iS h97 rfl) ?_
    obtain ⟨w99,h100,hE98⟩:=(S92.slW (i:=0) rfl h94).el h97 rfl
    obtain rfl:=dT_alarm_Due.inv h100
    refine .op (hE98.all (by simp)) ?_
    refine .bd fun a101 h102 => ?_
    refine .op ((S92.slW (i:=0) rfl h94).iS h102 rfl) ?_
    obtain ⟨w104,h105,hE103⟩:=(S92.slW (i:=0) rfl h94).el h102 rfl
    obtain rfl:=dT_alarm_Due.inv h105
    refine .op (hE103.all (by simp)) ?_
    refine .bd fun a106 h107 => ?_
    refine .op ((S92.slW (i:=0) rfl h94).iS h107 rfl) ?_
    refine .bd fun a111 h112 => ?_
    obtain ⟨w113,H108,e109,h114,S110⟩:=S92.setWA (i:=0) (e:=2) (own:=false) (σ:=(13::0::1::0::1::1::1::1::1::0::σ)) (nv:=[.p (.int .i64 a96.f_At),.p (.int .u64 a96.Key)]) (xv:=(.agg [.p (.int .i64 a96.f_At),.p (.int .u64 a96.Key)])) rfl h94 h112 rfl (stN_agg (sC (sI _ _) (sC (sI _ _) sN))) (show dT_alarm_Due.R a96 [.p (.int .i64 a96.f_At),.p (.int .u64 a96.Key)] from (dT_alarm_Due.mk)) rfl
    refine .op (sM e109) ?_
    refine .bd fun a115 h116 => ?_
    refine .op ((S110.slW (i:=0) rfl h114).iS h116 rfl) ?_
    refine .bd fun a120 h121 => ?_
    obtain ⟨w122,H117,e118,h123,S119⟩:=S110.setWA (i:=0) (e:=2) (own:=false) (σ:=(15::0::1::0::1::1::1::1::1::0::σ)) (nv:=[.p (.int .i64 a101.f_At),.p (.int .u64 a101.Key)]) (xv:=(.agg [.p (.int .i64 a101.f_At),.p (.int .u64 a101.Key)])) rfl h114 h121 rfl (stN_agg (sC (sI _ _) (sC (sI _ _) sN))) (show dT_alarm_Due.R a101 [.p (.int .i64 a101.f_At),.p (.int .u64 a101.Key)] from (dT_alarm_Due.mk)) rfl
    refine .op (sM e118) ?_
    exact .fin (S119.finN (lC (sI _ _).lv (lC (sB _).lv lN))) ⟨w122,h123,rfl⟩
   refine .bd fun a124 h125 => ?_
   refine .op ((S92.slW (i:=0) rfl h94).iS h125 rfl) ?_
   obtain ⟨w127,h128,hE126⟩:=(S92.slW (i:=0) rfl h94).el h125 rfl
   obtain rfl:=dT_alarm_Due.inv h128
   refine .op (hE126.all (by simp)) ?_
   refine .bd fun a129 h130 => ?_
   refine .op ((S92.slW (i:=0) rfl h94).iS h130 rfl) ?_
   obtain ⟨w132,h133,hE131⟩:=(S92.slW (i:=0) rfl h94).el h130 rfl
   obtain rfl:=dT_alarm_Due.inv h133
   refine .op (hE131.all (by simp)) ?_
   refine .bd fun a134 h135 => ?_
   refine .op ((S92.slW (i:=0) rfl h94).iS h135 rfl) ?_
   refine .bd fun a139 h140 => ?_
   obtain ⟨w141,H136,e137,h142,S138⟩:=S92.setWA (i:=0) (e:=2) (own:=false) (σ:=(13::0::1::1::1::1::1::1::0::σ)) (nv:=[.p (.int .i64 a124.f_At),.p (.int .u64 a124.Key)]) (xv:=(.agg [.p (.int .i64 a124.f_At),.p (.int .u64 a124.Key)])) rfl h94 h140 rfl (stN_agg (sC (sI _ _) (sC (sI _ _) sN))) (show dT_alarm_Due.R a124 [.p (.int .i64 a124.f_At),.p (.int .u64 a124.Key)] from (dT_alarm_Due.mk)) rfl
   refine .op (sM e137) ?_
   refine .bd fun a143 h144 => ?_
   refine .op ((S138.slW (i:=0) rfl h142).iS h144 rfl) ?_
   refine .bd fun a148 h149 => ?_
   obtain ⟨w150,H145,e146,h151,S147⟩:=S138.setWA (i:=0) (e:=2) (own:=false) (σ:=(15::0::1::1::1::1::1::1::0::σ)) (nv:=[.p (.int .i64 a129.f_At),.p (.int .u64 a129.Key)]) (xv:=(.agg [.p (.int .i64 a129.f_At),.p (.int .u64 a129.Key)])) rfl h142 h149 rfl (stN_agg (sC (sI _ _) (sC (sI _ _) sN))) (show dT_alarm_Due.R a129 [.p (.int .i64 a129.f_At),.p (.int .u64 a129.Key)] from (dT_alarm_Due.mk)) rfl
   refine .op (sM e146) ?_
   refine .as (slices_partitionCmpFunc_alarm_Due_alarm_Table_Set_1_l2_ok ?_ k r90_1 (IntKind.wrap .i64 (r90_12 + 1)) (IntKind.wrap .i64 (r90_13 - 1)) a148 w150 h151 H145 (S147.wk2 aN aN))
   ·intro r255_1 r255_13 zw0 w258 h259 H256 S257
    refine .ext (slices_partitionCmpFunc_alarm_Due_a2_4 _ _ _ _ _ _ _) ?_
    refine .bd fun a260 h261 => ?_
    refine .op ((S257.slW (i:=0) rfl h259).iS h261 rfl) ?_
    obtain ⟨w263,h264,hE262⟩:=(S257.slW (i:=0) rfl h259).el h261 rfl
    obtain rfl:=dT_alarm_Due.inv h264
    refine .op (hE262.all (by simp)) ?_
    refine .bd fun a265 h266 => ?_
    refine .op ((S257.slW (i:=0) rfl h259).iS h266 rfl) ?_
    obtain ⟨w268,h269,hE267⟩:=(S257.slW (i:=0) rfl h259).el h266 rfl
    obtain rfl:=dT_alarm_Due.inv h269
    refine .op (hE267.all (by simp)) ?_
    refine .bd fun a270 h271 => ?_
    refine .op ((S257.slW (i:=0) rfl h259).iS h271 rfl) ?_
    refine .bd fun a275 h276 => ?_
    obtain ⟨w277,H272,e273,h278,S274⟩:=S257.setWA (i:=0) (e:=2) (own:=false) (σ:=(13::0::1::1::1::1::1::1::1::1::1::1::0::σ)) (nv:=[.p (.int .i64 a260.f_At),.p (.int .u64 a260.Key)]) (xv:=(.agg [.p (.int .i64 a260.f_At),.p (.int .u64 a260.Key)])) rfl h259 h276 rfl (stN_agg (sC (sI _ _) (sC (sI _ _) sN))) (show dT_alarm_Due.R a260 [.p (.int .i64 a260.f_At),.p (.int .u64 a260.Key)] from (dT_alarm_Due.mk)) rfl
    refine .op (sM e273) ?_
    refine .bd fun a279 h280 => ?_
    refine .op ((S274.slW (i:=0) rfl h278).iS h280 rfl) ?_
    refine .bd fun a284 h285 => ?_
    obtain ⟨w286,H281,e282,h287,S283⟩:=S274.setWA (i:=0) (e:=2) (own:=false) (σ:=(15::0::1::1::1::1::1::1::1::1::1::1::0::σ)) (nv:=[.p (.int .i64 a265.f_At),.p (.int .u64 a265.Key)]) (xv:=(.agg [.p (.int .i64 a265.f_At),.p (.int .u64 a265.Key)])) rfl h278 h285 rfl (stN_agg (sC (sI _ _) (sC (sI _ _) sN))) (show dT_alarm_Due.R a265 [.p (.int .i64 a265.f_At),.p (.int .u64 a265.Key)] from (dT_alarm_Due.mk)) rfl
    refine .op (sM e282) ?_
    exact .fin (S283.finN (lC (sI _ _).lv (lC (sB _).lv lN))) ⟨w286,h287,rfl⟩
end
end Go.Ev
namespace Go.Ev
open Go.Proofs
set_option linter.unusedVariables false
set_option linter.unusedSimpArgs false
set_option maxRecDepth 100000
noncomputable section
abbrev KT17:=Exit→Env→H→Option (List C × H)
variable (rec : CallF) (loop : LoopV) (σ : Stamp)
def slices_partitionEqualCmpFunc_alarm_Due_c0 : Code:=(codeAt (bodyOf Try.f148) [1,1,1,0,0,0])
def slices_partitionEqualCmpFunc_alarm_Due_l0 : Lv:=⟨2048,1024,[(0,2048)]⟩
def slices_partitionEqualCmpFunc_alarm_Due_k0 : KT17:=(kBlock 0 (kSeq G rec loop (codeAt (bodyOf Try.f148) [1,1,1,1]) ⟨1024,1024,[]⟩ (1::1::1::0::σ) (finC G false Try.f148 (1::σ))))
def slices_partitionEqualCmpFunc_alarm_Due_c1 : Code:=(codeAt (bodyOf Try.f148) [1,1,1,0,0,0,0,0,0,0])
def slices_partitionEqualCmpFunc_alarm_Due_l1 : Lv:=⟨6163,1024,[(2,6163),(1,6163),(0,2048)]⟩
def slices_partitionEqualCmpFunc_alarm_Due_k1 : Exit→Env→H→Option (Exit × Env × H):=(kBlock 2 (kSeq G rec loop (codeAt (bodyOf Try.f148) [1,1,1,0,0,0,0,1]) ⟨6163,1024,[(1,6163),(0,2048)]⟩ (0::σ) (kBlock 1 (kRound loop (codeAt (bodyOf Try.f148) [1,1,1,0,0,0]) ⟨2048,1024,[(0,2048)]⟩ σ))))
def slices_partitionEqualCmpFunc_alarm_Due_c2 : Code:=(codeAt (bodyOf Try.f148) [1,1,1,0,0,0,0,1,0,0,0])
def slices_partitionEqualCmpFunc_alarm_Due_l2 : Lv:=⟨6163,1024,[(4,6163),(1,6163),(0,2048)]⟩
def slices_partitionEqualCmpFunc_alarm_Due_k2 : Exit→Env→H→Option (Exit × Env × H):=(kBlock 4 (kSeq G rec loop (codeAt (bodyOf Try.f148) [1,1,1,0,0,0,0,1,1]) ⟨6163,1024,[(1,6163),(0,2048)]⟩ (1::0::σ) (kBlock 1 (kRound loop (codeAt (bodyOf Try.f148) [1,1,1,0,0,0]) ⟨2048,1024,[(0,2048)]⟩ σ))))
theorem slices_partitionEqualCmpFunc_alarm_Due_entry (x0 : V) (x1 : Int) (x2 : Int) (x3 : Int) (x4 : V) (h : H) : cvBody G rec loop 148 σ [x0,(.p (.int .i64 x1)),(.p (.int .i64 x2)),(.p (.int .i64 x3)),x4] h =
(iS 2 x0 x3).bind fun t1 =>
(ldO true 2 (List.replicate 90 []::h) t1).bind fun t2 =>
(iS 2 x0 x1).bind fun t3 =>
(ldO true 2 (List.replicate 90 []::h) t3).bind fun t4 =>
(iS 2 x0 x1).bind fun t5 =>
((stO false 2 (13::0::1::0::σ) (List.replicate 90 []::h) t5 t2).map fun h => (udf,h)).bind fun q6 =>
(iS 2 x0 x3).bind fun t7 =>
((stO false 2 (15::0::1::0::σ) q6.2 t7 t4).map fun h => (udf,h)).bind fun q8 =>
(loop slices_partitionEqualCmpFunc_alarm_Due_c0 slices_partitionEqualCmpFunc_alarm_Due_l0 (0::1::1::1::0::σ) (envL [(0,x0),(1,(.p (.int .i64 x1))),(4,x4),(11,(.p (.int .i64 (IntKind.wrap .i64 (x1 + 1))))),(12,(.p (.int .i64 (IntKind.wrap .i64 (x2 - 1)))))]) q8.2).bind fun r9 => slices_partitionEqualCmpFunc_alarm_Due_k0 rec loop σ r9.1 r9.2.1 r9.2.2:=by kernel_rfl
theorem slices_partitionEqualCmpFunc_alarm_Due_r0 (x0 : V) (x1 : Int) (x4 : V) (x11 : Int) (x12 : Int) (h : H) : cvRound G rec loop slices_partitionEqualCmpFunc_alarm_Due_c0 slices_partitionEqualCmpFunc_alarm_Due_l0 σ (envL [(0,x0),(1,(.p (.int .i64 x1))),(4,x4),(11,(.p (.int .i64 x11))),(12,(.p (.int .i64 x12)))]) h =
(loop slices_partitionEqualCmpFunc_alarm_Due_c1 slices_partitionEqualCmpFunc_alarm_Due_l1 (0::0::σ) (envL [(0,x0),(1,(.p (.int .i64 x1))),(4,x4),(11,(.p (.int .i64 x11))),(12,(.p (.int .i64 x12)))]) h).bind fun r10 => slices_partitionEqualCmpFunc_alarm_Due_k1 rec loop σ r10.1 r10.2.1 r10.2.2:=by kernel_rfl
theorem slices_partitionEqualCmpFunc_alarm_Due_a0_0 (x11 : Int) (h : H) : slices_partitionEqualCmpFunc_alarm_Due_k0 rec loop σ (.exit 0) (envL [(11,(.p (.int .i64 x11)))]) h =
fin false σ h [(.p (.int .i64 x11))]:=by kernel_rfl
theorem slices_partitionEqualCmpFunc_alarm_Due_r1 (x0 : V) (x1 : Int) (x4 : V) (x11 : Int) (x12 : Int) (h : H) : cvRound G rec loop slices_partitionEqualCmpFunc_alarm_Due_c1 slices_partitionEqualCmpFunc_alarm_Due_l1 σ (envL [(0,x0),(1,(.p (.int .i64 x1))),(4,x4),(11,(.p (.int .i64 x11))),(12,(.p (.int .i64 x12)))]) h =
(bif decide (x11 ≤ x12) then ((iS 2 x0 x1).bind fun t11 =>
(ldO true 2 h t11).bind fun t12 =>
(iS 2 x0 x11).bind fun t13 =>
(ldO true 2 h t13).bind fun t14 =>
(cloO rec x4 (13::0::0::0::σ) [t12,t14] h (some 44)).bind fun q15 =>
(castI .i64 q15.1).bind fun n16 =>
some ((.p (.bool (!(decide (n16 < 0))))),q15.2)) else (some ((.p (.bool false)),h))).bind fun q17 =>
(asB q17.1).bind fun b18 =>
bif b18 then (
loop slices_partitionEqualCmpFunc_alarm_Due_c1 slices_partitionEqualCmpFunc_alarm_Due_l1 (1::σ) (envL [(0,x0),(1,(.p (.int .i64 x1))),(4,x4),(11,(.p (.int .i64 (IntKind.wrap .i64 (x11 + 1))))),(12,(.p (.int .i64 x12)))]) q17.2)
else (
some ((.exit 2),(envL [(0,x0),(1,(.p (.int .i64 x1))),(4,x4),(11,(.p (.int .i64 x11))),(12,(.p (.int .i64 x12)))]),q17.2)):=by kernel_rfl
theorem slices_partitionEqualCmpFunc_alarm_Due_a1_2 (x0 : V) (x1 : Int) (x4 : V) (x11 : Int) (x12 : Int) (h : H) : slices_partitionEqualCmpFunc_alarm_Due_k1 rec loop σ (.exit 2) (envL [(0,x0),(1,(.p (.int .i64 x1))),(4,x4),(11,(.p (.int .i64 x11))),(12,(.p (.int .i64 x12)))]) h =
(loop slices_partitionEqualCmpFunc_alarm_Due_c2 slices_partitionEqualCmpFunc_alarm_Due_l2 (0::1::0::σ) (envL [(0,x0),(1,(.p (.int .i64 x1))),(4,x4),(11,(.p (.int .i64 x11))),(12,(.p (.int .i64 x12)))]) h).bind fun r19 => slices_partitionEqualCmpFunc_alarm_Due_k2 rec loop σ r19.1 r19.2.1 r19.2.2:=by kernel_rfl
theorem slices_partitionEqualCmpFunc_alarm_Due_r2 (x0 : V) (x1 : Int) (x4 : V) (x11 : Int) (x12 : Int) (h : H) : cvRound G rec loop slices_partitionEqualCmpFunc_alarm_Due_c2 slices_partitionEqualCmpFunc_alarm_Due_l2 σ (envL [(0,x0),(1,(.p (.int .i64 x1))),(4,x4),(11,(.p (.int .i64 x11))),(12,(.p (.int .i64 x12)))]) h =
(bif decide (x11 ≤ x12) then ((iS 2 x0 x1).bind fun t20 =>
(ldO true 2 h t20).bind fun t21 =>
(iS 2 x0 x12).bind fun t22 =>
(ldO true 2 h t22).bind fun t23 =>
(cloO rec x4 (13::0::0::0::σ) [t21,t23] h (some 63)).bind fun q24 =>
(castI .i64 q24.1).bind fun n25 =>
some ((.p (.bool (decide (n25 < 0)))),q24.2)) else (some ((.p (.bool false)),h))).bind fun q26 =>
(asB q26.1).bind fun b27 =>
bif b27 then (
loop slices_partitionEqualCmpFunc_alarm_Due_c2 slices_partitionEqualCmpFunc_alarm_Due_l2 (1::σ) (envL [(0,x0),(1,(.p (.int .i64 x1))),(4,x4),(11,(.p (.int .i64 x11))),(12,(.p (.int .i64 (IntKind.wrap .i64 (x12 - 1)))))]) q26.2)
else (
some ((.exit 4),(envL [(0,x0),(1,(.p (.int .i64 x1))),(4,x4),(11,(.p (.int .i64 x11))),(12,(.p (.int .i64 x12)))]),q26.2)):=by kernel_rfl
theorem slices_partitionEqualCmpFunc_alarm_Due_a2_4 (x0 : V) (x1 : Int) (x4 : V) (x11 : Int) (x12 : Int) (h : H) : slices_partitionEqualCmpFunc_alarm_Due_k2 rec loop σ (.exit 4) (envL [(0,x0),(1,(.p (.int .i64 x1))),(4,x4),(11,(.p (.int .i64 x11))),(12,(.p (.int .i64 x12)))]) h =
bif decide (x11 > x12) then (
some ((.exit 0),(envL [(11,(.p (.int .i64 x11)))]),h))
else (
(iS 2 x0 x12).bind fun t28 =>
(ldO true 2 h t28).bind fun t29 =>
(iS 2 x0 x11).bind fun t30 =>
(ldO true 2 h t30).bind fun t31 =>
(iS 2 x0 x11).bind fun t32 =>
((stO false 2 (13::0::1::1::1::0::σ) h t32 t29).map fun h => (udf,h)).bind fun q33 =>
(iS 2 x0 x12).bind fun t34 =>
((stO false 2 (15::0::1::1::1::0::σ) q33.2 t34 t31).map fun h => (udf,h)).bind fun q35 =>
loop slices_partitionEqualCmpFunc_alarm_Due_c0 slices_partitionEqualCmpFunc_alarm_Due_l0 (1::σ) (envL [(0,x0),(1,(.p (.int .i64 x1))),(4,x4),(11,(.p (.int .i64 (IntKind.wrap .i64 (x11 + 1))))),(12,(.p (.int .i64 (IntKind.wrap .i64 (x12 - 1)))))]) q35.2):=by kernel_rfl
end
end Go.Ev
namespace Go.Ev
open Go.Proofs
set_option linter.unusedVariables false
set_option linter.unusedSimpArgs false
set_option maxRecDepth 100000
section
variable {β α : Type} {Q : β→α→Prop} {K : Exit × Env × H→Option α}
def p_slices_partitionEqualCmpFunc_alarm_Due_alarm_Table_Set_1_l1 {β : Type} (k : Nat) (kE0 : Int→Int→Int→(List T_alarm_Due)→Option β) (x1 : Int) (x11 : Int) (x12 : Int) (zw0 : (List T_alarm_Due)) : Option β:=match k with
| 0 => none
| k + 1 =>
(bif decide (x11 ≤ x12) then ((ix zw0 x1).bind fun a37 =>
(ix zw0 x11).bind fun a42 =>
(p_alarm_Table_Set_1 k a37 a42).bind fun r47 =>
some (!(decide (r47 < 0)))) else (some false)).bind fun b52 =>
bif b52 then (
p_slices_partitionEqualCmpFunc_alarm_Due_alarm_Table_Set_1_l1 k kE0 x1 (IntKind.wrap .i64 (x11 + 1)) x12 zw0)
else (
kE0 x1 x11 x12 zw0)
def p_slices_partitionEqualCmpFunc_alarm_Due_alarm_Table_Set_1_l2 {β : Type} (k : Nat) (kE0 : Int→Int→Int→(List T_alarm_Due)→Option β) (x1 : Int) (x11 : Int) (x12 : Int) (zw0 : (List T_alarm_Due)) : Option β:=match k with
| 0 => none
| k + 1 =>
(bif decide (x11 ≤ x12) then ((ix zw0 x1).bind fun a70 =>
(ix zw0 x12).bind fun a75 =>
(p_alarm_Table_Set_1 k a70 a75).bind fun r80 =>
some (decide (r80 < 0))) else (some false)).bind fun b85 =>
bif b85 then (
p_slices_partitionEqualCmpFunc_alarm_Due_alarm_Table_Set_1_l2 k kE0 x1 x11 (IntKind.wrap .i64 (x12 - 1)) zw0)
else (
kE0 x1 x11 x12 zw0)
def p_slices_partitionEqualCmpFunc_alarm_Due_alarm_Table_Set_1_l0 {β : Type} (k : Nat) (kE0 : Int→(List T_alarm_Due)→Option β) (x1 : Int) (x11 : Int) (x12 : Int) (zw0 : (List T_alarm_Due)) : Option β:=match k with
| 0 => none
| k + 1 =>
p_slices_partitionEqualCmpFunc_alarm_Due_alarm_Table_Set_1_l1 k (fun r61_1 r61_11 r61_12 zw0 =>
p_slices_partitionEqualCmpFunc_alarm_Due_alarm_Table_Set_1_l2 k (fun r94_1 r94_11 r94_12 zw0 =>
bif decide (r94_11 > r94_12) then (
kE0 r94_11 zw0)
else (
(ix zw0 r94_12).bind fun a100 =>
(ix zw0 r94_11).bind fun a105 =>
(ix zw0 r94_11).bind fun a110 =>
(stx zw0 r94_11 a100).bind fun a115 =>
(ix a115 r94_12).bind fun a119 =>
(stx a115 r94_12 a105).bind fun a124 =>
p_slices_partitionEqualCmpFunc_alarm_Due_alarm_Table_Set_1_l0 k kE0 r94_1 (IntKind.wrap .i64 (r94_11 + 1)) (IntKind.wrap .i64 (r94_12 - 1)) a124)) r61_1 r61_11 r61_12 zw0) x1 x11 x12 zw0
def p_slices_partitionEqualCmpFunc_alarm_Due_alarm_Table_Set_1 (k : Nat) (x0 : (List T_alarm_Due)) (x1 : Int) (x2 : Int) (x3 : Int) : Option (Int × (List T_alarm_Due)) :=
(ix x0 x3).bind fun a1 =>
(ix x0 x1).bind fun a6 =>
(ix x0 x1).bind fun a11 =>
(stx x0 x1 a1).bind fun a16 =>
(ix a16 x3).bind fun a20 =>
(stx a16 x3 a6).bind fun a25 =>
p_slices_partitionEqualCmpFunc_alarm_Due_alarm_Table_Set_1_l0 k (fun r132_11 zw0 =>
some (r132_11,zw0)) x1 (IntKind.wrap .i64 (x1 + 1)) (IntKind.wrap .i64 (x2 - 1)) a25
theorem slices_partitionEqualCmpFunc_alarm_Due_alarm_Table_Set_1_l1_ok {h : H} {l0 : Loc} {o0 : Nat} {u0 : V} {kE0 : Int→Int→Int→(List T_alarm_Due)→Option β} (hE0 : ∀ (q1 : Int) (q11 : Int) (q12 : Int) (zw0 : (List T_alarm_Due)) (w59 : List C) (h60 : WL l0 o0 dT_alarm_Due zw0 u0 w59) (H57 : Go.Ev.H) (_ : Fm 90 h [⟨l0,o0,w59⟩] [] [] H57),Sim (kE0 q1 q11 q12 zw0) (K ((.exit 2),(envL [(0,u0),(1,(.p (.int .i64 q1))),(4,(.clo 47 [])),(11,(.p (.int .i64 q11))),(12,(.p (.int .i64 q12)))]),H57)) Q) (k : Nat) : ∀ (x1 : Int) (x11 : Int) (x12 : Int) (zw0 : (List T_alarm_Due)) (w35 : List C) (h36 : WL l0 o0 dT_alarm_Due zw0 u0 w35) (H33 : Go.Ev.H) (_ : Fm 90 h [⟨l0,o0,w35⟩] [] [] H33) {σ : Stamp},Sim (p_slices_partitionEqualCmpFunc_alarm_Due_alarm_Table_Set_1_l1 k kE0 x1 x11 x12 zw0) ((cvL G X0 slices_partitionEqualCmpFunc_alarm_Due_c1 slices_partitionEqualCmpFunc_alarm_Due_l1 σ (envL [(0,u0),(1,(.p (.int .i64 x1))),(4,(.clo 47 [])),(11,(.p (.int .i64 x11))),(12,(.p (.int .i64 x12)))]) H33).bind K) Q:=by
 induction k with
 | zero => intros; exact .no
 | succ k ih =>
  intro x1 x11 x12 zw0 w35 h36 H33 S34 σ
  rw [p_slices_partitionEqualCmpFunc_alarm_Due_alarm_Table_Set_1_l1]
  refine .round (Sim.ext (slices_partitionEqualCmpFunc_alarm_Due_r1 _ _ _ _ _ _ _ _ _) ?_)
  refine .ch (P:=fun r y => (.p (.bool r),H33) = y) ?_ (fun b52 y53 h54 h55 => ?_)
  ·refine .cq ?_ ?_
   ·refine .bd fun a37 h38 => ?_
    refine .op ((S34.slW (i:=0) rfl h36).iS h38 rfl) ?_
    obtain ⟨w40,h41,hE39⟩:=(S34.slW (i:=0) rfl h36).el h38 rfl
    obtain rfl:=dT_alarm_Due.inv h41
    refine .op (hE39.all (by simp)) ?_
    refine .bd fun a42 h43 => ?_
    refine .op ((S34.slW (i:=0) rfl h36).iS h43 rfl) ?_
    obtain ⟨w45,h46,hE44⟩:=(S34.slW (i:=0) rfl h36).el h43 rfl
    obtain rfl:=dT_alarm_Due.inv h46
    refine .op (hE44.all (by simp)) ?_
    refine .clo ?_
    refine .call (alarm_Table_Set_1_ok k a37 (show dT_alarm_Due.R a37 [.p (.int .i64 a37.f_At),.p (.int .u64 a37.Key)] from (dT_alarm_Due.mk)) a42 (show dT_alarm_Due.R a42 [.p (.int .i64 a42.f_At),.p (.int .u64 a42.Key)] from (dT_alarm_Due.mk))) fun r47 cs48 H49 h50 q51 => ?_
    cases q51
    refine .ci ?_
    exact .ret rfl rfl
   ·exact .ret rfl rfl
  subst h55
  refine .ab ?_
  refine .cq ?_ ?_
  ·exact ih x1 (IntKind.wrap .i64 (x11 + 1)) x12 zw0 w35 h36 H33 (S34.wk2 aN aN)
  exact hE0 x1 x11 x12 zw0 w35 h36 H33 (S34.wk2 aN aN)
theorem slices_partitionEqualCmpFunc_alarm_Due_alarm_Table_Set_1_l2_ok {h : H} {l0 : Loc} {o0 : Nat} {u0 : V} {kE0 : Int→Int→Int→(List T_alarm_Due)→Option β} (hE0 : ∀ (q1 : Int) (q11 : Int) (q12 : Int) (zw0 : (List T_alarm_Due)) (w92 : List C) (h93 : WL l0 o0 dT_alarm_Due zw0 u0 w92) (H90 : Go.Ev.H) (_ : Fm 90 h [⟨l0,o0,w92⟩] [] [] H90),Sim (kE0 q1 q11 q12 zw0) (K ((.exit 4),(envL [(0,u0),(1,(.p (.int .i64 q1))),(4,(.clo 47 [])),(11,(.p (.int .i64 q11))),(12,(.p (.int .i64 q12)))]),H90)) Q) (k : Nat) : ∀ (x1 : Int) (x11 : Int) (x12 : Int) (zw0 : (List T_alarm_Due)) (w68 : List C) (h69 : WL l0 o0 dT_alarm_Due zw0 u0 w68) (H66 : Go.Ev.H) (_ : Fm 90 h [⟨l0,o0,w68⟩] [] [] H66) {σ : Stamp},Sim (p_slices_partitionEqualCmpFunc_alarm_Due_alarm_Table_Set_1_l2 k kE0 x1 x11 x12 zw0) ((cvL G X0 slices_partitionEqualCmpFunc_alarm_Due_c2 slices_partitionEqualCmpFunc_alarm_Due_l2 σ (envL [(0,u0),(1,(.p (.int .i64 x1))),(4,(.clo 47 [])),(11,(.p (.int .i64 x11))),(12,(.p (.int .i64 x12)))]) H66).bind K) Q:=by
 induction k with
 | zero => intros; exact .no
 | succ k ih =>
  intro x1 x11 x12 zw0 w68 h69 H66 S67 σ
  rw [p_slices_partitionEqualCmpFunc_alarm_Due_alarm_Table_Set_1_l2]
  refine .round (Sim.ext (slices_partitionEqualCmpFunc_alarm_Due_r2 _ _ _ _ _ _ _ _ _) ?_)
  refine .ch (P:=fun r y => (.p (.bool r),H66) = y) ?_ (fun b85 y86 h87 h88 => ?_)
  ·refine .cq ?_ ?_
   ·refine .bd fun a70 h71 => ?_
    refine .op ((S67.slW (i:=0) rfl h69).iS h71 rfl) ?_
    obtain ⟨w73,h74,hE72⟩:=(S67.slW (i:=0) rfl h69).el h71 rfl
    obtain rfl:=dT_alarm_Due.inv h74
    refine .op (hE72.all (by simp)) ?_
    refine .bd fun a75 h76 => ?_
    refine .op ((S67.slW (i:=0) rfl h69).iS h76 rfl) ?_
    obtain ⟨w78,h79,hE77⟩:=(S67.slW (i:=0) rfl h69).el h76 rfl
    obtain rfl:=dT_alarm_Due.inv h79
    refine .op (hE77.all (by simp)) ?_
    refine .clo ?_
    refine .call (alarm_Table_Set_1_ok k a70 (show dT_alarm_Due.R a70 [.p (.int .i64 a70.f_At),.p (.int .u64 a70.Key)] from (dT_alarm_Due.mk)) a75 (show dT_alarm_Due.R a75 [.p (.int .i64 a75.f_At),.p (.int .u64 a75.Key)] from (dT_alarm_Due.mk))) fun r80 cs81 H82 h83 q84 => ?_
    cases q84
    refine .ci ?_
    exact .ret rfl rfl
   ·exact .ret rfl rfl
  subst h88
  refine .ab ?_
  refine .cq ?_ ?_
  ·exact ih x1 x11 (IntKind.wrap .i64 (x12 - 1)) zw0 w68 h69 H66 (S67.wk2 aN aN)
  exact hE0 x1 x11 x12 zw0 w68 h69 H66 (S67.wk2 aN aN)
theorem slices_partitionEqualCmpFunc_alarm_Due_alarm_Table_Set_1_l0_ok {h : H} {l0 : Loc} {o0 : Nat} {u0 : V} {kE0 : Int→(List T_alarm_Due)→Option β} (hE0 : ∀ (q11 : Int) (zw0 : (List T_alarm_Due)) (w130 : List C) (h131 : WL l0 o0 dT_alarm_Due zw0 u0 w130) (H128 : Go.Ev.H) (_ : Fm 90 h [⟨l0,o0,w130⟩] [] [] H128),Sim (kE0 q11 zw0) (K ((.exit 0),(envL [(11,(.p (.int .i64 q11)))]),H128)) Q) (k : Nat) : ∀ (x1 : Int) (x11 : Int) (x12 : Int) (zw0 : (List T_alarm_Due)) (w31 : List C) (h32 : WL l0 o0 dT_alarm_Due zw0 u0 w31) (H29 : Go.Ev.H) (_ : Fm 90 h [⟨l0,o0,w31⟩] [] [] H29) {σ : Stamp},Sim (p_slices_partitionEqualCmpFunc_alarm_Due_alarm_Table_Set_1_l0 k kE0 x1 x11 x12 zw0) ((cvL G X0 slices_partitionEqualCmpFunc_alarm_Due_c0 slices_partitionEqualCmpFunc_alarm_Due_l0 σ (envL [(0,u0),(1,(.p (.int .i64 x1))),(4,(.clo 47 [])),(11,(.p (.int .i64 x11))),(12,(.p (.int .i64 x12)))]) H29).bind K) Q:=by
 induction k with
 | zero => intros; exact .no
 | succ k ih =>
  intro x1 x11 x12 zw0 w31 h32 H29 S30 σ
  rw [p_slices_partitionEqualCmpFunc_alarm_Due_alarm_Table_Set_1_l0]
  refine .round (Sim.ext (slices_partitionEqualCmpFunc_alarm_Due_r0 _ _ _ _ _ _ _ _ _) ?_)
  refine .as (slices_partitionEqualCmpFunc_alarm_Due_alarm_Table_Set_1_l1_ok ?_ k x1 x11 x12 zw0 w31 h32 H29 (S30.wk2 aN aN))
  ·intro r61_1 r61_11 r61_12 zw0 w64 h65 H62 S63
   refine .ext (slices_partitionEqualCmpFunc_alarm_Due_a1_2 _ _ _ _ _ _ _ _ _) ?_
   refine .as (slices_partitionEqualCmpFunc_alarm_Due_alarm_Table_Set_1_l2_ok ?_ k r61_1 r61_11 r61_12 zw0 w64 h65 H62 (S63.wk2 aN aN))
   ·intro r94_1 r94_11 r94_12 zw0 w97 h98 H95 S96
    refine .ext (slices_partitionEqualCmpFunc_alarm_Due_a2_4 _ _ _ _ _ _ _ _ _) ?_
    refine .cq ?_ ?_
    ·exact hE0 r94_11 zw0 w97 h98 H95 (S96.wk2 aN aN)
    refine .bd fun a100 h101 => ?_
    refine .op ((S96.slW (i:=0) rfl h98).iS h101 rfl) ?_
    obtain ⟨w103,h104,hE102⟩:=(S96.slW (i:=0) rfl h98).el h101 rfl
    obtain rfl:=dT_alarm_Due.inv h104
    refine .op (hE102.all (by simp)) ?_
    refine .bd fun a105 h106 => ?_
    refine .op ((S96.slW (i:=0) rfl h98).iS h106 rfl) ?_
    obtain ⟨w108,h109,hE107⟩:=(S96.slW (i:=0) rfl h98).el h106 rfl
    obtain rfl:=dT_alarm_Due.inv h109
    refine .op (hE107.all (by simp)) ?_
    refine .bd fun a110 h111 => ?_
    refine .op ((S96.slW (i:=0) rfl h98).iS h111 rfl) ?_
    refine .bd fun a115 h116 => ?_
    obtain ⟨w117,H112,e113,h118,S114⟩:=S96.setWA (i:=0) (e:=2) (own:=false) (σ:=(13::0::1::1::1::0::σ)) (nv:=[.p (.int .i64 a100.f_At),.p (.int .u64 a100.Key)]) (xv:=(.agg [.p (.int .i64 a100.f_At),.p (.int .u64 a100.Key)])) rfl h98 h116 rfl (stN_agg (sC (sI _ _) (sC (sI _ _) sN))) (show dT_alarm_Due.R a100 [.p (.int .i64 a100.f_At),.p (.int .u64 a100.Key)] from (dT_alarm_Due.mk)) rfl
    refine .op (sM e113) ?_
    refine .bd fun a119 h120 => ?_
    refine .op ((S114.slW (i:=0) rfl h118).iS h120 rfl) ?_
    refine .bd fun a124 h125 => ?_
    obtain ⟨w126,H121,e122,h127,S123⟩:=S114.setWA (i:=0) (e:=2) (own:=false) (σ:=(15::0::1::1::1::0::σ)) (nv:=[.p (.int .i64 a105.f_At),.p (.int .u64 a105.Key)]) (xv:=(.agg [.p (.int .i64 a105.f_At),.p (.int .u64 a105.Key)])) rfl h118 h125 rfl (stN_agg (sC (sI _ _) (sC (sI _ _) sN))) (show dT_alarm_Due.R a105 [.p (.int .i64 a105.f_At),.p (.int .u64 a105.Key)] from (dT_alarm_Due.mk)) rfl
    refine .op (sM e122) ?_
    exact ih r94_1 (IntKind.wrap .i64 (r94_11 + 1)) (IntKind.wrap .i64 (r94_12 - 1)) a124 w126 h127 H121 (S123.wk2 aN aN)
theorem slices_partitionEqualCmpFunc_alarm_Due_alarm_Table_Set_1_ok (k : Nat) {h : H} {σ : Stamp} (x0 : List T_alarm_Due) {u0 : V} {l0 : Loc} {o0 : Nat} {w0 : List C} (hw0 : WL l0 o0 dT_alarm_Due x0 u0 w0) (ha0 : AtC h l0 o0 w0) (x1 : Int) (x2 : Int) (x3 : Int) : Sim (p_slices_partitionEqualCmpFunc_alarm_Due_alarm_Table_Set_1 k x0 x1 x2 x3) (ev G X0 148 σ [u0,(.p (.int .i64 x1)),(.p (.int .i64 x2)),(.p (.int .i64 x3)),(.clo 47 [])] h) (fun r s => ∃ (wb0 : List C),WL l0 o0 dT_alarm_Due r.2 u0 wb0∧s = ([.v (.p (.int .i64 r.1))],pts h [⟨l0,o0,wb0⟩])):=by
 refine .ev rfl (Sim.ext (slices_partitionEqualCmpFunc_alarm_Due_entry _ _ _ _ _ _ _ _ _) ?_)
 rw [p_slices_partitionEqualCmpFunc_alarm_Due_alarm_Table_Set_1]
 have S0 : Fm 90 h [⟨l0,o0,w0⟩] [] [] (List.replicate 90 []::h):=Fm.start1 ha0
 refine .bd fun a1 h2 => ?_
 refine .op ((S0.slW (i:=0) rfl hw0).iS h2 rfl) ?_
 obtain ⟨w4,h5,hE3⟩:=(S0.slW (i:=0) rfl hw0).el h2 rfl
 obtain rfl:=dT_alarm_Due.inv h5
 refine .op (hE3.all (by simp)) ?_
 refine .bd fun a6 h7 => ?_
 refine .op ((S0.slW (i:=0) rfl hw0).iS h7 rfl) ?_
 obtain ⟨w9,h10,hE8⟩:=(S0.slW (i:=0) rfl hw0).el h7 rfl
 obtain rfl:=dT_alarm_Due.inv h10
 refine .op (hE8.all (by simp)) ?_
 refine .bd fun a11 h12 => ?_
 refine .op ((S0.slW (i:=0) rfl hw0).iS h12 rfl) ?_
 refine .bd fun a16 h17 => ?_
 obtain ⟨w18,H13,e14,h19,S15⟩:=S0.setWA (i:=0) (e:=2) (own:=false) (σ:=(13::0::1::0::σ)) (nv:=[.p (.int .i64 a1.f_At),.p (.int .u64 a1.Key)]) (xv:=(.agg [.p (.int .i64 a1.f_At),.p (.int .u64 a1.Key)])) rfl hw0 h17 rfl (stN_agg (sC (sI _ _) (sC (sI _ _) sN))) (show dT_alarm_Due.R a1 [.p (.int .i64 a1.f_At),.p (.int .u64 a1.Key)] from (dT_alarm_Due.mk)) rfl
 refine .op (sM e14) ?_
 refine .bd fun a20 h21 => ?_
 refine .op ((S15.slW (i:=0) rfl h19).iS h21 rfl) ?_
 refine .bd fun a25 h26 => ?_
 obtain ⟨w27,H22,e23,h28,S24⟩:=S15.setWA (i:=0) (e:=2) (own:=false) (σ:=(15::0::1::0::σ)) (nv:=[.p (.int .i64 a6.f_At),.p (.int .u64 a6.Key)]) (xv:=(.agg [.p (.int .i64 a6.f_At),.p (.int .u64 a6.Key)])) rfl h19 h26 rfl (stN_agg (sC (sI _ _) (sC (sI _ _) sN))) (show dT_alarm_Due.R a6 [.p (.int .i64 a6.f_At),.p (.int .u64 a6.Key)] from (dT_alarm_Due.mk)) rfl
 refine .op (sM e23) ?_
 refine .as (slices_partitionEqualCmpFunc_alarm_Due_alarm_Table_Set_1_l0_ok ?_ k x1 (IntKind.wrap .i64 (x1 + 1)) (IntKind.wrap .i64 (x2 - 1)) a25 w27 h28 H22 (S24.wk2 aN aN))
 ·intro r132_11 zw0 w135 h136 H133 S134
  refine .ext (slices_partitionEqualCmpFunc_alarm_Due_a0_0 _ _ _ _ _) ?_
  exact .fin (S134.finN (lC (sI _ _).lv lN)) ⟨w135,h136,rfl⟩
end
end Go.Ev
namespace Go.Ev
open Go.Proofs
set_option linter.unusedVariables false
set_option linter.unusedSimpArgs false
set_option maxRecDepth 100000
noncomputable section
abbrev KT18:=Exit→Env→H→Option (List C × H)
variable (rec : CallF) (loop : LoopV) (σ : Stamp)
def slices_reverseRangeCmpFunc_alarm_Due_c0 : Code:=(codeAt (bodyOf Try.f146) [1,1,0,0])
def slices_reverseRangeCmpFunc_alarm_Due_l0 : Lv:=⟨0,0,[(0,0)]⟩
def slices_reverseRangeCmpFunc_alarm_Due_k0 (rec : CallF) (loop : LoopV) (σ : Stamp) : KT18:=(kBlock 0 (finC G false Try.f146 (1::σ)))
theorem slices_reverseRangeCmpFunc_alarm_Due_entry (x0 : V) (x1 : Int) (x2 : Int) (x3 : V) (h : H) : cvBody G rec loop 146 σ [x0,(.p (.int .i64 x1)),(.p (.int .i64 x2)),x3] h =
(loop slices_reverseRangeCmpFunc_alarm_Due_c0 slices_reverseRangeCmpFunc_alarm_Due_l0 (1::1::0::σ) (envL [(0,x0),(8,(.p (.int .i64 x1))),(9,(.p (.int .i64 (IntKind.wrap .i64 (x2 - 1)))))]) (List.replicate 34 []::h)).bind fun r1 => slices_reverseRangeCmpFunc_alarm_Due_k0 rec loop σ r1.1 r1.2.1 r1.2.2:=by kernel_rfl
theorem slices_reverseRangeCmpFunc_alarm_Due_r0 (x0 : V) (x8 : Int) (x9 : Int) (h : H) : cvRound G rec loop slices_reverseRangeCmpFunc_alarm_Due_c0 slices_reverseRangeCmpFunc_alarm_Due_l0 σ (envL [(0,x0),(8,(.p (.int .i64 x8))),(9,(.p (.int .i64 x9)))]) h =
bif decide (x8 < x9) then (
(iS 2 x0 x9).bind fun t2 =>
(ldO true 2 h t2).bind fun t3 =>
(iS 2 x0 x8).bind fun t4 =>
(ldO true 2 h t4).bind fun t5 =>
(iS 2 x0 x8).bind fun t6 =>
((stO false 2 (13::0::1::0::σ) h t6 t3).map fun h => (udf,h)).bind fun q7 =>
(iS 2 x0 x9).bind fun t8 =>
((stO false 2 (15::0::1::0::σ) q7.2 t8 t5).map fun h => (udf,h)).bind fun q9 =>
loop slices_reverseRangeCmpFunc_alarm_Due_c0 slices_reverseRangeCmpFunc_alarm_Due_l0 (1::σ) (envL [(0,x0),(8,(.p (.int .i64 (IntKind.wrap .i64 (x8 + 1))))),(9,(.p (.int .i64 (IntKind.wrap .i64 (x9 - 1)))))]) q9.2)
else (
some ((.exit 0),(envL []),h)):=by kernel_rfl
theorem slices_reverseRangeCmpFunc_alarm_Due_a0_0  (h : H) : slices_reverseRangeCmpFunc_alarm_Due_k0 rec loop σ (.exit 0) (envL []) h =
fin false σ h []:=by kernel_rfl
end
end Go.Ev
namespace Go.Ev
open Go.Proofs
set_option linter.unusedVariables false
set_option linter.unusedSimpArgs false
set_option maxRecDepth 100000
section
variable {β α : Type} {Q : β→α→Prop} {K : Exit × Env × H→Option α}
def p_slices_reverseRangeCmpFunc_alarm_Due_alarm_Table_Set_1_l0 {β : Type} (k : Nat) (kE0 : (List T_alarm_Due)→Option β) (x8 : Int) (x9 : Int) (zw0 : (List T_alarm_Due)) : Option β:=match k with
| 0 => none
| k + 1 =>
bif decide (x8 < x9) then (
(ix zw0 x9).bind fun a6 =>
(ix zw0 x8).bind fun a11 =>
(ix zw0 x8).bind fun a16 =>
(stx zw0 x8 a6).bind fun a21 =>
(ix a21 x9).bind fun a25 =>
(stx a21 x9 a11).bind fun a30 =>
p_slices_reverseRangeCmpFunc_alarm_Due_alarm_Table_Set_1_l0 k kE0 (IntKind.wrap .i64 (x8 + 1)) (IntKind.wrap .i64 (x9 - 1)) a30)
else (
kE0 zw0)
def p_slices_reverseRangeCmpFunc_alarm_Due_alarm_Table_Set_1 (k : Nat) (x0 : (List T_alarm_Due)) (x1 : Int) (x2 : Int) : Option ((List T_alarm_Due)) :=
p_slices_reverseRangeCmpFunc_alarm_Due_alarm_Table_Set_1_l0 k (fun zw0 =>
some (zw0)) x1 (IntKind.wrap .i64 (x2 - 1)) x0
theorem slices_reverseRangeCmpFunc_alarm_Due_alarm_Table_Set_1_l0_ok {h : H} {l0 : Loc} {o0 : Nat} {u0 : V} {kE0 : (List T_alarm_Due)→Option β} (hE0 : ∀ (zw0 : (List T_alarm_Due)) (w36 : List C) (h37 : WL l0 o0 dT_alarm_Due zw0 u0 w36) (H34 : Go.Ev.H) (_ : Fm 34 h [⟨l0,o0,w36⟩] [] [] H34),Sim (kE0 zw0) (K ((.exit 0),(envL []),H34)) Q) (k : Nat) : ∀ (x8 : Int) (x9 : Int) (zw0 : (List T_alarm_Due)) (w3 : List C) (h4 : WL l0 o0 dT_alarm_Due zw0 u0 w3) (H1 : Go.Ev.H) (_ : Fm 34 h [⟨l0,o0,w3⟩] [] [] H1) {σ : Stamp},Sim (p_slices_reverseRangeCmpFunc_alarm_Due_alarm_Table_Set_1_l0 k kE0 x8 x9 zw0) ((cvL G X0 slices_reverseRangeCmpFunc_alarm_Due_c0 slices_reverseRangeCmpFunc_alarm_Due_l0 σ (envL [(0,u0),(8,(.p (.int .i64 x8))),(9,(.p (.int .i64 x9)))]) H1).bind K) Q:=by
 induction k with
 | zero => intros; exact .no
 | succ k ih =>
  intro x8 x9 zw0 w3 h4 H1 S2 σ
  rw [p_slices_reverseRangeCmpFunc_alarm_Due_alarm_Table_Set_1_l0]
  refine .round (Sim.ext (slices_reverseRangeCmpFunc_alarm_Due_r0 _ _ _ _ _ _ _) ?_)
  refine .cq ?_ ?_
  ·refine .bd fun a6 h7 => ?_
   refine .op ((S2.slW (i:=0) rfl h4).iS h7 rfl) ?_
   obtain ⟨w9,h10,hE8⟩:=(S2.slW (i:=0) rfl h4).el h7 rfl
   obtain rfl:=dT_alarm_Due.inv h10
   refine .op (hE8.all (by simp)) ?_
   refine .bd fun a11 h12 => ?_
   refine .op ((S2.slW (i:=0) rfl h4).iS h12 rfl) ?_
   obtain ⟨w14,h15,hE13⟩:=(S2.slW (i:=0) rfl h4).el h12 rfl
   obtain rfl:=dT_alarm_Due.inv h15
   refine .op (hE13.all (by simp)) ?_
   refine .bd fun a16 h17 => ?_
   refine .op ((S2.slW (i:=0) rfl h4).iS h17 rfl) ?_
   refine .bd fun a21 h22 => ?_
   obtain ⟨w23,H18,e19,h24,S20⟩:=S2.setWA (i:=0) (e:=2) (own:=false) (σ:=(13::0::1::0::σ)) (nv:=[.p (.int .i64 a6.f_At),.p (.int .u64 a6.Key)]) (xv:=(.agg [.p (.int .i64 a6.f_At),.p (.int .u64 a6.Key)])) rfl h4 h22 rfl (stN_agg (sC (sI _ _) (sC (sI _ _) sN))) (show dT_alarm_Due.R a6 [.p (.int .i64 a6.f_At),.p (.int .u64 a6.Key)] from (dT_alarm_Due.mk)) rfl
   refine .op (sM e19) ?_
   refine .bd fun a25 h26 => ?_
   refine .op ((S20.slW (i:=0) rfl h24).iS h26 rfl) ?_
   refine .bd fun a30 h31 => ?_
   obtain ⟨w32,H27,e28,h33,S29⟩:=S20.setWA (i:=0) (e:=2) (own:=false) (σ:=(15::0::1::0::σ)) (nv:=[.p (.int .i64 a11.f_At),.p (.int .u64 a11.Key)]) (xv:=(.agg [.p (.int .i64 a11.f_At),.p (.int .u64 a11.Key)])) rfl h24 h31 rfl (stN_agg (sC (sI _ _) (sC (sI _ _) sN))) (show dT_alarm_Due.R a11 [.p (.int .i64 a11.f_At),.p (.int .u64 a11.Key)] from (dT_alarm_Due.mk)) rfl
   refine .op (sM e28) ?_
   exact ih (IntKind.wrap .i64 (x8 + 1)) (IntKind.wrap .i64 (x9 - 1)) a30 w32 h33 H27 (S29.wk2 aN aN)
  exact hE0 zw0 w3 h4 H1 (S2.wk2 aN aN)
theorem slices_reverseRangeCmpFunc_alarm_Due_alarm_Table_Set_1_ok (k : Nat) {h : H} {σ : Stamp} (x0 : List T_alarm_Due) {u0 : V} {l0 : Loc} {o0 : Nat} {w0 : List C} (hw0 : WL l0 o0 dT_alarm_Due x0 u0 w0) (ha0 : AtC h l0 o0 w0) (x1 : Int) (x2 : Int) : Sim (p_slices_reverseRangeCmpFunc_alarm_Due_alarm_Table_Set_1 k x0 x1 x2) (ev G X0 146 σ [u0,(.p (.int .i64 x1)),(.p (.int .i64 x2)),(.clo 47 [])] h) (fun r s => ∃ (wb0 : List C),WL l0 o0 dT_alarm_Due r u0 wb0∧s = ([],pts h [⟨l0,o0,wb0⟩])):=by
 refine .ev rfl (Sim.ext (slices_reverseRangeCmpFunc_alarm_Due_entry _ _ _ _ _ _ _ _) ?_)
 rw [p_slices_reverseRangeCmpFunc_alarm_Due_alarm_Table_Set_1]
 have S0 : Fm 34 h [⟨l0,o0,w0⟩] [] [] (List.replicate 34 []::h):=Fm.start1 ha0
 refine .as (slices_reverseRangeCmpFunc_alarm_Due_alarm_Table_Set_1_l0_ok ?_ k x1 (IntKind.wrap .i64 (x2 - 1)) x0 w0 hw0 (List.replicate 34 []::h) (S0.wk2 aN aN))
 ·intro zw0 w41 h42 H39 S40
  refine .ext (slices_reverseRangeCmpFunc_alarm_Due_a0_0 _ _ _ _) ?_
  exact .fin (S40.finN lN) ⟨w41,h42,rfl⟩
def p_slices_pdqsortCmpFunc_alarm_Due_alarm_Table_Set_1_l0 {β : Type} (k : Nat) (rec : (List T_alarm_Due)→Int→Int→Int→Option ((List T_alarm_Due))) (kE0 : (List T_alarm_Due)→Option β) (x1 : Int) (x2 : Int) (x3 : Int) (x10 : Bool) (x11 : Bool) (zw0 : (List T_alarm_Due)) : Option β:=match k with
| 0 => none
| k + 1 =>
bif decide ((IntKind.wrap .i64 (x2 - x1)) ≤ 12) then (
(p_slices_insertionSortCmpFunc_alarm_Due_alarm_Table_Set_1 k zw0 x1 x2).bind fun r6 =>
kE0 r6)
else (
bif x3 == 0 then (
(p_slices_heapSortCmpFunc_alarm_Due_alarm_Table_Set_1 k zw0 x1 x2).bind fun r15 =>
kE0 r15)
else (
bif !x10 then (
(p_slices_breakPatternsCmpFunc_alarm_Due_alarm_Table_Set_1 k zw0 x1 x2).bind fun r24 =>
(p_slices_choosePivotCmpFunc_alarm_Due_alarm_Table_Set_1 k r24 x1 x2).bind fun r32 =>
bif r32.2 == 2 then (
(p_slices_reverseRangeCmpFunc_alarm_Due_alarm_Table_Set_1 k r24 x1 x2).bind fun r38 =>
(bif x10 then (some x11) else (some false)).bind fun b46 =>
(bif b46 then (some (1 == 1)) else (some false)).bind fun b50 =>
bif b50 then (
(p_slices_partialInsertionSortCmpFunc_alarm_Due_alarm_Table_Set_1 k r38 x1 x2).bind fun r55 =>
bif r55.1 then (
kE0 r55.2)
else (
(bif decide (x1 > 0) then ((ix r55.2 (IntKind.wrap .i64 (x1 - 1))).bind fun a64 =>
(ix r55.2 (IntKind.wrap .i64 ((IntKind.wrap .i64 (x2 - 1)) - (IntKind.wrap .i64 (r32.1 - x1))))).bind fun a69 =>
(p_alarm_Table_Set_1 k a64 a69).bind fun r74 =>
some (!(decide (r74 < 0)))) else (some false)).bind fun b79 =>
bif b79 then (
(p_slices_partitionEqualCmpFunc_alarm_Due_alarm_Table_Set_1 k r55.2 x1 x2 (IntKind.wrap .i64 ((IntKind.wrap .i64 (x2 - 1)) - (IntKind.wrap .i64 (r32.1 - x1))))).bind fun r84 =>
p_slices_pdqsortCmpFunc_alarm_Due_alarm_Table_Set_1_l0 k rec kE0 r84.1 x2 (IntKind.wrap .i64 (x3 - 1)) x10 x11 r84.2)
else (
(p_slices_partitionCmpFunc_alarm_Due_alarm_Table_Set_1 k r55.2 x1 x2 (IntKind.wrap .i64 ((IntKind.wrap .i64 (x2 - 1)) - (IntKind.wrap .i64 (r32.1 - x1))))).bind fun r92 =>
bif decide ((IntKind.wrap .i64 (r92.1 - x1)) < (IntKind.wrap .i64 (x2 - r92.1))) then (
(rec r92.2.2 x1 r92.1 (IntKind.wrap .i64 (x3 - 1))).bind fun r101 =>
p_slices_pdqsortCmpFunc_alarm_Due_alarm_Table_Set_1_l0 k rec kE0 (IntKind.wrap .i64 (r92.1 + 1)) x2 (IntKind.wrap .i64 (x3 - 1)) (decide ((IntKind.wrap .i64 (r92.1 - x1)) ≥ (IntKind.wrap .i64 (Int.tdiv (IntKind.wrap .i64 (x2 - x1)) 8)))) r92.2.1 r101)
else (
(rec r92.2.2 (IntKind.wrap .i64 (r92.1 + 1)) x2 (IntKind.wrap .i64 (x3 - 1))).bind fun r109 =>
p_slices_pdqsortCmpFunc_alarm_Due_alarm_Table_Set_1_l0 k rec kE0 x1 r92.1 (IntKind.wrap .i64 (x3 - 1)) (decide ((IntKind.wrap .i64 (x2 - r92.1)) ≥ (IntKind.wrap .i64 (Int.tdiv (IntKind.wrap .i64 (x2 - x1)) 8)))) r92.2.1 r109))))
else (
(bif decide (x1 > 0) then ((ix r38 (IntKind.wrap .i64 (x1 - 1))).bind fun a117 =>
(ix r38 (IntKind.wrap .i64 ((IntKind.wrap .i64 (x2 - 1)) - (IntKind.wrap .i64 (r32.1 - x1))))).bind fun a122 =>
(p_alarm_Table_Set_1 k a117 a122).bind fun r127 =>
some (!(decide (r127 < 0)))) else (some false)).bind fun b132 =>
bif b132 then (
(p_slices_partitionEqualCmpFunc_alarm_Due_alarm_Table_Set_1 k r38 x1 x2 (IntKind.wrap .i64 ((IntKind.wrap .i64 (x2 - 1)) - (IntKind.wrap .i64 (r32.1 - x1))))).bind fun r137 =>
p_slices_pdqsortCmpFunc_alarm_Due_alarm_Table_Set_1_l0 k rec kE0 r137.1 x2 (IntKind.wrap .i64 (x3 - 1)) x10 x11 r137.2)
else (
(p_slices_partitionCmpFunc_alarm_Due_alarm_Table_Set_1 k r38 x1 x2 (IntKind.wrap .i64 ((IntKind.wrap .i64 (x2 - 1)) - (IntKind.wrap .i64 (r32.1 - x1))))).bind fun r145 =>
bif decide ((IntKind.wrap .i64 (r145.1 - x1)) < (IntKind.wrap .i64 (x2 - r145.1))) then (
(rec r145.2.2 x1 r145.1 (IntKind.wrap .i64 (x3 - 1))).bind fun r154 =>
p_slices_pdqsortCmpFunc_alarm_Due_alarm_Table_Set_1_l0 k rec kE0 (IntKind.wrap .i64 (r145.1 + 1)) x2 (IntKind.wrap .i64 (x3 - 1)) (decide ((IntKind.wrap .i64 (r145.1 - x1)) ≥ (IntKind.wrap .i64 (Int.tdiv (IntKind.wrap .i64 (x2 - x1)) 8)))) r145.2.1 r154)
else (
(rec r145.2.2 (IntKind.wrap .i64 (r145.1 + 1)) x2 (IntKind.wrap .i64 (x3 - 1))).bind fun r162 =>
p_slices_pdqsortCmpFunc_alarm_Due_alarm_Table_Set_1_l0 k rec kE0 x1 r145.1 (IntKind.wrap .i64 (x3 - 1)) (decide ((IntKind.wrap .i64 (x2 - r145.1)) ≥ (IntKind.wrap .i64 (Int.tdiv (IntKind.wrap .i64 (x2 - x1)) 8)))) r145.2.1 r162))))
else (
(bif x10 then (some x11) else (some false)).bind fun b170 =>
(bif b170 then (some (r32.2 == 1)) else (some false)).bind fun b174 =>
bif b174 then (
(p_slices_partialInsertionSortCmpFunc_alarm_Due_alarm_Table_Set_1 k r24 x1 x2).bind fun r179 =>
bif r179.1 then (
kE0 r179.2)
else (
(bif decide (x1 > 0) then ((ix r179.2 (IntKind.wrap .i64 (x1 - 1))).bind fun a188 =>
(ix r179.2 r32.1).bind fun a193 =>
(p_alarm_Table_Set_1 k a188 a193).bind fun r198 =>
some (!(decide (r198 < 0)))) else (some false)).bind fun b203 =>
bif b203 then (
(p_slices_partitionEqualCmpFunc_alarm_Due_alarm_Table_Set_1 k r179.2 x1 x2 r32.1).bind fun r208 =>
p_slices_pdqsortCmpFunc_alarm_Due_alarm_Table_Set_1_l0 k rec kE0 r208.1 x2 (IntKind.wrap .i64 (x3 - 1)) x10 x11 r208.2)
else (
(p_slices_partitionCmpFunc_alarm_Due_alarm_Table_Set_1 k r179.2 x1 x2 r32.1).bind fun r216 =>
bif decide ((IntKind.wrap .i64 (r216.1 - x1)) < (IntKind.wrap .i64 (x2 - r216.1))) then (
(rec r216.2.2 x1 r216.1 (IntKind.wrap .i64 (x3 - 1))).bind fun r225 =>
p_slices_pdqsortCmpFunc_alarm_Due_alarm_Table_Set_1_l0 k rec kE0 (IntKind.wrap .i64 (r216.1 + 1)) x2 (IntKind.wrap .i64 (x3 - 1)) (decide ((IntKind.wrap .i64 (r216.1 - x1)) ≥ (IntKind.wrap .i64 (Int.tdiv (IntKind.wrap .i64 (x2 - x1)) 8)))) r216.2.1 r225)
else (
(rec r216.2.2 (IntKind.wrap .i64 (r216.1 + 1)) x2 (IntKind.wrap .i64 (x3 - 1))).bind fun r233 =>
p_slices_pdqsortCmpFunc_alarm_Due_alarm_Table_Set_1_l0 k rec kE0 x1 r216.1 (IntKind.wrap .i64 (x3 - 1)) (decide ((IntKind.wrap .i64 (x2 - r216.1)) ≥ (IntKind.wrap .i64 (Int.tdiv (IntKind.wrap .i64 (x2 - x1)) 8)))) r216.2.1 r233))))
else (
(bif decide (x1 > 0) then ((ix r24 (IntKind.wrap .i64 (x1 - 1))).bind fun a241 =>
(ix r24 r32.1).bind fun a246 =>
(p_alarm_Table_Set_1 k a241 a246).bind fun r251 =>
some (!(decide (r251 < 0)))) else (some false)).bind fun b256 =>
bif b256 then (
(p_slices_partitionEqualCmpFunc_alarm_Due_alarm_Table_Set_1 k r24 x1 x2 r32.1).bind fun r261 =>
p_slices_pdqsortCmpFunc_alarm_Due_alarm_Table_Set_1_l0 k rec kE0 r261.1 x2 (IntKind.wrap .i64 (x3 - 1)) x10 x11 r261.2)
else (
(p_slices_partitionCmpFunc_alarm_Due_alarm_Table_Set_1 k r24 x1 x2 r32.1).bind fun r269 =>
bif decide ((IntKind.wrap .i64 (r269.1 - x1)) < (IntKind.wrap .i64 (x2 - r269.1))) then (
(rec r269.2.2 x1 r269.1 (IntKind.wrap .i64 (x3 - 1))).bind fun r278 =>
p_slices_pdqsortCmpFunc_alarm_Due_alarm_Table_Set_1_l0 k rec kE0 (IntKind.wrap .i64 (r269.1 + 1)) x2 (IntKind.wrap .i64 (x3 - 1)) (decide ((IntKind.wrap .i64 (r269.1 - x1)) ≥ (IntKind.wrap .i64 (Int.tdiv (IntKind.wrap .i64 (x2 - x1)) 8)))) r269.2.1 r278)
else (
(rec r269.2.2 (IntKind.wrap .i64 (r269.1 + 1)) x2 (IntKind.wrap .i64 (x3 - 1))).bind fun r286 =>
p_slices_pdqsortCmpFunc_alarm_Due_alarm_Table_Set_1_l0 k rec kE0 x1 r269.1 (IntKind.wrap .i64 (x3 - 1)) (decide ((IntKind.wrap .i64 (x2 - r269.1)) ≥ (IntKind.wrap .i64 (Int.tdiv (IntKind.wrap .i64 (x2 - x1)) 8)))) r269.2.1 r286)))))
else (
(p_slices_choosePivotCmpFunc_alarm_Due_alarm_Table_Set_1 k zw0 x1 x2).bind fun r294 =>
bif r294.2 == 2 then (
(p_slices_reverseRangeCmpFunc_alarm_Due_alarm_Table_Set_1 k zw0 x1 x2).bind fun r300 =>
(bif x10 then (some x11) else (some false)).bind fun b308 =>
(bif b308 then (some (1 == 1)) else (some false)).bind fun b312 =>
bif b312 then (
(p_slices_partialInsertionSortCmpFunc_alarm_Due_alarm_Table_Set_1 k r300 x1 x2).bind fun r317 =>
bif r317.1 then (
kE0 r317.2)
else (
(bif decide (x1 > 0) then ((ix r317.2 (IntKind.wrap .i64 (x1 - 1))).bind fun a326 =>
(ix r317.2 (IntKind.wrap .i64 ((IntKind.wrap .i64 (x2 - 1)) - (IntKind.wrap .i64 (r294.1 - x1))))).bind fun a331 =>
(p_alarm_Table_Set_1 k a326 a331).bind fun r336 =>
some (!(decide (r336 < 0)))) else (some false)).bind fun b341 =>
bif b341 then (
(p_slices_partitionEqualCmpFunc_alarm_Due_alarm_Table_Set_1 k r317.2 x1 x2 (IntKind.wrap .i64 ((IntKind.wrap .i64 (x2 - 1)) - (IntKind.wrap .i64 (r294.1 - x1))))).bind fun r346 =>
p_slices_pdqsortCmpFunc_alarm_Due_alarm_Table_Set_1_l0 k rec kE0 r346.1 x2 x3 x10 x11 r346.2)
else (
(p_slices_partitionCmpFunc_alarm_Due_alarm_Table_Set_1 k r317.2 x1 x2 (IntKind.wrap .i64 ((IntKind.wrap .i64 (x2 - 1)) - (IntKind.wrap .i64 (r294.1 - x1))))).bind fun r354 =>
bif decide ((IntKind.wrap .i64 (r354.1 - x1)) < (IntKind.wrap .i64 (x2 - r354.1))) then (
(rec r354.2.2 x1 r354.1 x3).bind fun r363 =>
p_slices_pdqsortCmpFunc_alarm_Due_alarm_Table_Set_1_l0 k rec kE0 (IntKind.wrap .i64 (r354.1 + 1)) x2 x3 (decide ((IntKind.wrap .i64 (r354.1 - x1)) ≥ (IntKind.wrap .i64 (Int.tdiv (IntKind.wrap .i64 (x2 - x1)) 8)))) r354.2.1 r363)
else (
(rec r354.2.2 (IntKind.wrap .i64 (r354.1 + 1)) x2 x3).bind fun r371 =>
p_slices_pdqsortCmpFunc_alarm_Due_alarm_Table_Set_1_l0 k rec kE0 x1 r354.1 x3 (decide ((IntKind.wrap .i64 (x2 - r354.1)) ≥ (IntKind.wrap .i64 (Int.tdiv (IntKind.wrap .i64 (x2 - x1)) 8)))) r354.2.1 r371))))
else (
(bif decide (x1 > 0) then ((ix r300 (IntKind.wrap .i64 (x1 - 1))).bind fun a379 =>
(ix r300 (IntKind.wrap .i64 ((IntKind.wrap .i64 (x2 - 1)) - (IntKind.wrap .i64 (r294.1 - x1))))).bind fun a384 =>
(p_alarm_Table_Set_1 k a379 a384).bind fun r389 =>
some (!(decide (r389 < 0)))) else (some false)).bind fun b394 =>
bif b394 then (
(p_slices_partitionEqualCmpFunc_alarm_Due_alarm_Table_Set_1 k r300 x1 x2 (IntKind.wrap .i64 ((IntKind.wrap .i64 (x2 - 1)) - (IntKind.wrap .i64 (r294.1 - x1))))).bind fun r399 =>
p_slices_pdqsortCmpFunc_alarm_Due_alarm_Table_Set_1_l0 k rec kE0 r399.1 x2 x3 x10 x11 r399.2)
else (
(p_slices_partitionCmpFunc_alarm_Due_alarm_Table_Set_1 k r300 x1 x2 (IntKind.wrap .i64 ((IntKind.wrap .i64 (x2 - 1)) - (IntKind.wrap .i64 (r294.1 - x1))))).bind fun r407 =>
bif decide ((IntKind.wrap .i64 (r407.1 - x1)) < (IntKind.wrap .i64 (x2 - r407.1))) then (
(rec r407.2.2 x1 r407.1 x3).bind fun r416 =>
p_slices_pdqsortCmpFunc_alarm_Due_alarm_Table_Set_1_l0 k rec kE0 (IntKind.wrap .i64 (r407.1 + 1)) x2 x3 (decide ((IntKind.wrap .i64 (r407.1 - x1)) ≥ (IntKind.wrap .i64 (Int.tdiv (IntKind.wrap .i64 (x2 - x1)) 8)))) r407.2.1 r416)
else (
(rec r407.2.2 (IntKind.wrap .i64 (r407.1 + 1)) x2 x3).bind fun r424 =>
p_slices_pdqsortCmpFunc_alarm_Due_alarm_Table_Set_1_l0 k rec kE0 x1 r407.1 x3 (decide ((IntKind.wrap .i64 (x2 - r407.1)) ≥ (IntKind.wrap .i64 (Int.tdiv (IntKind.wrap .i64 (x2 - x1)) 8)))) r407.2.1 r424))))
else (
(bif x10 then (some x11) else (some false)).bind fun b432 =>
(bif b432 then (some (r294.2 == 1)) else (some false)).bind fun b436 =>
bif b436 then (
(p_slices_partialInsertionSortCmpFunc_alarm_Due_alarm_Table_Set_1 k zw0 x1 x2).bind fun r441 =>
bif r441.1 then (
kE0 r441.2)
else (
(bif decide (x1 > 0) then ((ix r441.2 (IntKind.wrap .i64 (x1 - 1))).bind fun a450 =>
(ix r441.2 r294.1).bind fun a455 =>
(p_alarm_Table_Set_1 k a450 a455).bind fun r460 =>
some (!(decide (r460 < 0)))) else (some false)).bind fun b465 =>
bif b465 then (
(p_slices_partitionEqualCmpFunc_alarm_Due_alarm_Table_Set_1 k r441.2 x1 x2 r294.1).bind fun r470 =>
p_slices_pdqsortCmpFunc_alarm_Due_alarm_Table_Set_1_l0 k rec kE0 r470.1 x2 x3 x10 x11 r470.2)
else (
(p_slices_partitionCmpFunc_alarm_Due_alarm_Table_Set_1 k r441.2 x1 x2 r294.1).bind fun r478 =>
bif decide ((IntKind.wrap .i64 (r478.1 - x1)) < (IntKind.wrap .i64 (x2 - r478.1))) then (
(rec r478.2.2 x1 r478.1 x3).bind fun r487 =>
p_slices_pdqsortCmpFunc_alarm_Due_alarm_Table_Set_1_l0 k rec kE0 (IntKind.wrap .i64 (r478.1 + 1)) x2 x3 (decide ((IntKind.wrap .i64 (r478.1 - x1)) ≥ (IntKind.wrap .i64 (Int.tdiv (IntKind.wrap .i64 (x2 - x1)) 8)))) r478.2.1 r487)
else (
(rec r478.2.2 (IntKind.wrap .i64 (r478.1 + 1)) x2 x3).bind fun r495 =>
p_slices_pdqsortCmpFunc_alarm_Due_alarm_Table_Set_1_l0 k rec kE0 x1 r478.1 x3 (decide ((IntKind.wrap .i64 (x2 - r478.1)) ≥ (IntKind.wrap .i64 (Int.tdiv (IntKind.wrap .i64 (x2 - x1)) 8)))) r478.2.1 r495))))
else (
(bif decide (x1 > 0) then ((ix zw0 (IntKind.wrap .i64 (x1 - 1))).bind fun a503 =>
(ix zw0 r294.1).bind fun a508 =>
(p_alarm_Table_Set_1 k a503 a508).bind fun r513 =>
some (!(decide (r513 < 0)))) else (some false)).bind fun b518 =>
bif b518 then (
(p_slices_partitionEqualCmpFunc_alarm_Due_alarm_Table_Set_1 k zw0 x1 x2 r294.1).bind fun r523 =>
p_slices_pdqsortCmpFunc_alarm_Due_alarm_Table_Set_1_l0 k rec kE0 r523.1 x2 x3 x10 x11 r523.2)
else (
(p_slices_partitionCmpFunc_alarm_Due_alarm_Table_Set_1 k zw0 x1 x2 r294.1).bind fun r531 =>
bif decide ((IntKind.wrap .i64 (r531.1 - x1)) < (IntKind.wrap .i64 (x2 - r531.1))) then (
(rec r531.2.2 x1 r531.1 x3).bind fun r540 =>
p_slices_pdqsortCmpFunc_alarm_Due_alarm_Table_Set_1_l0 k rec kE0 (IntKind.wrap .i64 (r531.1 + 1)) x2 x3 (decide ((IntKind.wrap .i64 (r531.1 - x1)) ≥ (IntKind.wrap .i64 (Int.tdiv (IntKind.wrap .i64 (x2 - x1)) 8)))) r531.2.1 r540)
else (
(rec r531.2.2 (IntKind.wrap .i64 (r531.1 + 1)) x2 x3).bind fun r548 =>
p_slices_pdqsortCmpFunc_alarm_Due_alarm_Table_Set_1_l0 k rec kE0 x1 r531.1 x3 (decide ((IntKind.wrap .i64 (x2 - r531.1)) ≥ (IntKind.wrap .i64 (Int.tdiv (IntKind.wrap .i64 (x2 - x1)) 8)))) r531.2.1 r548)))))))
def p_slices_pdqsortCmpFunc_alarm_Due_alarm_Table_Set_1 (k : Nat) (x0 : (List T_alarm_Due)) (x1 : Int) (x2 : Int) (x3 : Int) : Option ((List T_alarm_Due)):=match k with
| 0 => none
| k + 1 =>
p_slices_pdqsortCmpFunc_alarm_Due_alarm_Table_Set_1_l0 k (p_slices_pdqsortCmpFunc_alarm_Due_alarm_Table_Set_1 k) (fun zw0 =>
some (zw0)) x1 x2 x3 true true x0
theorem slices_pdqsortCmpFunc_alarm_Due_alarm_Table_Set_1_l0_ok {h : H} {l0 : Loc} {o0 : Nat} {u0 : V} {rec : (List T_alarm_Due)→Int→Int→Int→Option ((List T_alarm_Due))} {kE0 : (List T_alarm_Due)→Option β} (hrec : ∀ {h : H} {σ : Stamp} (x0 : List T_alarm_Due) {u0 : V} {l0 : Loc} {o0 : Nat} {w0 : List C} (hw0 : WL l0 o0 dT_alarm_Due x0 u0 w0) (ha0 : AtC h l0 o0 w0) (x1 : Int) (x2 : Int) (x3 : Int),Sim (rec x0 x1 x2 x3) (ev G X0 100 σ [u0,(.p (.int .i64 x1)),(.p (.int .i64 x2)),(.p (.int .i64 x3)),(.clo 47 [])] h) (fun r s => ∃ (wb0 : List C),WL l0 o0 dT_alarm_Due r u0 wb0∧s = ([],pts h [⟨l0,o0,wb0⟩]))) (hE0 : ∀ (zw0 : (List T_alarm_Due)) (w558 : List C) (h559 : WL l0 o0 dT_alarm_Due zw0 u0 w558) (H556 : Go.Ev.H) (_ : Fm 148 h [⟨l0,o0,w558⟩] [] [] H556),Sim (kE0 zw0) (K (.ret,(envL []),H556)) Q) (k : Nat) : ∀ (x1 : Int) (x2 : Int) (x3 : Int) (x10 : Bool) (x11 : Bool) (zw0 : (List T_alarm_Due)) (w3 : List C) (h4 : WL l0 o0 dT_alarm_Due zw0 u0 w3) (H1 : Go.Ev.H) (_ : Fm 148 h [⟨l0,o0,w3⟩] [] [] H1) {σ : Stamp},Sim (p_slices_pdqsortCmpFunc_alarm_Due_alarm_Table_Set_1_l0 k rec kE0 x1 x2 x3 x10 x11 zw0) ((cvL G X0 slices_pdqsortCmpFunc_alarm_Due_c0 slices_pdqsortCmpFunc_alarm_Due_l0 σ (envL [(0,u0),(1,(.p (.int .i64 x1))),(2,(.p (.int .i64 x2))),(3,(.p (.int .i64 x3))),(4,(.clo 47 [])),(10,(.p (.bool x10))),(11,(.p (.bool x11)))]) H1).bind K) Q:=by
 induction k with
 | zero => intros; exact .no
 | succ k ih =>
  intro x1 x2 x3 x10 x11 zw0 w3 h4 H1 S2 σ
  rw [p_slices_pdqsortCmpFunc_alarm_Due_alarm_Table_Set_1_l0]
  refine .round (Sim.ext (slices_pdqsortCmpFunc_alarm_Due_r0 _ _ _ _ _ _ _ _ _ _ _) ?_)
  refine .cq ?_ ?_
  ·refine .call (slices_insertionSortCmpFunc_alarm_Due_alarm_Table_Set_1_ok k zw0 h4 (S2.atB (i:=0) rfl) x1 x2) fun r6 cs7 H8 h9 q10 => ?_
   obtain ⟨w11,h12,q10⟩:=q10
   cases q10
   have S13:=S2.setB (i:=0) (cs:=w11) rfl (WL.same h4 h12)
   exact hE0 r6 w11 h12 (ptC H1 l0 o0 w11) (S13.wk2 aN aN)
  refine .cq ?_ ?_
  ·refine .call (slices_heapSortCmpFunc_alarm_Due_alarm_Table_Set_1_ok k zw0 h4 (S2.atB (i:=0) rfl) x1 x2) fun r15 cs16 H17 h18 q19 => ?_
   obtain ⟨w20,h21,q19⟩:=q19
   cases q19
   have S22:=S2.setB (i:=0) (cs:=w20) rfl (WL.same h4 h21)
   exact hE0 r15 w20 h21 (ptC H1 l0 o0 w20) (S22.wk2 aN aN)
  refine .cq ?_ ?_
  ·refine .call (slices_breakPatternsCmpFunc_alarm_Due_alarm_Table_Set_1_ok k zw0 h4 (S2.atB (i:=0) rfl) x1 x2) fun r24 cs25 H26 h27 q28 => ?_
   obtain ⟨w29,h30,q28⟩:=q28
   cases q28
   have S31:=S2.setB (i:=0) (cs:=w29) rfl (WL.same h4 h30)
   refine .call (slices_choosePivotCmpFunc_alarm_Due_alarm_Table_Set_1_ok k r24 (S31.slW (i:=0) rfl h30) x1 x2) fun r32 cs33 H34 h35 q36 => ?_
   cases q36
   refine .or ?_
   refine .ci ?_
   refine .or ?_
   refine .ci ?_
   refine .cq ?_ ?_
   ·refine .call (slices_reverseRangeCmpFunc_alarm_Due_alarm_Table_Set_1_ok k r24 h30 (S31.atB (i:=0) rfl) x1 x2) fun r38 cs39 H40 h41 q42 => ?_
    obtain ⟨w43,h44,q42⟩:=q42
    cases q42
    have S45:=S31.setB (i:=0) (cs:=w43) rfl (WL.same h30 h44)
    refine .ch (P:=fun r y => r = y) ?_ (fun b46 y47 h48 h49 => ?_)
    ·refine .cq ?_ ?_
     ·exact .ret rfl rfl
     ·exact .ret rfl rfl
    subst h49
    refine .ch (P:=fun r y => r = y) ?_ (fun b50 y51 h52 h53 => ?_)
    ·refine .cq ?_ ?_
     ·exact .ret rfl rfl
     ·exact .ret rfl rfl
    subst h53
    refine .cq ?_ ?_
    ·refine .call (slices_partialInsertionSortCmpFunc_alarm_Due_alarm_Table_Set_1_ok k r38 h44 (S45.atB (i:=0) rfl) x1 x2) fun r55 cs56 H57 h58 q59 => ?_
     obtain ⟨w60,h61,q59⟩:=q59
     cases q59
     have S62:=S45.setB (i:=0) (cs:=w60) rfl (WL.same h44 h61)
     refine .ab ?_
     refine .cq ?_ ?_
     ·exact hE0 r55.2 w60 h61 (ptC (ptC (ptC H1 l0 o0 w29) l0 o0 w43) l0 o0 w60) (S62.wk2 aN aN)
     refine .ch (P:=fun r y => (.p (.bool r),(ptC (ptC (ptC H1 l0 o0 w29) l0 o0 w43) l0 o0 w60)) = y) ?_ (fun b79 y80 h81 h82 => ?_)
     ·refine .cq ?_ ?_
      ·refine .bd fun a64 h65 => ?_
       refine .op ((S62.slW (i:=0) rfl h61).iS h65 rfl) ?_
       obtain ⟨w67,h68,hE66⟩:=(S62.slW (i:=0) rfl h61).el h65 rfl
       obtain rfl:=dT_alarm_Due.inv h68
       refine .op (hE66.all (by simp)) ?_
       refine .bd fun a69 h70 => ?_
       refine .op ((S62.slW (i:=0) rfl h61).iS h70 rfl) ?_
       obtain ⟨w72,h73,hE71⟩:=(S62.slW (i:=0) rfl h61).el h70 rfl
       obtain rfl:=dT_alarm_Due.inv h73
       refine .op (hE71.all (by simp)) ?_
       refine .clo ?_
       refine .call (alarm_Table_Set_1_ok k a64 (show dT_alarm_Due.R a64 [.p (.int .i64 a64.f_At),.p (.int .u64 a64.Key)] from (dT_alarm_Due.mk)) a69 (show dT_alarm_Due.R a69 [.p (.int .i64 a69.f_At),.p (.int .u64 a69.Key)] from (dT_alarm_Due.mk))) fun r74 cs75 H76 h77 q78 => ?_
       cases q78
       refine .ci ?_
       exact .ret rfl rfl
      ·exact .ret rfl rfl
     subst h82
     refine .ab ?_
     refine .cq ?_ ?_
     ·refine .call (slices_partitionEqualCmpFunc_alarm_Due_alarm_Table_Set_1_ok k r55.2 h61 (S62.atB (i:=0) rfl) x1 x2 (IntKind.wrap .i64 ((IntKind.wrap .i64 (x2 - 1)) - (IntKind.wrap .i64 (r32.1 - x1))))) fun r84 cs85 H86 h87 q88 => ?_
      obtain ⟨w89,h90,q88⟩:=q88
      cases q88
      have S91:=S62.setB (i:=0) (cs:=w89) rfl (WL.same h61 h90)
      refine .ci ?_
      exact ih r84.1 x2 (IntKind.wrap .i64 (x3 - 1)) x10 x11 r84.2 w89 h90 (ptC (ptC (ptC (ptC H1 l0 o0 w29) l0 o0 w43) l0 o0 w60) l0 o0 w89) (S91.wk2 aN aN)
     refine .call (slices_partitionCmpFunc_alarm_Due_alarm_Table_Set_1_ok k r55.2 h61 (S62.atB (i:=0) rfl) x1 x2 (IntKind.wrap .i64 ((IntKind.wrap .i64 (x2 - 1)) - (IntKind.wrap .i64 (r32.1 - x1))))) fun r92 cs93 H94 h95 q96 => ?_
     obtain ⟨w97,h98,q96⟩:=q96
     cases q96
     have S99:=S62.setB (i:=0) (cs:=w97) rfl (WL.same h61 h98)
     refine .or ?_
     refine .ci ?_
     refine .or ?_
     refine .ab ?_
     refine .cq ?_ ?_
     ·refine .call (hrec r92.2.2 h98 (S99.atB (i:=0) rfl) x1 r92.1 (IntKind.wrap .i64 (x3 - 1))) fun r101 cs102 H103 h104 q105 => ?_
      obtain ⟨w106,h107,q105⟩:=q105
      cases q105
      have S108:=S99.setB (i:=0) (cs:=w106) rfl (WL.same h98 h107)
      exact ih (IntKind.wrap .i64 (r92.1 + 1)) x2 (IntKind.wrap .i64 (x3 - 1)) (decide ((IntKind.wrap .i64 (r92.1 - x1)) ≥ (IntKind.wrap .i64 (Int.tdiv (IntKind.wrap .i64 (x2 - x1)) 8)))) r92.2.1 r101 w106 h107 (ptC (ptC (ptC (ptC (ptC H1 l0 o0 w29) l0 o0 w43) l0 o0 w60) l0 o0 w97) l0 o0 w106) (S108.wk2 aN aN)
     refine .call (hrec r92.2.2 h98 (S99.atB (i:=0) rfl) (IntKind.wrap .i64 (r92.1 + 1)) x2 (IntKind.wrap .i64 (x3 - 1))) fun r109 cs110 H111 h112 q113 => ?_
     obtain ⟨w114,h115,q113⟩:=q113
     cases q113
     have S116:=S99.setB (i:=0) (cs:=w114) rfl (WL.same h98 h115)
     exact ih x1 r92.1 (IntKind.wrap .i64 (x3 - 1)) (decide ((IntKind.wrap .i64 (x2 - r92.1)) ≥ (IntKind.wrap .i64 (Int.tdiv (IntKind.wrap .i64 (x2 - x1)) 8)))) r92.2.1 r109 w114 h115 (ptC (ptC (ptC (ptC (ptC H1 l0 o0 w29) l0 o0 w43) l0 o0 w60) l0 o0 w97) l0 o0 w114) (S116.wk2 aN aN)
    refine .ch (P:=fun r y => (.p (.bool r),(ptC (ptC H1 l0 o0 w29) l0 o0 w43)) = y) ?_ (fun b132 y133 h134 h135 => ?_)
    ·refine .cq ?_ ?_
     ·refine .bd fun a117 h118 => ?_
      refine .op ((S45.slW (i:=0) rfl h44).iS h118 rfl) ?_
      obtain ⟨w120,h121,hE119⟩:=(S45.slW (i:=0) rfl h44).el h118 rfl
      obtain rfl:=dT_alarm_Due.inv h121
      refine .op (hE119.all (by simp)) ?_
      refine .bd fun a122 h123 => ?_
      refine .op ((S45.slW (i:=0) rfl h44).iS h123 rfl) ?_
      obtain ⟨w125,h126,hE124⟩:=(S45.slW (i:=0) rfl h44).el h123 rfl
      obtain rfl:=dT_alarm_Due.inv h126
      refine .op (hE124.all (by simp)) ?_
      refine .clo ?_
      refine .call (alarm_Table_Set_1_ok k a117 (show dT_alarm_Due.R a117 [.p (.int .i64 a117.f_At),.p (.int .u64 a117.Key)] from (dT_alarm_Due.mk)) a122 (show dT_alarm_Due.R a122 [.p (.int .i64 a122.f_At),.p (.int .u64 a122.Key)] from (dT_alarm_Due.mk))) fun r127 cs128 H129 h130 q131 => ?_
      cases q131
      refine .ci ?_
      exact .ret rfl rfl
     ·exact .ret rfl rfl
    subst h135
    refine .ab ?_
    refine .cq ?_ ?_
    ·refine .call (slices_partitionEqualCmpFunc_alarm_Due_alarm_Table_Set_1_ok k r38 h44 (S45.atB (i:=0) rfl) x1 x2 (IntKind.wrap .i64 ((IntKind.wrap .i64 (x2 - 1)) - (IntKind.wrap .i64 (r32.1 - x1))))) fun r137 cs138 H139 h140 q141 => ?_
     obtain ⟨w142,h143,q141⟩:=q141
     cases q141
     have S144:=S45.setB (i:=0) (cs:=w142) rfl (WL.same h44 h143)
     refine .ci ?_
     exact ih r137.1 x2 (IntKind.wrap .i64 (x3 - 1)) x10 x11 r137.2 w142 h143 (ptC (ptC (ptC H1 l0 o0 w29) l0 o0 w43) l0 o0 w142) (S144.wk2 aN aN)
    refine .call (slices_partitionCmpFunc_alarm_Due_alarm_Table_Set_1_ok k r38 h44 (S45.atB (i:=0) rfl) x1 x2 (IntKind.wrap .i64 ((IntKind.wrap .i64 (x2 - 1)) - (IntKind.wrap .i64 (r32.1 - x1))))) fun r145 cs146 H147 h148 q149 => ?_
    obtain ⟨w150,h151,q149⟩:=q149
    cases q149
    have S152:=S45.setB (i:=0) (cs:=w150) rfl (WL.same h44 h151)
    refine .or ?_
    refine .ci ?_
    refine .or ?_
    refine .ab ?_
    refine .cq ?_ ?_
    ·refine .call (hrec r145.2.2 h151 (S152.atB (i:=0) rfl) x1 r145.1 (IntKind.wrap .i64 (x3 - 1))) fun r154 cs155 H156 h157 q158 => ?_
     obtain ⟨w159,h160,q158⟩:=q158
     cases q158
     have S161:=S152.setB (i:=0) (cs:=w159) rfl (WL.same h151 h160)
     exact ih (IntKind.wrap .i64 (r145.1 + 1)) x2 (IntKind.wrap .i64 (x3 - 1)) (decide ((IntKind.wrap .i64 (r145.1 - x1)) ≥ (IntKind.wrap .i64 (Int.tdiv (IntKind.wrap .i64 (x2 - x1)) 8)))) r145.2.1 r154 w159 h160 (ptC (ptC (ptC (ptC H1 l0 o0 w29) l0 o0 w43) l0 o0 w150) l0 o0 w159) (S161.wk2 aN aN)
    refine .call (hrec r145.2.2 h151 (S152.atB (i:=0) rfl) (IntKind.wrap .i64 (r145.1 + 1)) x2 (IntKind.wrap .i64 (x3 - 1))) fun r162 cs163 H164 h165 q166 => ?_
    obtain ⟨w167,h168,q166⟩:=q166
    cases q166
    have S169:=S152.setB (i:=0) (cs:=w167) rfl (WL.same h151 h168)
    exact ih x1 r145.1 (IntKind.wrap .i64 (x3 - 1)) (decide ((IntKind.wrap .i64 (x2 - r145.1)) ≥ (IntKind.wrap .i64 (Int.tdiv (IntKind.wrap .i64 (x2 - x1)) 8)))) r145.2.1 r162 w167 h168 (ptC (ptC (ptC (ptC H1 l0 o0 w29) l0 o0 w43) l0 o0 w150) l0 o0 w167) (S169.wk2 aN aN)
   refine .ch (P:=fun r y => r = y) ?_ (fun b170 y171 h172 h173 => ?_)
   ·refine .cq ?_ ?_
    ·exact .ret rfl rfl
    ·exact .ret rfl rfl
   subst h173
   refine .ch (P:=fun r y => r = y) ?_ (fun b174 y175 h176 h177 => ?_)
   ·refine .cq ?_ ?_
    ·exact .ret rfl rfl
    ·exact .ret rfl rfl
   subst h177
   refine .cq ?_ ?_
   ·refine .call (slices_partialInsertionSortCmpFunc_alarm_Due_alarm_Table_Set_1_ok k r24 h30 (S31.atB (i:=0) rfl) x1 x2) fun r179 cs180 H181 h182 q183 => ?_
    obtain ⟨w184,h185,q183⟩:=q183
    cases q183
    have S186:=S31.setB (i:=0) (cs:=w184) rfl (WL.same h30 h185)
    refine .ab ?_
    refine .cq ?_ ?_
    ·exact hE0 r179.2 w184 h185 (ptC (ptC H1 l0 o0 w29) l0 o0 w184) (S186.wk2 aN aN)
    refine .ch (P:=fun r y => (.p (.bool r),(ptC (ptC H1 l0 o0 w29) l0 o0 w184)) = y) ?_ (fun b203 y204 h205 h206 => ?_)
    ·refine .cq ?_ ?_
     ·refine .bd fun a188 h189 => ?_
      refine .op ((S186.slW (i:=0) rfl h185).iS h189 rfl) ?_
      obtain ⟨w191,h192,hE190⟩:=(S186.slW (i:=0) rfl h185).el h189 rfl
      obtain rfl:=dT_alarm_Due.inv h192
      refine .op (hE190.all (by simp)) ?_
      refine .bd fun a193 h194 => ?_
      refine .op ((S186.slW (i:=0) rfl h185).iS h194 rfl) ?_
      obtain ⟨w196,h197,hE195⟩:=(S186.slW (i:=0) rfl h185).el h194 rfl
      obtain rfl:=dT_alarm_Due.inv h197
      refine .op (hE195.all (by simp)) ?_
      refine .clo ?_
      refine .call (alarm_Table_Set_1_ok k a188 (show dT_alarm_Due.R a188 [.p (.int .i64 a188.f_At),.p (.int .u64 a188.Key)] from (dT_alarm_Due.mk)) a193 (show dT_alarm_Due.R a193 [.p (.int .i64 a193.f_At),.p (.int .u64 a193.Key)] from (dT_alarm_Due.mk))) fun r198 cs199 H200 h201 q202 => ?_
      cases q202
      refine .ci ?_
      exact .ret rfl rfl
     ·exact .ret rfl rfl
    subst h206
    refine .ab ?_
    refine .cq ?_ ?_
    ·refine .call (slices_partitionEqualCmpFunc_alarm_Due_alarm_Table_Set_1_ok k r179.2 h185 (S186.atB (i:=0) rfl) x1 x2 r32.1) fun r208 cs209 H210 h211 q212 => ?_
     obtain ⟨w213,h214,q212⟩:=q212
     cases q212
     have S215:=S186.setB (i:=0) (cs:=w213) rfl (WL.same h185 h214)
     refine .ci ?_
     exact ih r208.1 x2 (IntKind.wrap .i64 (x3 - 1)) x10 x11 r208.2 w213 h214 (ptC (ptC (ptC H1 l0 o0 w29) l0 o0 w184) l0 o0 w213) (S215.wk2 aN aN)
    refine .call (slices_partitionCmpFunc_alarm_Due_alarm_Table_Set_1_ok k r179.2 h185 (S186.atB (i:=0) rfl) x1 x2 r32.1) fun r216 cs217 H218 h219 q220 => ?_
    obtain ⟨w221,h222,q220⟩:=q220
    cases q220
    have S223:=S186.setB (i:=0) (cs:=w221) rfl (WL.same h185 h222)
    refine .or ?_
    refine .ci ?_
    refine .or ?_
    refine .ab ?_
    refine .cq ?_ ?_
    ·refine .call (hrec r216.2.2 h222 (S223.atB (i:=0) rfl) x1 r216.1 (IntKind.wrap .i64 (x3 - 1))) fun r225 cs226 H227 h228 q229 => ?_
     obtain ⟨w230,h231,q229⟩:=q229
     cases q229
     have S232:=S223.setB (i:=0) (cs:=w230) rfl (WL.same h222 h231)
     exact ih (IntKind.wrap .i64 (r216.1 + 1)) x2 (IntKind.wrap .i64 (x3 - 1)) (decide ((IntKind.wrap .i64 (r216.1 - x1)) ≥ (IntKind.wrap .i64 (Int.tdiv (IntKind.wrap .i64 (x2 - x1)) 8)))) r216.2.1 r225 w230 h231 (ptC (ptC (ptC (ptC H1 l0 o0 w29) l0 o0 w184) l0 o0 w221) l0 o0 w230) (S232.wk2 aN aN)
    refine .call (hrec r216.2.2 h222 (S223.atB (i:=0) rfl) (IntKind.wrap .i64 (r216.1 + 1)) x2 (IntKind.wrap .i64 (x3 - 1))) fun r233 cs234 H235 h236 q237 => ?_
    obtain ⟨w238,h239,q237⟩:=q237
    cases q237
    have S240:=S223.setB (i:=0) (cs:=w238) rfl (WL.same h222 h239)
    exact ih x1 r216.1 (IntKind.wrap .i64 (x3 - 1)) (decide ((IntKind.wrap .i64 (x2 - r216.1)) ≥ (IntKind.wrap .i64 (Int.tdiv (IntKind.wrap .i64 (x2 - x1)) 8)))) r216.2.1 r233 w238 h239 (ptC (ptC (ptC (ptC H1 l0 o0 w29) l0 o0 w184) l0 o0 w221) l0 o0 w238) (S240.wk2 aN aN)
   refine .ch (P:=fun r y => (.p (.bool r),(ptC H1 l0 o0 w29)) = y) ?_ (fun b256 y257 h258 h259 => ?_)
   ·refine .cq ?_ ?_
    ·refine .bd fun a241 h242 => ?_
     refine .op ((S31.slW (i:=0) rfl h30).iS h242 rfl) ?_
     obtain ⟨w244,h245,hE243⟩:=(S31.slW (i:=0) rfl h30).el h242 rfl
     obtain rfl:=dT_alarm_Due.inv h245
     refine .op (hE243.all (by simp)) ?_
     refine .bd fun a246 h247 => ?_
     refine .op ((S31.slW (i:=0) rfl h30).iS h247 rfl) ?_
     obtain ⟨w249,h250,hE248⟩:=(S31.slW (i:=0) rfl h30).el h247 rfl
     obtain rfl:=dT_alarm_Due.inv h250
     refine .op (hE248.all (by simp)) ?_
     refine .clo ?_
     refine .call (alarm_Table_Set_1_ok k a241 (show dT_alarm_Due.R a241 [.p (.int .i64 a241.f_At),.p (.int .u64 a241.Key)] from (dT_alarm_Due.mk)) a246 (show dT_alarm_Due.R a246 [.p (.int .i64 a246.f_At),.p (.int .u64 a246.Key)] from (dT_alarm_Due.mk))) fun r251 cs252 H253 h254 q255 => ?_
     cases q255
     refine .ci ?_
     exact .ret rfl rfl
    ·exact .ret rfl rfl
   subst h259
   refine .ab ?_
   refine .cq ?_ ?_
   ·refine .call (slices_partitionEqualCmpFunc_alarm_Due_alarm_Table_Set_1_ok k r24 h30 (S31.atB (i:=0) rfl) x1 x2 r32.1) fun r261 cs262 H263 h264 q265 => ?_
    obtain ⟨w266,h267,q265⟩:=q265
    cases q265
    have S268:=S31.setB (i:=0) (cs:=w266) rfl (WL.same h30 h267)
    refine .ci ?_
    exact ih r261.1 x2 (IntKind.wrap .i64 (x3 - 1)) x10 x11 r261.2 w266 h267 (ptC (ptC H1 l0 o0 w29) l0 o0 w266) (S268.wk2 aN aN)
   refine .call (slices_partitionCmpFunc_alarm_Due_alarm_Table_Set_1_ok k r24 h30 (S31.atB (i:=0) rfl) x1 x2 r32.1) fun r269 cs270 H271 h272 q273 => ?_
   obtain ⟨w274,h275,q273⟩:=q273
   cases q273
   have S276:=S31.setB (i:=0) (cs:=w274) rfl (WL.same h30 h275)
   refine .or ?_
   refine .ci ?_
   refine .or ?_
   refine .ab ?_
   refine .cq ?_ ?_
   ·refine .call (hrec r269.2.2 h275 (S276.atB (i:=0) rfl) x1 r269.1 (IntKind.wrap .i64 (x3 - 1))) fun r278 cs279 H280 h281 q282 => ?_
    obtain ⟨w283,h284,q282⟩:=q282
    cases q282
    have S285:=S276.setB (i:=0) (cs:=w283) rfl (WL.same h275 h284)
    exact ih (IntKind.wrap .i64 (r269.1 + 1)) x2 (IntKind.wrap .i64 (x3 - 1)) (decide ((IntKind.wrap .i64 (r269.1 - x1)) ≥ (IntKind.wrap .i64 (Int.tdiv (IntKind.wrap .i64 (x2 - x1)) 8)))) r269.2.1 r278 w283 h284 (ptC (ptC (ptC H1 l0 o0 w29) l0 o0 w274) l0 o0 w283) (S285.wk2 aN aN)
   refine .call (hrec r269.2.2 h275 (S276.atB (i:=0) rfl) (IntKind.wrap .i64 (r269.1 + 1)) x2 (IntKind.wrap .i64 (x3 - 1))) fun r286 cs287 H288 h289 q290 => ?_
   obtain ⟨w291,h292,q290⟩:=q290
   cases q290
   have S293:=S276.setB (i:=0) (cs:=w291) rfl (WL.same h275 h292)
   exact ih x1 r269.1 (IntKind.wrap .i64 (x3 - 1)) (decide ((IntKind.wrap .i64 (x2 - r269.1)) ≥ (IntKind.wrap .i64 (Int.tdiv (IntKind.wrap .i64 (x2 - x1)) 8)))) r269.2.1 r286 w291 h292 (ptC (ptC (ptC H1 l0 o0 w29) l0 o0 w274) l0 o0 w291) (S293.wk2 aN aN)
  refine .call (slices_choosePivotCmpFunc_alarm_Due_alarm_Table_Set_1_ok k zw0 (S2.slW (i:=0) rfl h4) x1 x2) fun r294 cs295 H296 h297 q298 => ?_
  cases q298
  refine .or ?_
  refine .ci ?_
  refine .or ?_
  refine .ci ?_
  refine .cq ?_ ?_
  ·refine .call (slices_reverseRangeCmpFunc_alarm_Due_alarm_Table_Set_1_ok k zw0 h4 (S2.atB (i:=0) rfl) x1 x2) fun r300 cs301 H302 h303 q304 => ?_
   obtain ⟨w305,h306,q304⟩:=q304
   cases q304
   have S307:=S2.setB (i:=0) (cs:=w305) rfl (WL.same h4 h306)
   refine .ch (P:=fun r y => r = y) ?_ (fun b308 y309 h310 h311 => ?_)
   ·refine .cq ?_ ?_
    ·exact .ret rfl rfl
    ·exact .ret rfl rfl
   subst h311
   refine .ch (P:=fun r y => r = y) ?_ (fun b312 y313 h314 h315 => ?_)
   ·refine .cq ?_ ?_
    ·exact .ret rfl rfl
    ·exact .ret rfl rfl
   subst h315
   refine .cq ?_ ?_
   ·refine .call (slices_partialInsertionSortCmpFunc_alarm_Due_alarm_Table_Set_1_ok k r300 h306 (S307.atB (i:=0) rfl) x1 x2) fun r317 cs318 H319 h320 q321 => ?_
    obtain ⟨w322,h323,q321⟩:=q321
    cases q321
    have S324:=S307.setB (i:=0) (cs:=w322) rfl (WL.same h306 h323)
    refine .ab ?_
    refine .cq ?_ ?_
    ·exact hE0 r317.2 w322 h323 (ptC (ptC H1 l0 o0 w305) l0 o0 w322) (S324.wk2 aN aN)
    refine .ch (P:=fun r y => (.p (.bool r),(ptC (ptC H1 l0 o0 w305) l0 o0 w322)) = y) ?_ (fun b341 y342 h343 h344 => ?_)
    ·refine .cq ?_ ?_
     ·refine .bd fun a326 h327 => ?_
      refine .op ((S324.slW (i:=0) rfl h323).iS h327 rfl) ?_
      obtain ⟨w329,h330,hE328⟩:=(S324.slW (i:=0) rfl h323).el h327 rfl
      obtain rfl:=dT_alarm_Due.inv h330
      refine .op (hE328.all (by simp)) ?_
      refine .bd fun a331 h332 => ?_
      refine .op ((S324.slW (i:=0) rfl h323).iS h332 rfl) ?_
      obtain ⟨w334,h335,hE333⟩:=(S324.slW (i:=0) rfl h323).el h332 rfl
      obtain rfl:=dT_alarm_Due.inv h335
      refine .op (hE333.all (by simp)) ?_
      refine .clo ?_
      refine .call (alarm_Table_Set_1_ok k a326 (show dT_alarm_Due.R a326 [.p (.int .i64 a326.f_At),.p (.int .u64 a326.Key)] from (dT_alarm_Due.mk)) a331 (show dT_alarm_Due.R a331 [.p (.int .i64 a331.f_At),.p (.int .u64 a331.Key)] from (dT_alarm_Due.mk))) fun r336 cs337 H338 h339 q340 => ?_
      cases q340
      refine .ci ?_
      exact .ret rfl rfl
     ·exact .ret rfl rfl
    subst h344
    refine .ab ?_
    refine .cq ?_ ?_
    ·refine .call (slices_partitionEqualCmpFunc_alarm_Due_alarm_Table_Set_1_ok k r317.2 h323 (S324.atB (i:=0) rfl) x1 x2 (IntKind.wrap .i64 ((IntKind.wrap .i64 (x2 - 1)) - (IntKind.wrap .i64 (r294.1 - x1))))) fun r346 cs347 H348 h349 q350 => ?_
     obtain ⟨w351,h352,q350⟩:=q350
     cases q350
     have S353:=S324.setB (i:=0) (cs:=w351) rfl (WL.same h323 h352)
     refine .ci ?_
     exact ih r346.1 x2 x3 x10 x11 r346.2 w351 h352 (ptC (ptC (ptC H1 l0 o0 w305) l0 o0 w322) l0 o0 w351) (S353.wk2 aN aN)
    refine .call (slices_partitionCmpFunc_alarm_Due_alarm_Table_Set_1_ok k r317.2 h323 (S324.atB (i:=0) rfl) x1 x2 (IntKind.wrap .i64 ((IntKind.wrap .i64 (x2 - 1)) - (IntKind.wrap .i64 (r294.1 - x1))))) fun r354 cs355 H356 h357 q358 => ?_
    obtain ⟨w359,h360,q358⟩:=q358
    cases q358
    have S361:=S324.setB (i:=0) (cs:=w359) rfl (WL.same h323 h360)
    refine .or ?_
    refine .ci ?_
    refine .or ?_
    refine .ab ?_
    refine .cq ?_ ?_
    ·refine .call (hrec r354.2.2 h360 (S361.atB (i:=0) rfl) x1 r354.1 x3) fun r363 cs364 H365 h366 q367 => ?_
     obtain ⟨w368,h369,q367⟩:=q367
     cases q367
     have S370:=S361.setB (i:=0) (cs:=w368) rfl (WL.same h360 h369)
     exact ih (IntKind.wrap .i64 (r354.1 + 1)) x2 x3 (decide ((IntKind.wrap .i64 (r354.1 - x1)) ≥ (IntKind.wrap .i64 (Int.tdiv (IntKind.wrap .i64 (x2 - x1)) 8)))) r354.2.1 r363 w368 h369 (ptC (ptC (ptC (ptC H1 l0 o0 w305) l0 o0 w322) l0 o0 w359) l0 o0 w368) (S370.wk2 aN aN)
    refine .call (hrec r354.2.2 h360 (S361.atB (i:=0) rfl) (IntKind.wrap .i64 (r354.1 + 1)) x2 x3) fun r371 cs372 H373 h374 q375 => ?_
    obtain ⟨w376,h377,q375⟩:=q375
    cases q375
    have S378:=S361.setB (i:=0) (cs:=w376) rfl (WL.same h360 h377)
    exact ih x1 r354.1 x3 (decide ((IntKind.wrap .i64 (x2 - r354.1)) ≥ (IntKind.wrap .i64 (Int.tdiv (IntKind.wrap .i64 (x2 - x1)) 8)))) r354.2.1 r371 w376 h377 (ptC (ptC (ptC (ptC H1 l0 o0 w305) l0 o0 w322) l0 o0 w359) l0 o0 w376) (S378.wk2 aN aN)
   refine .ch (P:=fun r y => (.p (.bool r),(ptC H1 l0 o0 w305)) = y) ?_ (fun b394 y395 h396 h397 => ?_)
   ·refine .cq ?_ ?_
    ·refine .bd fun a379 h380 => ?_
     refine .op ((S307.slW (i:=0) rfl h306).iS h380 rfl) ?_
     obtain ⟨w382,h383,hE381⟩:=(S307.slW (i:=0) rfl h306).el h380 rfl
     obtain rfl:=dT_alarm_Due.inv h383
     refine .op (hE381.all (by simp)) ?_
     refine .bd fun a384 h385 => ?_
     refine .op ((S307.slW (i:=0) rfl h306).iS h385 rfl) ?_
     obtain ⟨w387,h388,hE386⟩:=(S307.slW (i:=0) rfl h306).el h385 rfl
     obtain rfl:=dT_alarm_Due.inv h388
     refine .op (hE386.all (by simp)) ?_
     refine .clo ?_
     refine .call (alarm_Table_Set_1_ok k a379 (show dT_alarm_Due.R a379 [.p (.int .i64 a379.f_At),.p (.int .u64 a379.Key)] from (dT_alarm_Due.mk)) a384 (show dT_alarm_Due.R a384 [.p (.int .i64 a384.f_At),.p (.int .u64 a384.Key)] from (dT_alarm_Due.mk))) fun r389 cs390 H391 h392 q393 => ?_
     cases q393
     refine .ci ?_
     exact .ret rfl rfl
    ·exact .ret rfl rfl
   subst h397
   refine .ab ?_
   refine .cq ?_ ?_
   ·refine .call (slices_partitionEqualCmpFunc_alarm_Due_alarm_Table_Set_1_ok k r300 h306 (S307.atB (i:=0) rfl) x1 x2 (IntKind.wrap .i64 ((IntKind.wrap .i64 (x2 - 1)) - (IntKind.wrap .i64 (r294.1 - x1))))) fun r399 cs400 H401 h402 q403 => ?_
    obtain ⟨w404,h405,q403⟩:=q403
    cases q403
    have S406:=S307.setB (i:=0) (cs:=w404) rfl (WL.same h306 h405)
    refine .ci ?_
    exact ih r399.1 x2 x3 x10 x11 r399.2 w404 h405 (ptC (ptC H1 l0 o0 w305) l0 o0 w404) (S406.wk2 aN aN)
   refine .call (slices_partitionCmpFunc_alarm_Due_alarm_Table_Set_1_ok k r300 h306 (S307.atB (i:=0) rfl) x1 x2 (IntKind.wrap .i64 ((IntKind.wrap .i64 (x2 - 1)) - (IntKind.wrap .i64 (r294.1 - x1))))) fun r407 cs408 H409 h410 q411 => ?_
   obtain ⟨w412,h413,q411⟩:=q411
   cases q411
   have S414:=S307.setB (i:=0) (cs:=w412) rfl (WL.same h306 h413)
   refine .or ?_
   refine .ci ?_
   refine .or ?_
   refine .ab ?_
   refine .cq ?_ ?_
   ·refine .call (hrec r407.2.2 h413 (S414.atB (i:=0) rfl) x1 r407.1 x3) fun r416 cs417 H418 h419 q420 => ?_
    obtain ⟨w421,h422,q420⟩:=q420
    cases q420
    have S423:=S414.setB (i:=0) (cs:=w421) rfl (WL.same h413 h422)
    exact ih (IntKind.wrap .i64 (r407.1 + 1)) x2 x3 (decide ((IntKind.wrap .i64 (r407.1 - x1)) ≥ (IntKind.wrap .i64 (Int.tdiv (IntKind.wrap .i64 (x2 - x1)) 8)))) r407.2.1 r416 w421 h422 (ptC (ptC (ptC H1 l0 o0 w305) l0 o0 w412) l0 o0 w421) (S423.wk2 aN aN)
   refine .call (hrec r407.2.2 h413 (S414.atB (i:=0) rfl) (IntKind.wrap .i64 (r407.1 + 1)) x2 x3) fun r424 cs425 H426 h427 q428 => ?_
   obtain ⟨w429,h430,q428⟩:=q428
   cases q428
   have S431:=S414.setB (i:=0) (cs:=w429) rfl (WL.same h413 h430)
   exact ih x1 r407.1 x3 (decide ((IntKind.wrap .i64 (x2 - r407.1)) ≥ (IntKind.wrap .i64 (Int.tdiv (IntKind.wrap .i64 (x2 - x1)) 8)))) r407.2.1 r424 w429 h430 (ptC (ptC (ptC H1 l0 o0 w305) l0 o0 w412) l0 o0 w429) (S431.wk2 aN aN)
  refine .ch (P:=fun r y => r = y) ?_ (fun b432 y433 h434 h435 => ?_)
  ·refine .cq ?_ ?_
   ·exact .ret rfl rfl
   ·exact .ret rfl rfl
  subst h435
  refine .ch (P:=fun r y => r = y) ?_ (fun b436 y437 h438 h439 => ?_)
  ·refine .cq ?_ ?_
   ·exact .ret rfl rfl
   ·exact .ret rfl rfl
  subst h439
  refine .cq ?_ ?_
  ·refine .call (slices_partialInsertionSortCmpFunc_alarm_Due_alarm_Table_Set_1_ok k zw0 h4 (S2.atB (i:=0) rfl) x1 x2) fun r441 cs442 H443 h444 q445 => ?_
   obtain ⟨w446,h447,q445⟩:=q445
   cases q445
   have S448:=S2.setB (i:=0) (cs:=w446) rfl (WL.same h4 h447)
   refine .ab ?_
   refine .cq ?_ ?_
   ·exact hE0 r441.2 w446 h447 (ptC H1 l0 o0 w446) (S448.wk2 aN aN)
   refine .ch (P:=fun r y => (.p (.bool r),(ptC H1 l0 o0 w446)) = y) ?_ (fun b465 y466 h467 h468 => ?_)
   ·refine .cq ?_ ?_
    ·refine .bd fun a450 h451 => ?_
     refine .op ((S448.slW (i:=0) rfl h447).iS h451 rfl) ?_
     obtain ⟨w453,h454,hE452⟩:=(S448.slW (i:=0) rfl h447).el h451 rfl
     obtain rfl:=dT_alarm_Due.inv h454
     refine .op (hE452.all (by simp)) ?_
     refine .bd fun a455 h456 => ?_
     refine .op ((S448.slW (i:=0) rfl h447).iS h456 rfl) ?_
     obtain ⟨w458,h459,hE457⟩:=(S448.slW (i:=0) rfl h447).el h456 rfl
     obtain rfl:=dT_alarm_Due.inv h459
     refine .op (hE457.all (by simp)) ?_
     refine .clo ?_
     refine .call (alarm_Table_Set_1_ok k a450 (show dT_alarm_Due.R a450 [.p (.int .i64 a450.f_At),.p (.int .u64 a450.Key)] from (dT_alarm_Due.mk)) a455 (show dT_alarm_Due.R a455 [.p (.int .i64 a455.f_At),.p (.int .u64 a455.Key)] from (dT_alarm_Due.mk))) fun r460 cs461 H462 h463 q464 => ?_
     cases q464
     refine .ci ?_
     exact .ret rfl rfl
    ·exact .ret rfl rfl
   subst h468
   refine .ab ?_
   refine .cq ?_ ?_
   ·refine .call (slices_partitionEqualCmpFunc_alarm_Due_alarm_Table_Set_1_ok k r441.2 h447 (S448.atB (i:=0) rfl) x1 x2 r294.1) fun r470 cs471 H472 h473 q474 => ?_
    obtain ⟨w475,h476,q474⟩:=q474
    cases q474
    have S477:=S448.setB (i:=0) (cs:=w475) rfl (WL.same h447 h476)
    refine .ci ?_
    exact ih r470.1 x2 x3 x10 x11 r470.2 w475 h476 (ptC (ptC H1 l0 o0 w446) l0 o0 w475) (S477.wk2 aN aN)
   refine .call (slices_partitionCmpFunc_alarm_Due_alarm_Table_Set_1_ok k r441.2 h447 (S448.atB (i:=0) rfl) x1 x2 r294.1) fun r478 cs479 H480 h481 q482 => ?_
   obtain ⟨w483,h484,q482⟩:=q482
   cases q482
   have S485:=S448.setB (i:=0) (cs:=w483) rfl (WL.same h447 h484)
   refine .or ?_
   refine .ci ?_
   refine .or ?_
   refine .ab ?_
   refine .cq ?_ ?_
   ·refine .call (hrec r478.2.2 h484 (S485.atB (i:=0) rfl) x1 r478.1 x3) fun r487 cs488 H489 h490 q491 => ?_
    obtain ⟨w492,h493,q491⟩:=q491
    cases q491
    have S494:=S485.setB (i:=0) (cs:=w492) rfl (WL.same h484 h493)
    exact ih (IntKind.wrap .i64 (r478.1 + 1)) x2 x3 (decide ((IntKind.wrap .i64 (r478.1 - x1)) ≥ (IntKind.wrap .i64 (Int.tdiv (IntKind.wrap .i64 (x2 - x1)) 8)))) r478.2.1 r487 w492 h493 (ptC (ptC (ptC H1 l0 o0 w446) l0 o0 w483) l0 o0 w492) (S494.wk2 aN aN)
   refine .call (hrec r478.2.2 h484 (S485.atB (i:=0) rfl) (IntKind.wrap .i64 (r478.1 + 1)) x2 x3) fun r495 cs496 H497 h498 q499 => ?_
   obtain ⟨w500,h501,q499⟩:=q499
   cases q499
   have S502:=S485.setB (i:=0) (cs:=w500) rfl (WL.same h484 h501)
   exact ih x1 r478.1 x3 (decide ((IntKind.wrap .i64 (x2 - r478.1)) ≥ (IntKind.wrap .i64 (Int.tdiv (IntKind.wrap .i64 (x2 - x1)) 8)))) r478.2.1 r495 w500 h501 (ptC (ptC (ptC H1 l0 o0 w446) l0 o0 w483) l0 o0 w500) (S502.wk2 aN aN)
  refine .ch (P:=fun r y => (.p (.bool r),H1) = y) ?_ (fun b518 y519 h520 h521 => ?_)
  ·refine .cq ?_ ?_
   ·refine .bd fun a503 h504 => ?_
    refine .op ((S2.slW (i:=0) rfl h4).iS h504 rfl) ?_
    obtain ⟨w506,h507,hE505⟩:=(S2.slW (i:=0) rfl h4).el h504 rfl
    obtain rfl:=dT_alarm_Due.inv h507
    refine .op (hE505.all (by simp)) ?_
    refine .bd fun a508 h509 => ?_
    refine .op ((S2.slW (i:=0) rfl h4).iS h509 rfl) ?_
    obtain ⟨w511,h512,hE510⟩:=(S2.slW (i:=0) rfl h4).el h509 rfl
    obtain rfl:=dT_alarm_Due.inv h512
    refine .op (hE510.all (by simp)) ?_
    refine .clo ?_
    refine .call (alarm_Table_Set_1_ok k a503 (show dT_alarm_Due.R a503 [.p (.int .i64 a503.f_At),.p (.int .u64 a503.Key)] from (dT_alarm_Due.mk)) a508 (show dT_alarm_Due.R a508 [.p (.int .i64 a508.f_At),.p (.int .u64 a508.Key)] from (dT_alarm_Due.mk))) fun r513 cs514 H515 h516 q517 => ?_
    cases q517
    refine .ci ?_
    exact .ret rfl rfl
   ·exact .ret rfl rfl
  subst h521
  refine .ab ?_
  refine .cq ?_ ?_
  ·refine .call (slices_partitionEqualCmpFunc_alarm_Due_alarm_Table_Set_1_ok k zw0 h4 (S2.atB (i:=0) rfl) x1 x2 r294.1) fun r523 cs524 H525 h526 q527 => ?_
   obtain ⟨w528,h529,q527⟩:=q527
   cases q527
   have S530:=S2.setB (i:=0) (cs:=w528) rfl (WL.same h4 h529)
   refine .ci ?_
   exact ih r523.1 x2 x3 x10 x11 r523.2 w528 h529 (ptC H1 l0 o0 w528) (S530.wk2 aN aN)
  refine .call (slices_partitionCmpFunc_alarm_Due_alarm_Table_Set_1_ok k zw0 h4 (S2.atB (i:=0) rfl) x1 x2 r294.1) fun r531 cs532 H533 h534 q535 => ?_
  obtain ⟨w536,h537,q535⟩:=q535
  cases q535
  have S538:=S2.setB (i:=0) (cs:=w536) rfl (WL.same h4 h537)
  refine .or ?_
  refine .ci ?_
  refine .or ?_
  refine .ab ?_
  refine .cq ?_ ?_
  ·refine .call (hrec r531.2.2 h537 (S538.atB (i:=0) rfl) x1 r531.1 x3) fun r540 cs541 H542 h543 q544 => ?_
   obtain ⟨w545,h546,q544⟩:=q544
   cases q544
   have S547:=S538.setB (i:=0) (cs:=w545) rfl (WL.same h537 h546)
   exact ih (IntKind.wrap .i64 (r531.1 + 1)) x2 x3 (decide ((IntKind.wrap .i64 (r531.1 - x1)) ≥ (IntKind.wrap .i64 (Int.tdiv (IntKind.wrap .i64 (x2 - x1)) 8)))) r531.2.1 r540 w545 h546 (ptC (ptC H1 l0 o0 w536) l0 o0 w545) (S547.wk2 aN aN)
  refine .call (hrec r531.2.2 h537 (S538.atB (i:=0) rfl) (IntKind.wrap .i64 (r531.1 + 1)) x2 x3) fun r548 cs549 H550 h551 q552 => ?_
  obtain ⟨w553,h554,q552⟩:=q552
  cases q552
  have S555:=S538.setB (i:=0) (cs:=w553) rfl (WL.same h537 h554)
  exact ih x1 r531.1 x3 (decide ((IntKind.wrap .i64 (x2 - r531.1)) ≥ (IntKind.wrap .i64 (Int.tdiv (IntKind.wrap .i64 (x2 - x1)) 8)))) r531.2.1 r548 w553 h554 (ptC (ptC H1 l0 o0 w536) l0 o0 w553) (S555.wk2 aN aN)
theorem slices_pdqsortCmpFunc_alarm_Due_alarm_Table_Set_1_ok (k : Nat) : ∀ {h : H} {σ : Stamp} (x0 : List T_alarm_Due) {u0 : V} {l0 : Loc} {o0 : Nat} {w0 : List C} (hw0 : WL l0 o0 dT_alarm_Due x0 u0 w0) (ha0 : AtC h l0 o0 w0) (x1 : Int) (x2 : Int) (x3 : Int),Sim (p_slices_pdqsortCmpFunc_alarm_Due_alarm_Table_Set_1 k x0 x1 x2 x3) (ev G X0 100 σ [u0,(.p (.int .i64 x1)),(.p (.int .i64 x2)),(.p (.int .i64 x3)),(.clo 47 [])] h) (fun r s => ∃ (wb0 : List C),WL l0 o0 dT_alarm_Due r u0 wb0∧s = ([],pts h [⟨l0,o0,wb0⟩])):=by
 induction k with
 | zero => intros; exact .no
 | succ k ih =>
  intro h σ x0 u0 l0 o0 w0 hw0 ha0 x1 x2 x3
  refine .ev rfl (Sim.ext (slices_pdqsortCmpFunc_alarm_Due_entry _ _ _ _ _ _ _ _ _) ?_)
  rw [p_slices_pdqsortCmpFunc_alarm_Due_alarm_Table_Set_1]
  have S0 : Fm 148 h [⟨l0,o0,w0⟩] [] [] (List.replicate 148 []::h):=Fm.start1 ha0
  refine .as (slices_pdqsortCmpFunc_alarm_Due_alarm_Table_Set_1_l0_ok (@ih) ?_ k x1 x2 x3 true true x0 w0 hw0 (List.replicate 148 []::h) (S0.wk2 aN aN))
  ·intro zw0 w563 h564 H561 S562
   refine .ext (slices_pdqsortCmpFunc_alarm_Due_a0_ret _ _ _ _) ?_
   exact .fin (S562.finN lN) ⟨w563,h564,rfl⟩
def p_slices_SortFunc_Lalarm_Due_alarm_Due_alarm_Table_Set_1 (k : Nat) (x0 : (List T_alarm_Due)) : Option ((List T_alarm_Due)) :=
(p_math_bits_Len (IntKind.wrap .u64 ((x0.length : Int)))).bind fun r1 =>
(p_slices_pdqsortCmpFunc_alarm_Due_alarm_Table_Set_1 k x0 0 ((x0.length : Int)) r1).bind fun r6 =>
some (r6)
theorem slices_SortFunc_Lalarm_Due_alarm_Due_alarm_Table_Set_1_ok (k : Nat) {h : H} {σ : Stamp} (x0 : List T_alarm_Due) {u0 : V} {l0 : Loc} {o0 : Nat} {w0 : List C} (hw0 : WL l0 o0 dT_alarm_Due x0 u0 w0) (ha0 : AtC h l0 o0 w0) : Sim (p_slices_SortFunc_Lalarm_Due_alarm_Due_alarm_Table_Set_1 k x0) (ev G X0 46 σ [u0,(.clo 47 [])] h) (fun r s => ∃ (wb0 : List C),WL l0 o0 dT_alarm_Due r u0 wb0∧s = ([],pts h [⟨l0,o0,wb0⟩])):=by
 refine .ev rfl (Sim.ext (slices_SortFunc_Lalarm_Due_alarm_Due_entry _ _ _ _ _ _) ?_)
 rw [p_slices_SortFunc_Lalarm_Due_alarm_Due_alarm_Table_Set_1]
 have S0 : Fm 14 h [⟨l0,o0,w0⟩] [] [] (List.replicate 14 []::h):=Fm.start1 ha0
 refine .op ((S0.slW (i:=0) rfl hw0).len) ?_
 refine .ci ?_
 refine .call (math_bits_Len_ok (IntKind.wrap .u64 ((x0.length : Int)))) fun r1 cs2 H3 h4 q5 => ?_
 cases q5
 refine .ci ?_
 refine .call (slices_pdqsortCmpFunc_alarm_Due_alarm_Table_Set_1_ok k x0 hw0 (S0.atB (i:=0) rfl) 0 ((x0.length : Int)) r1) fun r6 cs7 H8 h9 q10 => ?_
 obtain ⟨w11,h12,q10⟩:=q10
 cases q10
 have S13:=S0.setB (i:=0) (cs:=w11) rfl (WL.same hw0 h12)
 exact .fin (S13.finN lN) ⟨w11,h12,rfl⟩
def p_alarm_Table_Set (k : Nat) (x0 : T_alarm_Table) (x1 : Int) (x2 : Int) : Option (T_alarm_Table) :=
(p_alarm_Table_Clear k x0 x1).bind fun r1 =>
(ap 16 r1.2.l ([((⟨x2,x1⟩ : T_alarm_Due))])).bind fun a11 =>
(neO a11).bind fun _ =>
(p_slices_SortFunc_Lalarm_Due_alarm_Due_alarm_Table_Set_1 k a11).bind fun r32 =>
some ((⟨r32⟩ : T_alarm_Table))
theorem alarm_Table_Set_ok (k : Nat) {h : H} {σ : Stamp} (x0 : T_alarm_Table) {c0_0 : C} (hc0_0 : SoC dT_alarm_Due x0.l c0_0) (hn0_0 : Nn c0_0 2) {l0 : Loc} {o0 : Nat} (ha0 : AtC h l0 o0 ([c0_0])) (x1 : Int) (x2 : Int) : Sim (p_alarm_Table_Set k x0 x1 x2) (ev G X0 14 σ [(.ref l0 o0),(.p (.int .u64 x1)),(.p (.int .i64 x2))] h) (fun r s => ∃ (cb0_0 : C),SoC dT_alarm_Due r.l cb0_0∧Nn cb0_0 2∧s = ([],pts h [⟨l0,o0,[cb0_0]⟩])):=by
 refine .ev rfl (Sim.ext (alarm_Table_Set_entry _ _ _ _ _ _ _) ?_)
 rw [p_alarm_Table_Set]
 have S0 : Fm 26 h [⟨l0,o0,[c0_0]⟩] [] [] (List.replicate 26 []::h):=Fm.start1 ha0
 refine .call (alarm_Table_Clear_ok k x0 hc0_0 hn0_0 (S0.atB (i:=0) rfl) x1) fun r1 cs2 H3 h4 q5 => ?_
 obtain ⟨c6,h7,h8,q5⟩:=q5
 cases q5
 have S9:=S0.setB (i:=0) (cs:=[c6]) rfl rfl
 refine .ab ?_
 refine .nc ?_
 refine .fa ?_
 refine .op (h7.ld (S9.atB (i:=0) rfl) (j:=0) rfl) ?_
 refine .op (bldV (pC rfl (pC rfl pN)) (by kernel_rfl : _ = some (.agg [.p (.int .i64 x2),.p (.int .u64 x1)]))) ?_
 have h10 : SlF dT_alarm_Due [((⟨x2,x1⟩ : T_alarm_Due))] (.fz [(.p (.int .i64 x2)),(.p (.int .u64 x1))] 1 2 true):=SlF.lit (cs:=[(.p (.int .i64 x2)),(.p (.int .u64 x1))]) (RL.cons (show dT_alarm_Due.R ((⟨x2,x1⟩ : T_alarm_Due)) [.p (.int .i64 x2),.p (.int .u64 x1)] from (dT_alarm_Due.mk)) RL.nil) rfl rfl true
 refine .op (bldS (pC (c:=[.p (.int .i64 x2),.p (.int .u64 x1)]) rfl pN) (by kernel_rfl : _ = some (vOf h10))) ?_
 refine .bd fun a11 h12 => ?_
 obtain ⟨v13,c14,H15,e16,S17⟩:=S9.appB (i:=0) (j:=0) (d:=18) (e:=2) (own:=false) (σ:=(9::0::1::0::σ)) rfl rfl h7 h8 (h10.h (ptC (List.replicate 26 []::h) l0 o0 ([c6]))).y h12 (by simp) rfl (by decide) (by decide) rfl
 refine .op (e16) ?_
 refine .nc ?_
 refine .fa ?_
 obtain ⟨c22,H19,e20,h23,h24,S21⟩:=S17.mvB (i:=0) (j:=0) (k:=0) (σ:=(12::0::1::0::σ)) rfl rfl rfl rfl rfl
 refine .op (sM e20) ?_
 refine .nc ?_
 refine .fa ?_
 refine .op (h23.ld (S21.atB (i:=0) rfl) (j:=0) rfl) ?_
 refine .bd fun _ h31 => ?_
 obtain ⟨l25,w26,h27,h28,h29,h30⟩:=S21.lendB (i:=0) (j:=0) rfl rfl h23 h24 (e:=2) rfl h31
 refine .call (slices_SortFunc_Lalarm_Due_alarm_Due_alarm_Table_Set_1_ok k a11 h27 h28) fun r32 cs33 H34 h35 q36 => ?_
 obtain ⟨w37,h38,q36⟩:=q36
 cases q36
 obtain ⟨c40,h41,h42,S39⟩:=h30 _ _ h38
 exact .fin (S39.finN lN) ⟨c40,h41,(Nq.nn h42),rfl⟩
def p_zl12_known (k : Nat)  : Option (Bool) :=
(p_alarm_New).bind fun r1 =>
(p_alarm_Table_Next_o r1).bind fun r14 =>
(p_alarm_Table_Clear k r1 1).bind fun r28 =>
(p_alarm_Table_Set k r28.2 1 5).bind fun r37 =>
(p_alarm_Table_Set k r37 1 7).bind fun r46 =>
(p_alarm_Table_Due k r46 6).bind fun r55 =>
(p_alarm_Table_Set k r55.2 2 7).bind fun r66 =>
(p_alarm_Table_Due k r66 7).bind fun r75 =>
(bif !r14.2 then (some (!r28.1)) else (some false)).bind fun b86 =>
(bif b86 then (some (((r55.1.length : Int)) == 0)) else (some false)).bind fun b90 =>
(bif b90 then (some (((r75.1.length : Int)) == 2)) else (some false)).bind fun b94 =>
(bif b94 then ((ix r75.1 0).bind fun a98 =>
some (andB [a98.f_At == 7,a98.Key == 1])) else (some false)).bind fun b103 =>
(bif b103 then ((p_alarm_Table_Len_o r75.2).bind fun r107 =>
some (r107 == 0)) else (some false)).bind fun b112 =>
some (b112)
theorem zl12_known_ok (k : Nat) {h : H} {σ : Stamp}  : Sim (p_zl12_known k ) (ev G X0 17 σ [] h) (fun r s => s = ([.v (.p (.bool r))],h)):=by
 refine .ev rfl (Sim.ext (zl12_known_entry _ _ _ _) ?_)
 rw [p_zl12_known]
 have S0 : Fm 55 h [] [] [] (List.replicate 55 []::h):=Fm.start0
 refine .call (alarm_New_ok ) fun r1 cs2 H3 h4 q5 => ?_
 obtain ⟨s6,c7,h8,h9,q5⟩:=q5
 cases q5
 obtain ⟨H10,e11,S12⟩:=S0.landG (d:=7) (s:=s6) (cs:=[c7]) (by decide) rfl
 erw [e11]
 refine .op ((by kernel_rfl : _ = some (.p (.bool false)))) ?_
 refine .ab ?_
 refine .cdf rfl ?_
 refine .call (alarm_Table_Next_o_ok r1 h8 h9 (S12.atG (i:=0) rfl)) fun r14 cs15 H16 h17 q18 => ?_
 obtain ⟨w19,h20,q18⟩:=q18
 cases q18
 obtain rfl:=dT_alarm_Due.inv h20
 refine .or ?_
 refine .or ?_
 refine .ab ?_
 obtain ⟨H21,e22,S23⟩:=S12.al (d:=2) (s:=(5::0::1::1::1::0::σ)) (z:=[(.p (.int .i64 0)),(.p (.int .u64 0))]) (by decide) rfl
 refine .op (congrArg some e22) ?_
 obtain ⟨H25,e26,S27⟩:=S23.stGv (i:=0) (j:=0) (own:=false) (σ:=(6::0::1::1::1::0::σ)) (xs:=[(.p (.int .i64 r14.1.f_At)),(.p (.int .u64 r14.1.Key))]) rfl rfl (sC (sI _ _) (sC (sI _ _) sN)) rfl rfl
 refine .op (sM e26) ?_
 refine .call (alarm_Table_Clear_ok k r1 h8 h9 (S27.atG (i:=1) rfl) 1) fun r28 cs29 H30 h31 q32 => ?_
 obtain ⟨c33,h34,h35,q32⟩:=q32
 cases q32
 have S36:=S27.setG (i:=1) (cs':=[c33]) rfl rfl rfl
 refine .ab ?_
 refine .call (alarm_Table_Set_ok k r28.2 h34 h35 (S36.atG (i:=1) rfl) 1 5) fun r37 cs38 H39 h40 q41 => ?_
 obtain ⟨c42,h43,h44,q41⟩:=q41
 cases q41
 have S45:=S36.setG (i:=1) (cs':=[c42]) rfl rfl rfl
 refine .call (alarm_Table_Set_ok k r37 h43 h44 (S45.atG (i:=1) rfl) 1 7) fun r46 cs47 H48 h49 q50 => ?_
 obtain ⟨c51,h52,h53,q50⟩:=q50
 cases q50
 have S54:=S45.setG (i:=1) (cs':=[c51]) rfl rfl rfl
 refine .call (alarm_Table_Due_ok k r46 h52 h53 (S54.atG (i:=1) rfl) 6) fun r55 cs56 H57 h58 q59 => ?_
 obtain ⟨v60,c62,h61,h63,h64,q59⟩:=q59
 cases q59
 have S65:=S54.setG (i:=1) (cs':=[c62]) rfl rfl rfl
 refine .op ((h61.h (ptC (ptC (ptC (ptC H25 ⟨h.length,7,0,s6,[]⟩ 0 ([c33])) ⟨h.length,7,0,s6,[]⟩ 0 ([c42])) ⟨h.length,7,0,s6,[]⟩ 0 ([c51])) ⟨h.length,7,0,s6,[]⟩ 0 ([c62]))).len) ?_
 refine .ci ?_
 refine .call (alarm_Table_Set_ok k r55.2 h63 h64 (S65.atG (i:=1) rfl) 2 7) fun r66 cs67 H68 h69 q70 => ?_
 obtain ⟨c71,h72,h73,q70⟩:=q70
 cases q70
 have S74:=S65.setG (i:=1) (cs':=[c71]) rfl rfl rfl
 refine .call (alarm_Table_Due_ok k r66 h72 h73 (S74.atG (i:=1) rfl) 7) fun r75 cs76 H77 h78 q79 => ?_
 obtain ⟨v80,c82,h81,h83,h84,q79⟩:=q79
 cases q79
 have S85:=S74.setG (i:=1) (cs':=[c82]) rfl rfl rfl
 refine .ch (P:=fun r y => r = y) ?_ (fun b86 y87 h88 h89 => ?_)
 ·refine .cq ?_ ?_
  ·exact .ret rfl rfl
  ·exact .ret rfl rfl
 subst h89
 refine .ch (P:=fun r y => r = y) ?_ (fun b90 y91 h92 h93 => ?_)
 ·refine .cq ?_ ?_
  ·exact .ret rfl rfl
  ·exact .ret rfl rfl
 subst h93
 refine .ch (P:=fun r y => r = y) ?_ (fun b94 y95 h96 h97 => ?_)
 ·refine .cq ?_ ?_
  ·refine .op ((h81.h (ptC (ptC (ptC (ptC (ptC (ptC H25 ⟨h.length,7,0,s6,[]⟩ 0 ([c33])) ⟨h.length,7,0,s6,[]⟩ 0 ([c42])) ⟨h.length,7,0,s6,[]⟩ 0 ([c51])) ⟨h.length,7,0,s6,[]⟩ 0 ([c62])) ⟨h.length,7,0,s6,[]⟩ 0 ([c71])) ⟨h.length,7,0,s6,[]⟩ 0 ([c82]))).len) ?_
   refine .ci ?_
   exact .ret rfl rfl
  ·exact .ret rfl rfl
 subst h97
 refine .ch (P:=fun r y => r = y) ?_ (fun b103 y104 h105 h106 => ?_)
 ·refine .cq ?_ ?_
  ·refine .bd fun a98 h99 => ?_
   refine .op ((h81.h (ptC (ptC (ptC (ptC (ptC (ptC H25 ⟨h.length,7,0,s6,[]⟩ 0 ([c33])) ⟨h.length,7,0,s6,[]⟩ 0 ([c42])) ⟨h.length,7,0,s6,[]⟩ 0 ([c51])) ⟨h.length,7,0,s6,[]⟩ 0 ([c62])) ⟨h.length,7,0,s6,[]⟩ 0 ([c71])) ⟨h.length,7,0,s6,[]⟩ 0 ([c82]))).iS h99 rfl) ?_
   obtain ⟨w101,h102,hE100⟩:=(h81.h (ptC (ptC (ptC (ptC (ptC (ptC H25 ⟨h.length,7,0,s6,[]⟩ 0 ([c33])) ⟨h.length,7,0,s6,[]⟩ 0 ([c42])) ⟨h.length,7,0,s6,[]⟩ 0 ([c51])) ⟨h.length,7,0,s6,[]⟩ 0 ([c62])) ⟨h.length,7,0,s6,[]⟩ 0 ([c71])) ⟨h.length,7,0,s6,[]⟩ 0 ([c82]))).el h99 rfl
   obtain rfl:=dT_alarm_Due.inv h102
   refine .op (hE100.all (by simp)) ?_
   refine .op (bldV (pC rfl (pC rfl pN)) (by kernel_rfl : _ = some (.agg [.p (.int .i64 7),.p (.int .u64 1)]))) ?_
   refine .op (eqS_ok (by kernel_rfl : _ = andL [a98.f_At == 7,a98.Key == 1])) ?_
   refine .ab ?_
   exact .ret rfl rfl
  ·exact .ret rfl rfl
 subst h106
 refine .ch (P:=fun r y => (.p (.bool r),(ptC (ptC (ptC (ptC (ptC (ptC H25 ⟨h.length,7,0,s6,[]⟩ 0 ([c33])) ⟨h.length,7,0,s6,[]⟩ 0 ([c42])) ⟨h.length,7,0,s6,[]⟩ 0 ([c51])) ⟨h.length,7,0,s6,[]⟩ 0 ([c62])) ⟨h.length,7,0,s6,[]⟩ 0 ([c71])) ⟨h.length,7,0,s6,[]⟩ 0 ([c82]))) = y) ?_ (fun b112 y113 h114 h115 => ?_)
 ·refine .cq ?_ ?_
  ·refine .call (alarm_Table_Len_o_ok r75.2 h83 h84 (S85.atG (i:=1) rfl)) fun r107 cs108 H109 h110 q111 => ?_
   cases q111
   refine .ci ?_
   exact .ret rfl rfl
  ·exact .ret rfl rfl
 subst h115
 refine .ab ?_
 exact .fin (S85.finN (lC (sB _).lv lN)) rfl
end
end Go.Ev
namespace Go.Ev
open Go.Proofs
set_option linter.unusedVariables false
set_option linter.unusedSimpArgs false
set_option maxRecDepth 100000
noncomputable section
abbrev KT19:=Exit→Env→H→Option (List C × H)
variable (rec : CallF) (loop : LoopV) (σ : Stamp)
def zl12_play_c0 : Code:=(codeAt (bodyOf Try.f18) [1,1,1,0,1,0,0])
def zl12_play_l0 : Lv:=⟨8,4,[(0,8)]⟩
def zl12_play_k0 : KT19:=(kBlock 0 (kSeq G rec loop (codeAt (bodyOf Try.f18) [1,1,1,1]) ⟨4,4,[]⟩ (1::1::1::0::σ) (finC G false Try.f18 (1::σ))))
def zl12_play_c1 : Code:=(codeAt (bodyOf Try.f18) [1,1,1,0,1,0,0,1,0,0,1,1,1,1,1,1,1,1,0,1,0,0])
def zl12_play_l1 : Lv:=⟨52281,4,[(5,52281),(1,57),(0,8)]⟩
def zl12_play_k1 : Exit→Env→H→Option (Exit × Env × H):=(kBlock 5 (kSeq G rec loop (codeAt (bodyOf Try.f18) [1,1,1,0,1,0,0,1,0,0,1,1,1,1,1,1,1,1,1]) ⟨57,4,[(1,57),(0,8)]⟩ (1::1::1::1::1::1::1::1::0::1::0::σ) (kBlock 1 (kSeq G rec loop (codeAt (bodyOf Try.f18) [1,1,1,0,1,0,0,1,1]) ⟨57,4,[(0,8)]⟩ (1::0::σ) (kRound loop (codeAt (bodyOf Try.f18) [1,1,1,0,1,0,0]) ⟨8,4,[(0,8)]⟩ σ)))))
def zl12_play_c2 : Code:=(codeAt (bodyOf Try.f18) [1,1,1,0,1,0,0,1,0,0,1,1,1,0,1,0,1,1,1,0,1,0,0,0])
def zl12_play_l2 : Lv:=⟨377,4,[(3,377),(2,121),(1,57),(0,8)]⟩
def zl12_play_k2 : Exit→Env→H→Option (Exit × Env × H):=(kBlock 3 (kSeq G rec loop (codeAt (bodyOf Try.f18) [1,1,1,0,1,0,0,1,0,0,1,1,1,0,1,0,1,1,1,0,1,1]) ⟨121,4,[(2,121),(1,57),(0,8)]⟩ (1::1::1::1::0::1::1::1::0::1::0::σ) (kBlock 2 (kSeq G rec loop (codeAt (bodyOf Try.f18) [1,1,1,0,1,0,0,1,0,0,1,1,1,1]) ⟨57,4,[(1,57),(0,8)]⟩ (1::1::1::0::1::0::σ) (kBlock 1 (kSeq G rec loop (codeAt (bodyOf Try.f18) [1,1,1,0,1,0,0,1,1]) ⟨57,4,[(0,8)]⟩ (1::0::σ) (kRound loop (codeAt (bodyOf Try.f18) [1,1,1,0,1,0,0]) ⟨8,4,[(0,8)]⟩ σ)))))))
theorem zl12_play_entry (x0 : V) (h : H) : cvBody G rec loop 18 σ [x0] h =
(callO rec 13 (0::0::1::0::σ) [] (List.replicate 175 []::h) (some 18)).bind fun q1 =>
(loop zl12_play_c0 zl12_play_l0 (1::0::1::1::1::0::σ) (envL [(0,x0),(3,q1.1),(4,(.p (.slice .none 0 0))),(5,(.p (.int .i64 0)))]) q1.2).bind fun r2 => zl12_play_k0 rec loop σ r2.1 r2.2.1 r2.2.2:=by kernel_rfl
theorem zl12_play_r0 (x0 : V) (x3 : V) (x4 : V) (x5 : Int) (h : H) : cvRound G rec loop zl12_play_c0 zl12_play_l0 σ (envL [(0,x0),(3,x3),(4,x4),(5,(.p (.int .i64 x5)))]) h =
(lenO x0).bind fun t3 =>
(castI .i64 t3).bind fun n4 =>
(bif decide (x5 < n4) then (some (decide (x5 < 120))) else (some false)).bind fun b5 =>
bif b5 then (
(iS 3 x0 x5).bind fun t6 =>
(ldO true 3 h t6).bind fun t7 =>
(some (alO [.p (.int .i64 0),.p (.int .u64 0),.p (.int .i64 0)] (4::0::0::1::0::σ) 6 h)).bind fun q8 =>
((stO false 3 (5::0::0::1::0::σ) q8.2 q8.1 t7).map fun h => (udf,h)).bind fun q9 =>
(binV Try.prog q9.2 .eql 23 x3 (.p (.pointer .none))).bind fun t10 =>
(asB t10).bind fun b11 =>
bif b11 then (
some (.ret,(envL [(2,(.p (.bool false)))]),q9.2))
else (
(lenO x4).bind fun t12 =>
(castI .i64 t12).bind fun n13 =>
(fA q8.1 0).bind fun t14 =>
(ldO false 1 q9.2 t14).bind fun t15 =>
(castI .i64 t15).bind fun n16 =>
bif n16 == 3 then (
(fA q8.1 1).bind fun t17 =>
(ldO false 1 q9.2 t17).bind fun t18 =>
(castI .u64 t18).bind fun n19 =>
(callO rec 53 (3::0::1::1::0::1::1::1::0::1::0::σ) [x4,(.p (.int .u64 n19))] q9.2 (some 61)).bind fun q20 =>
(fA q8.1 1).bind fun t21 =>
(ldO false 1 q20.2 t21).bind fun t22 =>
(castI .u64 t22).bind fun n23 =>
(callO rec 45 (3::0::1::1::1::0::1::1::1::0::1::0::σ) [x3,(.p (.int .u64 n23))] q20.2 (some 65)).bind fun q24 =>
(asB q24.1).bind fun b25 =>
(lenO q20.1).bind fun t26 =>
(castI .i64 t26).bind fun n27 =>
bif !(b25 == (decide (n27 < n13))) then (
some (.ret,(envL [(2,(.p (.bool false)))]),q24.2))
else (
(fA q8.1 1).bind fun t28 =>
(ldO false 1 q24.2 t28).bind fun t29 =>
(castI .u64 t29).bind fun n30 =>
(callO rec 19 (3::0::1::1::1::1::0::1::0::σ) [x3,(.p (.int .u64 n30))] q24.2 (some 119)).bind fun q31 =>
(extV q31.1 0).bind fun t32 =>
(castI .i64 t32).bind fun n33 =>
(extV q31.1 1).bind fun t34 =>
(asB t34).bind fun b35 =>
(callO rec 52 (1::0::1::1::1::1::1::0::1::0::σ) [x3] q31.2 (some 124)).bind fun q36 =>
(extV q36.1 0).bind fun t37 =>
(extV q36.1 1).bind fun t38 =>
(asB t38).bind fun b39 =>
(some (alO [.p (.int .i64 0),.p (.int .u64 0)] (5::0::1::1::1::1::1::0::1::0::σ) 12 q36.2)).bind fun q40 =>
((stO false 2 (6::0::1::1::1::1::1::0::1::0::σ) q40.2 q40.1 t37).map fun h => (udf,h)).bind fun q41 =>
(lenO q20.1).bind fun t42 =>
(castI .i64 t42).bind fun n43 =>
(callO rec 16 (1::0::0::1::1::1::1::1::1::0::1::0::σ) [x3] q41.2 (some 128)).bind fun q44 =>
(castI .i64 q44.1).bind fun n45 =>
(bif n45 != n43 then (some true) else ((lenO q20.1).bind fun t46 =>
(castI .i64 t46).bind fun n47 =>
some (!(b39 == (decide (n47 > 0)))))).bind fun b48 =>
(bif b48 then (some ((.p (.bool true)),q44.2)) else ((bif b39 then ((ldO true 2 q44.2 q40.1).bind fun t49 =>
(callO rec 54 (18::0::0::1::1::1::1::1::1::0::1::0::σ) [q20.1] q44.2 (some 145)).bind fun q50 =>
(castI .i64 q50.1).bind fun n51 =>
need (ldO true 2 q50.2 q40.1 = some t49) (
(iS 2 q20.1 n51).bind fun t52 =>
(ldO true 2 q50.2 t52).bind fun t53 =>
(binV Try.prog q50.2 .neq 30 t49 t53).bind fun t54 =>
(asB t54).bind fun b55 =>
some ((.p (.bool b55)),q50.2))) else (some ((.p (.bool false)),q44.2))).bind fun q56 =>
(asB q56.1).bind fun b57 =>
some ((.p (.bool b57)),q56.2))).bind fun q58 =>
(asB q58.1).bind fun b59 =>
bif b59 then (
some (.ret,(envL [(2,(.p (.bool false)))]),q58.2))
else (
(lenO q20.1).bind fun t60 =>
(castI .i64 t60).bind fun n61 =>
(loop zl12_play_c1 zl12_play_l1 (1::0::1::1::1::1::1::1::1::1::0::1::0::σ) (envL [(0,x0),(3,x3),(4,q20.1),(5,(.p (.int .i64 x5))),(6,q8.1),(10,(.p (.int .i64 n33))),(11,(.p (.bool b35))),(14,(.p (.int .i64 0))),(15,(.p (.bool false))),(151,q20.1),(152,(.p (.int .i64 n61))),(153,(.p (.int .i64 0)))]) q58.2).bind fun r62 => zl12_play_k1 rec loop σ r62.1 r62.2.1 r62.2.2)))
else (
bif n16 == 4 then (
(fA q8.1 2).bind fun t63 =>
(ldO false 1 q9.2 t63).bind fun t64 =>
(castI .i64 t64).bind fun n65 =>
(callO rec 15 (3::0::1::1::1::0::1::1::1::0::1::0::σ) [x3,(.p (.int .i64 n65))] q9.2 (some 76)).bind fun q66 =>
(loop zl12_play_c2 zl12_play_l2 (0::1::1::1::1::0::1::1::1::0::1::0::σ) (envL [(0,x0),(3,x3),(4,x4),(5,(.p (.int .i64 x5))),(6,q8.1),(8,q66.1)]) q66.2).bind fun r67 => zl12_play_k2 rec loop σ r67.1 r67.2.1 r67.2.2)
else (
(fA q8.1 1).bind fun t68 =>
(ldO false 1 q9.2 t68).bind fun t69 =>
(castI .u64 t69).bind fun n70 =>
(fA q8.1 2).bind fun t71 =>
(ldO false 1 q9.2 t71).bind fun t72 =>
(castI .i64 t72).bind fun n73 =>
(callO rec 14 (5::0::1::1::1::0::1::1::1::0::1::0::σ) [x3,(.p (.int .u64 n70)),(.p (.int .i64 n73))] q9.2 (some 44)).bind fun q74 =>
(fA q8.1 1).bind fun t75 =>
(ldO false 1 q74.2 t75).bind fun t76 =>
(castI .u64 t76).bind fun n77 =>
(fA q8.1 2).bind fun t78 =>
(ldO false 1 q74.2 t78).bind fun t79 =>
(castI .i64 t79).bind fun n80 =>
(fA q8.1 1).bind fun t81 =>
(ldO false 1 q74.2 t81).bind fun t82 =>
(castI .u64 t82).bind fun n83 =>
(buildV Try.prog 30 [(0,(.p (.int .i64 n80))),(1,(.p (.int .u64 n83)))]).bind fun t84 =>
(bSV Try.prog 27 1 [(0,t84)]).bind fun t85 =>
(callO rec 53 (3::1::1::1::1::0::1::1::1::0::1::0::σ) [x4,(.p (.int .u64 n77))] q74.2 (some 48)).bind fun q86 =>
need (ldO false 1 q86.2 t81 = some (.p (.int .u64 n83))) (
need (ldO false 1 q86.2 t78 = some (.p (.int .i64 n80))) (
(apO false 2 16 (10::1::1::1::1::0::1::1::1::0::1::0::σ) 55 q86.2 q86.1 t85).bind fun q87 =>
(fA q8.1 1).bind fun t88 =>
(ldO false 1 q87.2 t88).bind fun t89 =>
(castI .u64 t89).bind fun n90 =>
(callO rec 19 (3::0::1::1::1::1::0::1::0::σ) [x3,(.p (.int .u64 n90))] q87.2 (some 119)).bind fun q91 =>
(extV q91.1 0).bind fun t92 =>
(castI .i64 t92).bind fun n93 =>
(extV q91.1 1).bind fun t94 =>
(asB t94).bind fun b95 =>
(callO rec 52 (1::0::1::1::1::1::1::0::1::0::σ) [x3] q91.2 (some 124)).bind fun q96 =>
(extV q96.1 0).bind fun t97 =>
(extV q96.1 1).bind fun t98 =>
(asB t98).bind fun b99 =>
(some (alO [.p (.int .i64 0),.p (.int .u64 0)] (5::0::1::1::1::1::1::0::1::0::σ) 12 q96.2)).bind fun q100 =>
((stO false 2 (6::0::1::1::1::1::1::0::1::0::σ) q100.2 q100.1 t97).map fun h => (udf,h)).bind fun q101 =>
(lenO q87.1).bind fun t102 =>
(castI .i64 t102).bind fun n103 =>
(callO rec 16 (1::0::0::1::1::1::1::1::1::0::1::0::σ) [x3] q101.2 (some 128)).bind fun q104 =>
(castI .i64 q104.1).bind fun n105 =>
(bif n105 != n103 then (some true) else ((lenO q87.1).bind fun t106 =>
(castI .i64 t106).bind fun n107 =>
some (!(b99 == (decide (n107 > 0)))))).bind fun b108 =>
(bif b108 then (some ((.p (.bool true)),q104.2)) else ((bif b99 then ((ldO true 2 q104.2 q100.1).bind fun t109 =>
(callO rec 54 (18::0::0::1::1::1::1::1::1::0::1::0::σ) [q87.1] q104.2 (some 145)).bind fun q110 =>
(castI .i64 q110.1).bind fun n111 =>
need (ldO true 2 q110.2 q100.1 = some t109) (
(iS 2 q87.1 n111).bind fun t112 =>
(ldO true 2 q110.2 t112).bind fun t113 =>
(binV Try.prog q110.2 .neq 30 t109 t113).bind fun t114 =>
(asB t114).bind fun b115 =>
some ((.p (.bool b115)),q110.2))) else (some ((.p (.bool false)),q104.2))).bind fun q116 =>
(asB q116.1).bind fun b117 =>
some ((.p (.bool b117)),q116.2))).bind fun q118 =>
(asB q118.1).bind fun b119 =>
bif b119 then (
some (.ret,(envL [(2,(.p (.bool false)))]),q118.2))
else (
(lenO q87.1).bind fun t120 =>
(castI .i64 t120).bind fun n121 =>
(loop zl12_play_c1 zl12_play_l1 (1::0::1::1::1::1::1::1::1::1::0::1::0::σ) (envL [(0,x0),(3,x3),(4,q87.1),(5,(.p (.int .i64 x5))),(6,q8.1),(10,(.p (.int .i64 n93))),(11,(.p (.bool b95))),(14,(.p (.int .i64 0))),(15,(.p (.bool false))),(151,q87.1),(152,(.p (.int .i64 n121))),(153,(.p (.int .i64 0)))]) q118.2).bind fun r122 => zl12_play_k1 rec loop σ r122.1 r122.2.1 r122.2.2)))))))
else (
some ((.exit 0),(envL [(3,x3)]),h)):=by kernel_rfl
theorem zl12_play_a0_0 (x3 : V) (h : H) : zl12_play_k0 rec loop σ (.exit 0) (envL [(3,x3)]) h =
(binV Try.prog h .neq 23 x3 (.p (.pointer .none))).bind fun t123 =>
(asB t123).bind fun b124 =>
fin false σ h [(.p (.bool b124))]:=by kernel_rfl
theorem zl12_play_a0_ret (x2 : Bool) (h : H) : zl12_play_k0 rec loop σ .ret (envL [(2,(.p (.bool x2)))]) h =
fin false σ h [(.p (.bool x2))]:=by kernel_rfl
theorem zl12_play_r1 (x0 : V) (x3 : V) (x4 : V) (x5 : Int) (x6 : V) (x10 : Int) (x11 : Bool) (x14 : Int) (x15 : Bool) (x151 : V) (x152 : Int) (x153 : Int) (h : H) : cvRound G rec loop zl12_play_c1 zl12_play_l1 σ (envL [(0,x0),(3,x3),(4,x4),(5,(.p (.int .i64 x5))),(6,x6),(10,(.p (.int .i64 x10))),(11,(.p (.bool x11))),(14,(.p (.int .i64 x14))),(15,(.p (.bool x15))),(151,x151),(152,(.p (.int .i64 x152))),(153,(.p (.int .i64 x153)))]) h =
bif decide (x153 < x152) then (
(iS 2 x151 x153).bind fun t125 =>
(ldO true 2 h t125).bind fun t126 =>
(some (alO [.p (.int .i64 0),.p (.int .u64 0)] (2::0::0::1::1::0::σ) 17 h)).bind fun q127 =>
((stO false 2 (3::0::0::1::1::0::σ) q127.2 q127.1 t126).map fun h => (udf,h)).bind fun q128 =>
(fA q127.1 1).bind fun t129 =>
(ldO false 1 q128.2 t129).bind fun t130 =>
(castI .u64 t130).bind fun n131 =>
(fA x6 1).bind fun t132 =>
(ldO false 1 q128.2 t132).bind fun t133 =>
(castI .u64 t133).bind fun n134 =>
bif n131 == n134 then (
(fA q127.1 0).bind fun t135 =>
(ldO false 1 q128.2 t135).bind fun t136 =>
(castI .i64 t136).bind fun n137 =>
loop zl12_play_c1 zl12_play_l1 (1::σ) (envL [(0,x0),(3,x3),(4,x4),(5,(.p (.int .i64 x5))),(6,x6),(10,(.p (.int .i64 x10))),(11,(.p (.bool x11))),(14,(.p (.int .i64 n137))),(15,(.p (.bool true))),(151,x151),(152,(.p (.int .i64 x152))),(153,(.p (.int .i64 (IntKind.wrap .i64 (x153 + 1)))))]) q128.2)
else (
loop zl12_play_c1 zl12_play_l1 (1::σ) (envL [(0,x0),(3,x3),(4,x4),(5,(.p (.int .i64 x5))),(6,x6),(10,(.p (.int .i64 x10))),(11,(.p (.bool x11))),(14,(.p (.int .i64 x14))),(15,(.p (.bool x15))),(151,x151),(152,(.p (.int .i64 x152))),(153,(.p (.int .i64 (IntKind.wrap .i64 (x153 + 1)))))]) q128.2))
else (
some ((.exit 5),(envL [(0,x0),(3,x3),(4,x4),(5,(.p (.int .i64 x5))),(10,(.p (.int .i64 x10))),(11,(.p (.bool x11))),(14,(.p (.int .i64 x14))),(15,(.p (.bool x15)))]),h)):=by kernel_rfl
theorem zl12_play_a1_5 (x0 : V) (x3 : V) (x4 : V) (x5 : Int) (x10 : Int) (x11 : Bool) (x14 : Int) (x15 : Bool) (h : H) : zl12_play_k1 rec loop σ (.exit 5) (envL [(0,x0),(3,x3),(4,x4),(5,(.p (.int .i64 x5))),(10,(.p (.int .i64 x10))),(11,(.p (.bool x11))),(14,(.p (.int .i64 x14))),(15,(.p (.bool x15)))]) h =
(bif x10 != x14 then (some true) else (some (!(x11 == x15)))).bind fun b138 =>
bif b138 then (
some (.ret,(envL [(2,(.p (.bool false)))]),h))
else (
loop zl12_play_c0 zl12_play_l0 (1::σ) (envL [(0,x0),(3,x3),(4,x4),(5,(.p (.int .i64 (IntKind.wrap .i64 (x5 + 1)))))]) h):=by kernel_rfl
theorem zl12_play_r2 (x0 : V) (x3 : V) (x4 : V) (x5 : Int) (x6 : V) (x8 : V) (h : H) : cvRound G rec loop zl12_play_c2 zl12_play_l2 σ (envL [(0,x0),(3,x3),(4,x4),(5,(.p (.int .i64 x5))),(6,x6),(8,x8)]) h =
(lenO x4).bind fun t139 =>
(castI .i64 t139).bind fun n140 =>
(bif decide (n140 > 0) then ((fA x6 2).bind fun t141 =>
(ldO false 1 h t141).bind fun t142 =>
(castI .i64 t142).bind fun n143 =>
(callO rec 54 (6::0::0::0::σ) [x4] h (some 83)).bind fun q144 =>
(castI .i64 q144.1).bind fun n145 =>
need (ldO false 1 q144.2 t141 = some (.p (.int .i64 n143))) (
(iS 2 x4 n145).bind fun t146 =>
(fA t146 0).bind fun t147 =>
(ldO false 1 q144.2 t147).bind fun t148 =>
(castI .i64 t148).bind fun n149 =>
some ((.p (.bool (decide (n149 ≤ n143)))),q144.2))) else (some ((.p (.bool false)),h))).bind fun q150 =>
(asB q150.1).bind fun b151 =>
bif b151 then (
(callO rec 54 (2::0::1::0::σ) [x4] q150.2 (some 93)).bind fun q152 =>
(castI .i64 q152.1).bind fun n153 =>
(iS 2 x4 n153).bind fun t154 =>
(ldO true 2 q152.2 t154).bind fun t155 =>
(some (alO [.p (.int .i64 0),.p (.int .u64 0)] (5::0::1::0::σ) 9 q152.2)).bind fun q156 =>
((stO false 2 (6::0::1::0::σ) q156.2 q156.1 t155).map fun h => (udf,h)).bind fun q157 =>
(lenO x8).bind fun t158 =>
(castI .i64 t158).bind fun n159 =>
(bif n159 == 0 then (some true) else ((iS 2 x8 0).bind fun t160 =>
(ldO true 2 q157.2 t160).bind fun t161 =>
(ldO true 2 q157.2 q156.1).bind fun t162 =>
(binV Try.prog q157.2 .neq 30 t161 t162).bind fun t163 =>
(asB t163).bind fun b164 =>
some b164)).bind fun b165 =>
bif b165 then (
some (.ret,(envL [(2,(.p (.bool false)))]),q157.2))
else (
(slS 2 x8 (some 1) none none).bind fun t166 =>
(fA q156.1 1).bind fun t167 =>
(ldO false 1 q157.2 t167).bind fun t168 =>
(castI .u64 t168).bind fun n169 =>
(callO rec 53 (5::1::1::1::0::σ) [x4,(.p (.int .u64 n169))] q157.2 (some 111)).bind fun q170 =>
need (slS 2 x8 (some 1) none none = some t166) (
loop zl12_play_c2 zl12_play_l2 (1::σ) (envL [(0,x0),(3,x3),(4,q170.1),(5,(.p (.int .i64 x5))),(6,x6),(8,t166)]) q170.2)))
else (
some ((.exit 3),(envL [(0,x0),(3,x3),(4,x4),(5,(.p (.int .i64 x5))),(6,x6),(8,x8)]),q150.2)):=by kernel_rfl
theorem zl12_play_a2_3 (x0 : V) (x3 : V) (x4 : V) (x5 : Int) (x6 : V) (x8 : V) (h : H) : zl12_play_k2 rec loop σ (.exit 3) (envL [(0,x0),(3,x3),(4,x4),(5,(.p (.int .i64 x5))),(6,x6),(8,x8)]) h =
(lenO x8).bind fun t171 =>
(castI .i64 t171).bind fun n172 =>
bif decide (n172 > 0) then (
some (.ret,(envL [(2,(.p (.bool false)))]),h))
else (
(fA x6 1).bind fun t173 =>
(ldO false 1 h t173).bind fun t174 =>
(castI .u64 t174).bind fun n175 =>
(callO rec 19 (3::0::1::1::1::1::0::1::0::σ) [x3,(.p (.int .u64 n175))] h (some 119)).bind fun q176 =>
(extV q176.1 0).bind fun t177 =>
(castI .i64 t177).bind fun n178 =>
(extV q176.1 1).bind fun t179 =>
(asB t179).bind fun b180 =>
(callO rec 52 (1::0::1::1::1::1::1::0::1::0::σ) [x3] q176.2 (some 124)).bind fun q181 =>
(extV q181.1 0).bind fun t182 =>
(extV q181.1 1).bind fun t183 =>
(asB t183).bind fun b184 =>
(some (alO [.p (.int .i64 0),.p (.int .u64 0)] (5::0::1::1::1::1::1::0::1::0::σ) 12 q181.2)).bind fun q185 =>
((stO false 2 (6::0::1::1::1::1::1::0::1::0::σ) q185.2 q185.1 t182).map fun h => (udf,h)).bind fun q186 =>
(lenO x4).bind fun t187 =>
(castI .i64 t187).bind fun n188 =>
(callO rec 16 (1::0::0::1::1::1::1::1::1::0::1::0::σ) [x3] q186.2 (some 128)).bind fun q189 =>
(castI .i64 q189.1).bind fun n190 =>
(bif n190 != n188 then (some true) else ((lenO x4).bind fun t191 =>
(castI .i64 t191).bind fun n192 =>
some (!(b184 == (decide (n192 > 0)))))).bind fun b193 =>
(bif b193 then (some ((.p (.bool true)),q189.2)) else ((bif b184 then ((ldO true 2 q189.2 q185.1).bind fun t194 =>
(callO rec 54 (18::0::0::1::1::1::1::1::1::0::1::0::σ) [x4] q189.2 (some 145)).bind fun q195 =>
(castI .i64 q195.1).bind fun n196 =>
need (ldO true 2 q195.2 q185.1 = some t194) (
(iS 2 x4 n196).bind fun t197 =>
(ldO true 2 q195.2 t197).bind fun t198 =>
(binV Try.prog q195.2 .neq 30 t194 t198).bind fun t199 =>
(asB t199).bind fun b200 =>
some ((.p (.bool b200)),q195.2))) else (some ((.p (.bool false)),q189.2))).bind fun q201 =>
(asB q201.1).bind fun b202 =>
some ((.p (.bool b202)),q201.2))).bind fun q203 =>
(asB q203.1).bind fun b204 =>
bif b204 then (
some (.ret,(envL [(2,(.p (.bool false)))]),q203.2))
else (
(lenO x4).bind fun t205 =>
(castI .i64 t205).bind fun n206 =>
(loop zl12_play_c1 zl12_play_l1 (1::0::1::1::1::1::1::1::1::1::0::1::0::σ) (envL [(0,x0),(3,x3),(4,x4),(5,(.p (.int .i64 x5))),(6,x6),(10,(.p (.int .i64 n178))),(11,(.p (.bool b180))),(14,(.p (.int .i64 0))),(15,(.p (.bool false))),(151,x4),(152,(.p (.int .i64 n206))),(153,(.p (.int .i64 0)))]) q203.2).bind fun r207 => zl12_play_k1 rec loop σ r207.1 r207.2.1 r207.2.2)):=by kernel_rfl
theorem zl12_play_a2_ret (x2 : Bool) (h : H) : zl12_play_k2 rec loop σ .ret (envL [(2,(.p (.bool x2)))]) h =
some (.ret,(envL [(2,(.p (.bool x2)))]),h):=by kernel_rfl
theorem alarm_Table_At_entry (x0 : V) (x1 : Int) (h : H) : cvBody G rec loop 19 σ [x0,(.p (.int .u64 x1))] h =
(callO rec 55 (2::0::1::0::σ) [x0,(.p (.int .u64 x1))] (List.replicate 20 []::h) (some 9)).bind fun q1 =>
(castI .i64 q1.1).bind fun n2 =>
bif decide (n2 < 0) then (
fin false σ q1.2 [(.p (.int .i64 0)),(.p (.bool false))])
else (
(nilChk x0).bind fun t3 =>
(fA t3 0).bind fun t4 =>
(ldO false 1 q1.2 t4).bind fun t5 =>
(iS 2 t5 n2).bind fun t6 =>
(fA t6 0).bind fun t7 =>
(ldO false 1 q1.2 t7).bind fun t8 =>
(castI .i64 t8).bind fun n9 =>
fin false σ q1.2 [(.p (.int .i64 n9)),(.p (.bool true))]):=by kernel_rfl
end
end Go.Ev
namespace Go.Ev
open Go.Proofs
set_option linter.unusedVariables false
set_option linter.unusedSimpArgs false
set_option maxRecDepth 100000
section
variable {β α : Type} {Q : β→α→Prop} {K : Exit × Env × H→Option α}
def p_alarm_Table_At_o (k : Nat) (x0 : T_alarm_Table) (x1 : Int) : Option (Int × Bool) :=
(p_alarm_Table_find_o k x0 x1).bind fun r1 =>
bif decide (r1 < 0) then (
some (0,false))
else (
(ix x0.l r1).bind fun a7 =>
some (a7.f_At,true))
theorem alarm_Table_At_o_ok (k : Nat) {h : H} {σ : Stamp} (x0 : T_alarm_Table) {c0_0 : C} (hc0_0 : SoC dT_alarm_Due x0.l c0_0) (hn0_0 : Nn c0_0 2) {l0 : Loc} {o0 : Nat} (ha0 : AtC h l0 o0 ([c0_0])) (x1 : Int) : Sim (p_alarm_Table_At_o k x0 x1) (ev G X0 19 σ [(.ref l0 o0),(.p (.int .u64 x1))] h) (fun r s => s = ([.v (.p (.int .i64 r.1)),.v (.p (.bool r.2))],h)):=by
 refine .ev rfl (Sim.ext (alarm_Table_At_entry _ _ _ _ _ _) ?_)
 rw [p_alarm_Table_At_o]
 have S0 : Fm 20 h [] [] [] (List.replicate 20 []::h):=Fm.start0
 refine .call (alarm_Table_find_o_ok k x0 hc0_0 hn0_0 (S0.lowA ha0) x1) fun r1 cs2 H3 h4 q5 => ?_
 cases q5
 refine .ci ?_
 refine .cq ?_ ?_
 ·exact .fin (S0.finN (lC (sI _ _).lv (lC (sB _).lv lN))) rfl
 refine .nc ?_
 refine .fa ?_
 refine .op (hc0_0.ld (S0.lowA ha0) (j:=0) rfl) ?_
 refine .bd fun a7 h8 => ?_
 refine .op ((hc0_0.sl (S0.lowA ha0) (j:=0) rfl).iS h8 rfl) ?_
 obtain ⟨w10,h11,hE9⟩:=(hc0_0.sl (S0.lowA ha0) (j:=0) rfl).el h8 rfl
 obtain rfl:=dT_alarm_Due.inv h11
 refine .op (hE9.fa (j:=0) (by simp)) ?_
 obtain ⟨w13,h14,hE12⟩:=(hc0_0.sl (S0.lowA ha0) (j:=0) rfl).el h8 rfl
 obtain rfl:=dT_alarm_Due.inv h14
 refine .op (hE12.ld (j:=0) rfl) ?_
 refine .ci ?_
 exact .fin (S0.finN (lC (sI _ _).lv (lC (sB _).lv lN))) rfl
end
end Go.Ev
namespace Go.Ev
open Go.Proofs
set_option linter.unusedVariables false
set_option linter.unusedSimpArgs false
set_option maxRecDepth 100000
noncomputable section
abbrev KT20:=Exit→Env→H→Option (List C × H)
variable (rec : CallF) (loop : LoopV) (σ : Stamp)
def zl12_drop_c0 : Code:=(codeAt (bodyOf Try.f53) [1,1,0,1,0,0])
def zl12_drop_l0 : Lv:=⟨32,16,[(0,32)]⟩
def zl12_drop_k0 : KT20:=(kBlock 0 (kSeq G rec loop (codeAt (bodyOf Try.f53) [1,1,1]) ⟨16,16,[]⟩ (1::1::0::σ) (finC G false Try.f53 (1::σ))))
theorem zl12_drop_entry (x0 : V) (x1 : Int) (h : H) : cvBody G rec loop 53 σ [x0,(.p (.int .u64 x1))] h =
(lenO x0).bind fun t1 =>
(castI .i64 t1).bind fun n2 =>
(loop zl12_drop_c0 zl12_drop_l0 (1::0::1::1::0::σ) (envL [(1,(.p (.int .u64 x1))),(5,(.p (.slice .none 0 0))),(8,x0),(9,(.p (.int .i64 n2))),(10,(.p (.int .i64 0)))]) (List.replicate 24 []::h)).bind fun r3 => zl12_drop_k0 rec loop σ r3.1 r3.2.1 r3.2.2:=by kernel_rfl
theorem zl12_drop_r0 (x1 : Int) (x5 : V) (x8 : V) (x9 : Int) (x10 : Int) (h : H) : cvRound G rec loop zl12_drop_c0 zl12_drop_l0 σ (envL [(1,(.p (.int .u64 x1))),(5,x5),(8,x8),(9,(.p (.int .i64 x9))),(10,(.p (.int .i64 x10)))]) h =
bif decide (x10 < x9) then (
(iS 2 x8 x10).bind fun t4 =>
(ldO true 2 h t4).bind fun t5 =>
(some (alO [.p (.int .i64 0),.p (.int .u64 0)] (2::0::0::1::1::0::σ) 7 h)).bind fun q6 =>
((stO false 2 (3::0::0::1::1::0::σ) q6.2 q6.1 t5).map fun h => (udf,h)).bind fun q7 =>
(fA q6.1 1).bind fun t8 =>
(ldO false 1 q7.2 t8).bind fun t9 =>
(castI .u64 t9).bind fun n10 =>
bif n10 != x1 then (
(ldO true 2 q7.2 q6.1).bind fun t11 =>
(bSV Try.prog 27 1 [(0,t11)]).bind fun t12 =>
(apO false 2 16 (3::1::1::0::1::1::0::σ) 21 q7.2 x5 t12).bind fun q13 =>
loop zl12_drop_c0 zl12_drop_l0 (1::σ) (envL [(1,(.p (.int .u64 x1))),(5,q13.1),(8,x8),(9,(.p (.int .i64 x9))),(10,(.p (.int .i64 (IntKind.wrap .i64 (x10 + 1)))))]) q13.2)
else (
loop zl12_drop_c0 zl12_drop_l0 (1::σ) (envL [(1,(.p (.int .u64 x1))),(5,x5),(8,x8),(9,(.p (.int .i64 x9))),(10,(.p (.int .i64 (IntKind.wrap .i64 (x10 + 1)))))]) q7.2))
else (
some ((.exit 0),(envL [(5,x5)]),h)):=by kernel_rfl
theorem zl12_drop_a0_0 (x5 : V) (h : H) : zl12_drop_k0 rec loop σ (.exit 0) (envL [(5,x5)]) h =
fin false σ h [x5]:=by kernel_rfl
end
end Go.Ev
namespace Go.Ev
open Go.Proofs
set_option linter.unusedVariables false
set_option linter.unusedSimpArgs false
set_option maxRecDepth 100000
section
variable {β α : Type} {Q : β→α→Prop} {K : Exit × Env × H→Option α}
def p_zl12_drop_l0 {β : Type} (k : Nat) (kE0 : (List T_alarm_Due)→Option β) (x1 : Int) (x5 : (List T_alarm_Due)) (x8 : (List T_alarm_Due)) (x9 : Int) (x10 : Int) : Option β:=match k with
| 0 => none
| k + 1 =>
bif decide (x10 < x9) then (
(ix x8 x10).bind fun a10 =>
bif a10.Key != x1 then (
(ap 16 x5 ([a10])).bind fun a24 =>
p_zl12_drop_l0 k kE0 x1 a24 x8 x9 (IntKind.wrap .i64 (x10 + 1)))
else (
p_zl12_drop_l0 k kE0 x1 x5 x8 x9 (IntKind.wrap .i64 (x10 + 1))))
else (
kE0 x5)
def p_zl12_drop (k : Nat) (x0 : (List T_alarm_Due)) (x1 : Int) : Option ((List T_alarm_Due)) :=
p_zl12_drop_l0 k (fun r36_5 =>
some (r36_5)) x1 (([] : List T_alarm_Due)) x0 ((x0.length : Int)) 0
theorem zl12_drop_l0_ok {h : H}  {kE0 : (List T_alarm_Due)→Option β} (hE0 : ∀ (q5 : (List T_alarm_Due)) (v32 : V) (H30 : Go.Ev.H) (_ : Fm 24 h [] [] [⟨[21],v32,dT_alarm_Due,q5⟩] H30),Sim (kE0 q5) (K ((.exit 0),(envL [(5,v32)]),H30)) Q) (k : Nat) : ∀ (x1 : Int) (x5 : (List T_alarm_Due)) (x8 : (List T_alarm_Due)) (x9 : Int) (x10 : Int) (v5 : V) (v7 : V) (h8 : SlH h dT_alarm_Due x8 v7) (H3 : Go.Ev.H) (_ : Fm 24 h [] [] [⟨[21],v5,dT_alarm_Due,x5⟩] H3) {σ : Stamp},Sim (p_zl12_drop_l0 k kE0 x1 x5 x8 x9 x10) ((cvL G X0 zl12_drop_c0 zl12_drop_l0 σ (envL [(1,(.p (.int .u64 x1))),(5,v5),(8,v7),(9,(.p (.int .i64 x9))),(10,(.p (.int .i64 x10)))]) H3).bind K) Q:=by
 induction k with
 | zero => intros; exact .no
 | succ k ih =>
  intro x1 x5 x8 x9 x10 v5 v7 h8 H3 S4 σ
  rw [p_zl12_drop_l0]
  refine .round (Sim.ext (zl12_drop_r0 _ _ _ _ _ _ _ _ _) ?_)
  refine .cq ?_ ?_
  ·refine .bd fun a10 h11 => ?_
   refine .op ((S4.low h8).iS h11 rfl) ?_
   obtain ⟨w13,h14,hE12⟩:=(S4.low h8).el h11 rfl
   obtain rfl:=dT_alarm_Due.inv h14
   refine .op (hE12.all (by simp)) ?_
   obtain ⟨H15,e16,S17⟩:=S4.al (d:=7) (s:=(2::0::0::1::1::0::σ)) (z:=[(.p (.int .i64 0)),(.p (.int .u64 0))]) (by decide) rfl
   refine .op (congrArg some e16) ?_
   obtain ⟨H19,e20,S21⟩:=S17.stGv (i:=0) (j:=0) (own:=false) (σ:=(3::0::0::1::1::0::σ)) (xs:=[.p (.int .i64 a10.f_At),.p (.int .u64 a10.Key)]) rfl rfl (sC (sI _ _) (sC (sI _ _) sN)) rfl rfl
   refine .op (sM e20) ?_
   refine .fa ?_
   refine .op ((S21.atG (i:=0) rfl).ld (j:=1) rfl) ?_
   refine .ci ?_
   refine .cq ?_ ?_
   ·refine .op ((S21.atG (i:=0) rfl).ldVs (j:=0) (xs:=[.p (.int .i64 a10.f_At),.p (.int .u64 a10.Key)]) rfl rfl (by decide)) ?_
    have h23 : SlF dT_alarm_Due [a10] (.fz [(.p (.int .i64 a10.f_At)),(.p (.int .u64 a10.Key))] 1 2 true):=SlF.lit (cs:=[(.p (.int .i64 a10.f_At)),(.p (.int .u64 a10.Key))]) (RL.cons (show dT_alarm_Due.R a10 [.p (.int .i64 a10.f_At),.p (.int .u64 a10.Key)] from (dT_alarm_Due.mk)) RL.nil) rfl rfl true
    refine .op (bldS (pC (c:=[.p (.int .i64 a10.f_At),.p (.int .u64 a10.Key)]) rfl pN) (by kernel_rfl : _ = some (vOf h23))) ?_
    refine .bd fun a24 h25 => ?_
    obtain ⟨v26,H27,e28,S29⟩:=S21.app (i:=0) (d:=21) (e:=2) (own:=false) (σ:=(3::1::1::0::1::1::0::σ)) rfl (h23.h H19).y h25 rfl (by decide) (by decide) rfl
    refine .op (e28) ?_
    exact ih x1 a24 x8 x9 (IntKind.wrap .i64 (x10 + 1)) v26 v7 h8 H27 (S29.wk2 aN (aC ⟨[21,21],by simp,aM 0 rfl⟩ aN))
   exact ih x1 x5 x8 x9 (IntKind.wrap .i64 (x10 + 1)) v5 v7 h8 H19 (S21.wk2 aN (aC ⟨[21],by simp,aM 0 rfl⟩ aN))
  exact hE0 x5 v5 H3 (S4.wk2 aN (aC ⟨[21],by simp,aM 0 rfl⟩ aN))
theorem zl12_drop_ok (k : Nat) {h : H} {σ : Stamp} (x0 : List T_alarm_Due) {u0 : V} (hu0 : SlH h dT_alarm_Due x0 u0) (x1 : Int) : Sim (p_zl12_drop k x0 x1) (ev G X0 53 σ [u0,(.p (.int .u64 x1))] h) (fun r s => ∃ (c0 : C),∃ (a0 : List V),OwnS c0 dT_alarm_Due.sz r.length a0∧dT_alarm_Due.L r a0∧s = ([c0],h)):=by
 refine .ev rfl (Sim.ext (zl12_drop_entry _ _ _ _ _ _) ?_)
 rw [p_zl12_drop]
 have S0 : Fm 24 h [] [] [] (List.replicate 24 []::h):=Fm.start0
 refine .op ((S0.low hu0).len) ?_
 refine .ci ?_
 have S35:=S0.nil dT_alarm_Due []
 refine .as (zl12_drop_l0_ok ?_ k x1 (([] : List T_alarm_Due)) x0 ((x0.length : Int)) 0 (.p (.slice none 0 0)) u0 hu0 (List.replicate 24 []::h) (S35.wk2 aN (aC ⟨[],by simp,aM 0 rfl⟩ aN)))
 ·intro r36_5 v39 H37 S38
  refine .ext (zl12_drop_a0_0 _ _ _ _ _) ?_
  obtain ⟨c46,cs47,H41,e42,h44,h45,S43⟩:=S38.expOwn (i:=0) (τ:=0::1::σ) rfl rfl rfl
  exact .fin (S43.finE (Ex.st e42 Ex.nil)) ⟨c46,cs47,h44,h45,rfl⟩
end
end Go.Ev
namespace Go.Ev
open Go.Proofs
set_option linter.unusedVariables false
set_option linter.unusedSimpArgs false
set_option maxRecDepth 100000
noncomputable section
abbrev KT21:=Exit→Env→H→Option (List C × H)
variable (rec : CallF) (loop : LoopV) (σ : Stamp)
def zl12_first_c0 : Code:=(codeAt (bodyOf Try.f54) [1,1,0,1,0,0])
def zl12_first_l0 : Lv:=⟨8,4,[(0,8)]⟩
def zl12_first_k0 : KT21:=(kBlock 0 (kSeq G rec loop (codeAt (bodyOf Try.f54) [1,1,1]) ⟨4,4,[]⟩ (1::1::0::σ) (finC G false Try.f54 (1::σ))))
theorem zl12_first_entry (x0 : V) (h : H) : cvBody G rec loop 54 σ [x0] h =
(lenO x0).bind fun t1 =>
(castI .i64 t1).bind fun n2 =>
(loop zl12_first_c0 zl12_first_l0 (1::0::1::1::0::σ) (envL [(0,x0),(3,(.p (.int .i64 0))),(6,(.p (.int .i64 n2))),(7,(.p (.int .i64 0)))]) (List.replicate 50 []::h)).bind fun r3 => zl12_first_k0 rec loop σ r3.1 r3.2.1 r3.2.2:=by kernel_rfl
theorem zl12_first_r0 (x0 : V) (x3 : Int) (x6 : Int) (x7 : Int) (h : H) : cvRound G rec loop zl12_first_c0 zl12_first_l0 σ (envL [(0,x0),(3,(.p (.int .i64 x3))),(6,(.p (.int .i64 x6))),(7,(.p (.int .i64 x7)))]) h =
bif decide (x7 < x6) then (
(iS 2 x0 x7).bind fun t4 =>
(fA t4 0).bind fun t5 =>
(ldO false 1 h t5).bind fun t6 =>
(castI .i64 t6).bind fun n7 =>
(iS 2 x0 x3).bind fun t8 =>
(fA t8 0).bind fun t9 =>
(ldO false 1 h t9).bind fun t10 =>
(castI .i64 t10).bind fun n11 =>
(bif decide (n7 < n11) then (some true) else ((iS 2 x0 x7).bind fun t12 =>
(fA t12 0).bind fun t13 =>
(ldO false 1 h t13).bind fun t14 =>
(castI .i64 t14).bind fun n15 =>
(iS 2 x0 x3).bind fun t16 =>
(fA t16 0).bind fun t17 =>
(ldO false 1 h t17).bind fun t18 =>
(castI .i64 t18).bind fun n19 =>
(bif n15 == n19 then ((iS 2 x0 x7).bind fun t20 =>
(fA t20 1).bind fun t21 =>
(ldO false 1 h t21).bind fun t22 =>
(castI .u64 t22).bind fun n23 =>
(iS 2 x0 x3).bind fun t24 =>
(fA t24 1).bind fun t25 =>
(ldO false 1 h t25).bind fun t26 =>
(castI .u64 t26).bind fun n27 =>
some (decide (n23 < n27))) else (some false)).bind fun b28 =>
some b28)).bind fun b29 =>
bif b29 then (
loop zl12_first_c0 zl12_first_l0 (1::σ) (envL [(0,x0),(3,(.p (.int .i64 x7))),(6,(.p (.int .i64 x6))),(7,(.p (.int .i64 (IntKind.wrap .i64 (x7 + 1)))))]) h)
else (
loop zl12_first_c0 zl12_first_l0 (1::σ) (envL [(0,x0),(3,(.p (.int .i64 x3))),(6,(.p (.int .i64 x6))),(7,(.p (.int .i64 (IntKind.wrap .i64 (x7 + 1)))))]) h))
else (
some ((.exit 0),(envL [(3,(.p (.int .i64 x3)))]),h)):=by kernel_rfl
theorem zl12_first_a0_0 (x3 : Int) (h : H) : zl12_first_k0 rec loop σ (.exit 0) (envL [(3,(.p (.int .i64 x3)))]) h =
fin false σ h [(.p (.int .i64 x3))]:=by kernel_rfl
end
end Go.Ev
namespace Go.Ev
open Go.Proofs
set_option linter.unusedVariables false
set_option linter.unusedSimpArgs false
set_option maxRecDepth 100000
section
variable {β α : Type} {Q : β→α→Prop} {K : Exit × Env × H→Option α}
def p_zl12_first_l0 {β : Type} (k : Nat) (kE0 : Int→Option β) (x0 : (List T_alarm_Due)) (x3 : Int) (x6 : Int) (x7 : Int) : Option β:=match k with
| 0 => none
| k + 1 =>
bif decide (x7 < x6) then (
(ix x0 x7).bind fun a6 =>
(ix x0 x3).bind fun a14 =>
(bif decide (a6.f_At < a14.f_At) then (some true) else ((ix x0 x7).bind fun a22 =>
(ix x0 x3).bind fun a30 =>
(bif a22.f_At == a30.f_At then ((ix x0 x7).bind fun a38 =>
(ix x0 x3).bind fun a46 =>
some (decide (a38.Key < a46.Key))) else (some false)).bind fun b54 =>
some b54)).bind fun b58 =>
bif b58 then (
p_zl12_first_l0 k kE0 x0 x7 x6 (IntKind.wrap .i64 (x7 + 1)))
else (
p_zl12_first_l0 k kE0 x0 x3 x6 (IntKind.wrap .i64 (x7 + 1))))
else (
kE0 x3)
def p_zl12_first (k : Nat) (x0 : (List T_alarm_Due)) : Option (Int) :=
p_zl12_first_l0 k (fun r65_3 =>
some (r65_3)) x0 0 ((x0.length : Int)) 0
theorem zl12_first_l0_ok {h : H}  {kE0 : Int→Option β} (hE0 : ∀ (q3 : Int) (H63 : Go.Ev.H) (_ : Fm 50 h [] [] [] H63),Sim (kE0 q3) (K ((.exit 0),(envL [(3,(.p (.int .i64 q3)))]),H63)) Q) (k : Nat) : ∀ (x0 : (List T_alarm_Due)) (x3 : Int) (x6 : Int) (x7 : Int) (v3 : V) (h4 : SlH h dT_alarm_Due x0 v3) (H1 : Go.Ev.H) (_ : Fm 50 h [] [] [] H1) {σ : Stamp},Sim (p_zl12_first_l0 k kE0 x0 x3 x6 x7) ((cvL G X0 zl12_first_c0 zl12_first_l0 σ (envL [(0,v3),(3,(.p (.int .i64 x3))),(6,(.p (.int .i64 x6))),(7,(.p (.int .i64 x7)))]) H1).bind K) Q:=by
 induction k with
 | zero => intros; exact .no
 | succ k ih =>
  intro x0 x3 x6 x7 v3 h4 H1 S2 σ
  rw [p_zl12_first_l0]
  refine .round (Sim.ext (zl12_first_r0 _ _ _ _ _ _ _ _) ?_)
  refine .cq ?_ ?_
  ·refine .bd fun a6 h7 => ?_
   refine .op ((S2.low h4).iS h7 rfl) ?_
   obtain ⟨w9,h10,hE8⟩:=(S2.low h4).el h7 rfl
   obtain rfl:=dT_alarm_Due.inv h10
   refine .op (hE8.fa (j:=0) (by simp)) ?_
   obtain ⟨w12,h13,hE11⟩:=(S2.low h4).el h7 rfl
   obtain rfl:=dT_alarm_Due.inv h13
   refine .op (hE11.ld (j:=0) rfl) ?_
   refine .ci ?_
   refine .bd fun a14 h15 => ?_
   refine .op ((S2.low h4).iS h15 rfl) ?_
   obtain ⟨w17,h18,hE16⟩:=(S2.low h4).el h15 rfl
   obtain rfl:=dT_alarm_Due.inv h18
   refine .op (hE16.fa (j:=0) (by simp)) ?_
   obtain ⟨w20,h21,hE19⟩:=(S2.low h4).el h15 rfl
   obtain rfl:=dT_alarm_Due.inv h21
   refine .op (hE19.ld (j:=0) rfl) ?_
   refine .ci ?_
   refine .ch (P:=fun r y => r = y) ?_ (fun b58 y59 h60 h61 => ?_)
   ·refine .cq ?_ ?_
    ·exact .ret rfl rfl
    ·refine .bd fun a22 h23 => ?_
     refine .op ((S2.low h4).iS h23 rfl) ?_
     obtain ⟨w25,h26,hE24⟩:=(S2.low h4).el h23 rfl
     obtain rfl:=dT_alarm_Due.inv h26
     refine .op (hE24.fa (j:=0) (by simp)) ?_
     obtain ⟨w28,h29,hE27⟩:=(S2.low h4).el h23 rfl
     obtain rfl:=dT_alarm_Due.inv h29
     refine .op (hE27.ld (j:=0) rfl) ?_
     refine .ci ?_
     refine .bd fun a30 h31 => ?_
     refine .op ((S2.low h4).iS h31 rfl) ?_
     obtain ⟨w33,h34,hE32⟩:=(S2.low h4).el h31 rfl
     obtain rfl:=dT_alarm_Due.inv h34
     refine .op (hE32.fa (j:=0) (by simp)) ?_
     obtain ⟨w36,h37,hE35⟩:=(S2.low h4).el h31 rfl
     obtain rfl:=dT_alarm_Due.inv h37
     refine .op (hE35.ld (j:=0) rfl) ?_
     refine .ci ?_
     refine .ch (P:=fun r y => r = y) ?_ (fun b54 y55 h56 h57 => ?_)
     ·refine .cq ?_ ?_
      ·refine .bd fun a38 h39 => ?_
       refine .op ((S2.low h4).iS h39 rfl) ?_
       obtain ⟨w41,h42,hE40⟩:=(S2.low h4).el h39 rfl
       obtain rfl:=dT_alarm_Due.inv h42
       refine .op (hE40.fa (j:=1) (by simp)) ?_
       obtain ⟨w44,h45,hE43⟩:=(S2.low h4).el h39 rfl
       obtain rfl:=dT_alarm_Due.inv h45
       refine .op (hE43.ld (j:=1) rfl) ?_
       refine .ci ?_
       refine .bd fun a46 h47 => ?_
       refine .op ((S2.low h4).iS h47 rfl) ?_
       obtain ⟨w49,h50,hE48⟩:=(S2.low h4).el h47 rfl
       obtain rfl:=dT_alarm_Due.inv h50
       refine .op (hE48.fa (j:=1) (by simp)) ?_
       obtain ⟨w52,h53,hE51⟩:=(S2.low h4).el h47 rfl
       obtain rfl:=dT_alarm_Due.inv h53
       refine .op (hE51.ld (j:=1) rfl) ?_
       refine .ci ?_
       exact .ret rfl rfl
      ·exact .ret rfl rfl
     subst h57
     exact .ret rfl rfl
   subst h61
   refine .cq ?_ ?_
   ·exact ih x0 x7 x6 (IntKind.wrap .i64 (x7 + 1)) v3 h4 H1 (S2.wk2 aN aN)
   exact ih x0 x3 x6 (IntKind.wrap .i64 (x7 + 1)) v3 h4 H1 (S2.wk2 aN aN)
  exact hE0 x3 H1 (S2.wk2 aN aN)
theorem zl12_first_ok (k : Nat) {h : H} {σ : Stamp} (x0 : List T_alarm_Due) {u0 : V} (hu0 : SlH h dT_alarm_Due x0 u0) : Sim (p_zl12_first k x0) (ev G X0 54 σ [u0] h) (fun r s => s = ([.v (.p (.int .i64 r))],h)):=by
 refine .ev rfl (Sim.ext (zl12_first_entry _ _ _ _ _) ?_)
 rw [p_zl12_first]
 have S0 : Fm 50 h [] [] [] (List.replicate 50 []::h):=Fm.start0
 refine .op ((S0.low hu0).len) ?_
 refine .ci ?_
 refine .as (zl12_first_l0_ok ?_ k x0 0 ((x0.length : Int)) 0 u0 hu0 (List.replicate 50 []::h) (S0.wk2 aN aN))
 ·intro r65_3 H66 S67
  refine .ext (zl12_first_a0_0 _ _ _ _ _) ?_
  exact .fin (S67.finN (lC (sI _ _).lv lN)) rfl
def p_zl12_play_l1 {β : Type} (k : Nat) (kE0 : (List Tz12Ask)→(List T_alarm_Due)→Int→Int→Bool→Int→Bool→T_alarm_Table→Option β) (x0 : (List Tz12Ask)) (x4 : (List T_alarm_Due)) (x5 : Int) (x10 : Int) (x11 : Bool) (x14 : Int) (x15 : Bool) (x152 : Int) (x153 : Int) (yg26 : T_alarm_Table) (yg40 : Tz12Ask) : Option β:=match k with
| 0 => none
| k + 1 =>
bif decide (x153 < x152) then (
(ix x4 x153).bind fun a131 =>
bif a131.Key == yg40.Key then (
p_zl12_play_l1 k kE0 x0 x4 x5 x10 x11 a131.f_At true x152 (IntKind.wrap .i64 (x153 + 1)) yg26 yg40)
else (
p_zl12_play_l1 k kE0 x0 x4 x5 x10 x11 x14 x15 x152 (IntKind.wrap .i64 (x153 + 1)) yg26 yg40))
else (
kE0 x0 x4 x5 x10 x11 x14 x15 yg26)
def p_zl12_play_l2 {β : Type} (k : Nat) (kE0 : (List Tz12Ask)→(List T_alarm_Due)→Int→(List T_alarm_Due)→T_alarm_Table→Tz12Ask→Option β) (kE1 : Bool→Option β) (x0 : (List Tz12Ask)) (x4 : (List T_alarm_Due)) (x5 : Int) (x8 : (List T_alarm_Due)) (yg26 : T_alarm_Table) (yg40 : Tz12Ask) : Option β:=match k with
| 0 => none
| k + 1 =>
(bif decide (((x4.length : Int)) > 0) then ((p_zl12_first k x4).bind fun r199 =>
(ix x4 r199).bind fun a204 =>
some (decide (a204.f_At ≤ yg40.f_At))) else (some false)).bind fun b212 =>
bif b212 then (
(p_zl12_first k x4).bind fun r217 =>
(ix x4 r217).bind fun a222 =>
(bif ((x8.length : Int)) == 0 then (some true) else ((ix x8 0).bind fun a234 =>
some (!(andB [a234.f_At == a222.f_At,a234.Key == a222.Key])))).bind fun b239 =>
bif b239 then (
kE1 false)
else (
(sub x8 1 ((x8.length : Int))).bind fun a244 =>
(p_zl12_drop k x4 a222.Key).bind fun r246 =>
p_zl12_play_l2 k kE0 kE1 x0 r246 x5 a244 yg26 yg40))
else (
kE0 x0 x4 x5 x8 yg26 yg40)
def p_zl12_play_l0 {β : Type} (k : Nat) (kE0 : T_alarm_Table→Option β) (kE1 : Bool→Option β) (x0 : (List Tz12Ask)) (x4 : (List T_alarm_Due)) (x5 : Int) (yg13 : T_alarm_Table) : Option β:=match k with
| 0 => none
| k + 1 =>
(bif decide (x5 < ((x0.length : Int))) then (some (decide (x5 < 120))) else (some false)).bind fun b27 =>
bif b27 then (
(ix x0 x5).bind fun a32 =>
bif a32.Kind == 3 then (
(p_zl12_drop k x4 a32.Key).bind fun r45 =>
(p_alarm_Table_Clear k yg13 a32.Key).bind fun r60 =>
bif !(r60.1 == (decide (((r45.length : Int)) < ((x4.length : Int))))) then (
kE1 false)
else (
(p_alarm_Table_At_o k r60.2 a32.Key).bind fun r70 =>
(p_alarm_Table_Next_o r60.2).bind fun r75 =>
(p_alarm_Table_Len_o r60.2).bind fun r89 =>
(bif r89 != ((r45.length : Int)) then (some true) else (some (!(r75.2 == (decide (((r45.length : Int)) > 0)))))).bind fun b94 =>
(bif b94 then (some true) else ((bif r75.2 then ((p_zl12_first k r45).bind fun r98 =>
(ix r45 r98).bind fun a103 =>
some (!(andB [r75.1.f_At == a103.f_At,r75.1.Key == a103.Key]))) else (some false)).bind fun b108 =>
some b108)).bind fun b112 =>
bif b112 then (
kE1 false)
else (
p_zl12_play_l1 k (fun r155_0 r155_4 r155_5 r155_10 r155_11 r155_14 r155_15 yg127 =>
(bif r155_10 != r155_14 then (some true) else (some (!(r155_11 == r155_15)))).bind fun b167 =>
bif b167 then (
kE1 false)
else (
p_zl12_play_l0 k kE0 kE1 r155_0 r155_4 (IntKind.wrap .i64 (r155_5 + 1)) yg127)) x0 r45 x5 r70.1 r70.2 0 false ((r45.length : Int)) 0 r60.2 a32)))
else (
bif a32.Kind == 4 then (
(p_alarm_Table_Due k yg13 a32.f_At).bind fun r173 =>
p_zl12_play_l2 k (fun r278_0 r278_4 r278_5 r278_8 yg196 yg198 =>
bif decide (((r278_8.length : Int)) > 0) then (
kE1 false)
else (
(p_alarm_Table_At_o k yg196 yg198.Key).bind fun r295 =>
(p_alarm_Table_Next_o yg196).bind fun r300 =>
(p_alarm_Table_Len_o yg196).bind fun r314 =>
(bif r314 != ((r278_4.length : Int)) then (some true) else (some (!(r300.2 == (decide (((r278_4.length : Int)) > 0)))))).bind fun b319 =>
(bif b319 then (some true) else ((bif r300.2 then ((p_zl12_first k r278_4).bind fun r323 =>
(ix r278_4 r323).bind fun a328 =>
some (!(andB [r300.1.f_At == a328.f_At,r300.1.Key == a328.Key]))) else (some false)).bind fun b333 =>
some b333)).bind fun b337 =>
bif b337 then (
kE1 false)
else (
p_zl12_play_l1 k (fun r342_0 r342_4 r342_5 r342_10 r342_11 r342_14 r342_15 yg127 =>
(bif r342_10 != r342_14 then (some true) else (some (!(r342_11 == r342_15)))).bind fun b354 =>
bif b354 then (
kE1 false)
else (
p_zl12_play_l0 k kE0 kE1 r342_0 r342_4 (IntKind.wrap .i64 (r342_5 + 1)) yg127)) r278_0 r278_4 r278_5 r295.1 r295.2 0 false ((r278_4.length : Int)) 0 yg196 yg198))) (fun r359_2 =>
kE1 r359_2) x0 x4 x5 r173.1 r173.2 a32)
else (
(p_alarm_Table_Set k yg13 a32.Key a32.f_At).bind fun r362 =>
(p_zl12_drop k x4 a32.Key).bind fun r372 =>
(ap 16 r372 ([((⟨a32.f_At,a32.Key⟩ : T_alarm_Due))])).bind fun a387 =>
(p_alarm_Table_At_o k r362 a32.Key).bind fun r393 =>
(p_alarm_Table_Next_o r362).bind fun r398 =>
(p_alarm_Table_Len_o r362).bind fun r412 =>
(bif r412 != ((a387.length : Int)) then (some true) else (some (!(r398.2 == (decide (((a387.length : Int)) > 0)))))).bind fun b417 =>
(bif b417 then (some true) else ((bif r398.2 then ((p_zl12_first k a387).bind fun r421 =>
(ix a387 r421).bind fun a426 =>
some (!(andB [r398.1.f_At == a426.f_At,r398.1.Key == a426.Key]))) else (some false)).bind fun b431 =>
some b431)).bind fun b435 =>
bif b435 then (
kE1 false)
else (
p_zl12_play_l1 k (fun r440_0 r440_4 r440_5 r440_10 r440_11 r440_14 r440_15 yg127 =>
(bif r440_10 != r440_14 then (some true) else (some (!(r440_11 == r440_15)))).bind fun b452 =>
bif b452 then (
kE1 false)
else (
p_zl12_play_l0 k kE0 kE1 r440_0 r440_4 (IntKind.wrap .i64 (r440_5 + 1)) yg127)) x0 a387 x5 r393.1 r393.2 0 false ((a387.length : Int)) 0 r362 a32))))
else (
kE0 yg13)
def p_zl12_play (k : Nat) (x0 : (List Tz12Ask)) : Option (Bool) :=
(p_alarm_New).bind fun r1 =>
p_zl12_play_l0 k (fun yg26 =>
some (true)) (fun r476_2 =>
some (r476_2)) x0 (([] : List T_alarm_Due)) 0 r1
theorem zl12_play_l1_ok {h : H}  {kE0 : (List Tz12Ask)→(List T_alarm_Due)→Int→Int→Bool→Int→Bool→T_alarm_Table→Option β} (hE0 : ∀ (q0 : (List Tz12Ask)) (q4 : (List T_alarm_Due)) (q5 : Int) (q10 : Int) (q11 : Bool) (q14 : Int) (q15 : Bool) (yg127 : T_alarm_Table) (v146 : V) (h147 : SlH h dTz12Ask q0 v146) (v148 : V) (c150 : C) (h151 : SoC dT_alarm_Due yg127.l c150) (h152 : Nn c150 2) (s153 : Stamp) (H144 : Go.Ev.H) (_ : Fm 175 h [] [(18,s153,[c150])] [⟨[48,55,61,111],v148,dT_alarm_Due,q4⟩] H144),Sim (kE0 q0 q4 q5 q10 q11 q14 q15 yg127) (K ((.exit 5),(envL [(0,v146),(3,(.ref ⟨h.length,18,0,s153,[]⟩ 0)),(4,v148),(5,(.p (.int .i64 q5))),(10,(.p (.int .i64 q10))),(11,(.p (.bool q11))),(14,(.p (.int .i64 q14))),(15,(.p (.bool q15)))]),H144)) Q) (k : Nat) : ∀ (x0 : (List Tz12Ask)) (x4 : (List T_alarm_Due)) (x5 : Int) (x10 : Int) (x11 : Bool) (x14 : Int) (x15 : Bool) (x152 : Int) (x153 : Int) (yg26 : T_alarm_Table) (yg40 : Tz12Ask) (v119 : V) (h120 : SlH h dTz12Ask x0 v119) (v121 : V) (c123 : C) (h124 : SoC dT_alarm_Due yg26.l c123) (h125 : Nn c123 2) (s126 : Stamp) (s128 : Stamp) (H117 : Go.Ev.H) (_ : Fm 175 h [] [(18,s126,[c123]),(6,s128,List.map C.v [(.p (.int .i64 yg40.Kind)),(.p (.int .u64 yg40.Key)),(.p (.int .i64 yg40.f_At))])] [⟨[48,55,61,111],v121,dT_alarm_Due,x4⟩] H117) {σ : Stamp},Sim (p_zl12_play_l1 k kE0 x0 x4 x5 x10 x11 x14 x15 x152 x153 yg26 yg40) ((cvL G X0 zl12_play_c1 zl12_play_l1 σ (envL [(0,v119),(3,(.ref ⟨h.length,18,0,s126,[]⟩ 0)),(4,v121),(5,(.p (.int .i64 x5))),(6,(.ref ⟨h.length,6,0,s128,[]⟩ 0)),(10,(.p (.int .i64 x10))),(11,(.p (.bool x11))),(14,(.p (.int .i64 x14))),(15,(.p (.bool x15))),(151,v121),(152,(.p (.int .i64 x152))),(153,(.p (.int .i64 x153)))]) H117).bind K) Q:=by
 induction k with
 | zero => intros; exact .no
 | succ k ih =>
  intro x0 x4 x5 x10 x11 x14 x15 x152 x153 yg26 yg40 v119 h120 v121 c123 h124 h125 s126 s128 H117 S118 σ
  rw [p_zl12_play_l1]
  refine .round (Sim.ext (zl12_play_r1 _ _ _ _ _ _ _ _ _ _ _ _ _ _ _ _) ?_)
  refine .cq ?_ ?_
  ·refine .bd fun a131 h132 => ?_
   refine .op ((S118.sl (i:=0) rfl).iS h132 rfl) ?_
   obtain ⟨w134,h135,hE133⟩:=(S118.sl (i:=0) rfl).el h132 rfl
   obtain rfl:=dT_alarm_Due.inv h135
   refine .op (hE133.all (by simp)) ?_
   obtain ⟨H136,e137,S138⟩:=S118.al (d:=17) (s:=(2::0::0::1::1::0::σ)) (z:=[(.p (.int .i64 0)),(.p (.int .u64 0))]) (by decide) rfl
   refine .op (congrArg some e137) ?_
   obtain ⟨H140,e141,S142⟩:=S138.stGv (i:=0) (j:=0) (own:=false) (σ:=(3::0::0::1::1::0::σ)) (xs:=[.p (.int .i64 a131.f_At),.p (.int .u64 a131.Key)]) rfl rfl (sC (sI _ _) (sC (sI _ _) sN)) rfl rfl
   refine .op (sM e141) ?_
   refine .fa ?_
   refine .op ((S142.atG (i:=0) rfl).ld (j:=1) rfl) ?_
   refine .ci ?_
   refine .fa ?_
   refine .op ((S142.atG (i:=2) rfl).ld (j:=1) rfl) ?_
   refine .ci ?_
   refine .cq ?_ ?_
   ·refine .fa ?_
    refine .op ((S142.atG (i:=0) rfl).ld (j:=0) rfl) ?_
    refine .ci ?_
    exact ih x0 x4 x5 x10 x11 a131.f_At true x152 (IntKind.wrap .i64 (x153 + 1)) yg26 yg40 v119 h120 v121 c123 h124 h125 s126 s128 H140 (S142.wk2 (aC (aM 1 rfl) (aC (aM 2 rfl) aN)) (aC ⟨[48,55,61,111],by simp,aM 0 rfl⟩ aN))
   exact ih x0 x4 x5 x10 x11 x14 x15 x152 (IntKind.wrap .i64 (x153 + 1)) yg26 yg40 v119 h120 v121 c123 h124 h125 s126 s128 H140 (S142.wk2 (aC (aM 1 rfl) (aC (aM 2 rfl) aN)) (aC ⟨[48,55,61,111],by simp,aM 0 rfl⟩ aN))
  exact hE0 x0 x4 x5 x10 x11 x14 x15 yg26 v119 h120 v121 c123 h124 h125 s126 H117 (S118.wk2 (aC (aM 0 rfl) aN) (aC ⟨[48,55,61,111],by simp,aM 0 rfl⟩ aN))
theorem zl12_play_l2_ok {h : H}  {kE0 : (List Tz12Ask)→(List T_alarm_Due)→Int→(List T_alarm_Due)→T_alarm_Table→Tz12Ask→Option β} {kE1 : Bool→Option β} (hE0 : ∀ (q0 : (List Tz12Ask)) (q4 : (List T_alarm_Due)) (q5 : Int) (q8 : (List T_alarm_Due)) (yg196 : T_alarm_Table) (yg198 : Tz12Ask) (v263 : V) (h264 : SlH h dTz12Ask q0 v263) (v265 : V) (v267 : V) (h268 : SlF dT_alarm_Due q8 v267) (c269 : C) (h270 : SoC dT_alarm_Due yg196.l c269) (h271 : Nn c269 2) (s272 : Stamp) (s274 : Stamp) (H261 : Go.Ev.H) (_ : Fm 175 h [] [(18,s272,[c269]),(6,s274,List.map C.v [(.p (.int .i64 yg198.Kind)),(.p (.int .u64 yg198.Key)),(.p (.int .i64 yg198.f_At))])] [⟨[48,55,61,111],v265,dT_alarm_Due,q4⟩] H261),Sim (kE0 q0 q4 q5 q8 yg196 yg198) (K ((.exit 3),(envL [(0,v263),(3,(.ref ⟨h.length,18,0,s272,[]⟩ 0)),(4,v265),(5,(.p (.int .i64 q5))),(6,(.ref ⟨h.length,6,0,s274,[]⟩ 0)),(8,v267)]),H261)) Q) (hE1 : ∀ (q2 : Bool) (H276 : Go.Ev.H) (_ : Fm 175 h [] [] [] H276),Sim (kE1 q2) (K (.ret,(envL [(2,(.p (.bool q2)))]),H276)) Q) (k : Nat) : ∀ (x0 : (List Tz12Ask)) (x4 : (List T_alarm_Due)) (x5 : Int) (x8 : (List T_alarm_Due)) (yg26 : T_alarm_Table) (yg40 : Tz12Ask) (v186 : V) (h187 : SlH h dTz12Ask x0 v186) (v188 : V) (v190 : V) (h191 : SlF dT_alarm_Due x8 v190) (c192 : C) (h193 : SoC dT_alarm_Due yg26.l c192) (h194 : Nn c192 2) (s195 : Stamp) (s197 : Stamp) (H184 : Go.Ev.H) (_ : Fm 175 h [] [(18,s195,[c192]),(6,s197,List.map C.v [(.p (.int .i64 yg40.Kind)),(.p (.int .u64 yg40.Key)),(.p (.int .i64 yg40.f_At))])] [⟨[48,55,61,111],v188,dT_alarm_Due,x4⟩] H184) {σ : Stamp},Sim (p_zl12_play_l2 k kE0 kE1 x0 x4 x5 x8 yg26 yg40) ((cvL G X0 zl12_play_c2 zl12_play_l2 σ (envL [(0,v186),(3,(.ref ⟨h.length,18,0,s195,[]⟩ 0)),(4,v188),(5,(.p (.int .i64 x5))),(6,(.ref ⟨h.length,6,0,s197,[]⟩ 0)),(8,v190)]) H184).bind K) Q:=by
 induction k with
 | zero => intros; exact .no
 | succ k ih =>
  intro x0 x4 x5 x8 yg26 yg40 v186 h187 v188 v190 h191 c192 h193 h194 s195 s197 H184 S185 σ
  rw [p_zl12_play_l2]
  refine .round (Sim.ext (zl12_play_r2 _ _ _ _ _ _ _ _ _ _) ?_)
  refine .op ((S185.sl (i:=0) rfl).len) ?_
  refine .ci ?_
  refine .ch (P:=fun r y => (.p (.bool r),H184) = y) ?_ (fun b212 y213 h214 h215 => ?_)
  ·refine .cq ?_ ?_
   ·refine .fa ?_
    refine .op ((S185.atG (i:=1) rfl).ld (j:=2) rfl) ?_
    refine .ci ?_
    refine .call (zl12_first_ok k x4 (S185.sl (i:=0) rfl)) fun r199 cs200 H201 h202 q203 => ?_
    cases q203
    refine .ci ?_
    refine .nd ((S185.atG (i:=1) rfl).ld (j:=2) rfl) ?_
    refine .bd fun a204 h205 => ?_
    refine .op ((S185.sl (i:=0) rfl).iS h205 rfl) ?_
    obtain ⟨w207,h208,hE206⟩:=(S185.sl (i:=0) rfl).el h205 rfl
    obtain rfl:=dT_alarm_Due.inv h208
    refine .op (hE206.fa (j:=0) (by simp)) ?_
    obtain ⟨w210,h211,hE209⟩:=(S185.sl (i:=0) rfl).el h205 rfl
    obtain rfl:=dT_alarm_Due.inv h211
    refine .op (hE209.ld (j:=0) rfl) ?_
    refine .ci ?_
    exact .ret rfl rfl
   ·exact .ret rfl rfl
  subst h215
  refine .ab ?_
  refine .cq ?_ ?_
  ·refine .call (zl12_first_ok k x4 (S185.sl (i:=0) rfl)) fun r217 cs218 H219 h220 q221 => ?_
   cases q221
   refine .ci ?_
   refine .bd fun a222 h223 => ?_
   refine .op ((S185.sl (i:=0) rfl).iS h223 rfl) ?_
   obtain ⟨w225,h226,hE224⟩:=(S185.sl (i:=0) rfl).el h223 rfl
   obtain rfl:=dT_alarm_Due.inv h226
   refine .op (hE224.all (by simp)) ?_
   obtain ⟨H227,e228,S229⟩:=S185.al (d:=9) (s:=(5::0::1::0::σ)) (z:=[(.p (.int .i64 0)),(.p (.int .u64 0))]) (by decide) rfl
   refine .op (congrArg some e228) ?_
   obtain ⟨H231,e232,S233⟩:=S229.stGv (i:=0) (j:=0) (own:=false) (σ:=(6::0::1::0::σ)) (xs:=[.p (.int .i64 a222.f_At),.p (.int .u64 a222.Key)]) rfl rfl (sC (sI _ _) (sC (sI _ _) sN)) rfl rfl
   refine .op (sM e232) ?_
   refine .op ((h191.h H231).len) ?_
   refine .ci ?_
   refine .ch (P:=fun r y => r = y) ?_ (fun b239 y240 h241 h242 => ?_)
   ·refine .cq ?_ ?_
    ·exact .ret rfl rfl
    ·refine .bd fun a234 h235 => ?_
     refine .op ((h191.h H231).iS h235 rfl) ?_
     obtain ⟨w237,h238,hE236⟩:=(h191.h H231).el h235 rfl
     obtain rfl:=dT_alarm_Due.inv h238
     refine .op (hE236.all (by simp)) ?_
     refine .op ((S233.atG (i:=0) rfl).ldVs (j:=0) (xs:=[.p (.int .i64 a222.f_At),.p (.int .u64 a222.Key)]) rfl rfl (by decide)) ?_
     refine .op (nqS_ok (by kernel_rfl : _ = andL [a234.f_At == a222.f_At,a234.Key == a222.Key])) ?_
     refine .ab ?_
     exact .ret rfl rfl
   subst h242
   refine .cq ?_ ?_
   ·exact hE1 false H231 (S233.wk2 aN aN)
   refine .bd fun a244 h245 => ?_
   refine .op ((h191.h H231).slS h245 rfl rfl rfl) ?_
   refine .fa ?_
   refine .op ((S233.atG (i:=0) rfl).ld (j:=1) rfl) ?_
   refine .ci ?_
   refine .call (zl12_drop_ok k x4 (S233.sl (i:=0) rfl) a222.Key) fun r246 cs247 H248 h249 q250 => ?_
   obtain ⟨c251,cs252,h253,h254,q250⟩:=q250
   cases q250
   have S255:=Fm.wk S233 (aC (aM 0 rfl) (aC (aM 1 rfl) (aC (aM 2 rfl) aN))) aN
   obtain ⟨v256,H257,e258,S259⟩:=S255.land (dt:=dT_alarm_Due) (d:=111) (e:=0) (n:=0) h253 h254 (by decide) rfl
   erw [e258]
   refine .nd ((h191.h H257).slS h245 rfl rfl rfl) ?_
   exact ih x0 r246 x5 a244 yg26 yg40 v186 h187 v256 (subV 2 v190 (Int.toNat (1)) (Int.toNat ((x8.length : Int)))) (h191.sub h245 (e:=2) rfl) c192 h193 h194 s195 s197 H257 (S259.wk2 (aC (aM 1 rfl) (aC (aM 2 rfl) aN)) (aC ⟨[111],by simp,aM 0 rfl⟩ aN))
  exact hE0 x0 x4 x5 x8 yg26 yg40 v186 h187 v188 v190 h191 c192 h193 h194 s195 s197 H184 (S185.wk2 (aC (aM 0 rfl) (aC (aM 1 rfl) aN)) (aC ⟨[48,55,61,111],by simp,aM 0 rfl⟩ aN))
theorem zl12_play_l0_ok {h : H}  {kE0 : T_alarm_Table→Option β} {kE1 : Bool→Option β} (hE0 : ∀ (yg26 : T_alarm_Table) (c459 : C) (h460 : SoC dT_alarm_Due yg26.l c459) (h461 : Nn c459 2) (s462 : Stamp) (H457 : Go.Ev.H) (_ : Fm 175 h [] [(18,s462,[c459])] [] H457),Sim (kE0 yg26) (K ((.exit 0),(envL [(3,(.ref ⟨h.length,18,0,s462,[]⟩ 0))]),H457)) Q) (hE1 : ∀ (q2 : Bool) (H464 : Go.Ev.H) (_ : Fm 175 h [] [] [] H464),Sim (kE1 q2) (K (.ret,(envL [(2,(.p (.bool q2)))]),H464)) Q) (k : Nat) : ∀ (x0 : (List Tz12Ask)) (x4 : (List T_alarm_Due)) (x5 : Int) (yg13 : T_alarm_Table) (v18 : V) (h19 : SlH h dTz12Ask x0 v18) (v20 : V) (c22 : C) (h23 : SoC dT_alarm_Due yg13.l c22) (h24 : Nn c22 2) (s25 : Stamp) (H16 : Go.Ev.H) (_ : Fm 175 h [] [(18,s25,[c22])] [⟨[48,55,61,111],v20,dT_alarm_Due,x4⟩] H16) {σ : Stamp},Sim (p_zl12_play_l0 k kE0 kE1 x0 x4 x5 yg13) ((cvL G X0 zl12_play_c0 zl12_play_l0 σ (envL [(0,v18),(3,(.ref ⟨h.length,18,0,s25,[]⟩ 0)),(4,v20),(5,(.p (.int .i64 x5)))]) H16).bind K) Q:=by
 induction k with
 | zero => intros; exact .no
 | succ k ih =>
  intro x0 x4 x5 yg13 v18 h19 v20 c22 h23 h24 s25 H16 S17 σ
  rw [p_zl12_play_l0]
  refine .round (Sim.ext (zl12_play_r0 _ _ _ _ _ _ _ _) ?_)
  refine .op ((S17.low h19).len) ?_
  refine .ci ?_
  refine .ch (P:=fun r y => r = y) ?_ (fun b27 y28 h29 h30 => ?_)
  ·refine .cq ?_ ?_
   ·exact .ret rfl rfl
   ·exact .ret rfl rfl
  subst h30
  refine .cq ?_ ?_
  ·refine .bd fun a32 h33 => ?_
   refine .op ((S17.low h19).iS h33 rfl) ?_
   obtain ⟨w35,h36,hE34⟩:=(S17.low h19).el h33 rfl
   obtain rfl:=dTz12Ask.inv h36
   refine .op (hE34.all (by simp)) ?_
   obtain ⟨H37,e38,S39⟩:=S17.al (d:=6) (s:=(4::0::0::1::0::σ)) (z:=[(.p (.int .i64 0)),(.p (.int .u64 0)),(.p (.int .i64 0))]) (by decide) rfl
   refine .op (congrArg some e38) ?_
   obtain ⟨H41,e42,S43⟩:=S39.stGv (i:=0) (j:=0) (own:=false) (σ:=(5::0::0::1::0::σ)) (xs:=[.p (.int .i64 a32.Kind),.p (.int .u64 a32.Key),.p (.int .i64 a32.f_At)]) rfl rfl (sC (sI _ _) (sC (sI _ _) (sC (sI _ _) sN))) rfl rfl
   refine .op (sM e42) ?_
   refine .op ((by kernel_rfl : _ = some (.p (.bool false)))) ?_
   refine .ab ?_
   refine .cdf rfl ?_
   refine .op ((S43.sl (i:=0) rfl).len) ?_
   refine .ci ?_
   refine .fa ?_
   refine .op ((S43.atG (i:=0) rfl).ld (j:=0) rfl) ?_
   refine .ci ?_
   refine .cq ?_ ?_
   ·refine .fa ?_
    refine .op ((S43.atG (i:=0) rfl).ld (j:=1) rfl) ?_
    refine .ci ?_
    refine .call (zl12_drop_ok k x4 (S43.sl (i:=0) rfl) a32.Key) fun r45 cs46 H47 h48 q49 => ?_
    obtain ⟨c50,cs51,h52,h53,q49⟩:=q49
    cases q49
    have S54:=Fm.wk S43 (aC (aM 0 rfl) (aC (aM 1 rfl) aN)) aN
    obtain ⟨v55,H56,e57,S58⟩:=S54.land (dt:=dT_alarm_Due) (d:=61) (e:=0) (n:=0) h52 h53 (by decide) rfl
    erw [e57]
    refine .fa ?_
    refine .op ((S58.atG (i:=0) rfl).ld (j:=1) rfl) ?_
    refine .ci ?_
    refine .call (alarm_Table_Clear_ok k yg13 h23 h24 (S58.atG (i:=1) rfl) a32.Key) fun r60 cs61 H62 h63 q64 => ?_
    obtain ⟨c65,h66,h67,q64⟩:=q64
    cases q64
    have S68:=S58.setG (i:=1) (cs':=[c65]) rfl rfl rfl
    refine .ab ?_
    refine .op ((S68.sl (i:=0) rfl).len) ?_
    refine .ci ?_
    refine .cq ?_ ?_
    ·exact hE1 false (ptC H56 ⟨h.length,18,0,s25,[]⟩ 0 ([c65])) (S68.wk2 aN aN)
    refine .fa ?_
    refine .op ((S68.atG (i:=0) rfl).ld (j:=1) rfl) ?_
    refine .ci ?_
    refine .call (alarm_Table_At_o_ok k r60.2 h66 h67 (S68.atG (i:=1) rfl) a32.Key) fun r70 cs71 H72 h73 q74 => ?_
    cases q74
    refine .or ?_
    refine .ci ?_
    refine .or ?_
    refine .ab ?_
    refine .call (alarm_Table_Next_o_ok r60.2 h66 h67 (S68.atG (i:=1) rfl)) fun r75 cs76 H77 h78 q79 => ?_
    obtain ⟨w80,h81,q79⟩:=q79
    cases q79
    obtain rfl:=dT_alarm_Due.inv h81
    refine .or ?_
    refine .or ?_
    refine .ab ?_
    obtain ⟨H82,e83,S84⟩:=S68.al (d:=12) (s:=(5::0::1::1::1::1::1::0::1::0::σ)) (z:=[(.p (.int .i64 0)),(.p (.int .u64 0))]) (by decide) rfl
    refine .op (congrArg some e83) ?_
    obtain ⟨H86,e87,S88⟩:=S84.stGv (i:=0) (j:=0) (own:=false) (σ:=(6::0::1::1::1::1::1::0::1::0::σ)) (xs:=[(.p (.int .i64 r75.1.f_At)),(.p (.int .u64 r75.1.Key))]) rfl rfl (sC (sI _ _) (sC (sI _ _) sN)) rfl rfl
    refine .op (sM e87) ?_
    refine .op ((S88.sl (i:=0) rfl).len) ?_
    refine .ci ?_
    refine .call (alarm_Table_Len_o_ok r60.2 h66 h67 (S88.atG (i:=2) rfl)) fun r89 cs90 H91 h92 q93 => ?_
    cases q93
    refine .ci ?_
    refine .ch (P:=fun r y => r = y) ?_ (fun b94 y95 h96 h97 => ?_)
    ·refine .cq ?_ ?_
     ·exact .ret rfl rfl
     ·refine .op ((S88.sl (i:=0) rfl).len) ?_
      refine .ci ?_
      exact .ret rfl rfl
    subst h97
    refine .ch (P:=fun r y => (.p (.bool r),H86) = y) ?_ (fun b112 y113 h114 h115 => ?_)
    ·refine .cq ?_ ?_
     ·exact .ret rfl rfl
     ·refine .ch (P:=fun r y => (.p (.bool r),H86) = y) ?_ (fun b108 y109 h110 h111 => ?_)
      ·refine .cq ?_ ?_
       ·refine .op ((S88.atG (i:=0) rfl).ldVs (j:=0) (xs:=[(.p (.int .i64 r75.1.f_At)),(.p (.int .u64 r75.1.Key))]) rfl rfl (by decide)) ?_
        refine .call (zl12_first_ok k r45 (S88.sl (i:=0) rfl)) fun r98 cs99 H100 h101 q102 => ?_
        cases q102
        refine .ci ?_
        refine .nd ((S88.atG (i:=0) rfl).ldVs (j:=0) (xs:=[(.p (.int .i64 r75.1.f_At)),(.p (.int .u64 r75.1.Key))]) rfl rfl (by decide)) ?_
        refine .bd fun a103 h104 => ?_
        refine .op ((S88.sl (i:=0) rfl).iS h104 rfl) ?_
        obtain ⟨w106,h107,hE105⟩:=(S88.sl (i:=0) rfl).el h104 rfl
        obtain rfl:=dT_alarm_Due.inv h107
        refine .op (hE105.all (by simp)) ?_
        refine .op (nqS_ok (by kernel_rfl : _ = andL [r75.1.f_At == a103.f_At,r75.1.Key == a103.Key])) ?_
        refine .ab ?_
        exact .ret rfl rfl
       ·exact .ret rfl rfl
      subst h111
      refine .ab ?_
      exact .ret rfl rfl
    subst h115
    refine .ab ?_
    refine .cq ?_ ?_
    ·exact hE1 false H86 (S88.wk2 aN aN)
    refine .op ((S88.sl (i:=0) rfl).len) ?_
    refine .ci ?_
    refine .as (zl12_play_l1_ok ?_ k x0 r45 x5 r70.1 r70.2 0 false ((r45.length : Int)) 0 r60.2 a32 v18 h19 v55 c65 h66 h67 s25 (4::0::0::1::0::σ) H86 (S88.wk2 (aC (aM 2 rfl) (aC (aM 1 rfl) aN)) (aC ⟨[61],by simp,aM 0 rfl⟩ aN)))
    ·intro r155_0 r155_4 r155_5 r155_10 r155_11 r155_14 r155_15 yg127 v158 h159 v160 c162 h163 h164 s165 H156 S157
     refine .ext (zl12_play_a1_5 _ _ _ _ _ _ _ _ _ _ _ _) ?_
     refine .ch (P:=fun r y => r = y) ?_ (fun b167 y168 h169 h170 => ?_)
     ·refine .cq ?_ ?_
      ·exact .ret rfl rfl
      ·exact .ret rfl rfl
     subst h170
     refine .cq ?_ ?_
     ·exact hE1 false H156 (S157.wk2 aN aN)
     exact ih r155_0 r155_4 (IntKind.wrap .i64 (r155_5 + 1)) yg127 v158 h159 v160 c162 h163 h164 s165 H156 (S157.wk2 (aC (aM 0 rfl) aN) (aC ⟨[48,55,61,111],by simp,aM 0 rfl⟩ aN))
   refine .cq ?_ ?_
   ·refine .fa ?_
    refine .op ((S43.atG (i:=0) rfl).ld (j:=2) rfl) ?_
    refine .ci ?_
    refine .call (alarm_Table_Due_ok k yg13 h23 h24 (S43.atG (i:=1) rfl) a32.f_At) fun r173 cs174 H175 h176 q177 => ?_
    obtain ⟨v178,c180,h179,h181,h182,q177⟩:=q177
    cases q177
    have S183:=S43.setG (i:=1) (cs':=[c180]) rfl rfl rfl
    refine .as (zl12_play_l2_ok ?_ ?_ k x0 x4 x5 r173.1 r173.2 a32 v18 h19 v20 v178 h179 c180 h181 h182 s25 (4::0::0::1::0::σ) (ptC H41 ⟨h.length,18,0,s25,[]⟩ 0 ([c180])) (S183.wk2 (aC (aM 1 rfl) (aC (aM 0 rfl) aN)) (aC ⟨[48,55,61,111],by simp,aM 0 rfl⟩ aN)))
    ·intro r278_0 r278_4 r278_5 r278_8 yg196 yg198 v281 h282 v283 v285 h286 c287 h288 h289 s290 s292 H279 S280
     refine .ext (zl12_play_a2_3 _ _ _ _ _ _ _ _ _ _) ?_
     refine .op ((h286.h H279).len) ?_
     refine .ci ?_
     refine .cq ?_ ?_
     ·exact hE1 false H279 (S280.wk2 aN aN)
     refine .fa ?_
     refine .op ((S280.atG (i:=1) rfl).ld (j:=1) rfl) ?_
     refine .ci ?_
     refine .call (alarm_Table_At_o_ok k yg196 h288 h289 (S280.atG (i:=0) rfl) yg198.Key) fun r295 cs296 H297 h298 q299 => ?_
     cases q299
     refine .or ?_
     refine .ci ?_
     refine .or ?_
     refine .ab ?_
     refine .call (alarm_Table_Next_o_ok yg196 h288 h289 (S280.atG (i:=0) rfl)) fun r300 cs301 H302 h303 q304 => ?_
     obtain ⟨w305,h306,q304⟩:=q304
     cases q304
     obtain rfl:=dT_alarm_Due.inv h306
     refine .or ?_
     refine .or ?_
     refine .ab ?_
     obtain ⟨H307,e308,S309⟩:=S280.al (d:=12) (s:=(5::0::1::1::1::1::1::0::1::0::σ)) (z:=[(.p (.int .i64 0)),(.p (.int .u64 0))]) (by decide) rfl
     refine .op (congrArg some e308) ?_
     obtain ⟨H311,e312,S313⟩:=S309.stGv (i:=0) (j:=0) (own:=false) (σ:=(6::0::1::1::1::1::1::0::1::0::σ)) (xs:=[(.p (.int .i64 r300.1.f_At)),(.p (.int .u64 r300.1.Key))]) rfl rfl (sC (sI _ _) (sC (sI _ _) sN)) rfl rfl
     refine .op (sM e312) ?_
     refine .op ((S313.sl (i:=0) rfl).len) ?_
     refine .ci ?_
     refine .call (alarm_Table_Len_o_ok yg196 h288 h289 (S313.atG (i:=1) rfl)) fun r314 cs315 H316 h317 q318 => ?_
     cases q318
     refine .ci ?_
     refine .ch (P:=fun r y => r = y) ?_ (fun b319 y320 h321 h322 => ?_)
     ·refine .cq ?_ ?_
      ·exact .ret rfl rfl
      ·refine .op ((S313.sl (i:=0) rfl).len) ?_
       refine .ci ?_
       exact .ret rfl rfl
     subst h322
     refine .ch (P:=fun r y => (.p (.bool r),H311) = y) ?_ (fun b337 y338 h339 h340 => ?_)
     ·refine .cq ?_ ?_
      ·exact .ret rfl rfl
      ·refine .ch (P:=fun r y => (.p (.bool r),H311) = y) ?_ (fun b333 y334 h335 h336 => ?_)
       ·refine .cq ?_ ?_
        ·refine .op ((S313.atG (i:=0) rfl).ldVs (j:=0) (xs:=[(.p (.int .i64 r300.1.f_At)),(.p (.int .u64 r300.1.Key))]) rfl rfl (by decide)) ?_
         refine .call (zl12_first_ok k r278_4 (S313.sl (i:=0) rfl)) fun r323 cs324 H325 h326 q327 => ?_
         cases q327
         refine .ci ?_
         refine .nd ((S313.atG (i:=0) rfl).ldVs (j:=0) (xs:=[(.p (.int .i64 r300.1.f_At)),(.p (.int .u64 r300.1.Key))]) rfl rfl (by decide)) ?_
         refine .bd fun a328 h329 => ?_
         refine .op ((S313.sl (i:=0) rfl).iS h329 rfl) ?_
         obtain ⟨w331,h332,hE330⟩:=(S313.sl (i:=0) rfl).el h329 rfl
         obtain rfl:=dT_alarm_Due.inv h332
         refine .op (hE330.all (by simp)) ?_
         refine .op (nqS_ok (by kernel_rfl : _ = andL [r300.1.f_At == a328.f_At,r300.1.Key == a328.Key])) ?_
         refine .ab ?_
         exact .ret rfl rfl
        ·exact .ret rfl rfl
       subst h336
       refine .ab ?_
       exact .ret rfl rfl
     subst h340
     refine .ab ?_
     refine .cq ?_ ?_
     ·exact hE1 false H311 (S313.wk2 aN aN)
     refine .op ((S313.sl (i:=0) rfl).len) ?_
     refine .ci ?_
     refine .as (zl12_play_l1_ok ?_ k r278_0 r278_4 r278_5 r295.1 r295.2 0 false ((r278_4.length : Int)) 0 yg196 yg198 v281 h282 v283 c287 h288 h289 s290 s292 H311 (S313.wk2 (aC (aM 1 rfl) (aC (aM 2 rfl) aN)) (aC ⟨[48,55,61,111],by simp,aM 0 rfl⟩ aN)))
     ·intro r342_0 r342_4 r342_5 r342_10 r342_11 r342_14 r342_15 yg127 v345 h346 v347 c349 h350 h351 s352 H343 S344
      refine .ext (zl12_play_a1_5 _ _ _ _ _ _ _ _ _ _ _ _) ?_
      refine .ch (P:=fun r y => r = y) ?_ (fun b354 y355 h356 h357 => ?_)
      ·refine .cq ?_ ?_
       ·exact .ret rfl rfl
       ·exact .ret rfl rfl
      subst h357
      refine .cq ?_ ?_
      ·exact hE1 false H343 (S344.wk2 aN aN)
      exact ih r342_0 r342_4 (IntKind.wrap .i64 (r342_5 + 1)) yg127 v345 h346 v347 c349 h350 h351 s352 H343 (S344.wk2 (aC (aM 0 rfl) aN) (aC ⟨[48,55,61,111],by simp,aM 0 rfl⟩ aN))
    ·intro r359_2 H360 S361
     refine .ext (zl12_play_a2_ret _ _ _ _ _) ?_
     exact hE1 r359_2 H360 (S361.wk2 aN aN)
   refine .fa ?_
   refine .op ((S43.atG (i:=0) rfl).ld (j:=1) rfl) ?_
   refine .ci ?_
   refine .fa ?_
   refine .op ((S43.atG (i:=0) rfl).ld (j:=2) rfl) ?_
   refine .ci ?_
   refine .call (alarm_Table_Set_ok k yg13 h23 h24 (S43.atG (i:=1) rfl) a32.Key a32.f_At) fun r362 cs363 H364 h365 q366 => ?_
   obtain ⟨c367,h368,h369,q366⟩:=q366
   cases q366
   have S370:=S43.setG (i:=1) (cs':=[c367]) rfl rfl rfl
   refine .fa ?_
   refine .op ((S370.atG (i:=0) rfl).ld (j:=1) rfl) ?_
   refine .ci ?_
   refine .fa ?_
   refine .op ((S370.atG (i:=0) rfl).ld (j:=2) rfl) ?_
   refine .ci ?_
   refine .fa ?_
   refine .op ((S370.atG (i:=0) rfl).ld (j:=1) rfl) ?_
   refine .ci ?_
   refine .op (bldV (pC rfl (pC rfl pN)) (by kernel_rfl : _ = some (.agg [.p (.int .i64 a32.f_At),.p (.int .u64 a32.Key)]))) ?_
   have h371 : SlF dT_alarm_Due [((⟨a32.f_At,a32.Key⟩ : T_alarm_Due))] (.fz [(.p (.int .i64 a32.f_At)),(.p (.int .u64 a32.Key))] 1 2 true):=SlF.lit (cs:=[(.p (.int .i64 a32.f_At)),(.p (.int .u64 a32.Key))]) (RL.cons (show dT_alarm_Due.R ((⟨a32.f_At,a32.Key⟩ : T_alarm_Due)) [.p (.int .i64 a32.f_At),.p (.int .u64 a32.Key)] from (dT_alarm_Due.mk)) RL.nil) rfl rfl true
   refine .op (bldS (pC (c:=[.p (.int .i64 a32.f_At),.p (.int .u64 a32.Key)]) rfl pN) (by kernel_rfl : _ = some (vOf h371))) ?_
   refine .call (zl12_drop_ok k x4 (S370.sl (i:=0) rfl) a32.Key) fun r372 cs373 H374 h375 q376 => ?_
   obtain ⟨c377,cs378,h379,h380,q376⟩:=q376
   cases q376
   have S381:=Fm.wk S370 (aC (aM 0 rfl) (aC (aM 1 rfl) aN)) aN
   obtain ⟨v382,H383,e384,S385⟩:=S381.land (dt:=dT_alarm_Due) (d:=48) (e:=0) (n:=0) h379 h380 (by decide) rfl
   erw [e384]
   refine .nd ((S385.atG (i:=0) rfl).ld (j:=1) rfl) ?_
   refine .nd ((S385.atG (i:=0) rfl).ld (j:=2) rfl) ?_
   refine .bd fun a387 h388 => ?_
   obtain ⟨v389,H390,e391,S392⟩:=S385.app (i:=0) (d:=55) (e:=2) (own:=false) (σ:=(10::1::1::1::1::0::1::1::1::0::1::0::σ)) rfl (h371.h H383).y h388 rfl (by decide) (by decide) rfl
   refine .op (e391) ?_
   refine .fa ?_
   refine .op ((S392.atG (i:=0) rfl).ld (j:=1) rfl) ?_
   refine .ci ?_
   refine .call (alarm_Table_At_o_ok k r362 h368 h369 (S392.atG (i:=1) rfl) a32.Key) fun r393 cs394 H395 h396 q397 => ?_
   cases q397
   refine .or ?_
   refine .ci ?_
   refine .or ?_
   refine .ab ?_
   refine .call (alarm_Table_Next_o_ok r362 h368 h369 (S392.atG (i:=1) rfl)) fun r398 cs399 H400 h401 q402 => ?_
   obtain ⟨w403,h404,q402⟩:=q402
   cases q402
   obtain rfl:=dT_alarm_Due.inv h404
   refine .or ?_
   refine .or ?_
   refine .ab ?_
   obtain ⟨H405,e406,S407⟩:=S392.al (d:=12) (s:=(5::0::1::1::1::1::1::0::1::0::σ)) (z:=[(.p (.int .i64 0)),(.p (.int .u64 0))]) (by decide) rfl
   refine .op (congrArg some e406) ?_
   obtain ⟨H409,e410,S411⟩:=S407.stGv (i:=0) (j:=0) (own:=false) (σ:=(6::0::1::1::1::1::1::0::1::0::σ)) (xs:=[(.p (.int .i64 r398.1.f_At)),(.p (.int .u64 r398.1.Key))]) rfl rfl (sC (sI _ _) (sC (sI _ _) sN)) rfl rfl
   refine .op (sM e410) ?_
   refine .op ((S411.sl (i:=0) rfl).len) ?_
   refine .ci ?_
   refine .call (alarm_Table_Len_o_ok r362 h368 h369 (S411.atG (i:=2) rfl)) fun r412 cs413 H414 h415 q416 => ?_
   cases q416
   refine .ci ?_
   refine .ch (P:=fun r y => r = y) ?_ (fun b417 y418 h419 h420 => ?_)
   ·refine .cq ?_ ?_
    ·exact .ret rfl rfl
    ·refine .op ((S411.sl (i:=0) rfl).len) ?_
     refine .ci ?_
     exact .ret rfl rfl
   subst h420
   refine .ch (P:=fun r y => (.p (.bool r),H409) = y) ?_ (fun b435 y436 h437 h438 => ?_)
   ·refine .cq ?_ ?_
    ·exact .ret rfl rfl
    ·refine .ch (P:=fun r y => (.p (.bool r),H409) = y) ?_ (fun b431 y432 h433 h434 => ?_)
     ·refine .cq ?_ ?_
      ·refine .op ((S411.atG (i:=0) rfl).ldVs (j:=0) (xs:=[(.p (.int .i64 r398.1.f_At)),(.p (.int .u64 r398.1.Key))]) rfl rfl (by decide)) ?_
       refine .call (zl12_first_ok k a387 (S411.sl (i:=0) rfl)) fun r421 cs422 H423 h424 q425 => ?_
       cases q425
       refine .ci ?_
       refine .nd ((S411.atG (i:=0) rfl).ldVs (j:=0) (xs:=[(.p (.int .i64 r398.1.f_At)),(.p (.int .u64 r398.1.Key))]) rfl rfl (by decide)) ?_
       refine .bd fun a426 h427 => ?_
       refine .op ((S411.sl (i:=0) rfl).iS h427 rfl) ?_
       obtain ⟨w429,h430,hE428⟩:=(S411.sl (i:=0) rfl).el h427 rfl
       obtain rfl:=dT_alarm_Due.inv h430
       refine .op (hE428.all (by simp)) ?_
       refine .op (nqS_ok (by kernel_rfl : _ = andL [r398.1.f_At == a426.f_At,r398.1.Key == a426.Key])) ?_
       refine .ab ?_
       exact .ret rfl rfl
      ·exact .ret rfl rfl
     subst h434
     refine .ab ?_
     exact .ret rfl rfl
   subst h438
   refine .ab ?_
   refine .cq ?_ ?_
   ·exact hE1 false H409 (S411.wk2 aN aN)
   refine .op ((S411.sl (i:=0) rfl).len) ?_
   refine .ci ?_
   refine .as (zl12_play_l1_ok ?_ k x0 a387 x5 r393.1 r393.2 0 false ((a387.length : Int)) 0 r362 a32 v18 h19 v389 c367 h368 h369 s25 (4::0::0::1::0::σ) H409 (S411.wk2 (aC (aM 2 rfl) (aC (aM 1 rfl) aN)) (aC ⟨[55,48],by simp,aM 0 rfl⟩ aN)))
   ·intro r440_0 r440_4 r440_5 r440_10 r440_11 r440_14 r440_15 yg127 v443 h444 v445 c447 h448 h449 s450 H441 S442
    refine .ext (zl12_play_a1_5 _ _ _ _ _ _ _ _ _ _ _ _) ?_
    refine .ch (P:=fun r y => r = y) ?_ (fun b452 y453 h454 h455 => ?_)
    ·refine .cq ?_ ?_
     ·exact .ret rfl rfl
     ·exact .ret rfl rfl
    subst h455
    refine .cq ?_ ?_
    ·exact hE1 false H441 (S442.wk2 aN aN)
    exact ih r440_0 r440_4 (IntKind.wrap .i64 (r440_5 + 1)) yg127 v443 h444 v445 c447 h448 h449 s450 H441 (S442.wk2 (aC (aM 0 rfl) aN) (aC ⟨[48,55,61,111],by simp,aM 0 rfl⟩ aN))
  exact hE0 yg13 c22 h23 h24 s25 H16 (S17.wk2 (aC (aM 0 rfl) aN) aN)
theorem zl12_play_ok (k : Nat) {h : H} {σ : Stamp} (x0 : List Tz12Ask) {u0 : V} (hu0 : SlH h dTz12Ask x0 u0) : Sim (p_zl12_play k x0) (ev G X0 18 σ [u0] h) (fun r s => s = ([.v (.p (.bool r))],h)):=by
 refine .ev rfl (Sim.ext (zl12_play_entry _ _ _ _ _) ?_)
 rw [p_zl12_play]
 have S0 : Fm 175 h [] [] [] (List.replicate 175 []::h):=Fm.start0
 refine .call (alarm_New_ok ) fun r1 cs2 H3 h4 q5 => ?_
 obtain ⟨s6,c7,h8,h9,q5⟩:=q5
 cases q5
 obtain ⟨H10,e11,S12⟩:=S0.landG (d:=18) (s:=s6) (cs:=[c7]) (by decide) rfl
 erw [e11]
 have S467:=S12.nil dT_alarm_Due []
 refine .as (zl12_play_l0_ok ?_ ?_ k x0 (([] : List T_alarm_Due)) 0 r1 u0 hu0 (.p (.slice none 0 0)) c7 h8 h9 s6 H10 (S467.wk2 (aC (aM 0 rfl) aN) (aC ⟨[],by simp,aM 0 rfl⟩ aN)))
 ·intro yg26 c471 h472 h473 s474 H469 S470
  refine .ext (zl12_play_a0_0 _ _ _ _ _) ?_
  refine .op ((by kernel_rfl : _ = some (.p (.bool true)))) ?_
  refine .ab ?_
  exact .fin (S470.finN (lC (sB _).lv lN)) rfl
 ·intro r476_2 H477 S478
  refine .ext (zl12_play_a0_ret _ _ _ _ _) ?_
  exact .fin (S478.finN (lC (sB _).lv lN)) rfl
def p_zl12_AlarmNumbers_l1 {β : Type} (k : Nat) (kE0 : Int→(List Tz12Ask)→Option β) (x1 : Int) (x2 : (List Tz12Ask)) (x3 : Int) : Option β:=match k with
| 0 => none
| k + 1 =>
bif decide (x3 < 90) then (
(ap 24 x2 ([((⟨(Int.tmod (IntKind.wrap .i64 ((IntKind.wrap .i64 (x3 * x3)) + x1)) 5),(IntKind.wrap .u64 (Int.tmod (IntKind.wrap .i64 (x3 * (IntKind.wrap .i64 (x1 + 1)))) 13)),(IntKind.wrap .i64 ((Int.tmod (IntKind.wrap .i64 (x3 * x1)) 31) - 4))⟩ : Tz12Ask))])).bind fun a12 =>
p_zl12_AlarmNumbers_l1 k kE0 x1 a12 (IntKind.wrap .i64 (x3 + 1)))
else (
kE0 x1 x2)
def p_zl12_AlarmNumbers_l0 {β : Type} (k : Nat) (kE0 : Unit→Option β) (kE1 : Bool→Option β) (x1 : Int) : Option β:=match k with
| 0 => none
| k + 1 =>
bif decide (x1 < 40) then (
p_zl12_AlarmNumbers_l1 k (fun r24_1 r24_2 =>
(p_zl12_play k r24_2).bind fun r29 =>
bif !r29 then (
kE1 false)
else (
p_zl12_AlarmNumbers_l0 k kE0 kE1 (IntKind.wrap .i64 (r24_1 + 1)))) x1 (([] : List Tz12Ask)) 0)
else (
kE0 ())
def p_zl12_AlarmNumbers (k : Nat)  : Option (Bool) :=
p_zl12_AlarmNumbers_l0 k (fun (_ : Unit) =>
(p_zl12_play k ([((⟨0,0,(-9223372036854775808)⟩ : Tz12Ask)),((⟨0,18446744073709551615,9223372036854775807⟩ : Tz12Ask)),((⟨4,0,9223372036854775807⟩ : Tz12Ask))])).bind fun r43 =>
(bif r43 then ((p_zl12_known k).bind fun r48 =>
some r48) else (some false)).bind fun b53 =>
some (b53)) (fun r57_0 =>
some (r57_0)) 0
theorem zl12_AlarmNumbers_l1_ok {h : H}  {kE0 : Int→(List Tz12Ask)→Option β} (hE0 : ∀ (q1 : Int) (q2 : (List Tz12Ask)) (v20 : V) (H18 : Go.Ev.H) (_ : Fm 44 h [] [] [⟨[32],v20,dTz12Ask,q2⟩] H18),Sim (kE0 q1 q2) (K ((.exit 2),(envL [(1,(.p (.int .i64 q1))),(2,v20)]),H18)) Q) (k : Nat) : ∀ (x1 : Int) (x2 : (List Tz12Ask)) (x3 : Int) (v8 : V) (H6 : Go.Ev.H) (_ : Fm 44 h [] [] [⟨[32],v8,dTz12Ask,x2⟩] H6) {σ : Stamp},Sim (p_zl12_AlarmNumbers_l1 k kE0 x1 x2 x3) ((cvL G X0 zl12_AlarmNumbers_c1 zl12_AlarmNumbers_l1 σ (envL [(1,(.p (.int .i64 x1))),(2,v8),(3,(.p (.int .i64 x3)))]) H6).bind K) Q:=by
 induction k with
 | zero => intros; exact .no
 | succ k ih =>
  intro x1 x2 x3 v8 H6 S7 σ
  rw [p_zl12_AlarmNumbers_l1]
  refine .round (Sim.ext (zl12_AlarmNumbers_r1 _ _ _ _ _ _ _) ?_)
  refine .cq ?_ ?_
  ·refine .op (bldV (pC rfl (pC rfl (pC rfl pN))) (by kernel_rfl : _ = some (.agg [.p (.int .i64 (Int.tmod (IntKind.wrap .i64 ((IntKind.wrap .i64 (x3 * x3)) + x1)) 5)),.p (.int .u64 (IntKind.wrap .u64 (Int.tmod (IntKind.wrap .i64 (x3 * (IntKind.wrap .i64 (x1 + 1)))) 13))),.p (.int .i64 (IntKind.wrap .i64 ((Int.tmod (IntKind.wrap .i64 (x3 * x1)) 31) - 4)))]))) ?_
   have h11 : SlF dTz12Ask [((⟨(Int.tmod (IntKind.wrap .i64 ((IntKind.wrap .i64 (x3 * x3)) + x1)) 5),(IntKind.wrap .u64 (Int.tmod (IntKind.wrap .i64 (x3 * (IntKind.wrap .i64 (x1 + 1)))) 13)),(IntKind.wrap .i64 ((Int.tmod (IntKind.wrap .i64 (x3 * x1)) 31) - 4))⟩ : Tz12Ask))] (.fz [(.p (.int .i64 (Int.tmod (IntKind.wrap .i64 ((IntKind.wrap .i64 (x3 * x3)) + x1)) 5))),(.p (.int .u64 (IntKind.wrap .u64 (Int.tmod (IntKind.wrap .i64 (x3 * (IntKind.wrap .i64 (x1 + 1)))) 13)))),(.p (.int .i64 (IntKind.wrap .i64 ((Int.tmod (IntKind.wrap .i64 (x3 * x1)) 31) - 4))))] 1 3 true):=SlF.lit (cs:=[(.p (.int .i64 (Int.tmod (IntKind.wrap .i64 ((IntKind.wrap .i64 (x3 * x3)) + x1)) 5))),(.p (.int .u64 (IntKind.wrap .u64 (Int.tmod (IntKind.wrap .i64 (x3 * (IntKind.wrap .i64 (x1 + 1)))) 13)))),(.p (.int .i64 (IntKind.wrap .i64 ((Int.tmod (IntKind.wrap .i64 (x3 * x1)) 31) - 4))))]) (RL.cons (show dTz12Ask.R ((⟨(Int.tmod (IntKind.wrap .i64 ((IntKind.wrap .i64 (x3 * x3)) + x1)) 5),(IntKind.wrap .u64 (Int.tmod (IntKind.wrap .i64 (x3 * (IntKind.wrap .i64 (x1 + 1)))) 13)),(IntKind.wrap .i64 ((Int.tmod (IntKind.wrap .i64 (x3 * x1)) 31) - 4))⟩ : Tz12Ask)) [.p (.int .i64 (Int.tmod (IntKind.wrap .i64 ((IntKind.wrap .i64 (x3 * x3)) + x1)) 5)),.p (.int .u64 (IntKind.wrap .u64 (Int.tmod (IntKind.wrap .i64 (x3 * (IntKind.wrap .i64 (x1 + 1)))) 13))),.p (.int .i64 (IntKind.wrap .i64 ((Int.tmod (IntKind.wrap .i64 (x3 * x1)) 31) - 4)))] from (dTz12Ask.mk)) RL.nil) rfl rfl true
   refine .op (bldS (pC (c:=[.p (.int .i64 (Int.tmod (IntKind.wrap .i64 ((IntKind.wrap .i64 (x3 * x3)) + x1)) 5)),.p (.int .u64 (IntKind.wrap .u64 (Int.tmod (IntKind.wrap .i64 (x3 * (IntKind.wrap .i64 (x1 + 1)))) 13))),.p (.int .i64 (IntKind.wrap .i64 ((Int.tmod (IntKind.wrap .i64 (x3 * x1)) 31) - 4)))]) rfl pN) (by kernel_rfl : _ = some (vOf h11))) ?_
   refine .bd fun a12 h13 => ?_
   obtain ⟨v14,H15,e16,S17⟩:=S7.app (i:=0) (d:=32) (e:=3) (own:=false) (σ:=(20::0::1::0::σ)) rfl (h11.h H6).y h13 rfl (by decide) (by decide) rfl
   refine .op (e16) ?_
   exact ih x1 a12 (IntKind.wrap .i64 (x3 + 1)) v14 H15 (S17.wk2 aN (aC ⟨[32,32],by simp,aM 0 rfl⟩ aN))
  exact hE0 x1 x2 v8 H6 (S7.wk2 aN (aC ⟨[32],by simp,aM 0 rfl⟩ aN))
theorem zl12_AlarmNumbers_l0_ok {h : H}  {kE0 : Unit→Option β} {kE1 : Bool→Option β} (hE0 : ∀ (_u : Unit) (H35 : Go.Ev.H) (_ : Fm 44 h [] [] [] H35),Sim (kE0 ()) (K ((.exit 0),(envL []),H35)) Q) (hE1 : ∀ (q0 : Bool) (H37 : Go.Ev.H) (_ : Fm 44 h [] [] [] H37),Sim (kE1 q0) (K (.ret,(envL [(0,(.p (.bool q0)))]),H37)) Q) (k : Nat) : ∀ (x1 : Int) (H1 : Go.Ev.H) (_ : Fm 44 h [] [] [] H1) {σ : Stamp},Sim (p_zl12_AlarmNumbers_l0 k kE0 kE1 x1) ((cvL G X0 zl12_AlarmNumbers_c0 zl12_AlarmNumbers_l0 σ (envL [(1,(.p (.int .i64 x1)))]) H1).bind K) Q:=by
 induction k with
 | zero => intros; exact .no
 | succ k ih =>
  intro x1 H1 S2 σ
  rw [p_zl12_AlarmNumbers_l0]
  refine .round (Sim.ext (zl12_AlarmNumbers_r0 _ _ _ _ _) ?_)
  refine .cq ?_ ?_
  ·have S23:=S2.nil dTz12Ask []
   refine .as (zl12_AlarmNumbers_l1_ok ?_ k x1 (([] : List Tz12Ask)) 0 (.p (.slice none 0 0)) H1 (S23.wk2 aN (aC ⟨[],by simp,aM 0 rfl⟩ aN)))
   ·intro r24_1 r24_2 v27 H25 S26
    refine .ext (zl12_AlarmNumbers_a1_2 _ _ _ _ _ _) ?_
    refine .call (zl12_play_ok k r24_2 (S26.sl (i:=0) rfl)) fun r29 cs30 H31 h32 q33 => ?_
    cases q33
    refine .ab ?_
    refine .cq ?_ ?_
    ·exact hE1 false H25 (S26.wk2 aN aN)
    exact ih (IntKind.wrap .i64 (r24_1 + 1)) H25 (S26.wk2 aN aN)
  exact hE0 () H1 (S2.wk2 aN aN)
theorem zl12_AlarmNumbers_ok (k : Nat) {h : H} {σ : Stamp}  : Sim (p_zl12_AlarmNumbers k ) (ev G X0 4 σ [] h) (fun r s => s = ([.v (.p (.bool r))],h)):=by
 refine .ev rfl (Sim.ext (zl12_AlarmNumbers_entry _ _ _ _) ?_)
 rw [p_zl12_AlarmNumbers]
 have S0 : Fm 44 h [] [] [] (List.replicate 44 []::h):=Fm.start0
 refine .as (zl12_AlarmNumbers_l0_ok ?_ ?_ k 0 (List.replicate 44 []::h) (S0.wk2 aN aN))
 ·intro _u H40 S41
  refine .ext (zl12_AlarmNumbers_a0_0 _ _ _ _) ?_
  refine .op (bldV (pC rfl pN) (by kernel_rfl : _ = some (.agg [.p (.int .i64 0),.p (.int .u64 0),.p (.int .i64 (-9223372036854775808))]))) ?_
  refine .op (bldV (pC rfl (pC rfl pN)) (by kernel_rfl : _ = some (.agg [.p (.int .i64 0),.p (.int .u64 18446744073709551615),.p (.int .i64 9223372036854775807)]))) ?_
  refine .op (bldV (pC rfl (pC rfl pN)) (by kernel_rfl : _ = some (.agg [.p (.int .i64 4),.p (.int .u64 0),.p (.int .i64 9223372036854775807)]))) ?_
  have h42 : SlF dTz12Ask [((⟨0,0,(-9223372036854775808)⟩ : Tz12Ask)),((⟨0,18446744073709551615,9223372036854775807⟩ : Tz12Ask)),((⟨4,0,9223372036854775807⟩ : Tz12Ask))] (.fz [(.p (.int .i64 0)),(.p (.int .u64 0)),(.p (.int .i64 (-9223372036854775808))),(.p (.int .i64 0)),(.p (.int .u64 18446744073709551615)),(.p (.int .i64 9223372036854775807)),(.p (.int .i64 4)),(.p (.int .u64 0)),(.p (.int .i64 9223372036854775807))] 3 3 true):=SlF.lit (cs:=[(.p (.int .i64 0)),(.p (.int .u64 0)),(.p (.int .i64 (-9223372036854775808))),(.p (.int .i64 0)),(.p (.int .u64 18446744073709551615)),(.p (.int .i64 9223372036854775807)),(.p (.int .i64 4)),(.p (.int .u64 0)),(.p (.int .i64 9223372036854775807))]) (RL.cons (show dTz12Ask.R ((⟨0,0,(-9223372036854775808)⟩ : Tz12Ask)) [.p (.int .i64 0),.p (.int .u64 0),.p (.int .i64 (-9223372036854775808))] from (dTz12Ask.mk)) (RL.cons (show dTz12Ask.R ((⟨0,18446744073709551615,9223372036854775807⟩ : Tz12Ask)) [.p (.int .i64 0),.p (.int .u64 18446744073709551615),.p (.int .i64 9223372036854775807)] from (dTz12Ask.mk)) (RL.cons (show dTz12Ask.R ((⟨4,0,9223372036854775807⟩ : Tz12Ask)) [.p (.int .i64 4),.p (.int .u64 0),.p (.int .i64 9223372036854775807)] from (dTz12Ask.mk)) RL.nil))) rfl rfl true
  refine .op (bldS (pC (c:=[.p (.int .i64 0),.p (.int .u64 0),.p (.int .i64 (-9223372036854775808))]) rfl (pC (c:=[.p (.int .i64 0),.p (.int .u64 18446744073709551615),.p (.int .i64 9223372036854775807)]) rfl (pC (c:=[.p (.int .i64 4),.p (.int .u64 0),.p (.int .i64 9223372036854775807)]) rfl pN))) (by kernel_rfl : _ = some (vOf h42))) ?_
  refine .call (zl12_play_ok k ([((⟨0,0,(-9223372036854775808)⟩ : Tz12Ask)),((⟨0,18446744073709551615,9223372036854775807⟩ : Tz12Ask)),((⟨4,0,9223372036854775807⟩ : Tz12Ask))]) (h42.h H40)) fun r43 cs44 H45 h46 q47 => ?_
  cases q47
  refine .ab ?_
  refine .ch (P:=fun r y => (.p (.bool r),H40) = y) ?_ (fun b53 y54 h55 h56 => ?_)
  ·refine .cq ?_ ?_
   ·refine .call (zl12_known_ok k ) fun r48 cs49 H50 h51 q52 => ?_
    cases q52
    refine .ab ?_
    exact .ret rfl rfl
   ·exact .ret rfl rfl
  subst h56
  refine .ab ?_
  exact .fin (S41.finN (lC (sB _).lv lN)) rfl
 ·intro r57_0 H58 S59
  refine .ext (zl12_AlarmNumbers_a0_ret _ _ _ _ _) ?_
  exact .fin (S59.finN (lC (sB _).lv lN)) rfl
end
end Go.Ev
namespace Go.Ev
theorem ap_eq {α : Type} {b : Nat} {xs ys : List α} (hb : b ≤ 64) (h : xs.length + ys.length < 2 ^ 40) : ap b xs ys = some (xs ++ ys):=by
 unfold ap
 refine if_pos ⟨?_,by omega⟩
 have : (xs.length + ys.length) * b ≤ (xs.length + ys.length) * 64:=Nat.mul_le_mul_left _ hb
 omega
theorem wrap_i64 {n : Int} (h1 : -9223372036854775808 ≤ n) (h2 : n < 9223372036854775808) : IntKind.wrap .i64 n = n:=wrap64 h1 h2
end Go.Ev
namespace Go.Ev
set_option maxRecDepth 100000
def askE (k x : Int) : Tz12Ask:=⟨(Int.tmod (IntKind.wrap .i64 ((IntKind.wrap .i64 (x * x)) + k)) 5),(IntKind.wrap .u64 (Int.tmod (IntKind.wrap .i64 (x * (IntKind.wrap .i64 (k + 1)))) 13)),(IntKind.wrap .i64 ((Int.tmod (IntKind.wrap .i64 (x * k)) 31) - 4))⟩
def askL (k : Int) : Nat→Int→List Tz12Ask
 | 0,_ => []
 | n + 1,i => askE k i::askL k n (i + 1)
theorem ask_l1 {β : Type} (kE0 : Int→List Tz12Ask→Option β) (k : Int) : ∀ (m j : Nat) (pre : List Tz12Ask),pre.length + m = 90→p_zl12_AlarmNumbers_l1 (j + m + 1) kE0 k pre (pre.length : Int) = kE0 k (pre ++ askL k m (pre.length : Int))
 | 0,j,pre,h => by
  rw [p_zl12_AlarmNumbers_l1]
  have : decide ((pre.length : Int) < 90) = false:=decide_eq_false (by omega)
  rw [this,cond_false,askL,List.append_nil]
 | m + 1,j,pre,h => by
  rw [show j + (m + 1) + 1 = (j + m + 1) + 1 from rfl,p_zl12_AlarmNumbers_l1]
  have : decide ((pre.length : Int) < 90) = true:=decide_eq_true (by omega)
  have e1 : IntKind.wrap .i64 ((pre.length : Int) + 1) = (((pre ++ [askE k pre.length]).length : Nat) : Int):=by rw [wrap_i64 (by omega) (by omega)]; simp
  rw [this,cond_true,ap_eq (by decide) (by simp only [List.length_cons,List.length_nil]; omega),Option.bind_some,e1]
  refine (ask_l1 kE0 k m j (pre ++ [askE k pre.length]) (by rw [List.length_append]; simp only [List.length_cons,List.length_nil]; omega)).trans ?_
  rw [askL,List.append_assoc]
  congr 2
  simp
def forceA {β : Type} : List Tz12Ask→(List Tz12Ask→β)→β
 | [],f => f []
 | a::l,f => match a.Kind,a.Key,a.f_At with
  | .ofNat x,.ofNat y,.ofNat z => forceA l fun l => f (⟨.ofNat x,.ofNat y,.ofNat z⟩::l)
  | .ofNat x,.ofNat y,.negSucc z => forceA l fun l => f (⟨.ofNat x,.ofNat y,.negSucc z⟩::l)
  | x,y,z => forceA l fun l => f (⟨x,y,z⟩::l)
theorem forceA_eq {β : Type} : ∀ (l : List Tz12Ask) (f : List Tz12Ask→β),forceA l f = f l
 | [],_ => rfl
 | ⟨a,b,c⟩::l,f => by
  unfold forceA
  split <;> rename_i h1 h2 h3 <;> simp only at h1 h2 h3 <;> rw [forceA_eq l] <;> simp_all
theorem ask_step {β : Type} (n : Nat) (kE0 : Unit→Option β) (kE1 : Bool→Option β) (x1 : Int) (h : decide (x1 < 40) = true) (hp : p_zl12_play (n + 91) (askL x1 90 0) = some true) : p_zl12_AlarmNumbers_l0 (n + 91 + 1) kE0 kE1 x1 = p_zl12_AlarmNumbers_l0 (n + 91) kE0 kE1 (IntKind.wrap .i64 (x1 + 1)):=by
 rw [p_zl12_AlarmNumbers_l0,h,cond_true]
 refine (ask_l1 _ x1 90 n [] rfl).trans ?_
 show ((p_zl12_play (n + 91) ([] ++ askL x1 90 0)).bind _) = _
 rw [List.nil_append,hp]
 rfl
end Go.Ev
namespace Go.Ev
set_option maxRecDepth 100000
theorem alnum0 : p_zl12_play 199 (askL 0 90 0) = some true:=(forceA_eq _ (p_zl12_play 199)).symm.trans (by kernel_rfl)
theorem alnum1 : p_zl12_play 198 (askL 1 90 0) = some true:=(forceA_eq _ (p_zl12_play 198)).symm.trans (by kernel_rfl)
theorem alnum2 : p_zl12_play 197 (askL 2 90 0) = some true:=(forceA_eq _ (p_zl12_play 197)).symm.trans (by kernel_rfl)
theorem alnum3 : p_zl12_play 196 (askL 3 90 0) = some true:=(forceA_eq _ (p_zl12_play 196)).symm.trans (by kernel_rfl)
theorem alnum4 : p_zl12_play 195 (askL 4 90 0) = some true:=(forceA_eq _ (p_zl12_play 195)).symm.trans (by kernel_rfl)
theorem alnum5 : p_zl12_play 194 (askL 5 90 0) = some true:=(forceA_eq _ (p_zl12_play 194)).symm.trans (by kernel_rfl)
theorem alnum6 : p_zl12_play 193 (askL 6 90 0) = some true:=(forceA_eq _ (p_zl12_play 193)).symm.trans (by kernel_rfl)
theorem alnum7 : p_zl12_play 192 (askL 7 90 0) = some true:=(forceA_eq _ (p_zl12_play 192)).symm.trans (by kernel_rfl)
end Go.Ev
namespace Go.Ev
set_option maxRecDepth 100000
theorem alnum8 : p_zl12_play 191 (askL 8 90 0) = some true:=(forceA_eq _ (p_zl12_play 191)).symm.trans (by kernel_rfl)
theorem alnum9 : p_zl12_play 190 (askL 9 90 0) = some true:=(forceA_eq _ (p_zl12_play 190)).symm.trans (by kernel_rfl)
theorem alnum10 : p_zl12_play 189 (askL 10 90 0) = some true:=(forceA_eq _ (p_zl12_play 189)).symm.trans (by kernel_rfl)
theorem alnum11 : p_zl12_play 188 (askL 11 90 0) = some true:=(forceA_eq _ (p_zl12_play 188)).symm.trans (by kernel_rfl)
theorem alnum12 : p_zl12_play 187 (askL 12 90 0) = some true:=(forceA_eq _ (p_zl12_play 187)).symm.trans (by kernel_rfl)
theorem alnum13 : p_zl12_play 186 (askL 13 90 0) = some true:=(forceA_eq _ (p_zl12_play 186)).symm.trans (by kernel_rfl)
theorem alnum14 : p_zl12_play 185 (askL 14 90 0) = some true:=(forceA_eq _ (p_zl12_play 185)).symm.trans (by kernel_rfl)
theorem alnum15 : p_zl12_play 184 (askL 15 90 0) = some true:=(forceA_eq _ (p_zl12_play 184)).symm.trans (by kernel_rfl)
end Go.Ev
namespace Go.Ev
set_option maxRecDepth 100000
theorem alnum16 : p_zl12_play 183 (askL 16 90 0) = some true:=(forceA_eq _ (p_zl12_play 183)).symm.trans (by kernel_rfl)
theorem alnum17 : p_zl12_play 182 (askL 17 90 0) = some true:=(forceA_eq _ (p_zl12_play 182)).symm.trans (by kernel_rfl)
theorem alnum18 : p_zl12_play 181 (askL 18 90 0) = some true:=(forceA_eq _ (p_zl12_play 181)).symm.trans (by kernel_rfl)
theorem alnum19 : p_zl12_play 180 (askL 19 90 0) = some true:=(forceA_eq _ (p_zl12_play 180)).symm.trans (by kernel_rfl)
theorem alnum20 : p_zl12_play 179 (askL 20 90 0) = some true:=(forceA_eq _ (p_zl12_play 179)).symm.trans (by kernel_rfl)
theorem alnum21 : p_zl12_play 178 (askL 21 90 0) = some true:=(forceA_eq _ (p_zl12_play 178)).symm.trans (by kernel_rfl)
theorem alnum22 : p_zl12_play 177 (askL 22 90 0) = some true:=(forceA_eq _ (p_zl12_play 177)).symm.trans (by kernel_rfl)
theorem alnum23 : p_zl12_play 176 (askL 23 90 0) = some true:=(forceA_eq _ (p_zl12_play 176)).symm.trans (by kernel_rfl)
end Go.Ev
namespace Go.Ev
set_option maxRecDepth 100000
theorem alnum24 : p_zl12_play 175 (askL 24 90 0) = some true:=(forceA_eq _ (p_zl12_play 175)).symm.trans (by kernel_rfl)
theorem alnum25 : p_zl12_play 174 (askL 25 90 0) = some true:=(forceA_eq _ (p_zl12_play 174)).symm.trans (by kernel_rfl)
theorem alnum26 : p_zl12_play 173 (askL 26 90 0) = some true:=(forceA_eq _ (p_zl12_play 173)).symm.trans (by kernel_rfl)
theorem alnum27 : p_zl12_play 172 (askL 27 90 0) = some true:=(forceA_eq _ (p_zl12_play 172)).symm.trans (by kernel_rfl)
theorem alnum28 : p_zl12_play 171 (askL 28 90 0) = some true:=(forceA_eq _ (p_zl12_play 171)).symm.trans (by kernel_rfl)
theorem alnum29 : p_zl12_play 170 (askL 29 90 0) = some true:=(forceA_eq _ (p_zl12_play 170)).symm.trans (by kernel_rfl)
theorem alnum30 : p_zl12_play 169 (askL 30 90 0) = some true:=(forceA_eq _ (p_zl12_play 169)).symm.trans (by kernel_rfl)
theorem alnum31 : p_zl12_play 168 (askL 31 90 0) = some true:=(forceA_eq _ (p_zl12_play 168)).symm.trans (by kernel_rfl)
end Go.Ev
namespace Go.Ev
set_option maxRecDepth 100000
theorem alnum32 : p_zl12_play 167 (askL 32 90 0) = some true:=(forceA_eq _ (p_zl12_play 167)).symm.trans (by kernel_rfl)
theorem alnum33 : p_zl12_play 166 (askL 33 90 0) = some true:=(forceA_eq _ (p_zl12_play 166)).symm.trans (by kernel_rfl)
theorem alnum34 : p_zl12_play 165 (askL 34 90 0) = some true:=(forceA_eq _ (p_zl12_play 165)).symm.trans (by kernel_rfl)
theorem alnum35 : p_zl12_play 164 (askL 35 90 0) = some true:=(forceA_eq _ (p_zl12_play 164)).symm.trans (by kernel_rfl)
theorem alnum36 : p_zl12_play 163 (askL 36 90 0) = some true:=(forceA_eq _ (p_zl12_play 163)).symm.trans (by kernel_rfl)
theorem alnum37 : p_zl12_play 162 (askL 37 90 0) = some true:=(forceA_eq _ (p_zl12_play 162)).symm.trans (by kernel_rfl)
theorem alnum38 : p_zl12_play 161 (askL 38 90 0) = some true:=(forceA_eq _ (p_zl12_play 161)).symm.trans (by kernel_rfl)
theorem alnum39 : p_zl12_play 160 (askL 39 90 0) = some true:=(forceA_eq _ (p_zl12_play 160)).symm.trans (by kernel_rfl)
end Go.Ev
namespace Go.Ev
set_option maxRecDepth 100000
theorem alnum_all {β : Type} (kE0 : Unit→Option β) (kE1 : Bool→Option β) : p_zl12_AlarmNumbers_l0 200 kE0 kE1 0 = kE0 ():=by
 refine (ask_step 108 kE0 kE1 0 rfl alnum0).trans ?_
 refine (ask_step 107 kE0 kE1 1 rfl alnum1).trans ?_
 refine (ask_step 106 kE0 kE1 2 rfl alnum2).trans ?_
 refine (ask_step 105 kE0 kE1 3 rfl alnum3).trans ?_
 refine (ask_step 104 kE0 kE1 4 rfl alnum4).trans ?_
 refine (ask_step 103 kE0 kE1 5 rfl alnum5).trans ?_
 refine (ask_step 102 kE0 kE1 6 rfl alnum6).trans ?_
 refine (ask_step 101 kE0 kE1 7 rfl alnum7).trans ?_
 refine (ask_step 100 kE0 kE1 8 rfl alnum8).trans ?_
 refine (ask_step 99 kE0 kE1 9 rfl alnum9).trans ?_
 refine (ask_step 98 kE0 kE1 10 rfl alnum10).trans ?_
 refine (ask_step 97 kE0 kE1 11 rfl alnum11).trans ?_
 refine (ask_step 96 kE0 kE1 12 rfl alnum12).trans ?_
 refine (ask_step 95 kE0 kE1 13 rfl alnum13).trans ?_
 refine (ask_step 94 kE0 kE1 14 rfl alnum14).trans ?_
 refine (ask_step 93 kE0 kE1 15 rfl alnum15).trans ?_
 refine (ask_step 92 kE0 kE1 16 rfl alnum16).trans ?_
 refine (ask_step 91 kE0 kE1 17 rfl alnum17).trans ?_
 refine (ask_step 90 kE0 kE1 18 rfl alnum18).trans ?_
 refine (ask_step 89 kE0 kE1 19 rfl alnum19).trans ?_
 refine (ask_step 88 kE0 kE1 20 rfl alnum20).trans ?_
 refine (ask_step 87 kE0 kE1 21 rfl alnum21).trans ?_
 refine (ask_step 86 kE0 kE1 22 rfl alnum22).trans ?_
 refine (ask_step 85 kE0 kE1 23 rfl alnum23).trans ?_
 refine (ask_step 84 kE0 kE1 24 rfl alnum24).trans ?_
 refine (ask_step 83 kE0 kE1 25 rfl alnum25).trans ?_
 refine (ask_step 82 kE0 kE1 26 rfl alnum26).trans ?_
 refine (ask_step 81 kE0 kE1 27 rfl alnum27).trans ?_
 refine (ask_step 80 kE0 kE1 28 rfl alnum28).trans ?_
 refine (ask_step 79 kE0 kE1 29 rfl alnum29).trans ?_
 refine (ask_step 78 kE0 kE1 30 rfl alnum30).trans ?_
 refine (ask_step 77 kE0 kE1 31 rfl alnum31).trans ?_
 refine (ask_step 76 kE0 kE1 32 rfl alnum32).trans ?_
 refine (ask_step 75 kE0 kE1 33 rfl alnum33).trans ?_
 refine (ask_step 74 kE0 kE1 34 rfl alnum34).trans ?_
 refine (ask_step 73 kE0 kE1 35 rfl alnum35).trans ?_
 refine (ask_step 72 kE0 kE1 36 rfl alnum36).trans ?_
 refine (ask_step 71 kE0 kE1 37 rfl alnum37).trans ?_
 refine (ask_step 70 kE0 kE1 38 rfl alnum38).trans ?_
 refine (ask_step 69 kE0 kE1 39 rfl alnum39).trans ?_
 rfl
theorem alarmNumbers_true : p_zl12_AlarmNumbers 200 = some true:=by
 unfold p_zl12_AlarmNumbers
 refine (alnum_all _ _).trans ?_
 kernel_rfl
theorem alarmNumbers_ev : ev G X0 4 [] [] [] = some ([.v (bV true)],[]):=by
 obtain ⟨_,h1,rfl⟩:=zl12_AlarmNumbers_ok 200 (h:=[]) (σ:=[]) _ alarmNumbers_true
 exact h1
end Go.Ev
