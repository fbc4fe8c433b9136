/- A part of the proof that follows: deadlines come as the document says, for any calls -/
import Derived.Test.YtceljnchfgimbaaMAlarmPlays3
namespace Go.Ev
open Go.Proofs
set_option linter.unusedVariables false
set_option linter.unusedSimpArgs false
set_option maxRecDepth 100000
section
variable {β α : Type} {Q : β→α→Prop} {K : Exit × Env × H→Option α}
def p_zl12_first_l0 {β : Type} (k : Nat) (kE0 : Int→Option β) (x0 : (List T_alarm_Due)) (x3 : Int) (x6 : Int) (x7 : Int) : Option β:=match k with
| 0 => none
| k + 1 =>
bif decide (x7 < x6) then (
(ix x0 x7).bind fun a6 =>
(ix x0 x3).bind fun a14 =>
(bif decide (a6.f_At < a14.f_At) then (some true) else ((ix x0 x7).bind fun a22 =>
(ix x0 x3).bind fun a30 =>
(bif a22.f_At == a30.f_At then ((ix x0 x7).bind fun a38 =>
(ix x0 x3).bind fun a46 =>
some (decide (a38.Key < a46.Key))) else (some false)).bind fun b54 =>
some b54)).bind fun b58 =>
bif b58 then (
p_zl12_first_l0 k kE0 x0 x7 x6 (IntKind.wrap .i64 (x7 + 1)))
else (
p_zl12_first_l0 k kE0 x0 x3 x6 (IntKind.wrap .i64 (x7 + 1))))
else (
kE0 x3)
def p_zl12_first (k : Nat) (x0 : (List T_alarm_Due)) : Option (Int) :=
p_zl12_first_l0 k (fun r65_3 =>
some (r65_3)) x0 0 ((x0.length : Int)) 0
theorem zl12_first_l0_ok {h : H}  {kE0 : Int→Option β} (hE0 : ∀ (q3 : Int) (H63 : Go.Ev.H) (_ : Fm 50 h [] [] [] H63),Sim (kE0 q3) (K ((.exit 0),(envL [(3,(.p (.int .i64 q3)))]),H63)) Q) (k : Nat) : ∀ (x0 : (List T_alarm_Due)) (x3 : Int) (x6 : Int) (x7 : Int) (v3 : V) (h4 : SlH h dT_alarm_Due x0 v3) (H1 : Go.Ev.H) (_ : Fm 50 h [] [] [] H1) {σ : Stamp},Sim (p_zl12_first_l0 k kE0 x0 x3 x6 x7) ((cvL G X0 zl12_first_c0 zl12_first_l0 σ (envL [(0,v3),(3,(.p (.int .i64 x3))),(6,(.p (.int .i64 x6))),(7,(.p (.int .i64 x7)))]) H1).bind K) Q:=by
 induction k with
 | zero => intros; exact .no
 | succ k ih =>
  intro x0 x3 x6 x7 v3 h4 H1 S2 σ
  rw [p_zl12_first_l0]
  refine .round (Sim.ext (zl12_first_r0 _ _ _ _ _ _ _ _) ?_)
  refine .cq ?_ ?_
  ·refine .bd fun a6 h7 => ?_
   refine .op ((S2.low h4).iS h7 rfl) ?_
   obtain ⟨w9,h10,hE8⟩:=(S2.low h4).el h7 rfl
   obtain rfl:=dT_alarm_Due.inv h10
   refine .op (hE8.fa (j:=0) (by simp)) ?_
   obtain ⟨w12,h13,hE11⟩:=(S2.low h4).el h7 rfl
   obtain rfl:=dT_alarm_Due.inv h13
   refine .op (hE11.ld (j:=0) rfl) ?_
   refine .ci ?_
   refine .bd fun a14 h15 => ?_
   refine .op ((S2.low h4).iS h15 rfl) ?_
   obtain ⟨w17,h18,hE16⟩:=(S2.low h4).el h15 rfl
   obtain rfl:=dT_alarm_Due.inv h18
   refine .op (hE16.fa (j:=0) (by simp)) ?_
   obtain ⟨w20,h21,hE19⟩:=(S2.low h4).el h15 rfl
   obtain rfl:=dT_alarm_Due.inv h21
   refine .op (hE19.ld (j:=0) rfl) ?_
   refine .ci ?_
   refine .ch (P:=fun r y => r = y) ?_ (fun b58 y59 h60 h61 => ?_)
   ·refine .cq ?_ ?_
    ·exact .ret rfl rfl
    ·refine .bd fun a22 h23 => ?_
     refine .op ((S2.low h4).iS h23 rfl) ?_
     obtain ⟨w25,h26,hE24⟩:=(S2.low h4).el h23 rfl
     obtain rfl:=dT_alarm_Due.inv h26
     refine .op (hE24.fa (j:=0) (by simp)) ?_
     obtain ⟨w28,h29,hE27⟩:=(S2.low h4).el h23 rfl
     obtain rfl:=dT_alarm_Due.inv h29
     refine .op (hE27.ld (j:=0) rfl) ?_
     refine .ci ?_
     refine .bd fun a30 h31 => ?_
     refine .op ((S2.low h4).iS h31 rfl) ?_
     obtain ⟨w33,h34,hE32⟩:=(S2.low h4).el h31 rfl
     obtain rfl:=dT_alarm_Due.inv h34
     refine .op (hE32.fa (j:=0) (by simp)) ?_
     obtain ⟨w36,h37,hE35⟩:=(S2.low h4).el h31 rfl
     obtain rfl:=dT_alarm_Due.inv h37
     refine .op (hE35.ld (j:=0) rfl) ?_
     refine .ci ?_
     refine .ch (P:=fun r y => r = y) ?_ (fun b54 y55 h56 h57 => ?_)
     ·refine .cq ?_ ?_
      ·refine .bd fun a38 h39 => ?_
       refine .op ((S2.low h4).iS h39 rfl) ?_
       obtain ⟨w41,h42,hE40⟩:=(S2.low h4).el h39 rfl
       obtain rfl:=dT_alarm_Due.inv h42
       refine .op (hE40.fa (j:=1) (by simp)) ?_
       obtain ⟨w44,h45,hE43⟩:=(S2.low h4).el h39 rfl
       obtain rfl:=dT_alarm_Due.inv h45
       refine .op (hE43.ld (j:=1) rfl) ?_
       refine .ci ?_
       refine .bd fun a46 h47 => ?_
       refine .op ((S2.low h4).iS h47 rfl) ?_
       obtain ⟨w49,h50,hE48⟩:=(S2.low h4).el h47 rfl
       obtain rfl:=dT_alarm_Due.inv h50
       refine .op (hE48.fa (j:=1) (by simp)) ?_
       obtain ⟨w52,h53,hE51⟩:=(S2.low h4).el h47 rfl
       obtain rfl:=dT_alarm_Due.inv h53
       refine .op (hE51.ld (j:=1) rfl) ?_
       refine .ci ?_
       exact .ret rfl rfl
      ·exact .ret rfl rfl
     subst h57
     exact .ret rfl rfl
   subst h61
   refine .cq ?_ ?_
   ·exact ih x0 x7 x6 (IntKind.wrap .i64 (x7 + 1)) v3 h4 H1 (S2.wk2 aN aN)
   exact ih x0 x3 x6 (IntKind.wrap .i64 (x7 + 1)) v3 h4 H1 (S2.wk2 aN aN)
  exact hE0 x3 H1 (S2.wk2 aN aN)
theorem zl12_first_ok (k : Nat) {h : H} {σ : Stamp} (x0 : List T_alarm_Due) {u0 : V} (hu0 : SlH h dT_alarm_Due x0 u0) : Sim (p_zl12_first k x0) (ev G X0 54 σ [u0] h) (fun r s => s = ([.v (.p (.int .i64 r))],h)):=by
 refine .ev rfl (Sim.ext (zl12_first_entry _ _ _ _ _) ?_)
 rw [p_zl12_first]
 have S0 : Fm 50 h [] [] [] (List.replicate 50 []::h):=Fm.start0
 refine .op ((S0.low hu0).len) ?_
 refine .ci ?_
 refine .as (zl12_first_l0_ok ?_ k x0 0 ((x0.length : Int)) 0 u0 hu0 (List.replicate 50 []::h) (S0.wk2 aN aN))
 ·intro r65_3 H66 S67
  refine .ext (zl12_first_a0_0 _ _ _ _ _) ?_
  exact .fin (S67.finN (lC (sI _ _).lv lN)) rfl
def p_zl12_play_l1 {β : Type} (k : Nat) (kE0 : (List Tz12Ask)→(List T_alarm_Due)→Int→Int→Bool→Int→Bool→T_alarm_Table→Option β) (x0 : (List Tz12Ask)) (x4 : (List T_alarm_Due)) (x5 : Int) (x10 : Int) (x11 : Bool) (x14 : Int) (x15 : Bool) (x152 : Int) (x153 : Int) (yg26 : T_alarm_Table) (yg40 : Tz12Ask) : Option β:=match k with
| 0 => none
| k + 1 =>
bif decide (x153 < x152) then (
(ix x4 x153).bind fun a131 =>
bif a131.Key == yg40.Key then (
p_zl12_play_l1 k kE0 x0 x4 x5 x10 x11 a131.f_At true x152 (IntKind.wrap .i64 (x153 + 1)) yg26 yg40)
else (
p_zl12_play_l1 k kE0 x0 x4 x5 x10 x11 x14 x15 x152 (IntKind.wrap .i64 (x153 + 1)) yg26 yg40))
else (
kE0 x0 x4 x5 x10 x11 x14 x15 yg26)
def p_zl12_play_l2 {β : Type} (k : Nat) (kE0 : (List Tz12Ask)→(List T_alarm_Due)→Int→(List T_alarm_Due)→T_alarm_Table→Tz12Ask→Option β) (kE1 : Bool→Option β) (x0 : (List Tz12Ask)) (x4 : (List T_alarm_Due)) (x5 : Int) (x8 : (List T_alarm_Due)) (yg26 : T_alarm_Table) (yg40 : Tz12Ask) : Option β:=match k with
| 0 => none
| k + 1 =>
(bif decide (((x4.length : Int)) > 0) then ((p_zl12_first k x4).bind fun r199 =>
(ix x4 r199).bind fun a204 =>
some (decide (a204.f_At ≤ yg40.f_At))) else (some false)).bind fun b212 =>
bif b212 then (
(p_zl12_first k x4).bind fun r217 =>
(ix x4 r217).bind fun a222 =>
(bif ((x8.length : Int)) == 0 then (some true) else ((ix x8 0).bind fun a234 =>
some (!(andB [a234.f_At == a222.f_At,a234.Key == a222.Key])))).bind fun b239 =>
bif b239 then (
kE1 false)
else (
(sub x8 1 ((x8.length : Int))).bind fun a244 =>
(p_zl12_drop k x4 a222.Key).bind fun r246 =>
p_zl12_play_l2 k kE0 kE1 x0 r246 x5 a244 yg26 yg40))
else (
kE0 x0 x4 x5 x8 yg26 yg40)
def p_zl12_play_l0 {β : Type} (k : Nat) (kE0 : T_alarm_Table→Option β) (kE1 : Bool→Option β) (x0 : (List Tz12Ask)) (x4 : (List T_alarm_Due)) (x5 : Int) (yg13 : T_alarm_Table) : Option β:=match k with
| 0 => none
| k + 1 =>
(bif decide (x5 < ((x0.length : Int))) then (some (decide (x5 < 120))) else (some false)).bind fun b27 =>
bif b27 then (
(ix x0 x5).bind fun a32 =>
bif a32.Kind == 3 then (
(p_zl12_drop k x4 a32.Key).bind fun r45 =>
(p_alarm_Table_Clear k yg13 a32.Key).bind fun r60 =>
bif !(r60.1 == (decide (((r45.length : Int)) < ((x4.length : Int))))) then (
kE1 false)
else (
(p_alarm_Table_At_o k r60.2 a32.Key).bind fun r70 =>
(p_alarm_Table_Next_o r60.2).bind fun r75 =>
(p_alarm_Table_Len_o r60.2).bind fun r89 =>
(bif r89 != ((r45.length : Int)) then (some true) else (some (!(r75.2 == (decide (((r45.length : Int)) > 0)))))).bind fun b94 =>
(bif b94 then (some true) else ((bif r75.2 then ((p_zl12_first k r45).bind fun r98 =>
(ix r45 r98).bind fun a103 =>
some (!(andB [r75.1.f_At == a103.f_At,r75.1.Key == a103.Key]))) else (some false)).bind fun b108 =>
some b108)).bind fun b112 =>
bif b112 then (
kE1 false)
else (
p_zl12_play_l1 k (fun r155_0 r155_4 r155_5 r155_10 r155_11 r155_14 r155_15 yg127 =>
(bif r155_10 != r155_14 then (some true) else (some (!(r155_11 == r155_15)))).bind fun b167 =>
bif b167 then (
kE1 false)
else (
p_zl12_play_l0 k kE0 kE1 r155_0 r155_4 (IntKind.wrap .i64 (r155_5 + 1)) yg127)) x0 r45 x5 r70.1 r70.2 0 false ((r45.length : Int)) 0 r60.2 a32)))
else (
bif a32.Kind == 4 then (
(p_alarm_Table_Due k yg13 a32.f_At).bind fun r173 =>
p_zl12_play_l2 k (fun r278_0 r278_4 r278_5 r278_8 yg196 yg198 =>
bif decide (((r278_8.length : Int)) > 0) then (
kE1 false)
else (
(p_alarm_Table_At_o k yg196 yg198.Key).bind fun r295 =>
(p_alarm_Table_Next_o yg196).bind fun r300 =>
(p_alarm_Table_Len_o yg196).bind fun r314 =>
(bif r314 != ((r278_4.length : Int)) then (some true) else (some (!(r300.2 == (decide (((r278_4.length : Int)) > 0)))))).bind fun b319 =>
(bif b319 then (some true) else ((bif r300.2 then ((p_zl12_first k r278_4).bind fun r323 =>
(ix r278_4 r323).bind fun a328 =>
some (!(andB [r300.1.f_At == a328.f_At,r300.1.Key == a328.Key]))) else (some false)).bind fun b333 =>
some b333)).bind fun b337 =>
bif b337 then (
kE1 false)
else (
p_zl12_play_l1 k (fun r342_0 r342_4 r342_5 r342_10 r342_11 r342_14 r342_15 yg127 =>
(bif r342_10 != r342_14 then (some true) else (some (!(r342_11 == r342_15)))).bind fun b354 =>
bif b354 then (
kE1 false)
else (
p_zl12_play_l0 k kE0 kE1 r342_0 r342_4 (IntKind.wrap .i64 (r342_5 + 1)) yg127)) r278_0 r278_4 r278_5 r295.1 r295.2 0 false ((r278_4.length : Int)) 0 yg196 yg198))) (fun r359_2 =>
kE1 r359_2) x0 x4 x5 r173.1 r173.2 a32)
else (
(p_alarm_Table_Set k yg13 a32.Key a32.f_At).bind fun r362 =>
(p_zl12_drop k x4 a32.Key).bind fun r372 =>
(ap 16 r372 ([((⟨a32.f_At,a32.Key⟩ : T_alarm_Due))])).bind fun a387 =>
(p_alarm_Table_At_o k r362 a32.Key).bind fun r393 =>
(p_alarm_Table_Next_o r362).bind fun r398 =>
(p_alarm_Table_Len_o r362).bind fun r412 =>
(bif r412 != ((a387.length : Int)) then (some true) else (some (!(r398.2 == (decide (((a387.length : Int)) > 0)))))).bind fun b417 =>
(bif b417 then (some true) else ((bif r398.2 then ((p_zl12_first k a387).bind fun r421 =>
(ix a387 r421).bind fun a426 =>
some (!(andB [r398.1.f_At == a426.f_At,r398.1.Key == a426.Key]))) else (some false)).bind fun b431 =>
some b431)).bind fun b435 =>
bif b435 then (
kE1 false)
else (
p_zl12_play_l1 k (fun r440_0 r440_4 r440_5 r440_10 r440_11 r440_14 r440_15 yg127 =>
(bif r440_10 != r440_14 then (some true) else (some (!(r440_11 == r440_15)))).bind fun b452 =>
bif b452 then (
kE1 false)
else (
p_zl12_play_l0 k kE0 kE1 r440_0 r440_4 (IntKind.wrap .i64 (r440_5 + 1)) yg127)) x0 a387 x5 r393.1 r393.2 0 false ((a387.length : Int)) 0 r362 a32))))
else (
kE0 yg13)
def p_zl12_play (k : Nat) (x0 : (List Tz12Ask)) : Option (Bool) :=
(p_alarm_New).bind fun r1 =>
p_zl12_play_l0 k (fun yg26 =>
some (true)) (fun r476_2 =>
some (r476_2)) x0 (([] : List T_alarm_Due)) 0 r1
theorem zl12_play_l1_ok {h : H}  {kE0 : (List Tz12Ask)→(List T_alarm_Due)→Int→Int→Bool→Int→Bool→T_alarm_Table→Option β} (hE0 : ∀ (q0 : (List Tz12Ask)) (q4 : (List T_alarm_Due)) (q5 : Int) (q10 : Int) (q11 : Bool) (q14 : Int) (q15 : Bool) (yg127 : T_alarm_Table) (v146 : V) (h147 : SlH h dTz12Ask q0 v146) (v148 : V) (c150 : C) (h151 : SoC dT_alarm_Due yg127.l c150) (h152 : Nn c150 2) (s153 : Stamp) (H144 : Go.Ev.H) (_ : Fm 175 h [] [(18,s153,[c150])] [⟨[48,55,61,111],v148,dT_alarm_Due,q4⟩] H144),Sim (kE0 q0 q4 q5 q10 q11 q14 q15 yg127) (K ((.exit 5),(envL [(0,v146),(3,(.ref ⟨h.length,18,0,s153,[]⟩ 0)),(4,v148),(5,(.p (.int .i64 q5))),(10,(.p (.int .i64 q10))),(11,(.p (.bool q11))),(14,(.p (.int .i64 q14))),(15,(.p (.bool q15)))]),H144)) Q) (k : Nat) : ∀ (x0 : (List Tz12Ask)) (x4 : (List T_alarm_Due)) (x5 : Int) (x10 : Int) (x11 : Bool) (x14 : Int) (x15 : Bool) (x152 : Int) (x153 : Int) (yg26 : T_alarm_Table) (yg40 : Tz12Ask) (v119 : V) (h120 : SlH h dTz12Ask x0 v119) (v121 : V) (c123 : C) (h124 : SoC dT_alarm_Due yg26.l c123) (h125 : Nn c123 2) (s126 : Stamp) (s128 : Stamp) (H117 : Go.Ev.H) (_ : Fm 175 h [] [(18,s126,[c123]),(6,s128,List.map C.v [(.p (.int .i64 yg40.Kind)),(.p (.int .u64 yg40.Key)),(.p (.int .i64 yg40.f_At))])] [⟨[48,55,61,111],v121,dT_alarm_Due,x4⟩] H117) {σ : Stamp},Sim (p_zl12_play_l1 k kE0 x0 x4 x5 x10 x11 x14 x15 x152 x153 yg26 yg40) ((cvL G X0 zl12_play_c1 zl12_play_l1 σ (envL [(0,v119),(3,(.ref ⟨h.length,18,0,s126,[]⟩ 0)),(4,v121),(5,(.p (.int .i64 x5))),(6,(.ref ⟨h.length,6,0,s128,[]⟩ 0)),(10,(.p (.int .i64 x10))),(11,(.p (.bool x11))),(14,(.p (.int .i64 x14))),(15,(.p (.bool x15))),(151,v121),(152,(.p (.int .i64 x152))),(153,(.p (.int .i64 x153)))]) H117).bind K) Q:=by
 induction k with
 | zero => intros; exact .no
 | succ k ih =>
  intro x0 x4 x5 x10 x11 x14 x15 x152 x153 yg26 yg40 v119 h120 v121 c123 h124 h125 s126 s128 H117 S118 σ
  rw [p_zl12_play_l1]
  refine .round (Sim.ext (zl12_play_r1 _ _ _ _ _ _ _ _ _ _ _ _ _ _ _ _) ?_)
  refine .cq ?_ ?_
  ·refine .bd fun a131 h132 => ?_
   refine .op ((S118.sl (i:=0) rfl).iS h132 rfl) ?_
   obtain ⟨w134,h135,hE133⟩:=(S118.sl (i:=0) rfl).el h132 rfl
   obtain rfl:=dT_alarm_Due.inv h135
   refine .op (hE133.all (by simp)) ?_
   obtain ⟨H136,e137,S138⟩:=S118.al (d:=17) (s:=(2::0::0::1::1::0::σ)) (z:=[(.p (.int .i64 0)),(.p (.int .u64 0))]) (by decide) rfl
   refine .op (congrArg some e137) ?_
   obtain ⟨H140,e141,S142⟩:=S138.stGv (i:=0) (j:=0) (own:=false) (σ:=(3::0::0::1::1::0::σ)) (xs:=[.p (.int .i64 a131.f_At),.p (.int .u64 a131.Key)]) rfl rfl (sC (sI _ _) (sC (sI _ _) sN)) rfl rfl
   refine .op (sM e141) ?_
   refine .fa ?_
   refine .op ((S142.atG (i:=0) rfl).ld (j:=1) rfl) ?_
   refine .ci ?_
   refine .fa ?_
   refine .op ((S142.atG (i:=2) rfl).ld (j:=1) rfl) ?_
   refine .ci ?_
   refine .cq ?_ ?_
   ·refine .fa ?_
    refine .op ((S142.atG (i:=0) rfl).ld (j:=0) rfl) ?_
    refine .ci ?_
    exact ih x0 x4 x5 x10 x11 a131.f_At true x152 (IntKind.wrap .i64 (x153 + 1)) yg26 yg40 v119 h120 v121 c123 h124 h125 s126 s128 H140 (S142.wk2 (aC (aM 1 rfl) (aC (aM 2 rfl) aN)) (aC ⟨[48,55,61,111],by simp,aM 0 rfl⟩ aN))
   exact ih x0 x4 x5 x10 x11 x14 x15 x152 (IntKind.wrap .i64 (x153 + 1)) yg26 yg40 v119 h120 v121 c123 h124 h125 s126 s128 H140 (S142.wk2 (aC (aM 1 rfl) (aC (aM 2 rfl) aN)) (aC ⟨[48,55,61,111],by simp,aM 0 rfl⟩ aN))
  exact hE0 x0 x4 x5 x10 x11 x14 x15 yg26 v119 h120 v121 c123 h124 h125 s126 H117 (S118.wk2 (aC (aM 0 rfl) aN) (aC ⟨[48,55,61,111],by simp,aM 0 rfl⟩ aN))
theorem zl12_play_l2_ok {h : H}  {kE0 : (List Tz12Ask)→(List T_alarm_Due)→Int→(List T_alarm_Due)→T_alarm_Table→Tz12Ask→Option β} {kE1 : Bool→Option β} (hE0 : ∀ (q0 : (List Tz12Ask)) (q4 : (List T_alarm_Due)) (q5 : Int) (q8 : (List T_alarm_Due)) (yg196 : T_alarm_Table) (yg198 : Tz12Ask) (v263 : V) (h264 : SlH h dTz12Ask q0 v263) (v265 : V) (v267 : V) (h268 : SlF dT_alarm_Due q8 v267) (c269 : C) (h270 : SoC dT_alarm_Due yg196.l c269) (h271 : Nn c269 2) (s272 : Stamp) (s274 : Stamp) (H261 : Go.Ev.H) (_ : Fm 175 h [] [(18,s272,[c269]),(6,s274,List.map C.v [(.p (.int .i64 yg198.Kind)),(.p (.int .u64 yg198.Key)),(.p (.int .i64 yg198.f_At))])] [⟨[48,55,61,111],v265,dT_alarm_Due,q4⟩] H261),Sim (kE0 q0 q4 q5 q8 yg196 yg198) (K ((.exit 3),(envL [(0,v263),(3,(.ref ⟨h.length,18,0,s272,[]⟩ 0)),(4,v265),(5,(.p (.int .i64 q5))),(6,(.ref ⟨h.length,6,0,s274,[]⟩ 0)),(8,v267)]),H261)) Q) (hE1 : ∀ (q2 : Bool) (H276 : Go.Ev.H) (_ : Fm 175 h [] [] [] H276),Sim (kE1 q2) (K (.ret,(envL [(2,(.p (.bool q2)))]),H276)) Q) (k : Nat) : ∀ (x0 : (List Tz12Ask)) (x4 : (List T_alarm_Due)) (x5 : Int) (x8 : (List T_alarm_Due)) (yg26 : T_alarm_Table) (yg40 : Tz12Ask) (v186 : V) (h187 : SlH h dTz12Ask x0 v186) (v188 : V) (v190 : V) (h191 : SlF dT_alarm_Due x8 v190) (c192 : C) (h193 : SoC dT_alarm_Due yg26.l c192) (h194 : Nn c192 2) (s195 : Stamp) (s197 : Stamp) (H184 : Go.Ev.H) (_ : Fm 175 h [] [(18,s195,[c192]),(6,s197,List.map C.v [(.p (.int .i64 yg40.Kind)),(.p (.int .u64 yg40.Key)),(.p (.int .i64 yg40.f_At))])] [⟨[48,55,61,111],v188,dT_alarm_Due,x4⟩] H184) {σ : Stamp},Sim (p_zl12_play_l2 k kE0 kE1 x0 x4 x5 x8 yg26 yg40) ((cvL G X0 zl12_play_c2 zl12_play_l2 σ (envL [(0,v186),(3,(.ref ⟨h.length,18,0,s195,[]⟩ 0)),(4,v188),(5,(.p (.int .i64 x5))),(6,(.ref ⟨h.length,6,0,s197,[]⟩ 0)),(8,v190)]) H184).bind K) Q:=by
 induction k with
 | zero => intros; exact .no
 | succ k ih =>
  intro x0 x4 x5 x8 yg26 yg40 v186 h187 v188 v190 h191 c192 h193 h194 s195 s197 H184 S185 σ
  rw [p_zl12_play_l2]
  refine .round (Sim.ext (zl12_play_r2 _ _ _ _ _ _ _ _ _ _) ?_)
  refine .op ((S185.sl (i:=0) rfl).len) ?_
  refine .ci ?_
  refine .ch (P:=fun r y => (.p (.bool r),H184) = y) ?_ (fun b212 y213 h214 h215 => ?_)
  ·refine .cq ?_ ?_
   ·refine .fa ?_
    refine .op ((S185.atG (i:=1) rfl).ld (j:=2) rfl) ?_
    refine .ci ?_
    refine .call (zl12_first_ok k x4 (S185.sl (i:=0) rfl)) fun r199 cs200 H201 h202 q203 => ?_
    cases q203
    refine .ci ?_
    refine .nd ((S185.atG (i:=1) rfl).ld (j:=2) rfl) ?_
    refine .bd fun a204 h205 => ?_
    refine .op ((S185.sl (i:=0) rfl).iS h205 rfl) ?_
    obtain ⟨w207,h208,hE206⟩:=(S185.sl (i:=0) rfl).el h205 rfl
    obtain rfl:=dT_alarm_Due.inv h208
    refine .op (hE206.fa (j:=0) (by simp)) ?_
    obtain ⟨w210,h211,hE209⟩:=(S185.sl (i:=0) rfl).el h205 rfl
    obtain rfl:=dT_alarm_Due.inv h211
    refine .op (hE209.ld (j:=0) rfl) ?_
    refine .ci ?_
    exact .ret rfl rfl
   ·exact .ret rfl rfl
  subst h215
  refine .ab ?_
  refine .cq ?_ ?_
  ·refine .call (zl12_first_ok k x4 (S185.sl (i:=0) rfl)) fun r217 cs218 H219 h220 q221 => ?_
   cases q221
   refine .ci ?_
   refine .bd fun a222 h223 => ?_
   refine .op ((S185.sl (i:=0) rfl).iS h223 rfl) ?_
   obtain ⟨w225,h226,hE224⟩:=(S185.sl (i:=0) rfl).el h223 rfl
   obtain rfl:=dT_alarm_Due.inv h226
   refine .op (hE224.all (by simp)) ?_
   obtain ⟨H227,e228,S229⟩:=S185.al (d:=9) (s:=(5::0::1::0::σ)) (z:=[(.p (.int .i64 0)),(.p (.int .u64 0))]) (by decide) rfl
   refine .op (congrArg some e228) ?_
   obtain ⟨H231,e232,S233⟩:=S229.stGv (i:=0) (j:=0) (own:=false) (σ:=(6::0::1::0::σ)) (xs:=[.p (.int .i64 a222.f_At),.p (.int .u64 a222.Key)]) rfl rfl (sC (sI _ _) (sC (sI _ _) sN)) rfl rfl
   refine .op (sM e232) ?_
   refine .op ((h191.h H231).len) ?_
   refine .ci ?_
   refine .ch (P:=fun r y => r = y) ?_ (fun b239 y240 h241 h242 => ?_)
   ·refine .cq ?_ ?_
    ·exact .ret rfl rfl
    ·refine .bd fun a234 h235 => ?_
     refine .op ((h191.h H231).iS h235 rfl) ?_
     obtain ⟨w237,h238,hE236⟩:=(h191.h H231).el h235 rfl
     obtain rfl:=dT_alarm_Due.inv h238
     refine .op (hE236.all (by simp)) ?_
     refine .op ((S233.atG (i:=0) rfl).ldVs (j:=0) (xs:=[.p (.int .i64 a222.f_At),.p (.int .u64 a222.Key)]) rfl rfl (by decide)) ?_
     refine .op (nqS_ok (by kernel_rfl : _ = andL [a234.f_At == a222.f_At,a234.Key == a222.Key])) ?_
     refine .ab ?_
     exact .ret rfl rfl
   subst h242
   refine .cq ?_ ?_
   ·exact hE1 false H231 (S233.wk2 aN aN)
   refine .bd fun a244 h245 => ?_
   refine .op ((h191.h H231).slS h245 rfl rfl rfl) ?_
   refine .fa ?_
   refine .op ((S233.atG (i:=0) rfl).ld (j:=1) rfl) ?_
   refine .ci ?_
   refine .call (zl12_drop_ok k x4 (S233.sl (i:=0) rfl) a222.Key) fun r246 cs247 H248 h249 q250 => ?_
   obtain ⟨c251,cs252,h253,h254,q250⟩:=q250
   cases q250
   have S255:=Fm.wk S233 (aC (aM 0 rfl) (aC (aM 1 rfl) (aC (aM 2 rfl) aN))) aN
   obtain ⟨v256,H257,e258,S259⟩:=S255.land (dt:=dT_alarm_Due) (d:=111) (e:=0) (n:=0) h253 h254 (by decide) rfl
   erw [e258]
   refine .nd ((h191.h H257).slS h245 rfl rfl rfl) ?_
   exact ih x0 r246 x5 a244 yg26 yg40 v186 h187 v256 (subV 2 v190 (Int.toNat (1)) (Int.toNat ((x8.length : Int)))) (h191.sub h245 (e:=2) rfl) c192 h193 h194 s195 s197 H257 (S259.wk2 (aC (aM 1 rfl) (aC (aM 2 rfl) aN)) (aC ⟨[111],by simp,aM 0 rfl⟩ aN))
  exact hE0 x0 x4 x5 x8 yg26 yg40 v186 h187 v188 v190 h191 c192 h193 h194 s195 s197 H184 (S185.wk2 (aC (aM 0 rfl) (aC (aM 1 rfl) aN)) (aC ⟨[48,55,61,111],by simp,aM 0 rfl⟩ aN))
theorem zl12_play_l0_ok {h : H}  {kE0 : T_alarm_Table→Option β} {kE1 : Bool→Option β} (hE0 : ∀ (yg26 : T_alarm_Table) (c459 : C) (h460 : SoC dT_alarm_Due yg26.l c459) (h461 : Nn c459 2) (s462 : Stamp) (H457 : Go.Ev.H) (_ : Fm 175 h [] [(18,s462,[c459])] [] H457),Sim (kE0 yg26) (K ((.exit 0),(envL [(3,(.ref ⟨h.length,18,0,s462,[]⟩ 0))]),H457)) Q) (hE1 : ∀ (q2 : Bool) (H464 : Go.Ev.H) (_ : Fm 175 h [] [] [] H464),Sim (kE1 q2) (K (.ret,(envL [(2,(.p (.bool q2)))]),H464)) Q) (k : Nat) : ∀ (x0 : (List Tz12Ask)) (x4 : (List T_alarm_Due)) (x5 : Int) (yg13 : T_alarm_Table) (v18 : V) (h19 : SlH h dTz12Ask x0 v18) (v20 : V) (c22 : C) (h23 : SoC dT_alarm_Due yg13.l c22) (h24 : Nn c22 2) (s25 : Stamp) (H16 : Go.Ev.H) (_ : Fm 175 h [] [(18,s25,[c22])] [⟨[48,55,61,111],v20,dT_alarm_Due,x4⟩] H16) {σ : Stamp},Sim (p_zl12_play_l0 k kE0 kE1 x0 x4 x5 yg13) ((cvL G X0 zl12_play_c0 zl12_play_l0 σ (envL [(0,v18),(3,(.ref ⟨h.length,18,0,s25,[]⟩ 0)),(4,v20),(5,(.p (.int .i64 x5)))]) H16).bind K) Q:=by
 induction k with
 | zero => intros; exact .no
 | succ k ih =>
  intro x0 x4 x5 yg13 v18 h19 v20 c22 h23 h24 s25 H16 S17 σ
  rw [p_zl12_play_l0]
  refine .round (Sim.ext (zl12_play_r0 _ _ _ _ _ _ _ _) ?_)
  refine .op ((S17.low h19).len) ?_
  refine .ci ?_
  refine .ch (P:=fun r y => r = y) ?_ (fun b27 y28 h29 h30 => ?_)
  ·refine .cq ?_ ?_
   ·exact .ret rfl rfl
   ·exact .ret rfl rfl
  subst h30
  refine .cq ?_ ?_
  ·refine .bd fun a32 h33 => ?_
   refine .op ((S17.low h19).iS h33 rfl) ?_
   obtain ⟨w35,h36,hE34⟩:=(S17.low h19).el h33 rfl
   obtain rfl:=dTz12Ask.inv h36
   refine .op (hE34.all (by simp)) ?_
   obtain ⟨H37,e38,S39⟩:=S17.al (d:=6) (s:=(4::0::0::1::0::σ)) (z:=[(.p (.int .i64 0)),(.p (.int .u64 0)),(.p (.int .i64 0))]) (by decide) rfl
   refine .op (congrArg some e38) ?_
   obtain ⟨H41,e42,S43⟩:=S39.stGv (i:=0) (j:=0) (own:=false) (σ:=(5::0::0::1::0::σ)) (xs:=[.p (.int .i64 a32.Kind),.p (.int .u64 a32.Key),.p (.int .i64 a32.f_At)]) rfl rfl (sC (sI _ _) (sC (sI _ _) (sC (sI _ _) sN))) rfl rfl
   refine .op (sM e42) ?_
   refine .op ((by kernel_rfl : _ = some (.p (.bool false)))) ?_
   refine .ab ?_
   refine .cdf rfl ?_
   refine .op ((S43.sl (i:=0) rfl).len) ?_
   refine .ci ?_
   refine .fa ?_
   refine .op ((S43.atG (i:=0) rfl).ld (j:=0) rfl) ?_
   refine .ci ?_
   refine .cq ?_ ?_
   ·refine .fa ?_
    refine .op ((S43.atG (i:=0) rfl).ld (j:=1) rfl) ?_
    refine .ci ?_
    refine .call (zl12_drop_ok k x4 (S43.sl (i:=0) rfl) a32.Key) fun r45 cs46 H47 h48 q49 => ?_
    obtain ⟨c50,cs51,h52,h53,q49⟩:=q49
    cases q49
    have S54:=Fm.wk S43 (aC (aM 0 rfl) (aC (aM 1 rfl) aN)) aN
    obtain ⟨v55,H56,e57,S58⟩:=S54.land (dt:=dT_alarm_Due) (d:=61) (e:=0) (n:=0) h52 h53 (by decide) rfl
    erw [e57]
    refine .fa ?_
    refine .op ((S58.atG (i:=0) rfl).ld (j:=1) rfl) ?_
    refine .ci ?_
    refine .call (alarm_Table_Clear_ok k yg13 h23 h24 (S58.atG (i:=1) rfl) a32.Key) fun r60 cs61 H62 h63 q64 => ?_
    obtain ⟨c65,h66,h67,q64⟩:=q64
    cases q64
    have S68:=S58.setG (i:=1) (cs':=[c65]) rfl rfl rfl
    refine .ab ?_
    refine .op ((S68.sl (i:=0) rfl).len) ?_
    refine .ci ?_
    refine .cq ?_ ?_
    ·exact hE1 false (ptC H56 ⟨h.length,18,0,s25,[]⟩ 0 ([c65])) (S68.wk2 aN aN)
    refine .fa ?_
    refine .op ((S68.atG (i:=0) rfl).ld (j:=1) rfl) ?_
    refine .ci ?_
    refine .call (alarm_Table_At_o_ok k r60.2 h66 h67 (S68.atG (i:=1) rfl) a32.Key) fun r70 cs71 H72 h73 q74 => ?_
    cases q74
    refine .or ?_
    refine .ci ?_
    refine .or ?_
    refine .ab ?_
    refine .call (alarm_Table_Next_o_ok r60.2 h66 h67 (S68.atG (i:=1) rfl)) fun r75 cs76 H77 h78 q79 => ?_
    obtain ⟨w80,h81,q79⟩:=q79
    cases q79
    obtain rfl:=dT_alarm_Due.inv h81
    refine .or ?_
    refine .or ?_
    refine .ab ?_
    obtain ⟨H82,e83,S84⟩:=S68.al (d:=12) (s:=(5::0::1::1::1::1::1::0::1::0::σ)) (z:=[(.p (.int .i64 0)),(.p (.int .u64 0))]) (by decide) rfl
    refine .op (congrArg some e83) ?_
    obtain ⟨H86,e87,S88⟩:=S84.stGv (i:=0) (j:=0) (own:=false) (σ:=(6::0::1::1::1::1::1::0::1::0::σ)) (xs:=[(.p (.int .i64 r75.1.f_At)),(.p (.int .u64 r75.1.Key))]) rfl rfl (sC (sI _ _) (sC (sI _ _) sN)) rfl rfl
    refine .op (sM e87) ?_
    refine .op ((S88.sl (i:=0) rfl).len) ?_
    refine .ci ?_
    refine .call (alarm_Table_Len_o_ok r60.2 h66 h67 (S88.atG (i:=2) rfl)) fun r89 cs90 H91 h92 q93 => ?_
    cases q93
    refine .ci ?_
    refine .ch (P:=fun r y => r = y) ?_ (fun b94 y95 h96 h97 => ?_)
    ·refine .cq ?_ ?_
     ·exact .ret rfl rfl
     ·refine .op ((S88.sl (i:=0) rfl).len) ?_
      refine .ci ?_
      exact .ret rfl rfl
    subst h97
    refine .ch (P:=fun r y => (.p (.bool r),H86) = y) ?_ (fun b112 y113 h114 h115 => ?_)
    ·refine .cq ?_ ?_
     ·exact .ret rfl rfl
     ·refine .ch (P:=fun r y => (.p (.bool r),H86) = y) ?_ (fun b108 y109 h110 h111 => ?_)
      ·refine .cq ?_ ?_
       ·refine .op ((S88.atG (i:=0) rfl).ldVs (j:=0) (xs:=[(.p (.int .i64 r75.1.f_At)),(.p (.int .u64 r75.1.Key))]) rfl rfl (by decide)) ?_
        refine .call (zl12_first_ok k r45 (S88.sl (i:=0) rfl)) fun r98 cs99 H100 h101 q102 => ?_
        cases q102
        refine .ci ?_
        refine .nd ((S88.atG (i:=0) rfl).ldVs (j:=0) (xs:=[(.p (.int .i64 r75.1.f_At)),(.p (.int .u64 r75.1.Key))]) rfl rfl (by decide)) ?_
        refine .bd fun a103 h104 => ?_
        refine .op ((S88.sl (i:=0) rfl).iS h104 rfl) ?_
        obtain ⟨w106,h107,hE105⟩:=(S88.sl (i:=0) rfl).el h104 rfl
        obtain rfl:=dT_alarm_Due.inv h107
        refine .op (hE105.all (by simp)) ?_
        refine .op (nqS_ok (by kernel_rfl : _ = andL [r75.1.f_At == a103.f_At,r75.1.Key == a103.Key])) ?_
        refine .ab ?_
        exact .ret rfl rfl
       ·exact .ret rfl rfl
      subst h111
      refine .ab ?_
      exact .ret rfl rfl
    subst h115
    refine .ab ?_
    refine .cq ?_ ?_
    ·exact hE1 false H86 (S88.wk2 aN aN)
    refine .op ((S88.sl (i:=0) rfl).len) ?_
    refine .ci ?_
    refine .as (zl12_play_l1_ok ?_ k x0 r45 x5 r70.1 r70.2 0 false ((r45.length : Int)) 0 r60.2 a32 v18 h19 v55 c65 h66 h67 s25 (4::0::0::1::0::σ) H86 (S88.wk2 (aC (aM 2 rfl) (aC (aM 1 rfl) aN)) (aC ⟨[61],by simp,aM 0 rfl⟩ aN)))
    ·intro r155_0 r155_4 r155_5 r155_10 r155_11 r155_14 r155_15 yg127 v158 h159 v160 c162 h163 h164 s165 H156 S157
     refine .ext (zl12_play_a1_5 _ _ _ _ _ _ _ _ _ _ _ _) ?_
     refine .ch (P:=fun r y => r = y) ?_ (fun b167 y168 h169 h170 => ?_)
     ·refine .cq ?_ ?_
      ·exact .ret rfl rfl
      ·exact .ret rfl rfl
     subst h170
     refine .cq ?_ ?_
     ·exact hE1 false H156 (S157.wk2 aN aN)
     exact ih r155_0 r155_4 (IntKind.wrap .i64 (r155_5 + 1)) yg127 v158 h159 v160 c162 h163 h164 s165 H156 (S157.wk2 (aC (aM 0 rfl) aN) (aC ⟨[48,55,61,111],by simp,aM 0 rfl⟩ aN))
   refine .cq ?_ ?_
   ·refine .fa ?_
    refine .op ((S43.atG (i:=0) rfl).ld (j:=2) rfl) ?_
    refine .ci ?_
    refine .call (alarm_Table_Due_ok k yg13 h23 h24 (S43.atG (i:=1) rfl) a32.f_At) fun r173 cs174 H175 h176 q177 => ?_
    obtain ⟨v178,c180,h179,h181,h182,q177⟩:=q177
    cases q177
    have S183:=S43.setG (i:=1) (cs':=[c180]) rfl rfl rfl
    refine .as (zl12_play_l2_ok ?_ ?_ k x0 x4 x5 r173.1 r173.2 a32 v18 h19 v20 v178 h179 c180 h181 h182 s25 (4::0::0::1::0::σ) (ptC H41 ⟨h.length,18,0,s25,[]⟩ 0 ([c180])) (S183.wk2 (aC (aM 1 rfl) (aC (aM 0 rfl) aN)) (aC ⟨[48,55,61,111],by simp,aM 0 rfl⟩ aN)))
    ·intro r278_0 r278_4 r278_5 r278_8 yg196 yg198 v281 h282 v283 v285 h286 c287 h288 h289 s290 s292 H279 S280
     refine .ext (zl12_play_a2_3 _ _ _ _ _ _ _ _ _ _) ?_
     refine .op ((h286.h H279).len) ?_
     refine .ci ?_
     refine .cq ?_ ?_
     ·exact hE1 false H279 (S280.wk2 aN aN)
     refine .fa ?_
     refine .op ((S280.atG (i:=1) rfl).ld (j:=1) rfl) ?_
     refine .ci ?_
     refine .call (alarm_Table_At_o_ok k yg196 h288 h289 (S280.atG (i:=0) rfl) yg198.Key) fun r295 cs296 H297 h298 q299 => ?_
     cases q299
     refine .or ?_
     refine .ci ?_
     refine .or ?_
     refine .ab ?_
     refine .call (alarm_Table_Next_o_ok yg196 h288 h289 (S280.atG (i:=0) rfl)) fun r300 cs301 H302 h303 q304 => ?_
     obtain ⟨w305,h306,q304⟩:=q304
     cases q304
     obtain rfl:=dT_alarm_Due.inv h306
     refine .or ?_
     refine .or ?_
     refine .ab ?_
     obtain ⟨H307,e308,S309⟩:=S280.al (d:=12) (s:=(5::0::1::1::1::1::1::0::1::0::σ)) (z:=[(.p (.int .i64 0)),(.p (.int .u64 0))]) (by decide) rfl
     refine .op (congrArg some e308) ?_
     obtain ⟨H311,e312,S313⟩:=S309.stGv (i:=0) (j:=0) (own:=false) (σ:=(6::0::1::1::1::1::1::0::1::0::σ)) (xs:=[(.p (.int .i64 r300.1.f_At)),(.p (.int .u64 r300.1.Key))]) rfl rfl (sC (sI _ _) (sC (sI _ _) sN)) rfl rfl
     refine .op (sM e312) ?_
     refine .op ((S313.sl (i:=0) rfl).len) ?_
     refine .ci ?_
     refine .call (alarm_Table_Len_o_ok yg196 h288 h289 (S313.atG (i:=1) rfl)) fun r314 cs315 H316 h317 q318 => ?_
     cases q318
     refine .ci ?_
     refine .ch (P:=fun r y => r = y) ?_ (fun b319 y320 h321 h322 => ?_)
     ·refine .cq ?_ ?_
      ·exact .ret rfl rfl
      ·refine .op ((S313.sl (i:=0) rfl).len) ?_
       refine .ci ?_
       exact .ret rfl rfl
     subst h322
     refine .ch (P:=fun r y => (.p (.bool r),H311) = y) ?_ (fun b337 y338 h339 h340 => ?_)
     ·refine .cq ?_ ?_
      ·exact .ret rfl rfl
      ·refine .ch (P:=fun r y => (.p (.bool r),H311) = y) ?_ (fun b333 y334 h335 h336 => ?_)
       ·refine .cq ?_ ?_
        ·refine .op ((S313.atG (i:=0) rfl).ldVs (j:=0) (xs:=[(.p (.int .i64 r300.1.f_At)),(.p (.int .u64 r300.1.Key))]) rfl rfl (by decide)) ?_
         refine .call (zl12_first_ok k r278_4 (S313.sl (i:=0) rfl)) fun r323 cs324 H325 h326 q327 => ?_
         cases q327
         refine .ci ?_
         refine .nd ((S313.atG (i:=0) rfl).ldVs (j:=0) (xs:=[(.p (.int .i64 r300.1.f_At)),(.p (.int .u64 r300.1.Key))]) rfl rfl (by decide)) ?_
         refine .bd fun a328 h329 => ?_
         refine .op ((S313.sl (i:=0) rfl).iS h329 rfl) ?_
         obtain ⟨w331,h332,hE330⟩:=(S313.sl (i:=0) rfl).el h329 rfl
         obtain rfl:=dT_alarm_Due.inv h332
         refine .op (hE330.all (by simp)) ?_
         refine .op (nqS_ok (by kernel_rfl : _ = andL [r300.1.f_At == a328.f_At,r300.1.Key == a328.Key])) ?_
         refine .ab ?_
         exact .ret rfl rfl
        ·exact .ret rfl rfl
       subst h336
       refine .ab ?_
       exact .ret rfl rfl
     subst h340
     refine .ab ?_
     refine .cq ?_ ?_
     ·exact hE1 false H311 (S313.wk2 aN aN)
     refine .op ((S313.sl (i:=0) rfl).len) ?_
     refine .ci ?_
     refine .as (zl12_play_l1_ok ?_ k r278_0 r278_4 r278_5 r295.1 r295.2 0 false ((r278_4.length : Int)) 0 yg196 yg198 v281 h282 v283 c287 h288 h289 s290 s292 H311 (S313.wk2 (aC (aM 1 rfl) (aC (aM 2 rfl) aN)) (aC ⟨[48,55,61,111],by simp,aM 0 rfl⟩ aN)))
     ·intro r342_0 r342_4 r342_5 r342_10 r342_11 r342_14 r342_15 yg127 v345 h346 v347 c349 h350 h351 s352 H343 S344
      refine .ext (zl12_play_a1_5 _ _ _ _ _ _ _ _ _ _ _ _) ?_
      refine .ch (P:=fun r y => r = y) ?_ (fun b354 y355 h356 h357 => ?_)
      ·refine .cq ?_ ?_
       ·exact .ret rfl rfl
       ·exact .ret rfl rfl
      subst h357
      refine .cq ?_ ?_
      ·exact hE1 false H343 (S344.wk2 aN aN)
      exact ih r342_0 r342_4 (IntKind.wrap .i64 (r342_5 + 1)) yg127 v345 h346 v347 c349 h350 h351 s352 H343 (S344.wk2 (aC (aM 0 rfl) aN) (aC ⟨[48,55,61,111],by simp,aM 0 rfl⟩ aN))
    ·intro r359_2 H360 S361
     refine .ext (zl12_play_a2_ret _ _ _ _ _) ?_
     exact hE1 r359_2 H360 (S361.wk2 aN aN)
   refine .fa ?_
   refine .op ((S43.atG (i:=0) rfl).ld (j:=1) rfl) ?_
   refine .ci ?_
   refine .fa ?_
   refine .op ((S43.atG (i:=0) rfl).ld (j:=2) rfl) ?_
   refine .ci ?_
   refine .call (alarm_Table_Set_ok k yg13 h23 h24 (S43.atG (i:=1) rfl) a32.Key a32.f_At) fun r362 cs363 H364 h365 q366 => ?_
   obtain ⟨c367,h368,h369,q366⟩:=q366
   cases q366
   have S370:=S43.setG (i:=1) (cs':=[c367]) rfl rfl rfl
   refine .fa ?_
   refine .op ((S370.atG (i:=0) rfl).ld (j:=1) rfl) ?_
   refine .ci ?_
   refine .fa ?_
   refine .op ((S370.atG (i:=0) rfl).ld (j:=2) rfl) ?_
   refine .ci ?_
   refine .fa ?_
   refine .op ((S370.atG (i:=0) rfl).ld (j:=1) rfl) ?_
   refine .ci ?_
   refine .op (bldV (pC rfl (pC rfl pN)) (by kernel_rfl : _ = some (.agg [.p (.int .i64 a32.f_At),.p (.int .u64 a32.Key)]))) ?_
   have h371 : SlF dT_alarm_Due [((⟨a32.f_At,a32.Key⟩ : T_alarm_Due))] (.fz [(.p (.int .i64 a32.f_At)),(.p (.int .u64 a32.Key))] 1 2 true):=SlF.lit (cs:=[(.p (.int .i64 a32.f_At)),(.p (.int .u64 a32.Key))]) (RL.cons (show dT_alarm_Due.R ((⟨a32.f_At,a32.Key⟩ : T_alarm_Due)) [.p (.int .i64 a32.f_At),.p (.int .u64 a32.Key)] from (dT_alarm_Due.mk)) RL.nil) rfl rfl true
   refine .op (bldS (pC (c:=[.p (.int .i64 a32.f_At),.p (.int .u64 a32.Key)]) rfl pN) (by kernel_rfl : _ = some (vOf h371))) ?_
   refine .call (zl12_drop_ok k x4 (S370.sl (i:=0) rfl) a32.Key) fun r372 cs373 H374 h375 q376 => ?_
   obtain ⟨c377,cs378,h379,h380,q376⟩:=q376
   cases q376
   have S381:=Fm.wk S370 (aC (aM 0 rfl) (aC (aM 1 rfl) aN)) aN
   obtain ⟨v382,H383,e384,S385⟩:=S381.land (dt:=dT_alarm_Due) (d:=48) (e:=0) (n:=0) h379 h380 (by decide) rfl
   erw [e384]
   refine .nd ((S385.atG (i:=0) rfl).ld (j:=1) rfl) ?_
   refine .nd ((S385.atG (i:=0) rfl).ld (j:=2) rfl) ?_
   refine .bd fun a387 h388 => ?_
   obtain ⟨v389,H390,e391,S392⟩:=S385.app (i:=0) (d:=55) (e:=2) (own:=false) (σ:=(10::1::1::1::1::0::1::1::1::0::1::0::σ)) rfl (h371.h H383).y h388 rfl (by decide) (by decide) rfl
   refine .op (e391) ?_
   refine .fa ?_
   refine .op ((S392.atG (i:=0) rfl).ld (j:=1) rfl) ?_
   refine .ci ?_
   refine .call (alarm_Table_At_o_ok k r362 h368 h369 (S392.atG (i:=1) rfl) a32.Key) fun r393 cs394 H395 h396 q397 => ?_
   cases q397
   refine .or ?_
   refine .ci ?_
   refine .or ?_
   refine .ab ?_
   refine .call (alarm_Table_Next_o_ok r362 h368 h369 (S392.atG (i:=1) rfl)) fun r398 cs399 H400 h401 q402 => ?_
   obtain ⟨w403,h404,q402⟩:=q402
   cases q402
   obtain rfl:=dT_alarm_Due.inv h404
   refine .or ?_
   refine .or ?_
   refine .ab ?_
   obtain ⟨H405,e406,S407⟩:=S392.al (d:=12) (s:=(5::0::1::1::1::1::1::0::1::0::σ)) (z:=[(.p (.int .i64 0)),(.p (.int .u64 0))]) (by decide) rfl
   refine .op (congrArg some e406) ?_
   obtain ⟨H409,e410,S411⟩:=S407.stGv (i:=0) (j:=0) (own:=false) (σ:=(6::0::1::1::1::1::1::0::1::0::σ)) (xs:=[(.p (.int .i64 r398.1.f_At)),(.p (.int .u64 r398.1.Key))]) rfl rfl (sC (sI _ _) (sC (sI _ _) sN)) rfl rfl
   refine .op (sM e410) ?_
   refine .op ((S411.sl (i:=0) rfl).len) ?_
   refine .ci ?_
   refine .call (alarm_Table_Len_o_ok r362 h368 h369 (S411.atG (i:=2) rfl)) fun r412 cs413 H414 h415 q416 => ?_
   cases q416
   refine .ci ?_
   refine .ch (P:=fun r y => r = y) ?_ (fun b417 y418 h419 h420 => ?_)
   ·refine .cq ?_ ?_
    ·exact .ret rfl rfl
    ·refine .op ((S411.sl (i:=0) rfl).len) ?_
     refine .ci ?_
     exact .ret rfl rfl
   subst h420
   refine .ch (P:=fun r y => (.p (.bool r),H409) = y) ?_ (fun b435 y436 h437 h438 => ?_)
   ·refine .cq ?_ ?_
    ·exact .ret rfl rfl
    ·refine .ch (P:=fun r y => (.p (.bool r),H409) = y) ?_ (fun b431 y432 h433 h434 => ?_)
     ·refine .cq ?_ ?_
      ·refine .op ((S411.atG (i:=0) rfl).ldVs (j:=0) (xs:=[(.p (.int .i64 r398.1.f_At)),(.p (.int .u64 r398.1.Key))]) rfl rfl (by decide)) ?_
       refine .call (zl12_first_ok k a387 (S411.sl (i:=0) rfl)) fun r421 cs422 H423 h424 q425 => ?_
       cases q425
       refine .ci ?_
       refine .nd ((S411.atG (i:=0) rfl).ldVs (j:=0) (xs:=[(.p (.int .i64 r398.1.f_At)),(.p (.int .u64 r398.1.Key))]) rfl rfl (by decide)) ?_
       refine .bd fun a426 h427 => ?_
       refine .op ((S411.sl (i:=0) rfl).iS h427 rfl) ?_
       obtain ⟨w429,h430,hE428⟩:=(S411.sl (i:=0) rfl).el h427 rfl
       obtain rfl:=dT_alarm_Due.inv h430
       refine .op (hE428.all (by simp)) ?_
       refine .op (nqS_ok (by kernel_rfl : _ = andL [r398.1.f_At == a426.f_At,r398.1.Key == a426.Key])) ?_
       refine .ab ?_
       exact .ret rfl rfl
      ·exact .ret rfl rfl
     subst h434
     refine .ab ?_
     exact .ret rfl rfl
   subst h438
   refine .ab ?_
   refine .cq ?_ ?_
   ·exact hE1 false H409 (S411.wk2 aN aN)
   refine .op ((S411.sl (i:=0) rfl).len) ?_
   refine .ci ?_
   refine .as (zl12_play_l1_ok ?_ k x0 a387 x5 r393.1 r393.2 0 false ((a387.length : Int)) 0 r362 a32 v18 h19 v389 c367 h368 h369 s25 (4::0::0::1::0::σ) H409 (S411.wk2 (aC (aM 2 rfl) (aC (aM 1 rfl) aN)) (aC ⟨[55,48],by simp,aM 0 rfl⟩ aN)))
   ·intro r440_0 r440_4 r440_5 r440_10 r440_11 r440_14 r440_15 yg127 v443 h444 v445 c447 h448 h449 s450 H441 S442
    refine .ext (zl12_play_a1_5 _ _ _ _ _ _ _ _ _ _ _ _) ?_
    refine .ch (P:=fun r y => r = y) ?_ (fun b452 y453 h454 h455 => ?_)
    ·refine .cq ?_ ?_
     ·exact .ret rfl rfl
     ·exact .ret rfl rfl
    subst h455
    refine .cq ?_ ?_
    ·exact hE1 false H441 (S442.wk2 aN aN)
    exact ih r440_0 r440_4 (IntKind.wrap .i64 (r440_5 + 1)) yg127 v443 h444 v445 c447 h448 h449 s450 H441 (S442.wk2 (aC (aM 0 rfl) aN) (aC ⟨[48,55,61,111],by simp,aM 0 rfl⟩ aN))
  exact hE0 yg13 c22 h23 h24 s25 H16 (S17.wk2 (aC (aM 0 rfl) aN) aN)
theorem zl12_play_ok (k : Nat) {h : H} {σ : Stamp} (x0 : List Tz12Ask) {u0 : V} (hu0 : SlH h dTz12Ask x0 u0) : Sim (p_zl12_play k x0) (ev G X0 18 σ [u0] h) (fun r s => s = ([.v (.p (.bool r))],h)):=by
 refine .ev rfl (Sim.ext (zl12_play_entry _ _ _ _ _) ?_)
 rw [p_zl12_play]
 have S0 : Fm 175 h [] [] [] (List.replicate 175 []::h):=Fm.start0
 refine .call (alarm_New_ok ) fun r1 cs2 H3 h4 q5 => ?_
 obtain ⟨s6,c7,h8,h9,q5⟩:=q5
 cases q5
 obtain ⟨H10,e11,S12⟩:=S0.landG (d:=18) (s:=s6) (cs:=[c7]) (by decide) rfl
 erw [e11]
 have S467:=S12.nil dT_alarm_Due []
 refine .as (zl12_play_l0_ok ?_ ?_ k x0 (([] : List T_alarm_Due)) 0 r1 u0 hu0 (.p (.slice none 0 0)) c7 h8 h9 s6 H10 (S467.wk2 (aC (aM 0 rfl) aN) (aC ⟨[],by simp,aM 0 rfl⟩ aN)))
 ·intro yg26 c471 h472 h473 s474 H469 S470
  refine .ext (zl12_play_a0_0 _ _ _ _ _) ?_
  refine .op ((by kernel_rfl : _ = some (.p (.bool true)))) ?_
  refine .ab ?_
  exact .fin (S470.finN (lC (sB _).lv lN)) rfl
 ·intro r476_2 H477 S478
  refine .ext (zl12_play_a0_ret _ _ _ _ _) ?_
  exact .fin (S478.finN (lC (sB _).lv lN)) rfl
def p_zl12_AlarmPlays_l0 {β : Type} (k : Nat) (kE0 : (List Tz12Ask)→(List Tz12Ask)→Option β) (x0 : (List Tz12Ask)) (x3 : (List Tz12Ask)) (x6 : Int) (x7 : Int) : Option β:=match k with
| 0 => none
| k + 1 =>
bif decide (x7 < x6) then (
(ix x0 x7).bind fun a10 =>
(ix x0 x7).bind fun a18 =>
(ix x0 x7).bind fun a26 =>
(ap 24 x3 ([((⟨(Int.tmod (IntKind.wrap .i64 ((Int.tmod a10.Kind 5) + 5)) 5),(intBits .and .u64 a18.Key 15),(intBits .and .i64 a26.f_At 31)⟩ : Tz12Ask))])).bind fun a35 =>
p_zl12_AlarmPlays_l0 k kE0 x0 a35 x6 (IntKind.wrap .i64 (x7 + 1)))
else (
kE0 x0 x3)
def p_zl12_AlarmPlays (k : Nat) (x0 : (List Tz12Ask)) : Option (Bool) :=
p_zl12_AlarmPlays_l0 k (fun r49_0 r49_3 =>
(p_zl12_play k r49_0).bind fun r56 =>
(bif r56 then ((p_zl12_play k r49_3).bind fun r61 =>
some r61) else (some false)).bind fun b66 =>
(bif b66 then ((p_zl12_known k).bind fun r70 =>
some r70) else (some false)).bind fun b75 =>
some (b75)) x0 (([] : List Tz12Ask)) ((x0.length : Int)) 0
theorem zl12_AlarmPlays_l0_ok {h : H}  {kE0 : (List Tz12Ask)→(List Tz12Ask)→Option β} (hE0 : ∀ (q0 : (List Tz12Ask)) (q3 : (List Tz12Ask)) (v43 : V) (h44 : SlH h dTz12Ask q0 v43) (v45 : V) (H41 : Go.Ev.H) (_ : Fm 44 h [] [] [⟨[33],v45,dTz12Ask,q3⟩] H41),Sim (kE0 q0 q3) (K ((.exit 0),(envL [(0,v43),(3,v45)]),H41)) Q) (k : Nat) : ∀ (x0 : (List Tz12Ask)) (x3 : (List Tz12Ask)) (x6 : Int) (x7 : Int) (v5 : V) (h6 : SlH h dTz12Ask x0 v5) (v7 : V) (H3 : Go.Ev.H) (_ : Fm 44 h [] [] [⟨[33],v7,dTz12Ask,x3⟩] H3) {σ : Stamp},Sim (p_zl12_AlarmPlays_l0 k kE0 x0 x3 x6 x7) ((cvL G X0 zl12_AlarmPlays_c0 zl12_AlarmPlays_l0 σ (envL [(0,v5),(3,v7),(6,(.p (.int .i64 x6))),(7,(.p (.int .i64 x7)))]) H3).bind K) Q:=by
 induction k with
 | zero => intros; exact .no
 | succ k ih =>
  intro x0 x3 x6 x7 v5 h6 v7 H3 S4 σ
  rw [p_zl12_AlarmPlays_l0]
  refine .round (Sim.ext (zl12_AlarmPlays_r0 _ _ _ _ _ _ _ _) ?_)
  refine .cq ?_ ?_
  ·refine .bd fun a10 h11 => ?_
   refine .op ((S4.low h6).iS h11 rfl) ?_
   obtain ⟨w13,h14,hE12⟩:=(S4.low h6).el h11 rfl
   obtain rfl:=dTz12Ask.inv h14
   refine .op (hE12.fa (j:=0) (by simp)) ?_
   obtain ⟨w16,h17,hE15⟩:=(S4.low h6).el h11 rfl
   obtain rfl:=dTz12Ask.inv h17
   refine .op (hE15.ld (j:=0) rfl) ?_
   refine .ci ?_
   refine .bd fun a18 h19 => ?_
   refine .op ((S4.low h6).iS h19 rfl) ?_
   obtain ⟨w21,h22,hE20⟩:=(S4.low h6).el h19 rfl
   obtain rfl:=dTz12Ask.inv h22
   refine .op (hE20.fa (j:=1) (by simp)) ?_
   obtain ⟨w24,h25,hE23⟩:=(S4.low h6).el h19 rfl
   obtain rfl:=dTz12Ask.inv h25
   refine .op (hE23.ld (j:=1) rfl) ?_
   refine .ci ?_
   refine .bd fun a26 h27 => ?_
   refine .op ((S4.low h6).iS h27 rfl) ?_
   obtain ⟨w29,h30,hE28⟩:=(S4.low h6).el h27 rfl
   obtain rfl:=dTz12Ask.inv h30
   refine .op (hE28.fa (j:=2) (by simp)) ?_
   obtain ⟨w32,h33,hE31⟩:=(S4.low h6).el h27 rfl
   obtain rfl:=dTz12Ask.inv h33
   refine .op (hE31.ld (j:=2) rfl) ?_
   refine .ci ?_
   refine .op (bldV (pC rfl (pC rfl (pC rfl pN))) (by kernel_rfl : _ = some (.agg [.p (.int .i64 (Int.tmod (IntKind.wrap .i64 ((Int.tmod a10.Kind 5) + 5)) 5)),.p (.int .u64 (intBits .and .u64 a18.Key 15)),.p (.int .i64 (intBits .and .i64 a26.f_At 31))]))) ?_
   have h34 : SlF dTz12Ask [((⟨(Int.tmod (IntKind.wrap .i64 ((Int.tmod a10.Kind 5) + 5)) 5),(intBits .and .u64 a18.Key 15),(intBits .and .i64 a26.f_At 31)⟩ : Tz12Ask))] (.fz [(.p (.int .i64 (Int.tmod (IntKind.wrap .i64 ((Int.tmod a10.Kind 5) + 5)) 5))),(.p (.int .u64 (intBits .and .u64 a18.Key 15))),(.p (.int .i64 (intBits .and .i64 a26.f_At 31)))] 1 3 true):=SlF.lit (cs:=[(.p (.int .i64 (Int.tmod (IntKind.wrap .i64 ((Int.tmod a10.Kind 5) + 5)) 5))),(.p (.int .u64 (intBits .and .u64 a18.Key 15))),(.p (.int .i64 (intBits .and .i64 a26.f_At 31)))]) (RL.cons (show dTz12Ask.R ((⟨(Int.tmod (IntKind.wrap .i64 ((Int.tmod a10.Kind 5) + 5)) 5),(intBits .and .u64 a18.Key 15),(intBits .and .i64 a26.f_At 31)⟩ : Tz12Ask)) [.p (.int .i64 (Int.tmod (IntKind.wrap .i64 ((Int.tmod a10.Kind 5) + 5)) 5)),.p (.int .u64 (intBits .and .u64 a18.Key 15)),.p (.int .i64 (intBits .and .i64 a26.f_At 31))] from (dTz12Ask.mk)) RL.nil) rfl rfl true
   refine .op (bldS (pC (c:=[.p (.int .i64 (Int.tmod (IntKind.wrap .i64 ((Int.tmod a10.Kind 5) + 5)) 5)),.p (.int .u64 (intBits .and .u64 a18.Key 15)),.p (.int .i64 (intBits .and .i64 a26.f_At 31))]) rfl pN) (by kernel_rfl : _ = some (vOf h34))) ?_
   refine .bd fun a35 h36 => ?_
   obtain ⟨v37,H38,e39,S40⟩:=S4.app (i:=0) (d:=33) (e:=3) (own:=false) (σ:=(23::1::0::1::1::0::σ)) rfl (h34.h H3).y h36 rfl (by decide) (by decide) rfl
   refine .op (e39) ?_
   exact ih x0 a35 x6 (IntKind.wrap .i64 (x7 + 1)) v5 h6 v37 H38 (S40.wk2 aN (aC ⟨[33,33],by simp,aM 0 rfl⟩ aN))
  exact hE0 x0 x3 v5 h6 v7 H3 (S4.wk2 aN (aC ⟨[33],by simp,aM 0 rfl⟩ aN))
theorem zl12_AlarmPlays_ok (k : Nat) {h : H} {σ : Stamp} (x0 : List Tz12Ask) {u0 : V} (hu0 : SlH h dTz12Ask x0 u0) : Sim (p_zl12_AlarmPlays k x0) (ev G X0 5 σ [u0] h) (fun r s => s = ([.v (.p (.bool r))],h)):=by
 refine .ev rfl (Sim.ext (zl12_AlarmPlays_entry _ _ _ _ _) ?_)
 rw [p_zl12_AlarmPlays]
 have S0 : Fm 44 h [] [] [] (List.replicate 44 []::h):=Fm.start0
 refine .op ((S0.low hu0).len) ?_
 refine .ci ?_
 have S48:=S0.nil dTz12Ask []
 refine .as (zl12_AlarmPlays_l0_ok ?_ k x0 (([] : List Tz12Ask)) ((x0.length : Int)) 0 u0 hu0 (.p (.slice none 0 0)) (List.replicate 44 []::h) (S48.wk2 aN (aC ⟨[],by simp,aM 0 rfl⟩ aN)))
 ·intro r49_0 r49_3 v52 h53 v54 H50 S51
  refine .ext (zl12_AlarmPlays_a0_0 _ _ _ _ _ _) ?_
  refine .call (zl12_play_ok k r49_0 (S51.low h53)) fun r56 cs57 H58 h59 q60 => ?_
  cases q60
  refine .ab ?_
  refine .ch (P:=fun r y => (.p (.bool r),H50) = y) ?_ (fun b66 y67 h68 h69 => ?_)
  ·refine .cq ?_ ?_
   ·refine .call (zl12_play_ok k r49_3 (S51.sl (i:=0) rfl)) fun r61 cs62 H63 h64 q65 => ?_
    cases q65
    refine .ab ?_
    exact .ret rfl rfl
   ·exact .ret rfl rfl
  subst h69
  refine .ab ?_
  refine .ch (P:=fun r y => (.p (.bool r),H50) = y) ?_ (fun b75 y76 h77 h78 => ?_)
  ·refine .cq ?_ ?_
   ·refine .call (zl12_known_ok k ) fun r70 cs71 H72 h73 q74 => ?_
    cases q74
    refine .ab ?_
    exact .ret rfl rfl
   ·exact .ret rfl rfl
  subst h78
  refine .ab ?_
  exact .fin (S51.finN (lC (sB _).lv lN)) rfl
end
end Go.Ev
namespace Go.Ev
namespace Alm
open Srt
theorem dropL {key : Int} {w : List D} (h1000 : w.length ≤ 1000) : ∀ m i k : Nat,i + m = w.length→m + 5 ≤ k →
  p_zl12_drop_l0 k (fun r => some r) key (dropK (w.take i) key) w (w.length : Int) (i : Int) = some (dropK w key):=by
 intro m
 induction m with
 | zero =>
  intro i k hi hk
  obtain ⟨k,rfl⟩ : ∃ j,k = j + 1:=⟨k - 1,by omega⟩
  rw [p_zl12_drop_l0,decide_eq_false (by omega),cond_false,List.take_of_length_le (by omega)]
 | succ m ih =>
  intro i k hi hk
  obtain ⟨k,rfl⟩ : ∃ j,k = j + 1:=⟨k - 1,by omega⟩
  have ht : w.take (i + 1) = w.take i ++ [w.getD i z0]:=by
   rw [List.take_add_one,List.getElem?_eq_getElem (by omega),getD_get (by omega)]; rfl
  have hd : dropK (w.take (i + 1)) key = dropK (w.take i) key ++ (if (w.getD i z0).Key != key then [w.getD i z0] else []):=by
   unfold dropK
   rw [ht,List.filter_append]
   congr 1
   cases h : ((w.getD i z0).Key != key) <;> simp only [List.filter_cons,h,List.filter_nil,if_true,Bool.false_eq_true,if_false]
  have hle : (dropK (w.take i) key).length ≤ i:=Nat.le_trans (List.length_filter_le ..) (by rw [List.length_take]; omega)
  rw [p_zl12_drop_l0,decide_eq_true (by omega),cond_true,ix_g (by omega),Option.bind_some,wS (by omega)]
  have nx:=ih (i + 1) k (by omega) (by omega)
  cases h : ((w.getD i z0).Key != key)
  ·rw [cond_false]
   rw [hd,h] at nx
   simpa using nx
  ·rw [cond_true,ap_eq (by omega) (by simp; omega),Option.bind_some]
   rw [hd,h] at nx
   exact nx
theorem drop_ok {key : Int} {w : List D} (h1000 : w.length ≤ 1000) {k : Nat} (hk : 1100 ≤ k) : p_zl12_drop k w key = some (dropK w key):=by
 unfold p_zl12_drop
 exact dropL h1000 w.length 0 k (by omega) (by omega)
theorem less_kv {a b : D} (ha : OkD a) (hb : OkD b) : (bif decide (a.f_At < b.f_At) then true else (bif a.f_At == b.f_At then decide (a.Key < b.Key) else false)) = decide (kv a < kv b):=by
 obtain ⟨a0,a1⟩:=ha
 obtain ⟨b0,b1⟩:=hb
 unfold kv
 by_cases h1 : a.f_At < b.f_At
 ·rw [decide_eq_true h1,cond_true]; symm; exact decide_eq_true (by omega)
 ·rw [decide_eq_false h1,cond_false]
  by_cases h2 : a.f_At = b.f_At
  ·rw [h2,beq_self_eq_true,cond_true,Bool.eq_iff_iff,decide_eq_true_eq,decide_eq_true_eq]; omega
  ·rw [beq_eq_false_iff_ne.2 h2,cond_false]; symm; exact decide_eq_false (by omega)
theorem firstL {w : List D} (ho : OkDs w) (h1000 : w.length ≤ 1000) : ∀ m i b k : Nat,i + m = w.length→m + 5 ≤ k→b < w.length→(∀ q,q < i→g w b ≤ g w q) →
  ∃ r : Nat,p_zl12_first_l0 k (fun r => some r) w (b : Int) (w.length : Int) (i : Int) = some (r : Int)∧r < w.length∧∀ q,q < w.length→g w r ≤ g w q:=by
 intro m
 induction m with
 | zero =>
  intro i b k hi hk hb hq
  obtain ⟨k,rfl⟩ : ∃ j,k = j + 1:=⟨k - 1,by omega⟩
  rw [p_zl12_first_l0,decide_eq_false (by omega),cond_false]
  exact ⟨b,rfl,hb,fun q h => hq q (by omega)⟩
 | succ m ih =>
  intro i b k hi hk hb hq
  obtain ⟨k,rfl⟩ : ∃ j,k = j + 1:=⟨k - 1,by omega⟩
  have lk:=less_kv (getD_ok ho i) (getD_ok ho b)
  have e : ((bif decide ((w.getD i z0).f_At < (w.getD b z0).f_At) then (some true) else ((bif (w.getD i z0).f_At == (w.getD b z0).f_At then (some (decide ((w.getD i z0).Key < (w.getD b z0).Key))) else (some false)).bind fun b54 => some b54))) = some (decide (g w i < g w b)):=by
   have e2 : g w i = kv (w.getD i z0):=rfl
   have e3 : g w b = kv (w.getD b z0):=rfl
   rw [e2,e3,← lk]
   cases decide ((w.getD i z0).f_At < (w.getD b z0).f_At)
   ·cases (w.getD i z0).f_At == (w.getD b z0).f_At <;> rfl
   ·rfl
  rw [p_zl12_first_l0,decide_eq_true (by omega),cond_true,ix_g (by omega),ix_g hb]
  simp only [Option.bind_some] at e ⊢
  rw [e,Option.bind_some,wS (by omega)]
  by_cases h : g w i < g w b
  ·rw [decide_eq_true h,cond_true]
   exact ih (i + 1) i k (by omega) (by omega) (by omega) fun q hq2 => by
    by_cases e : q = i
    ·rw [e]; exact Int.le_refl _
    ·have:=hq q (by omega); omega
  ·rw [decide_eq_false h,cond_false]
   exact ih (i + 1) b k (by omega) (by omega) hb fun q hq2 => by
    by_cases e : q = i
    ·rw [e]; omega
    ·exact hq q (by omega)
theorem first_ok {w : List D} (ho : OkDs w) (h1000 : w.length ≤ 1000) (h0 : 0 < w.length) {k : Nat} (hk : 1100 ≤ k) : ∃ r : Nat,p_zl12_first k w = some (r : Int)∧r < w.length∧∀ q,q < w.length→g w r ≤ g w q:=by
 unfold p_zl12_first
 exact firstL ho h1000 w.length 0 0 k (by omega) (by omega) h0 (fun q hq => by omega)
theorem first_head {x : D} {l w : List D} (ht : TOk (x::l)) (hp : (x::l).Perm w) (h1000 : w.length ≤ 1000) {k : Nat} (hk : 1100 ≤ k) : ∃ r : Nat,p_zl12_first k w = some (r : Int)∧r < w.length∧w.getD r z0 = x:=by
 have ho : OkDs w:=fun y hy => ht.ok y (hp.mem_iff.2 hy)
 have hlen:=hp.length_eq
 rw [List.length_cons] at hlen
 obtain ⟨r,e,h1,h2⟩:=first_ok ho h1000 (by omega) hk
 refine ⟨r,e,h1,?_⟩
 have hx : x ∈ w:=hp.mem_iff.1 (List.mem_cons_self ..)
 obtain ⟨q,hq,hqx⟩:=List.mem_iff_getElem.1 hx
 have e1:=h2 q hq
 have hr : w.getD r z0 ∈ x::l:=hp.mem_iff.2 (by rw [getD_get h1]; exact List.getElem_mem _)
 obtain ⟨p,hpl,hpx⟩:=List.mem_iff_getElem.1 hr
 have e2:=ht.od 0 p (by omega) (by omega) hpl
 have e3 : g (x::l) 0 = kv x:=rfl
 have e4 : g (x::l) p = kv (w.getD r z0):=by unfold g; rw [getD_get hpl,hpx]
 have e5 : g w q = kv x:=by unfold g; rw [getD_get hq,hqx]
 have e6 : g w r = kv (w.getD r z0):=rfl
 exact kv_inj (getD_ok ho r) (ht.ok x (List.mem_cons_self ..)) (by omega)
def Lk (l : List D) (key t : Int) (b : Bool) : Prop:=(b = false∧t = 0∧∀ x ∈ l,x.Key ≠ key) ∨ (b = true∧∃ x ∈ l,x.Key = key∧x.f_At = t)
theorem key_one : ∀ {l : List D} {x y : D},(l.map fun x => x.Key).Nodup→x ∈ l→y ∈ l→x.Key = y.Key→x = y
 | [],_,_,_,h,_,_ => by cases h
 | z::l,x,y,hn,hx,hy,he => by
  rw [List.map_cons,List.nodup_cons] at hn
  rcases List.mem_cons.1 hx with hx' | hx'
  ·rcases List.mem_cons.1 hy with hy' | hy'
   ·rw [hx',hy']
   ·exact (hn.1 (by rw [← hx',he]; exact List.mem_map_of_mem (f:=fun x : D => x.Key) hy')).elim
  ·rcases List.mem_cons.1 hy with hy' | hy'
   ·exact (hn.1 (by rw [← hy',← he]; exact List.mem_map_of_mem (f:=fun x : D => x.Key) hx')).elim
   ·exact key_one hn.2 hx' hy' he
theorem Lk.same {l w : List D} {key t t' : Int} {b b' : Bool} (hn : (l.map fun x => x.Key).Nodup) (hp : l.Perm w) (h : Lk l key t b) (h' : Lk w key t' b') : t = t'∧b = b':=by
 rcases h with ⟨rfl,rfl,h⟩ | ⟨rfl,x,hx,hk,rfl⟩
 ·rcases h' with ⟨rfl,rfl,_⟩ | ⟨rfl,y,hy,hk',rfl⟩
  ·exact ⟨rfl,rfl⟩
  ·exact (h y (hp.mem_iff.2 hy) hk').elim
 ·rcases h' with ⟨rfl,rfl,h'⟩ | ⟨rfl,y,hy,hk',rfl⟩
  ·exact (h' x (hp.mem_iff.1 hx) hk).elim
  ·rw [key_one hn hx (hp.mem_iff.2 hy) (by rw [hk,hk'])]
   exact ⟨rfl,rfl⟩
theorem at_ok {l : List D} {key : Int} (h1000 : l.length ≤ 1000) {k : Nat} (hk : 1100 ≤ k) : ∃ t b,p_alarm_Table_At_o k ⟨l⟩ key = some (t,b)∧Lk l key t b:=by
 unfold p_alarm_Table_At_o
 obtain ⟨r,e,h⟩:=find_ok (l:=l) (key:=key) h1000 hk
 rw [e,Option.bind_some]
 rcases h with ⟨rfl,h⟩ | ⟨j,rfl,hj,hkey⟩
 ·exact ⟨0,false,rfl,.inl ⟨rfl,rfl,h⟩⟩
 ·rw [decide_eq_false (by omega),cond_false,ix_g hj,Option.bind_some]
  exact ⟨_,true,rfl,.inr ⟨rfl,_,by rw [getD_get hj]; exact List.getElem_mem _,hkey,rfl⟩⟩
theorem scanL {β : Type} (kE : List Tz12Ask→List D→Int→Int→Bool→Int→Bool→T_alarm_Table→Option β) {x0 : List Tz12Ask} {w : List D} {x5 x10 : Int} {x11 : Bool} {yg : T_alarm_Table} {ask : Tz12Ask} (h1000 : w.length ≤ 1000) : ∀ m i k : Nat,∀ t b,i + m = w.length→m + 5 ≤ k→Lk (w.take i) ask.Key t b→(w.map fun x => x.Key).Nodup →
  ∃ t' b',p_zl12_play_l1 k kE x0 w x5 x10 x11 t b (w.length : Int) (i : Int) yg ask = kE x0 w x5 x10 x11 t' b' yg∧Lk w ask.Key t' b':=by
 intro m
 induction m with
 | zero =>
  intro i k t b hi hk hlk hn
  obtain ⟨k,rfl⟩ : ∃ j,k = j + 1:=⟨k - 1,by omega⟩
  rw [p_zl12_play_l1,decide_eq_false (by omega),cond_false]
  rw [List.take_of_length_le (by omega)] at hlk
  exact ⟨t,b,rfl,hlk⟩
 | succ m ih =>
  intro i k t b hi hk hlk hn
  obtain ⟨k,rfl⟩ : ∃ j,k = j + 1:=⟨k - 1,by omega⟩
  have ht : w.take (i + 1) = w.take i ++ [w.getD i z0]:=by
   rw [List.take_add_one,List.getElem?_eq_getElem (by omega),getD_get (by omega)]; rfl
  rw [p_zl12_play_l1,decide_eq_true (by omega),cond_true,ix_g (by omega),Option.bind_some,wS (by omega)]
  by_cases h : (w.getD i z0).Key = ask.Key
  ·rw [beq_iff_eq.2 h,cond_true]
   exact ih (i + 1) k _ _ (by omega) (by omega) (.inr ⟨rfl,w.getD i z0,by rw [ht]; simp,h,rfl⟩) hn
  ·rw [beq_eq_false_iff_ne.2 h,cond_false]
   refine ih (i + 1) k _ _ (by omega) (by omega) ?_ hn
   rw [ht]
   rcases hlk with ⟨h1,h2,h3⟩ | ⟨h1,x,hx,h2⟩
   ·exact .inl ⟨h1,h2,fun x hx => by
     rcases List.mem_append.1 hx with hx | hx
     ·exact h3 x hx
     ·rw [List.mem_singleton.1 hx]; exact h⟩
   ·exact .inr ⟨h1,x,List.mem_append_left _ hx,h2⟩
def tailP {β : Type} (k : Nat) (kE0 : T_alarm_Table→Option β) (kE1 : Bool→Option β) (x0 : List Tz12Ask) (w : List D) (x5 : Int) (tb : T_alarm_Table) (ask : Tz12Ask) : Option β :=
 (p_alarm_Table_At_o k tb ask.Key).bind fun r70 =>
 (p_alarm_Table_Next_o tb).bind fun r75 =>
 (p_alarm_Table_Len_o tb).bind fun r89 =>
 (bif r89 != ((w.length : Int)) then (some true) else (some (!(r75.2 == (decide (((w.length : Int)) > 0)))))).bind fun b94 =>
 (bif b94 then (some true) else ((bif r75.2 then ((p_zl12_first k w).bind fun r98 => (ix w r98).bind fun a103 => some (!(andB [r75.1.f_At == a103.f_At,r75.1.Key == a103.Key]))) else (some false)).bind fun b108 => some b108)).bind fun b112 =>
 bif b112 then (kE1 false) else (
 p_zl12_play_l1 k (fun r155_0 r155_4 r155_5 r155_10 r155_11 r155_14 r155_15 yg127 =>
  (bif r155_10 != r155_14 then (some true) else (some (!(r155_11 == r155_15)))).bind fun b167 =>
  bif b167 then (kE1 false) else (p_zl12_play_l0 k kE0 kE1 r155_0 r155_4 (IntKind.wrap .i64 (r155_5 + 1)) yg127)) x0 w x5 r70.1 r70.2 0 false ((w.length : Int)) 0 tb ask)
theorem tail_ok {β : Type} {k : Nat} {kE0 : T_alarm_Table→Option β} {kE1 : Bool→Option β} {x0 : List Tz12Ask} {l w : List D} {x5 : Int} {ask : Tz12Ask} (ht : TOk l) (hp : l.Perm w) (h1000 : w.length ≤ 1000) (hk : 1100 ≤ k) :
  tailP k kE0 kE1 x0 w x5 ⟨l⟩ ask = p_zl12_play_l0 k kE0 kE1 x0 w (IntKind.wrap .i64 (x5 + 1)) ⟨l⟩:=by
 have hlen:=hp.length_eq
 obtain ⟨t,b,e1,e2⟩:=at_ok (l:=l) (key:=ask.Key) (by omega) hk
 have hnw : (w.map fun x => x.Key).Nodup:=(hp.map _).nodup_iff.1 ht.nd
 unfold tailP
 rw [e1,Option.bind_some,Go.Ev.Alm.next_ok,Option.bind_some]
 unfold p_alarm_Table_Len_o
 rw [Option.bind_some]
 simp only
 rw [show ((l.length : Int) != (w.length : Int)) = false by rw [hlen,bne_self_eq_false],cond_false,Option.bind_some]
 obtain ⟨t',b',s1,s2⟩:=scanL (fun r155_0 r155_4 r155_5 r155_10 r155_11 r155_14 r155_15 yg127 => (bif r155_10 != r155_14 then (some true) else (some (!(r155_11 == r155_15)))).bind fun b167 => bif b167 then (kE1 false) else (p_zl12_play_l0 k kE0 kE1 r155_0 r155_4 (IntKind.wrap .i64 (r155_5 + 1)) yg127)) (x0:=x0) (x5:=x5) (x10:=t) (x11:=b) (yg:=⟨l⟩) (ask:=ask) h1000 w.length 0 k 0 false (by omega) (by omega) (.inl ⟨rfl,rfl,fun x hx => by simp at hx⟩) hnw
 obtain ⟨q1,q2⟩:=Lk.same ht.nd hp e2 s2
 have fin : p_zl12_play_l1 k (fun r155_0 r155_4 r155_5 r155_10 r155_11 r155_14 r155_15 yg127 => (bif r155_10 != r155_14 then (some true) else (some (!(r155_11 == r155_15)))).bind fun b167 => bif b167 then (kE1 false) else (p_zl12_play_l0 k kE0 kE1 r155_0 r155_4 (IntKind.wrap .i64 (r155_5 + 1)) yg127)) x0 w x5 t b 0 false ((w.length : Int)) 0 ⟨l⟩ ask = p_zl12_play_l0 k kE0 kE1 x0 w (IntKind.wrap .i64 (x5 + 1)) ⟨l⟩:=by
  refine Eq.trans s1 ?_
  simp only [q1,q2,bne_self_eq_false,beq_self_eq_true,cond_false,Bool.not_true,Option.bind_some]
 cases l with
 | nil =>
  have hw : w.length = 0:=by simpa using hlen.symm
  rw [hw] at fin ⊢
  have e : decide (((0 : Nat) : Int) > 0) = false:=rfl
  simp only [e,beq_self_eq_true,Bool.not_true,cond_false,Option.bind_some]
  exact fin
 | cons x l =>
  obtain ⟨r,f1,f2,f3⟩:=first_head ht hp h1000 hk
  have e : decide ((w.length : Int) > 0) = true:=decide_eq_true (by omega)
  rw [f1]
  simp only [e,beq_self_eq_true,Bool.not_true,cond_true,cond_false,Option.bind_some]
  rw [ix_g f2,f3]
  simp only [Option.bind_some,beq_self_eq_true,andB,Bool.and_true,Bool.not_true,cond_false]
  exact fin
theorem due_loop {β : Type} {now : Int} (kE0 : List Tz12Ask→List D→Int→List D→T_alarm_Table→Tz12Ask→Option β) (kE1 : Bool→Option β) {x0 : List Tz12Ask} {x5 : Int} {ask : Tz12Ask} (hnow : ask.f_At = now) {rest : List D} (hr : ∀ x ∈ rest,¬ x.f_At ≤ now) : ∀ got w : List D,∀ k : Nat,got.length + 1200 ≤ k→(∀ x ∈ got,x.f_At ≤ now)→TOk (got ++ rest)→(got ++ rest).Perm w→w.length ≤ 1000 →
  ∃ w',p_zl12_play_l2 k kE0 kE1 x0 w x5 got ⟨rest⟩ ask = kE0 x0 w' x5 [] ⟨rest⟩ ask∧rest.Perm w'∧w'.length ≤ w.length:=by
 intro got
 induction got with
 | nil =>
  intro w k hk _ ht hp h1000
  obtain ⟨k,rfl⟩ : ∃ j,k = j + 1:=⟨k - 1,by simp at hk; omega⟩
  rw [List.nil_append] at hp ht
  have hlen:=hp.length_eq
  have no : (bif decide ((w.length : Int) > 0) then ((p_zl12_first k w).bind fun r199 => (ix w r199).bind fun a204 => some (decide (a204.f_At ≤ ask.f_At))) else (some false)) = some false:=by
   cases hc : rest with
   | nil =>
    rw [hc] at hlen
    rw [decide_eq_false (by simp at hlen; omega),cond_false]
   | cons x xs =>
    rw [hc] at hp ht hlen
    obtain ⟨r,f1,f2,f3⟩:=first_head ht hp h1000 (k:=k) (by simp at hk; omega)
    rw [decide_eq_true (by omega),cond_true,f1,Option.bind_some,ix_g f2,Option.bind_some,f3,hnow,decide_eq_false (hr x (by rw [hc]; exact List.mem_cons_self ..))]
  rw [p_zl12_play_l2,no,Option.bind_some,cond_false]
  exact ⟨w,rfl,hp,Nat.le_refl _⟩
 | cons d got ih =>
  intro w k hk hg ht hp h1000
  obtain ⟨k,rfl⟩ : ∃ j,k = j + 1:=⟨k - 1,by simp at hk; omega⟩
  rw [List.length_cons] at hk
  have hlen:=hp.length_eq
  rw [List.cons_append] at hp ht hlen
  rw [List.length_cons] at hlen
  obtain ⟨r,f1,f2,f3⟩:=first_head ht hp h1000 (k:=k) (by omega)
  have hd:=hg d (List.mem_cons_self ..)
  have yes : (bif decide ((w.length : Int) > 0) then ((p_zl12_first k w).bind fun r199 => (ix w r199).bind fun a204 => some (decide (a204.f_At ≤ ask.f_At))) else (some false)) = some true:=by
   rw [decide_eq_true (by omega),cond_true,f1,Option.bind_some,ix_g f2,Option.bind_some,f3,hnow,decide_eq_true hd]
  have hnd:=ht.nd
  rw [List.map_cons,List.nodup_cons] at hnd
  have hdrop : dropK (d::(got ++ rest)) d.Key = got ++ rest:=by
   have:=dropK_at (key:=d.Key) (d::(got ++ rest)) 0 ht.nd (by simp) rfl
   simpa using this
  have hp' : (got ++ rest).Perm (dropK w d.Key):=by
   have:=hp.filter fun x => x.Key != d.Key
   rw [show List.filter (fun x => x.Key != d.Key) (d::(got ++ rest)) = got ++ rest from hdrop] at this
   exact this
  have hle : (dropK w d.Key).length ≤ w.length:=List.length_filter_le ..
  have ht' : TOk (got ++ rest):=⟨fun x hx => ht.ok x (List.mem_cons_of_mem _ hx),fun p q h1 h2 h3 => ht.od (p + 1) (q + 1) (by omega) (by omega) (by rw [List.length_cons]; omega),hnd.2⟩
  obtain ⟨w',e1,e2,e3⟩:=ih (dropK w d.Key) k (by omega) (fun x hx => hg x (List.mem_cons_of_mem _ hx)) ht' hp' (by omega)
  refine ⟨w',?_,e2,by omega⟩
  rw [p_zl12_play_l2,yes,Option.bind_some,cond_true,f1,Option.bind_some,ix_g f2,Option.bind_some,f3]
  have h0 : (((d::got).length : Int) == 0) = false:=beq_eq_false_iff_ne.2 (by simp; omega)
  have hx : ix (d::got) 0 = some d:=rfl
  have hs : sub (d::got) 1 ((d::got).length : Int) = some got:=by
   unfold sub
   rw [if_pos ⟨by omega,by simp; omega,by omega⟩]
   simp
  rw [h0,hx,hs]
  simp only [cond_false,Option.bind_some,beq_self_eq_true,andB,Bool.and_true,Bool.not_true]
  rw [drop_ok h1000 (by omega),Option.bind_some]
  exact e1
theorem play_l0 {β : Type} (kE0 : T_alarm_Table→Option β) (kE1 : Bool→Option β) {asks : List Tz12Ask} (hasks : ∀ a ∈ asks,0 ≤ a.Key∧a.Key < 18446744073709551616) (hlen : asks.length < 2 ^ 50) : ∀ m i k : Nat,∀ l w : List D,i + m = min asks.length 120→m + 4200 < k→TOk l→l.Perm w→w.length ≤ i →
  ∃ l',p_zl12_play_l0 k kE0 kE1 asks w (i : Int) ⟨l⟩ = kE0 ⟨l'⟩:=by
 intro m
 induction m with
 | zero =>
  intro i k l w hi hk ht hp hw
  obtain ⟨k,rfl⟩ : ∃ j,k = j + 1:=⟨k - 1,by omega⟩
  have hno : (bif decide ((i : Int) < (asks.length : Int)) then some (decide ((i : Int) < 120)) else some false) = some false:=by
   by_cases h : (i : Int) < (asks.length : Int)
   ·rw [decide_eq_true h,cond_true,decide_eq_false (by omega)]
   ·rw [decide_eq_false h,cond_false]
  rw [p_zl12_play_l0,hno,Option.bind_some,cond_false]
  exact ⟨l,rfl⟩
 | succ m ih =>
  intro i k l w hi hk ht hp hw
  obtain ⟨k,rfl⟩ : ∃ j,k = j + 1:=⟨k - 1,by omega⟩
  have hlw:=hp.length_eq
  have h1000 : w.length ≤ 1000:=by omega
  obtain ⟨a,ha,hax⟩ : ∃ a,a ∈ asks∧ix asks (i : Int) = some a:=by
   refine ⟨asks[i]'(by omega),List.getElem_mem _,?_⟩
   unfold ix
   rw [if_pos (by omega),Int.toNat_natCast,List.getElem?_eq_getElem (by omega)]
  obtain ⟨k0,k1⟩:=hasks a ha
  rw [p_zl12_play_l0,decide_eq_true (by omega),cond_true,Option.bind_some,decide_eq_true (by omega),cond_true,hax,Option.bind_some]
  have hdp : (dropK l a.Key).Perm (dropK w a.Key):=hp.filter _
  have hdl : (dropK w a.Key).length ≤ w.length:=List.length_filter_le ..
  have htd : TOk (dropK l a.Key):=by
   refine ⟨fun x hx => ht.ok x (List.mem_filter.1 hx).1,?_,ht.nd.sublist (List.filter_sublist.map _)⟩
   obtain ⟨r,e,h⟩:=find_ok (l:=l) (key:=a.Key) (by omega) (k:=1100) (Nat.le_refl _)
   rcases h with ⟨_,h⟩ | ⟨j,_,hj,hkey⟩
   ·rw [dropK_none h]; exact ht.od
   ·have hd:=dropK_at l j ht.nd hj hkey
    rw [hd]
    intro p q _ h2 h3
    rw [List.length_append,List.length_take,List.length_drop,Nat.min_eq_left (by omega)] at h3
    have gg : ∀ t,t < l.length - 1→g (l.take j ++ l.drop (j + 1)) t = if t < j then g l t else g l (t + 1):=fun t ht2 => by
     unfold g
     rw [List.getD_eq_getElem?_getD]
     by_cases h : t < j
     ·rw [if_pos h,List.getElem?_append_left (by rw [List.length_take]; omega),List.getElem?_take_of_lt h,← List.getD_eq_getElem?_getD]
     ·rw [if_neg h,List.getElem?_append_right (by rw [List.length_take]; omega),List.getElem?_drop,List.length_take,Nat.min_eq_left (by omega),show j + 1 + (t - j) = t + 1 by omega,← List.getD_eq_getElem?_getD]
    rw [gg p (by omega),gg q (by omega)]
    split
    ·split
     ·exact ht.od p q (by omega) h2 (by omega)
     ·exact ht.od p (q + 1) (by omega) (by omega) (by omega)
    ·rw [if_neg (by omega)]
     exact ht.od (p + 1) (q + 1) (by omega) (by omega) (by omega)
  by_cases c3 : a.Kind = 3
  ·rw [beq_iff_eq.2 c3,cond_true,drop_ok h1000 (by omega),Option.bind_some,clear_ok ht (by omega) (by omega),Option.bind_some]
   have eq1 : decide ((dropK l a.Key).length < l.length) = decide (((dropK w a.Key).length : Int) < (w.length : Int)):=by
    have:=hdp.length_eq
    rw [Bool.eq_iff_iff,decide_eq_true_eq,decide_eq_true_eq]; omega
   simp only
   rw [eq1,beq_self_eq_true,Bool.not_true,cond_false]
   have nx:=ih (i + 1) k (dropK l a.Key) (dropK w a.Key) (by omega) (by omega) htd hdp (by omega)
   obtain ⟨l',n1⟩:=nx
   refine ⟨l',Eq.trans ?_ n1⟩
   rw [← wS (i:=i) (by omega)]
   exact tail_ok (kE0:=kE0) (kE1:=kE1) (x0:=asks) (x5:=(i : Int)) (ask:=a) htd hdp (by omega) (by omega)
  ·rw [beq_eq_false_iff_ne.2 c3,cond_false]
   by_cases c4 : a.Kind = 4
   ·rw [beq_iff_eq.2 c4,cond_true]
    obtain ⟨n,d1,d2,d3,d4⟩:=due_ok (now:=a.f_At) ht (by omega) (k:=k) (by omega)
    rw [d1,Option.bind_some]
    simp only
    have hpp : (l.take n ++ l.drop n).Perm w:=by rw [List.take_append_drop]; exact hp
    have htt : TOk (l.take n ++ l.drop n):=by rw [List.take_append_drop]; exact ht
    generalize hK : (fun (r278_0 : List Tz12Ask) (r278_4 : List D) (r278_5 : Int) (r278_8 : List D) (yg196 : T_alarm_Table) (yg198 : Tz12Ask) => _) = K
    obtain ⟨w',e1,e2,e3⟩:=due_loop K (fun r359_2 => kE1 r359_2) (x0:=asks) (x5:=(i : Int)) (ask:=a) rfl d4 (l.take n) w k (by rw [List.length_take]; omega) d3 htt hpp h1000
    have htd2 : TOk (l.drop n):=⟨fun x hx => ht.ok x (List.mem_of_mem_drop hx),fun p q h1 h2 h3 => by
     rw [List.length_drop] at h3
     have:=ht.od (n + p) (n + q) (by omega) (by omega) (by omega)
     unfold g at this ⊢
     rw [List.getD_eq_getElem?_getD,List.getD_eq_getElem?_getD,List.getElem?_drop,List.getElem?_drop,← List.getD_eq_getElem?_getD,← List.getD_eq_getElem?_getD]
     exact this,ht.nd.sublist ((List.drop_sublist n l).map _)⟩
    obtain ⟨l',n1⟩:=ih (i + 1) k (l.drop n) w' (by omega) (by omega) htd2 e2 (by omega)
    refine ⟨l',Eq.trans e1 (Eq.trans ?_ n1)⟩
    rw [← hK]
    simp only [List.length_nil]
    rw [show decide (((0 : Nat) : Int) > 0) = false from rfl,cond_false,← wS (i:=i) (by omega)]
    exact tail_ok (kE0:=kE0) (kE1:=kE1) (x0:=asks) (x5:=(i : Int)) (ask:=a) htd2 e2 (by omega) (by omega)
   ·rw [beq_eq_false_iff_ne.2 c4,cond_false]
    obtain ⟨l2,s1,s2,s3⟩:=set_ok (key:=a.Key) (t:=a.f_At) ht (by omega) k0 k1 (k:=k) (by omega)
    rw [s1,Option.bind_some,drop_ok h1000 (by omega),Option.bind_some,ap_eq (by omega) (by simp; omega),Option.bind_some]
    have hp2 : l2.Perm (dropK w a.Key ++ [⟨a.f_At,a.Key⟩]):=s3.trans (hdp.append_right _)
    obtain ⟨l',n1⟩:=ih (i + 1) k l2 (dropK w a.Key ++ [⟨a.f_At,a.Key⟩]) (by omega) (by omega) s2 hp2 (by simp; omega)
    refine ⟨l',Eq.trans ?_ n1⟩
    rw [← wS (i:=i) (by omega)]
    exact tail_ok (kE0:=kE0) (kE1:=kE1) (x0:=asks) (x5:=(i : Int)) (ask:=a) s2 hp2 (by simp; omega) (by omega)
theorem play_ok {asks : List Tz12Ask} (hasks : ∀ a ∈ asks,0 ≤ a.Key∧a.Key < 18446744073709551616) (hlen : asks.length < 2 ^ 50) {k : Nat} (hk : 5000 ≤ k) : p_zl12_play k asks = some true:=by
 unfold p_zl12_play p_alarm_New
 rw [Option.bind_some]
 obtain ⟨l',e⟩:=play_l0 (fun _ => some true) (fun r476_2 => some r476_2) hasks hlen (min asks.length 120) 0 k [] [] (by omega) (by have:=Nat.min_le_right asks.length 120; omega) ⟨fun x hx => (by cases hx),fun p q _ _ h => (by simp at h),(by simp)⟩ (.refl _) (by simp)
 exact e
theorem tok_nil : TOk []:=⟨fun x hx => (by cases hx),fun p q _ _ h => (by simp at h),(by simp)⟩
theorem known_ok {k : Nat} (hk : 5000 ≤ k) : p_zl12_known k = some true:=by
 unfold p_zl12_known p_alarm_New
 obtain ⟨l1,a1,a2,a3⟩:=set_ok (key:=1) (t:=5) tok_nil (by simp) (by omega) (by omega) (k:=k) (by omega)
 have e1 : l1 = [⟨5,1⟩]:=List.perm_singleton.1 a3
 subst e1
 obtain ⟨l2,b1,b2,b3⟩:=set_ok (key:=1) (t:=7) a2 (by simp) (by omega) (by omega) (k:=k) (by omega)
 have e2 : l2 = [⟨7,1⟩]:=List.perm_singleton.1 b3
 subst e2
 obtain ⟨n,c1,c2,c3,c4⟩:=due_ok (now:=6) b2 (by simp) (k:=k) (by omega)
 have hn : n = 0:=by
  cases n with
  | zero => rfl
  | succ n => exact absurd (c3 ⟨7,1⟩ (by simp)) (by decide)
 subst hn
 obtain ⟨l3,d1,d2,d3⟩:=set_ok (l:=[⟨7,1⟩]) (key:=2) (t:=7) b2 (by simp) (by omega) (by omega) (k:=k) (by omega)
 have d3 : l3.Perm [⟨7,1⟩,⟨7,2⟩]:=d3
 have len3 : l3.length = 2:=d3.length_eq
 obtain ⟨x,y,rfl⟩ : ∃ x y,l3 = [x,y]:=by
  match l3,len3 with
  | [x,y],_ => exact ⟨x,y,rfl⟩
 have hx : x = ⟨7,1⟩:=by
  have m1 : x = ⟨7,1⟩ ∨ x = ⟨7,2⟩:=by simpa using d3.mem_iff.1 (List.mem_cons_self ..)
  rcases m1 with h | h
  ·exact h
  ·have m2 : (⟨7,1⟩ : D) = x ∨ (⟨7,1⟩ : D) = y:=by simpa using d3.mem_iff.2 (List.mem_cons_self ..)
   rcases m2 with h' | h'
   ·exact h'.symm
   ·have:=d2.od 0 1 (by omega) (by omega) (by simp)
    have g0 : g [x,y] 0 = kv x:=rfl
    have g1 : g [x,y] 1 = kv y:=rfl
    rw [g0,g1,h,← h'] at this
    exact absurd this (by decide)
 obtain ⟨m,f1,f2,f3,f4⟩:=due_ok (now:=7) d2 (by simp) (k:=k) (by omega)
 have all7 : ∀ z ∈ [x,y],z.f_At ≤ 7:=fun z hz => by
  have : z = ⟨7,1⟩ ∨ z = ⟨7,2⟩:=by simpa using d3.mem_iff.1 hz
  rcases this with h | h <;> rw [h] <;> decide
 have hm : m = 2:=by
  match m,f2,f4 with
  | 0,_,f4 => exact absurd (all7 x (by simp)) (f4 x (by simp))
  | 1,_,f4 => exact absurd (all7 y (by simp)) (f4 y (by simp))
  | 2,_,_ => rfl
  | n + 3,h,_ => exact absurd h (by simp)
 subst hm
 subst hx
 have c0 : p_alarm_Table_Clear k ⟨[]⟩ 1 = some (false,⟨[]⟩):=clear_ok (key:=1) tok_nil (by simp) (by omega)
 have n0 : p_alarm_Table_Next_o ⟨[]⟩ = some (⟨0,0⟩,false):=rfl
 have c1 : p_alarm_Table_Due k ⟨[⟨7,1⟩]⟩ 6 = some ([],⟨[⟨7,1⟩]⟩):=c1
 have f1 : p_alarm_Table_Due k ⟨[⟨7,1⟩,y]⟩ 7 = some ([⟨7,1⟩,y],⟨[]⟩):=f1
 rw [Option.bind_some,n0,Option.bind_some,c0,Option.bind_some]
 simp only
 rw [a1,Option.bind_some,b1,Option.bind_some,c1,Option.bind_some]
 simp only
 rw [d1,Option.bind_some,f1,Option.bind_some]
 rfl
theorem some_l0 {β : Type} (kE : List Tz12Ask→List Tz12Ask→Option β) {xs : List Tz12Ask} (hx : xs.length * 24 ≤ 140737488355328) : ∀ m i k : Nat,∀ ys : List Tz12Ask,i + m = xs.length→m < k→ys.length = i→(∀ a ∈ ys,0 ≤ a.Key∧a.Key < 18446744073709551616) →
  ∃ zs,p_zl12_AlarmPlays_l0 k kE xs ys (xs.length : Int) (i : Int) = kE xs zs∧zs.length = xs.length∧∀ a ∈ zs,0 ≤ a.Key∧a.Key < 18446744073709551616:=by
 intro m
 induction m with
 | zero =>
  intro i k ys hi hk hl hy
  obtain ⟨k,rfl⟩ : ∃ j,k = j + 1:=⟨k - 1,by omega⟩
  rw [p_zl12_AlarmPlays_l0,decide_eq_false (by omega),cond_false]
  exact ⟨ys,rfl,by omega,hy⟩
 | succ m ih =>
  intro i k ys hi hk hl hy
  obtain ⟨k,rfl⟩ : ∃ j,k = j + 1:=⟨k - 1,by omega⟩
  have hix : ix xs (i : Int) = some (xs[i]'(by omega)):=by
   unfold ix
   rw [if_pos (by omega),Int.toNat_natCast,List.getElem?_eq_getElem (by omega)]
  have hap : ∀ a : Tz12Ask,ap 24 ys [a] = some (ys ++ [a]):=fun a => by
   unfold ap
   rw [if_pos ⟨by simp; omega,by simp; omega⟩]
  have hw : IntKind.wrap .i64 ((i : Int) + 1) = ((i + 1 : Nat) : Int):=by rw [wrap_i64 (by omega) (by omega)]; omega
  rw [p_zl12_AlarmPlays_l0,decide_eq_true (by omega),cond_true,hix]
  simp only [Option.bind_some]
  rw [hap,Option.bind_some,hw]
  refine ih (i + 1) k _ (by omega) (by omega) (by simp [hl]) fun a ha => ?_
  rcases List.mem_append.1 ha with h | h
  ·exact hy a h
  ·rw [List.mem_singleton.1 h]
   have a1 : intBits .and .u64 (xs[i]'(by omega)).Key 15 = (xs[i]'(by omega)).Key % 2 ^ 4:=and_mask (k:=.u64) (n:=4) (m:=15) _ rfl (by decide)
   show 0 ≤ intBits .and .u64 (xs[i]'(by omega)).Key 15∧intBits .and .u64 (xs[i]'(by omega)).Key 15 < _
   rw [a1]; omega
theorem alarmPlays_p {xs : List Tz12Ask} (hx : xs.length * 24 ≤ 140737488355328) (hk : ∀ a ∈ xs,0 ≤ a.Key∧a.Key < 18446744073709551616) : p_zl12_AlarmPlays (xs.length + 6000) xs = some true:=by
 unfold p_zl12_AlarmPlays
 obtain ⟨zs,e1,e2,e3⟩:=some_l0 (fun r49_0 r49_3 => (p_zl12_play (xs.length + 6000) r49_0).bind fun r56 => (bif r56 then ((p_zl12_play (xs.length + 6000) r49_3).bind fun r61 => some r61) else (some false)).bind fun b66 => (bif b66 then ((p_zl12_known (xs.length + 6000)).bind fun r70 => some r70) else (some false)).bind fun b75 => some (b75)) hx xs.length 0 (xs.length + 6000) [] (by omega) (by omega) rfl (by simp)
 refine Eq.trans e1 ?_
 rw [play_ok hk (by omega) (by omega),play_ok e3 (by omega) (by omega),known_ok (by omega)]
 rfl
end Alm
def tAsk : DT:=.strct (.pair (.int .i64) (.pair (.int .u64) (.pair (.int .i64) .unit)))
def ofAsk (x : tAsk.D) : Tz12Ask:=⟨x.1,x.2.1,x.2.2.1⟩
theorem ofAsk_R (x : tAsk.D) : dTz12Ask.R (ofAsk x) (tAsk.cells x):=by
 obtain ⟨a,b,c,u⟩:=x
 exact dTz12Ask.mk
theorem alarmPlays_ev (a0 : (DT.slice 24 tAsk).D) (w0 : (DT.slice 24 tAsk).ok a0) : ev G X0 5 [] [(DT.slice 24 tAsk).val a0] [] = some ([.v (bV true)],[]):=by
 have h1 : ((Option.getD a0 []).map ofAsk).length * 24 ≤ 140737488355328∧∀ a ∈ (Option.getD a0 []).map ofAsk,0 ≤ a.Key∧a.Key < 18446744073709551616:=by
  cases a0 with
  | none => exact ⟨by simp,fun a ha => (by cases ha)⟩
  | some l =>
   obtain ⟨q1,q2⟩:=w0
   have hr : reachBytes ≤ 140737488355328:=by decide
   refine ⟨by rw [List.length_map]; show l.length * 24 ≤ _; omega,fun a ha => ?_⟩
   obtain ⟨x,hx,rfl⟩:=List.mem_map.1 ha
   obtain ⟨_,hb,_⟩:=q2 x hx
   exact wf_u64 hb
 obtain ⟨_,h3,rfl⟩:=zl12_AlarmPlays_ok (((Option.getD a0 []).map ofAsk).length + 6000) (h:=[]) (σ:=[]) ((Option.getD a0 []).map ofAsk) ((slF_val (b:=24) (t:=tAsk) (d:=dTz12Ask) ofAsk ofAsk_R rfl a0).h []) _ (Alm.alarmPlays_p h1.1 h1.2)
 exact h3
end Go.Ev
