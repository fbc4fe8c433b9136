/- A part of the proof that follows: bytes of any kind (up to the kit bound on bulk) that ctl.Read takes are a right message and are written back as the same bytes -/
import Derived.Test.YtigkdihkmihmmaaMCtlReads2
namespace Go.Ev
open Go.Proofs
set_option linter.unusedVariables false
set_option linter.unusedSimpArgs false
set_option maxRecDepth 100000
section
variable {β α : Type} {Q : β→α→Prop} {K : Exit × Env × H→Option α}
def p_zk_Tape_Ctl (k : Nat) (x0 : TzTape) : Option (TaiCtl × TzTape) :=
(p_zk_Tape_Next x0 10).bind fun r5 =>
bif (IntKind.wrap .i64 (1 + r5.1)) == 1 then (
(p_zk_Tape_Next r5.2 1048576).bind fun r21 =>
some (((⟨(IntKind.wrap .i64 (1 + r5.1)),(IntKind.wrap .i64 (1 + r21.1)),(([] : List TaiLayer)),0,0,0,0,0⟩ : TaiCtl)),r21.2))
else (
bif (IntKind.wrap .i64 (1 + r5.1)) == 3 then (
(p_zk_Tape_Next r5.2 6).bind fun r37 =>
(p_zk_Tape_Layers k r37.2 r37.1).bind fun r45 =>
some (((⟨(IntKind.wrap .i64 (1 + r5.1)),0,r45.1,0,0,0,0,0⟩ : TaiCtl)),r45.2))
else (
bif (IntKind.wrap .i64 (1 + r5.1)) == 4 then (
(p_zk_Tape_Next r5.2 6).bind fun r83 =>
(p_zk_Tape_Next r83.2 1000).bind fun r91 =>
(p_zk_Tape_Next r91.2 4).bind fun r99 =>
some (((⟨(IntKind.wrap .i64 (1 + r5.1)),0,(([] : List TaiLayer)),r83.1,(IntKind.wrap .i64 (1 + r91.1)),r99.1,0,0⟩ : TaiCtl)),r99.2))
else (
bif (IntKind.wrap .i64 (1 + r5.1)) == 5 then (
(p_zk_Tape_Next r5.2 6).bind fun r121 =>
some (((⟨(IntKind.wrap .i64 (1 + r5.1)),0,(([] : List TaiLayer)),r121.1,0,0,0,0⟩ : TaiCtl)),r121.2))
else (
bif (IntKind.wrap .i64 (1 + r5.1)) == 6 then (
(p_zk_Tape_Next r5.2 6).bind fun r137 =>
(p_zk_Tape_Next r137.2 1000).bind fun r145 =>
some (((⟨(IntKind.wrap .i64 (1 + r5.1)),0,(([] : List TaiLayer)),r137.1,(IntKind.wrap .i64 (1 + r145.1)),0,0,0⟩ : TaiCtl)),r145.2))
else (
bif (IntKind.wrap .i64 (1 + r5.1)) == 7 then (
(p_zk_Tape_Next r5.2 6).bind fun r164 =>
(p_zk_Tape_Next r164.2 4).bind fun r172 =>
some (((⟨(IntKind.wrap .i64 (1 + r5.1)),0,(([] : List TaiLayer)),r164.1,0,r172.1,0,0⟩ : TaiCtl)),r172.2))
else (
bif (IntKind.wrap .i64 (1 + r5.1)) == 8 then (
(p_zk_Tape_Next r5.2 3).bind fun r191 =>
some (((⟨(IntKind.wrap .i64 (1 + r5.1)),0,(([] : List TaiLayer)),0,0,0,r191.1,0⟩ : TaiCtl)),r191.2))
else (
bif (IntKind.wrap .i64 (1 + r5.1)) == 9 then (
(p_zk_Tape_Next r5.2 3).bind fun r207 =>
some (((⟨(IntKind.wrap .i64 (1 + r5.1)),0,(([] : List TaiLayer)),0,0,0,r207.1,0⟩ : TaiCtl)),r207.2))
else (
bif (IntKind.wrap .i64 (1 + r5.1)) == 10 then (
(p_zk_Tape_Next r5.2 256).bind fun r223 =>
some (((⟨(IntKind.wrap .i64 (1 + r5.1)),0,(([] : List TaiLayer)),0,0,0,0,r223.1⟩ : TaiCtl)),r223.2))
else (
some (((⟨(IntKind.wrap .i64 (1 + r5.1)),0,(([] : List TaiLayer)),0,0,0,0,0⟩ : TaiCtl)),r5.2))))))))))
theorem zk_Tape_Ctl_ok (k : Nat) {h : H} {σ : Stamp} (x0 : TzTape) {u0_0 : V} (hu0_0 : SlF (dI .i64) x0.f_L u0_0) {l0 : Loc} {o0 : Nat} (ha0 : AtC h l0 o0 (List.map C.v [u0_0,(.p (.int .i64 x0.f_At))])) : Sim (p_zk_Tape_Ctl k x0) (ev G X0 28 σ [(.ref l0 o0)] h) (fun r s => ∃ (w0 : List V),∃ (vb0_0 : V),dTaiCtl.R r.1 w0∧SlF (dI .i64) r.2.f_L vb0_0∧s = ([.v (.agg w0)],pts h [⟨l0,o0,[.v vb0_0,.v (.p (.int .i64 r.2.f_At))]⟩])):=by
 refine .ev rfl (Sim.ext (zk_Tape_Ctl_entry _ _ _ _ _) ?_)
 rw [p_zk_Tape_Ctl]
 have S0 : Fm 69 h [⟨l0,o0,List.map C.v [u0_0,(.p (.int .i64 x0.f_At))]⟩] [] [] (List.replicate 69 []::h):=Fm.start1 ha0
 obtain ⟨H1,e2,S3⟩:=S0.al (d:=2) (s:=(0::0::0::σ)) (z:=[(.p (.int .i64 0)),(.p (.int .i64 0)),(.p (.slice none 0 0)),(.p (.int .i64 0)),(.p (.int .i64 0)),(.p (.int .i64 0)),(.p (.int .i64 0)),(.p (.int .i64 0))]) (by decide) rfl
 refine .op (congrArg some e2) ?_
 refine .call (zk_Tape_Next_ok x0 hu0_0 (S3.atB (i:=0) rfl) 10) fun r5 cs6 H7 h8 q9 => ?_
 obtain ⟨v10,h11,q9⟩:=q9
 cases q9
 have S12:=S3.setB (i:=0) (cs:=List.map C.v [v10,(.p (.int .i64 r5.2.f_At))]) rfl rfl
 refine .ci ?_
 refine .op (bldV (pC rfl pN) (by kernel_rfl : _ = some (.agg [.p (.int .i64 (IntKind.wrap .i64 (1 + r5.1))),.p (.int .i64 0),.p (.slice none 0 0),.p (.int .i64 0),.p (.int .i64 0),.p (.int .i64 0),.p (.int .i64 0),.p (.int .i64 0)]))) ?_
 obtain ⟨H13,e14,S15⟩:=S12.al (d:=3) (s:=(4::0::1::0::σ)) (z:=[(.p (.int .i64 0)),(.p (.int .i64 0)),(.p (.slice none 0 0)),(.p (.int .i64 0)),(.p (.int .i64 0)),(.p (.int .i64 0)),(.p (.int .i64 0)),(.p (.int .i64 0))]) (by decide) rfl
 refine .op (congrArg some e14) ?_
 obtain ⟨H17,e18,S19⟩:=S15.stGv (i:=0) (j:=0) (own:=false) (σ:=(5::0::1::0::σ)) (xs:=[.p (.int .i64 (IntKind.wrap .i64 (1 + r5.1))),.p (.int .i64 0),.p (.slice none 0 0),.p (.int .i64 0),.p (.int .i64 0),.p (.int .i64 0),.p (.int .i64 0),.p (.int .i64 0)]) rfl rfl (sC (sI _ _) (sC (sI _ _) (sC (SlF.nil dTaiLayer).still (sC (sI _ _) (sC (sI _ _) (sC (sI _ _) (sC (sI _ _) (sC (sI _ _) sN)))))))) rfl rfl
 refine .op (sM e18) ?_
 refine .fa ?_
 refine .op ((S19.atG (i:=0) rfl).ld (j:=0) rfl) ?_
 refine .ci ?_
 refine .cq ?_ ?_
 ·refine .call (zk_Tape_Next_ok r5.2 h11 (S19.atB (i:=0) rfl) 1048576) fun r21 cs22 H23 h24 q25 => ?_
  obtain ⟨v26,h27,q25⟩:=q25
  cases q25
  have S28:=S19.setB (i:=0) (cs:=List.map C.v [v26,(.p (.int .i64 r21.2.f_At))]) rfl rfl
  refine .ci ?_
  refine .fa ?_
  obtain ⟨H29,e30,S31⟩:=S28.stG (i:=0) (j:=1) (own:=true) (σ:=(4::1::1::0::1::1::0::σ)) (x:=(.p (.int .i64 (IntKind.wrap .i64 (1 + r21.1))))) rfl rfl (sI _ _) rfl
  refine .op (sM e30) ?_
  refine .op ((S31.atG (i:=0) rfl).ldVs (j:=0) (xs:=[.p (.int .i64 (IntKind.wrap .i64 (1 + r5.1))),.p (.int .i64 (IntKind.wrap .i64 (1 + r21.1))),.p (.slice none 0 0),.p (.int .i64 0),.p (.int .i64 0),.p (.int .i64 0),.p (.int .i64 0),.p (.int .i64 0)]) rfl rfl (by decide)) ?_
  obtain ⟨H32,e33,S34⟩:=S31.stGv (i:=1) (j:=0) (own:=false) (σ:=(1::0::1::1::1::0::σ)) (xs:=[.p (.int .i64 (IntKind.wrap .i64 (1 + r5.1))),.p (.int .i64 (IntKind.wrap .i64 (1 + r21.1))),.p (.slice none 0 0),.p (.int .i64 0),.p (.int .i64 0),.p (.int .i64 0),.p (.int .i64 0),.p (.int .i64 0)]) rfl rfl (sC (sI _ _) (sC (sI _ _) (sC (SlF.nil dTaiLayer).still (sC (sI _ _) (sC (sI _ _) (sC (sI _ _) (sC (sI _ _) (sC (sI _ _) sN)))))))) rfl rfl
  refine .op (sM e33) ?_
  have e35 : ldO true 8 H32 (.ref ⟨h.length,2,0,(0::0::0::σ),[]⟩ 0) = some (.agg [.p (.int .i64 (IntKind.wrap .i64 (1 + r5.1))),.p (.int .i64 (IntKind.wrap .i64 (1 + r21.1))),.p (.slice none 0 0),.p (.int .i64 0),.p (.int .i64 0),.p (.int .i64 0),.p (.int .i64 0),.p (.int .i64 0)]):=(S34.atG (i:=1) rfl).ldVs (j:=0) rfl rfl (by decide)
  refine .op (congrArg (Option.bind · _) e35) ?_
  exact .fin (S34.finN (lC (Stills.lv (dTaiCtl.still (dTaiCtl.mk (SlF.nil dTaiLayer)))) lN)) ⟨_,v26,(dTaiCtl.mk (SlF.nil dTaiLayer)),h27,rfl⟩
 refine .cq ?_ ?_
 ·refine .call (zk_Tape_Next_ok r5.2 h11 (S19.atB (i:=0) rfl) 6) fun r37 cs38 H39 h40 q41 => ?_
  obtain ⟨v42,h43,q41⟩:=q41
  cases q41
  have S44:=S19.setB (i:=0) (cs:=List.map C.v [v42,(.p (.int .i64 r37.2.f_At))]) rfl rfl
  refine .ci ?_
  refine .call (zk_Tape_Layers_ok k r37.2 h43 (S44.atB (i:=0) rfl) r37.1) fun r45 cs46 H47 h48 q49 => ?_
  obtain ⟨c50,cs51,v54,h52,h53,h55,q49⟩:=q49
  cases q49
  have S56:=S44.setB (i:=0) (cs:=List.map C.v [v54,(.p (.int .i64 r45.2.f_At))]) rfl rfl
  obtain ⟨v57,H58,e59,S60⟩:=S56.land (dt:=dTaiLayer) (d:=21) (e:=0) (n:=0) h52 h53 (by decide) rfl
  erw [e59]
  refine .fa ?_
  obtain ⟨c65,H62,e63,h66,h67,S64⟩:=S60.mvG (i:=0) (j:=2) (k:=0) (σ:=(5::1::1::1::0::1::1::0::σ)) rfl rfl rfl rfl rfl rfl
  refine .op (sM e63) ?_
  obtain ⟨v68,h69,h70⟩:=h66.fr
  obtain ⟨w71,H72,h77,e73,e74,e75,S76⟩:=S64.frzV (i:=0) (n:=8) (ys:=[(.p (.int .i64 (IntKind.wrap .i64 (1 + r5.1)))),(.p (.int .i64 0)),v68,(.p (.int .i64 0)),(.p (.int .i64 0)),(.p (.int .i64 0)),(.p (.int .i64 0)),(.p (.int .i64 0))]) rfl rfl ⟨(FrC.v (sI _ _)),⟨(FrC.v (sI _ _)),⟨h69,⟨(FrC.v (sI _ _)),⟨(FrC.v (sI _ _)),⟨(FrC.v (sI _ _)),⟨(FrC.v (sI _ _)),⟨(FrC.v (sI _ _)),trivial⟩⟩⟩⟩⟩⟩⟩⟩ rfl (by decide)
  refine .op (e73) ?_
  obtain ⟨H78,e79,S80⟩:=Fm.stFrz (S0:=S64) (i0:=1) (i:=1) (j:=0) (n:=8) (σ:=(1::0::1::1::1::0::σ)) S76 rfl e75 rfl rfl h77 rfl rfl
  refine .op (sM e79) ?_
  have e81 : ldO true 8 H78 (.ref ⟨h.length,2,0,(0::0::0::σ),[]⟩ 0) = some (.agg [.p (.int .i64 (IntKind.wrap .i64 (1 + r5.1))),.p (.int .i64 0),v68,.p (.int .i64 0),.p (.int .i64 0),.p (.int .i64 0),.p (.int .i64 0),.p (.int .i64 0)]):=(S80.atG (i:=1) rfl).ldVs (j:=0) rfl rfl (by decide)
  refine .op (congrArg (Option.bind · _) e81) ?_
  exact .fin (S80.finN (lC (Stills.lv (dTaiCtl.still (dTaiCtl.mk h70))) lN)) ⟨_,v54,(dTaiCtl.mk h70),h55,rfl⟩
 refine .cq ?_ ?_
 ·refine .call (zk_Tape_Next_ok r5.2 h11 (S19.atB (i:=0) rfl) 6) fun r83 cs84 H85 h86 q87 => ?_
  obtain ⟨v88,h89,q87⟩:=q87
  cases q87
  have S90:=S19.setB (i:=0) (cs:=List.map C.v [v88,(.p (.int .i64 r83.2.f_At))]) rfl rfl
  refine .ci ?_
  refine .call (zk_Tape_Next_ok r83.2 h89 (S90.atB (i:=0) rfl) 1000) fun r91 cs92 H93 h94 q95 => ?_
  obtain ⟨v96,h97,q95⟩:=q95
  cases q95
  have S98:=S90.setB (i:=0) (cs:=List.map C.v [v96,(.p (.int .i64 r91.2.f_At))]) rfl rfl
  refine .ci ?_
  refine .call (zk_Tape_Next_ok r91.2 h97 (S98.atB (i:=0) rfl) 4) fun r99 cs100 H101 h102 q103 => ?_
  obtain ⟨v104,h105,q103⟩:=q103
  cases q103
  have S106:=S98.setB (i:=0) (cs:=List.map C.v [v104,(.p (.int .i64 r99.2.f_At))]) rfl rfl
  refine .ci ?_
  refine .fa ?_
  obtain ⟨H107,e108,S109⟩:=S106.stG (i:=0) (j:=3) (own:=true) (σ:=(8::1::1::1::1::0::1::1::0::σ)) (x:=(.p (.int .i64 r83.1))) rfl rfl (sI _ _) rfl
  refine .op (sM e108) ?_
  refine .fa ?_
  obtain ⟨H110,e111,S112⟩:=S109.stG (i:=0) (j:=4) (own:=true) (σ:=(10::1::1::1::1::0::1::1::0::σ)) (x:=(.p (.int .i64 (IntKind.wrap .i64 (1 + r91.1))))) rfl rfl (sI _ _) rfl
  refine .op (sM e111) ?_
  refine .fa ?_
  obtain ⟨H113,e114,S115⟩:=S112.stG (i:=0) (j:=5) (own:=true) (σ:=(12::1::1::1::1::0::1::1::0::σ)) (x:=(.p (.int .i64 r99.1))) rfl rfl (sI _ _) rfl
  refine .op (sM e114) ?_
  refine .op ((S115.atG (i:=0) rfl).ldVs (j:=0) (xs:=[.p (.int .i64 (IntKind.wrap .i64 (1 + r5.1))),.p (.int .i64 0),.p (.slice none 0 0),.p (.int .i64 r83.1),.p (.int .i64 (IntKind.wrap .i64 (1 + r91.1))),.p (.int .i64 r99.1),.p (.int .i64 0),.p (.int .i64 0)]) rfl rfl (by decide)) ?_
  obtain ⟨H116,e117,S118⟩:=S115.stGv (i:=1) (j:=0) (own:=false) (σ:=(1::0::1::1::1::0::σ)) (xs:=[.p (.int .i64 (IntKind.wrap .i64 (1 + r5.1))),.p (.int .i64 0),.p (.slice none 0 0),.p (.int .i64 r83.1),.p (.int .i64 (IntKind.wrap .i64 (1 + r91.1))),.p (.int .i64 r99.1),.p (.int .i64 0),.p (.int .i64 0)]) rfl rfl (sC (sI _ _) (sC (sI _ _) (sC (SlF.nil dTaiLayer).still (sC (sI _ _) (sC (sI _ _) (sC (sI _ _) (sC (sI _ _) (sC (sI _ _) sN)))))))) rfl rfl
  refine .op (sM e117) ?_
  have e119 : ldO true 8 H116 (.ref ⟨h.length,2,0,(0::0::0::σ),[]⟩ 0) = some (.agg [.p (.int .i64 (IntKind.wrap .i64 (1 + r5.1))),.p (.int .i64 0),.p (.slice none 0 0),.p (.int .i64 r83.1),.p (.int .i64 (IntKind.wrap .i64 (1 + r91.1))),.p (.int .i64 r99.1),.p (.int .i64 0),.p (.int .i64 0)]):=(S118.atG (i:=1) rfl).ldVs (j:=0) rfl rfl (by decide)
  refine .op (congrArg (Option.bind · _) e119) ?_
  exact .fin (S118.finN (lC (Stills.lv (dTaiCtl.still (dTaiCtl.mk (SlF.nil dTaiLayer)))) lN)) ⟨_,v104,(dTaiCtl.mk (SlF.nil dTaiLayer)),h105,rfl⟩
 refine .cq ?_ ?_
 ·refine .call (zk_Tape_Next_ok r5.2 h11 (S19.atB (i:=0) rfl) 6) fun r121 cs122 H123 h124 q125 => ?_
  obtain ⟨v126,h127,q125⟩:=q125
  cases q125
  have S128:=S19.setB (i:=0) (cs:=List.map C.v [v126,(.p (.int .i64 r121.2.f_At))]) rfl rfl
  refine .ci ?_
  refine .fa ?_
  obtain ⟨H129,e130,S131⟩:=S128.stG (i:=0) (j:=3) (own:=true) (σ:=(3::1::1::1::1::1::0::1::1::0::σ)) (x:=(.p (.int .i64 r121.1))) rfl rfl (sI _ _) rfl
  refine .op (sM e130) ?_
  refine .op ((S131.atG (i:=0) rfl).ldVs (j:=0) (xs:=[.p (.int .i64 (IntKind.wrap .i64 (1 + r5.1))),.p (.int .i64 0),.p (.slice none 0 0),.p (.int .i64 r121.1),.p (.int .i64 0),.p (.int .i64 0),.p (.int .i64 0),.p (.int .i64 0)]) rfl rfl (by decide)) ?_
  obtain ⟨H132,e133,S134⟩:=S131.stGv (i:=1) (j:=0) (own:=false) (σ:=(1::0::1::1::1::0::σ)) (xs:=[.p (.int .i64 (IntKind.wrap .i64 (1 + r5.1))),.p (.int .i64 0),.p (.slice none 0 0),.p (.int .i64 r121.1),.p (.int .i64 0),.p (.int .i64 0),.p (.int .i64 0),.p (.int .i64 0)]) rfl rfl (sC (sI _ _) (sC (sI _ _) (sC (SlF.nil dTaiLayer).still (sC (sI _ _) (sC (sI _ _) (sC (sI _ _) (sC (sI _ _) (sC (sI _ _) sN)))))))) rfl rfl
  refine .op (sM e133) ?_
  have e135 : ldO true 8 H132 (.ref ⟨h.length,2,0,(0::0::0::σ),[]⟩ 0) = some (.agg [.p (.int .i64 (IntKind.wrap .i64 (1 + r5.1))),.p (.int .i64 0),.p (.slice none 0 0),.p (.int .i64 r121.1),.p (.int .i64 0),.p (.int .i64 0),.p (.int .i64 0),.p (.int .i64 0)]):=(S134.atG (i:=1) rfl).ldVs (j:=0) rfl rfl (by decide)
  refine .op (congrArg (Option.bind · _) e135) ?_
  exact .fin (S134.finN (lC (Stills.lv (dTaiCtl.still (dTaiCtl.mk (SlF.nil dTaiLayer)))) lN)) ⟨_,v126,(dTaiCtl.mk (SlF.nil dTaiLayer)),h127,rfl⟩
 refine .cq ?_ ?_
 ·refine .call (zk_Tape_Next_ok r5.2 h11 (S19.atB (i:=0) rfl) 6) fun r137 cs138 H139 h140 q141 => ?_
  obtain ⟨v142,h143,q141⟩:=q141
  cases q141
  have S144:=S19.setB (i:=0) (cs:=List.map C.v [v142,(.p (.int .i64 r137.2.f_At))]) rfl rfl
  refine .ci ?_
  refine .call (zk_Tape_Next_ok r137.2 h143 (S144.atB (i:=0) rfl) 1000) fun r145 cs146 H147 h148 q149 => ?_
  obtain ⟨v150,h151,q149⟩:=q149
  cases q149
  have S152:=S144.setB (i:=0) (cs:=List.map C.v [v150,(.p (.int .i64 r145.2.f_At))]) rfl rfl
  refine .ci ?_
  refine .fa ?_
  obtain ⟨H153,e154,S155⟩:=S152.stG (i:=0) (j:=3) (own:=true) (σ:=(6::1::1::1::1::1::1::0::1::1::0::σ)) (x:=(.p (.int .i64 r137.1))) rfl rfl (sI _ _) rfl
  refine .op (sM e154) ?_
  refine .fa ?_
  obtain ⟨H156,e157,S158⟩:=S155.stG (i:=0) (j:=4) (own:=true) (σ:=(8::1::1::1::1::1::1::0::1::1::0::σ)) (x:=(.p (.int .i64 (IntKind.wrap .i64 (1 + r145.1))))) rfl rfl (sI _ _) rfl
  refine .op (sM e157) ?_
  refine .op ((S158.atG (i:=0) rfl).ldVs (j:=0) (xs:=[.p (.int .i64 (IntKind.wrap .i64 (1 + r5.1))),.p (.int .i64 0),.p (.slice none 0 0),.p (.int .i64 r137.1),.p (.int .i64 (IntKind.wrap .i64 (1 + r145.1))),.p (.int .i64 0),.p (.int .i64 0),.p (.int .i64 0)]) rfl rfl (by decide)) ?_
  obtain ⟨H159,e160,S161⟩:=S158.stGv (i:=1) (j:=0) (own:=false) (σ:=(1::0::1::1::1::0::σ)) (xs:=[.p (.int .i64 (IntKind.wrap .i64 (1 + r5.1))),.p (.int .i64 0),.p (.slice none 0 0),.p (.int .i64 r137.1),.p (.int .i64 (IntKind.wrap .i64 (1 + r145.1))),.p (.int .i64 0),.p (.int .i64 0),.p (.int .i64 0)]) rfl rfl (sC (sI _ _) (sC (sI _ _) (sC (SlF.nil dTaiLayer).still (sC (sI _ _) (sC (sI _ _) (sC (sI _ _) (sC (sI _ _) (sC (sI _ _) sN)))))))) rfl rfl
  refine .op (sM e160) ?_
  have e162 : ldO true 8 H159 (.ref ⟨h.length,2,0,(0::0::0::σ),[]⟩ 0) = some (.agg [.p (.int .i64 (IntKind.wrap .i64 (1 + r5.1))),.p (.int .i64 0),.p (.slice none 0 0),.p (.int .i64 r137.1),.p (.int .i64 (IntKind.wrap .i64 (1 + r145.1))),.p (.int .i64 0),.p (.int .i64 0),.p (.int .i64 0)]):=(S161.atG (i:=1) rfl).ldVs (j:=0) rfl rfl (by decide)
  refine .op (congrArg (Option.bind · _) e162) ?_
  exact .fin (S161.finN (lC (Stills.lv (dTaiCtl.still (dTaiCtl.mk (SlF.nil dTaiLayer)))) lN)) ⟨_,v150,(dTaiCtl.mk (SlF.nil dTaiLayer)),h151,rfl⟩
 refine .cq ?_ ?_
 ·refine .call (zk_Tape_Next_ok r5.2 h11 (S19.atB (i:=0) rfl) 6) fun r164 cs165 H166 h167 q168 => ?_
  obtain ⟨v169,h170,q168⟩:=q168
  cases q168
  have S171:=S19.setB (i:=0) (cs:=List.map C.v [v169,(.p (.int .i64 r164.2.f_At))]) rfl rfl
  refine .ci ?_
  refine .call (zk_Tape_Next_ok r164.2 h170 (S171.atB (i:=0) rfl) 4) fun r172 cs173 H174 h175 q176 => ?_
  obtain ⟨v177,h178,q176⟩:=q176
  cases q176
  have S179:=S171.setB (i:=0) (cs:=List.map C.v [v177,(.p (.int .i64 r172.2.f_At))]) rfl rfl
  refine .ci ?_
  refine .fa ?_
  obtain ⟨H180,e181,S182⟩:=S179.stG (i:=0) (j:=3) (own:=true) (σ:=(5::1::1::1::1::1::1::1::0::1::1::0::σ)) (x:=(.p (.int .i64 r164.1))) rfl rfl (sI _ _) rfl
  refine .op (sM e181) ?_
  refine .fa ?_
  obtain ⟨H183,e184,S185⟩:=S182.stG (i:=0) (j:=5) (own:=true) (σ:=(7::1::1::1::1::1::1::1::0::1::1::0::σ)) (x:=(.p (.int .i64 r172.1))) rfl rfl (sI _ _) rfl
  refine .op (sM e184) ?_
  refine .op ((S185.atG (i:=0) rfl).ldVs (j:=0) (xs:=[.p (.int .i64 (IntKind.wrap .i64 (1 + r5.1))),.p (.int .i64 0),.p (.slice none 0 0),.p (.int .i64 r164.1),.p (.int .i64 0),.p (.int .i64 r172.1),.p (.int .i64 0),.p (.int .i64 0)]) rfl rfl (by decide)) ?_
  obtain ⟨H186,e187,S188⟩:=S185.stGv (i:=1) (j:=0) (own:=false) (σ:=(1::0::1::1::1::0::σ)) (xs:=[.p (.int .i64 (IntKind.wrap .i64 (1 + r5.1))),.p (.int .i64 0),.p (.slice none 0 0),.p (.int .i64 r164.1),.p (.int .i64 0),.p (.int .i64 r172.1),.p (.int .i64 0),.p (.int .i64 0)]) rfl rfl (sC (sI _ _) (sC (sI _ _) (sC (SlF.nil dTaiLayer).still (sC (sI _ _) (sC (sI _ _) (sC (sI _ _) (sC (sI _ _) (sC (sI _ _) sN)))))))) rfl rfl
  refine .op (sM e187) ?_
  have e189 : ldO true 8 H186 (.ref ⟨h.length,2,0,(0::0::0::σ),[]⟩ 0) = some (.agg [.p (.int .i64 (IntKind.wrap .i64 (1 + r5.1))),.p (.int .i64 0),.p (.slice none 0 0),.p (.int .i64 r164.1),.p (.int .i64 0),.p (.int .i64 r172.1),.p (.int .i64 0),.p (.int .i64 0)]):=(S188.atG (i:=1) rfl).ldVs (j:=0) rfl rfl (by decide)
  refine .op (congrArg (Option.bind · _) e189) ?_
  exact .fin (S188.finN (lC (Stills.lv (dTaiCtl.still (dTaiCtl.mk (SlF.nil dTaiLayer)))) lN)) ⟨_,v177,(dTaiCtl.mk (SlF.nil dTaiLayer)),h178,rfl⟩
 refine .cd (fun hc190 => ?_) (fun hc190 => ?_)
 ·refine .cdt (eqT (beq_iff_eq.1 hc190)) ?_
  refine .call (zk_Tape_Next_ok r5.2 h11 (S19.atB (i:=0) rfl) 3) fun r191 cs192 H193 h194 q195 => ?_
  obtain ⟨v196,h197,q195⟩:=q195
  cases q195
  have S198:=S19.setB (i:=0) (cs:=List.map C.v [v196,(.p (.int .i64 r191.2.f_At))]) rfl rfl
  refine .ci ?_
  refine .fa ?_
  obtain ⟨H199,e200,S201⟩:=S198.stG (i:=0) (j:=6) (own:=true) (σ:=(3::1::1::1::1::1::1::1::1::0::1::1::0::σ)) (x:=(.p (.int .i64 r191.1))) rfl rfl (sI _ _) rfl
  refine .op (sM e200) ?_
  refine .op ((S201.atG (i:=0) rfl).ldVs (j:=0) (xs:=[.p (.int .i64 (IntKind.wrap .i64 (1 + r5.1))),.p (.int .i64 0),.p (.slice none 0 0),.p (.int .i64 0),.p (.int .i64 0),.p (.int .i64 0),.p (.int .i64 r191.1),.p (.int .i64 0)]) rfl rfl (by decide)) ?_
  obtain ⟨H202,e203,S204⟩:=S201.stGv (i:=1) (j:=0) (own:=false) (σ:=(1::0::1::1::1::0::σ)) (xs:=[.p (.int .i64 (IntKind.wrap .i64 (1 + r5.1))),.p (.int .i64 0),.p (.slice none 0 0),.p (.int .i64 0),.p (.int .i64 0),.p (.int .i64 0),.p (.int .i64 r191.1),.p (.int .i64 0)]) rfl rfl (sC (sI _ _) (sC (sI _ _) (sC (SlF.nil dTaiLayer).still (sC (sI _ _) (sC (sI _ _) (sC (sI _ _) (sC (sI _ _) (sC (sI _ _) sN)))))))) rfl rfl
  refine .op (sM e203) ?_
  have e205 : ldO true 8 H202 (.ref ⟨h.length,2,0,(0::0::0::σ),[]⟩ 0) = some (.agg [.p (.int .i64 (IntKind.wrap .i64 (1 + r5.1))),.p (.int .i64 0),.p (.slice none 0 0),.p (.int .i64 0),.p (.int .i64 0),.p (.int .i64 0),.p (.int .i64 r191.1),.p (.int .i64 0)]):=(S204.atG (i:=1) rfl).ldVs (j:=0) rfl rfl (by decide)
  refine .op (congrArg (Option.bind · _) e205) ?_
  exact .fin (S204.finN (lC (Stills.lv (dTaiCtl.still (dTaiCtl.mk (SlF.nil dTaiLayer)))) lN)) ⟨_,v196,(dTaiCtl.mk (SlF.nil dTaiLayer)),h197,rfl⟩
 refine .cq ?_ ?_
 ·refine .call (zk_Tape_Next_ok r5.2 h11 (S19.atB (i:=0) rfl) 3) fun r207 cs208 H209 h210 q211 => ?_
  obtain ⟨v212,h213,q211⟩:=q211
  cases q211
  have S214:=S19.setB (i:=0) (cs:=List.map C.v [v212,(.p (.int .i64 r207.2.f_At))]) rfl rfl
  refine .ci ?_
  refine .fa ?_
  obtain ⟨H215,e216,S217⟩:=S214.stG (i:=0) (j:=6) (own:=true) (σ:=(3::1::1::1::1::1::1::1::1::0::1::1::0::σ)) (x:=(.p (.int .i64 r207.1))) rfl rfl (sI _ _) rfl
  refine .op (sM e216) ?_
  refine .op ((S217.atG (i:=0) rfl).ldVs (j:=0) (xs:=[.p (.int .i64 (IntKind.wrap .i64 (1 + r5.1))),.p (.int .i64 0),.p (.slice none 0 0),.p (.int .i64 0),.p (.int .i64 0),.p (.int .i64 0),.p (.int .i64 r207.1),.p (.int .i64 0)]) rfl rfl (by decide)) ?_
  obtain ⟨H218,e219,S220⟩:=S217.stGv (i:=1) (j:=0) (own:=false) (σ:=(1::0::1::1::1::0::σ)) (xs:=[.p (.int .i64 (IntKind.wrap .i64 (1 + r5.1))),.p (.int .i64 0),.p (.slice none 0 0),.p (.int .i64 0),.p (.int .i64 0),.p (.int .i64 0),.p (.int .i64 r207.1),.p (.int .i64 0)]) rfl rfl (sC (sI _ _) (sC (sI _ _) (sC (SlF.nil dTaiLayer).still (sC (sI _ _) (sC (sI _ _) (sC (sI _ _) (sC (sI _ _) (sC (sI _ _) sN)))))))) rfl rfl
  refine .op (sM e219) ?_
  have e221 : ldO true 8 H218 (.ref ⟨h.length,2,0,(0::0::0::σ),[]⟩ 0) = some (.agg [.p (.int .i64 (IntKind.wrap .i64 (1 + r5.1))),.p (.int .i64 0),.p (.slice none 0 0),.p (.int .i64 0),.p (.int .i64 0),.p (.int .i64 0),.p (.int .i64 r207.1),.p (.int .i64 0)]):=(S220.atG (i:=1) rfl).ldVs (j:=0) rfl rfl (by decide)
  refine .op (congrArg (Option.bind · _) e221) ?_
  exact .fin (S220.finN (lC (Stills.lv (dTaiCtl.still (dTaiCtl.mk (SlF.nil dTaiLayer)))) lN)) ⟨_,v212,(dTaiCtl.mk (SlF.nil dTaiLayer)),h213,rfl⟩
 refine .cq ?_ ?_
 ·refine .call (zk_Tape_Next_ok r5.2 h11 (S19.atB (i:=0) rfl) 256) fun r223 cs224 H225 h226 q227 => ?_
  obtain ⟨v228,h229,q227⟩:=q227
  cases q227
  have S230:=S19.setB (i:=0) (cs:=List.map C.v [v228,(.p (.int .i64 r223.2.f_At))]) rfl rfl
  refine .ci ?_
  refine .fa ?_
  obtain ⟨H231,e232,S233⟩:=S230.stG (i:=0) (j:=7) (own:=true) (σ:=(3::1::1::1::1::1::1::1::1::1::0::1::1::0::σ)) (x:=(.p (.int .i64 r223.1))) rfl rfl (sI _ _) rfl
  refine .op (sM e232) ?_
  refine .op ((S233.atG (i:=0) rfl).ldVs (j:=0) (xs:=[.p (.int .i64 (IntKind.wrap .i64 (1 + r5.1))),.p (.int .i64 0),.p (.slice none 0 0),.p (.int .i64 0),.p (.int .i64 0),.p (.int .i64 0),.p (.int .i64 0),.p (.int .i64 r223.1)]) rfl rfl (by decide)) ?_
  obtain ⟨H234,e235,S236⟩:=S233.stGv (i:=1) (j:=0) (own:=false) (σ:=(1::0::1::1::1::0::σ)) (xs:=[.p (.int .i64 (IntKind.wrap .i64 (1 + r5.1))),.p (.int .i64 0),.p (.slice none 0 0),.p (.int .i64 0),.p (.int .i64 0),.p (.int .i64 0),.p (.int .i64 0),.p (.int .i64 r223.1)]) rfl rfl (sC (sI _ _) (sC (sI _ _) (sC (SlF.nil dTaiLayer).still (sC (sI _ _) (sC (sI _ _) (sC (sI _ _) (sC (sI _ _) (sC (sI _ _) sN)))))))) rfl rfl
  refine .op (sM e235) ?_
  have e237 : ldO true 8 H234 (.ref ⟨h.length,2,0,(0::0::0::σ),[]⟩ 0) = some (.agg [.p (.int .i64 (IntKind.wrap .i64 (1 + r5.1))),.p (.int .i64 0),.p (.slice none 0 0),.p (.int .i64 0),.p (.int .i64 0),.p (.int .i64 0),.p (.int .i64 0),.p (.int .i64 r223.1)]):=(S236.atG (i:=1) rfl).ldVs (j:=0) rfl rfl (by decide)
  refine .op (congrArg (Option.bind · _) e237) ?_
  exact .fin (S236.finN (lC (Stills.lv (dTaiCtl.still (dTaiCtl.mk (SlF.nil dTaiLayer)))) lN)) ⟨_,v228,(dTaiCtl.mk (SlF.nil dTaiLayer)),h229,rfl⟩
 refine .op ((S19.atG (i:=0) rfl).ldVs (j:=0) (xs:=[.p (.int .i64 (IntKind.wrap .i64 (1 + r5.1))),.p (.int .i64 0),.p (.slice none 0 0),.p (.int .i64 0),.p (.int .i64 0),.p (.int .i64 0),.p (.int .i64 0),.p (.int .i64 0)]) rfl rfl (by decide)) ?_
 obtain ⟨H238,e239,S240⟩:=S19.stGv (i:=1) (j:=0) (own:=false) (σ:=(1::0::1::1::1::0::σ)) (xs:=[.p (.int .i64 (IntKind.wrap .i64 (1 + r5.1))),.p (.int .i64 0),.p (.slice none 0 0),.p (.int .i64 0),.p (.int .i64 0),.p (.int .i64 0),.p (.int .i64 0),.p (.int .i64 0)]) rfl rfl (sC (sI _ _) (sC (sI _ _) (sC (SlF.nil dTaiLayer).still (sC (sI _ _) (sC (sI _ _) (sC (sI _ _) (sC (sI _ _) (sC (sI _ _) sN)))))))) rfl rfl
 refine .op (sM e239) ?_
 have e241 : ldO true 8 H238 (.ref ⟨h.length,2,0,(0::0::0::σ),[]⟩ 0) = some (.agg [.p (.int .i64 (IntKind.wrap .i64 (1 + r5.1))),.p (.int .i64 0),.p (.slice none 0 0),.p (.int .i64 0),.p (.int .i64 0),.p (.int .i64 0),.p (.int .i64 0),.p (.int .i64 0)]):=(S240.atG (i:=1) rfl).ldVs (j:=0) rfl rfl (by decide)
 refine .op (congrArg (Option.bind · _) e241) ?_
 exact .fin (S240.finN (lC (Stills.lv (dTaiCtl.still (dTaiCtl.mk (SlF.nil dTaiLayer)))) lN)) ⟨_,v10,(dTaiCtl.mk (SlF.nil dTaiLayer)),h11,rfl⟩
end
end Go.Ev
namespace Go.Ev
open Go.Proofs
set_option linter.unusedVariables false
set_option linter.unusedSimpArgs false
set_option maxRecDepth 100000
noncomputable section
abbrev KT12:=Exit→Env→H→Option (List C × H)
variable (rec : CallF) (loop : LoopV) (σ : Stamp)

end
end Go.Ev
namespace Go.Ev
open Go.Proofs
set_option linter.unusedVariables false
set_option linter.unusedSimpArgs false
set_option maxRecDepth 100000
section
variable {β α : Type} {Q : β→α→Prop} {K : Exit × Env × H→Option α}

end
end Go.Ev
namespace Go.Ev
set_option maxRecDepth 100000
set_option linter.unusedSimpArgs false
def PT (K : Int) (a : It) : Prop:=okIt a∧a.n < 256 ^ a.size.toNat∧(hasB K a.name = false→a.n = 0)
def TC (c : TaiCtl) : Prop:=(1 ≤ c.Kind∧c.Kind ≤ 10)∧fldB c.Kind 0 [(c.Cap == 0),((c.Layers.length : Int) == 0),(c.Peer == 0),(c.Height == 0),(c.Class == 0),(c.Layer == 0),(c.Code == 0)] = true∧valB c = true∧((c.Kind = 3∧(∃ p,(0 ≤ p∧p ≤ 5)∧Ly p c.Layers)∧selF c.Kind (six c) = []) ∨ (c.Kind ≠ 3∧c.Layers = []))∧∀ a ∈ six c,PT c.Kind a
theorem six_all {c : TaiCtl} {P : It→Prop} (h1 : P ⟨1,8,c.Cap⟩) (h2 : P ⟨3,1,c.Peer⟩) (h3 : P ⟨4,2,c.Height⟩) (h4 : P ⟨5,1,c.Class⟩) (h5 : P ⟨6,1,c.Layer⟩) (h6 : P ⟨7,1,c.Code⟩) : ∀ a ∈ six c,P a:=by
 intro a ha
 simp only [six,List.mem_cons,List.not_mem_nil,or_false] at ha
 rcases ha with rfl | rfl | rfl | rfl | rfl | rfl <;> assumption
theorem itZ {K nm : Int} {s : Nat} (h : 0 ≤ nm∧nm < 256) (hs : 1 ≤ s∧s ≤ 8) : PT K ⟨nm,(s : Int),0⟩ :=
 ⟨⟨h,⟨by simp only; omega,by simp only; omega⟩,by simp only; omega,by simp only; omega⟩,Int.pow_pos (by decide),fun _ => rfl⟩
theorem itN {K nm n : Int} {s : Nat} (h : 0 ≤ nm∧nm < 256) (hs : 1 ≤ s∧s ≤ 8) (h0 : 0 ≤ n) (h1 : n < 2 ^ 62) (h2 : n < 256 ^ s) (hh : hasB K nm = true) : PT K ⟨nm,(s : Int),n⟩ :=
 ⟨⟨h,⟨by simp only; omega,by simp only; omega⟩,h0,by simp only; omega⟩,by simp only [Int.toNat_natCast]; exact h2,fun hf => by simp only at hf; rw [hh] at hf; cases hf⟩
theorem Ly.ok {p : Int} (hp : 0 ≤ p∧p ≤ 5) {l : List TaiLayer} (h : Ly p l) : (1 ≤ l.length∧l.length ≤ 3)∧(∀ a ∈ l,okLy a)∧p_ctl_Layers 40 l = some 0:=by
 have R : ∀ i r,RidX.rightB (tpL p i r).Rid = true:=fun i r => nmL_right i
 have Z : ∀ i r,(tpL p i r).Rid.size < 2 ^ 40:=fun i r => nmL_size i
 have O : ∀ (i : Nat) (r : Int),i ≤ 2→0 ≤ r∧r < 90→okLy (tpL p i r):=fun i r hi hr => by
  refine ⟨⟨by simp only [tpL]; omega,by simp only [tpL]; omega⟩,⟨by simp only [tpL]; omega,by simp only [tpL]; omega⟩,?_⟩
  rcases i with _ | _ | i
  ·show (nmL 0).size ≤ 249; decide
  ·show (nmL 1).size ≤ 249; decide
  ·show (⟨#[72,73]⟩ : ByteArray).size ≤ 249; decide
 have ok : ∀ (i : Nat) (r : Int),i ≤ 2→0 ≤ r∧r < 90→okL (tpL p i r) none = true∧∀ b : TaiLayer,okL (tpL p i r) (some b) = decide (b.Height < (tpL p i r).Height):=fun i r hi hr => okL_ok (R i r) (by simp only [tpL]; omega)
 have S01 : ∀ r s,sameL (tpL p 0 r) (tpL p 1 s) = false:=fun r s => by
  have : ((tpL p 0 r).Ssrc == (tpL p 1 s).Ssrc) = false:=beq_eq_false_iff_ne.2 (by simp only [tpL]; omega)
  unfold sameL; rw [this,Bool.false_or]; exact nm01
 have S02 : ∀ r s,sameL (tpL p 0 r) (tpL p 2 s) = false:=fun r s => by
  have : ((tpL p 0 r).Ssrc == (tpL p 2 s).Ssrc) = false:=beq_eq_false_iff_ne.2 (by simp only [tpL]; omega)
  unfold sameL; rw [this,Bool.false_or]; exact nm02
 have S12 : ∀ r s,sameL (tpL p 1 r) (tpL p 2 s) = false:=fun r s => by
  have : ((tpL p 1 r).Ssrc == (tpL p 2 s).Ssrc) = false:=beq_eq_false_iff_ne.2 (by simp only [tpL]; omega)
  unfold sameL; rw [this,Bool.false_or]; exact nm12
 rcases h with ⟨r,hr,rfl⟩ | ⟨r,s,hr,hs,rfl⟩ | ⟨r,s,u,hr,hs,hu,rfl⟩
 ·refine ⟨by simp,fun a ha => by simp at ha; subst ha; exact O 0 r (by omega) hr,?_⟩
  have c1 : chkL [] [tpL p 0 r] = true:=by
   simp only [chkL,List.getLast?_nil,(ok 0 r (by omega) hr).1,List.any_nil,Bool.not_false,Bool.true_and]
  rw [layers_eq (by simp) (by simp) (fun b hb => by simp at hb; subst hb; exact Z 0 r),c1]; rfl
 ·refine ⟨by simp,fun a ha => ?_,?_⟩
  ·simp only [List.mem_cons,List.not_mem_nil,or_false] at ha
   rcases ha with rfl | rfl
   ·exact O 0 r (by omega) hr
   ·exact O 1 s (by omega) hs
  ·have c1 : chkL [] [tpL p 0 r,tpL p 1 s] = true:=by
    have h1:=(ok 0 r (by omega) hr).1
    have h2:=(ok 1 s (by omega) hs).2 (tpL p 0 r)
    have h3 : decide ((tpL p 0 r).Height < (tpL p 1 s).Height) = true:=decide_eq_true (by simp only [tpL]; omega)
    simp [chkL,h1,h2,h3,S01]
   rw [layers_eq (by simp) (by simp) (fun b hb => by
    simp only [List.mem_cons,List.not_mem_nil,or_false] at hb
    rcases hb with rfl | rfl
    ·exact Z 0 r
    ·exact Z 1 s),c1]; rfl
 ·refine ⟨by simp,fun a ha => ?_,?_⟩
  ·simp only [List.mem_cons,List.not_mem_nil,or_false] at ha
   rcases ha with rfl | rfl | rfl
   ·exact O 0 r (by omega) hr
   ·exact O 1 s (by omega) hs
   ·exact O 2 u (by omega) hu
  ·have c1 : chkL [] [tpL p 0 r,tpL p 1 s,tpL p 2 u] = true:=by
    have h1:=(ok 0 r (by omega) hr).1
    have h2:=(ok 1 s (by omega) hs).2 (tpL p 0 r)
    have h3 : decide ((tpL p 0 r).Height < (tpL p 1 s).Height) = true:=decide_eq_true (by simp only [tpL]; omega)
    have h4:=(ok 2 u (by omega) hu).2 (tpL p 1 s)
    have h5 : decide ((tpL p 1 s).Height < (tpL p 2 u).Height) = true:=decide_eq_true (by simp only [tpL]; omega)
    simp [chkL,h1,h2,h3,h4,h5,S01,S02,S12]
   rw [layers_eq (by simp) (by simp) (fun b hb => by
    simp only [List.mem_cons,List.not_mem_nil,or_false] at hb
    rcases hb with rfl | rfl | rfl
    ·exact Z 0 r
    ·exact Z 1 s
    ·exact Z 2 u),c1]; rfl
theorem Ly.chk {p : Int} (hp : 0 ≤ p∧p ≤ 5) {l : List TaiLayer} (h : Ly p l) : chkL [] l = true:=by
 obtain ⟨⟨l1,l3⟩,l4,l5⟩:=h.ok hp
 rw [layers_eq l1 l3 fun b hb => by have:=(l4 b hb).2.2; omega] at l5
 cases hc : chkL [] l with
 | true => rfl
 | false => rw [hc,cond_false] at l5; exact absurd (Option.some.inj l5) (by decide)
theorem TC.okC {c : TaiCtl} (h : TC c) : okC c:=by
 obtain ⟨h1,_,_,h4,h5⟩:=h
 refine ⟨⟨by omega,by omega⟩,?_,?_,fun a ha => (h5 a ha).1⟩
 ·rcases h4 with ⟨_,⟨p,hp,hl⟩,_⟩ | ⟨_,hl⟩
  ·exact (hl.ok hp).1.2
  ·rw [hl]; simp
 ·rcases h4 with ⟨_,⟨p,hp,hl⟩,_⟩ | ⟨_,hl⟩
  ·exact (hl.ok hp).2.1
  ·rw [hl]; intro a ha; cases ha
theorem TC.right {c : TaiCtl} (h : TC c) : p_ctl_Right 40 c = some 0:=by
 obtain ⟨h1,h2,h3,h4,_⟩:=h
 refine right_ok (by omega) h1 h2 h3 fun h => ?_
 rcases h4 with ⟨_,⟨p,hp,hl⟩,_⟩ | ⟨hn,_⟩
 ·exact (hl.ok hp).2.2
 ·exact absurd h hn
theorem TC.bytes {c : TaiCtl} (h : TC c) : p_ctl_Bytes 40 c = some (bytC c,0):=bytes8 h.okC (by omega) h.right
theorem tape_ctlK (j : Nat) {t : TzTape} (h : TP t) : ∃ c t',p_zk_Tape_Ctl (j + 4) t = some (c,t')∧TC c:=by
 obtain ⟨r,t1,e1,r1,h1⟩:=next_tape h (n:=10) (by omega)
 unfold p_zk_Tape_Ctl
 rw [e1,Option.bind_some]
 simp only [tape_eta]
 have hr : r = 0 ∨ r = 1 ∨ r = 2 ∨ r = 3 ∨ r = 4 ∨ r = 5 ∨ r = 6 ∨ r = 7 ∨ r = 8 ∨ r = 9:=by omega
 rcases hr with rfl | rfl | rfl | rfl | rfl | rfl | rfl | rfl | rfl | rfl
 ·simp only [show IntKind.wrap .i64 (1 + 0) = 1 from rfl,show ((1 : Int) == 1) = true from rfl,show ((1 : Int) == 3) = false from rfl,show ((1 : Int) == 4) = false from rfl,show ((1 : Int) == 5) = false from rfl,show ((1 : Int) == 6) = false from rfl,show ((1 : Int) == 7) = false from rfl,show ((1 : Int) == 8) = false from rfl,show ((1 : Int) == 9) = false from rfl,show ((1 : Int) == 10) = false from rfl,cond_true,cond_false]
  obtain ⟨a,t2,e2,r2,h2⟩:=next_tape h1 (n:=1048576) (by omega)
  rw [e2,Option.bind_some]
  simp only [tape_eta]
  rw [(wrap_i64 (n:=1 + a) (by omega) (by omega))]
  refine ⟨_,_,rfl,⟨by show (1 : Int) ≤ 1; decide,by show (1 : Int) ≤ 10; decide⟩,?_,?_,.inr ⟨by show (1 : Int) ≠ 3; decide,rfl⟩,six_all (itN (nm:=1) (n:=1 + a) (s:=8) (by omega) (by omega) (by omega) (by omega) (by omega) rfl) (itZ (nm:=3) (s:=1) (by omega) (by omega)) (itZ (nm:=4) (s:=2) (by omega) (by omega)) (itZ (nm:=5) (s:=1) (by omega) (by omega)) (itZ (nm:=6) (s:=1) (by omega) (by omega)) (itZ (nm:=7) (s:=1) (by omega) (by omega))⟩
  ·simp [fldB,hasB]
  ·simp [valB,hasB]; omega
 ·simp only [show IntKind.wrap .i64 (1 + 1) = 2 from rfl,show ((2 : Int) == 1) = false from rfl,show ((2 : Int) == 3) = false from rfl,show ((2 : Int) == 4) = false from rfl,show ((2 : Int) == 5) = false from rfl,show ((2 : Int) == 6) = false from rfl,show ((2 : Int) == 7) = false from rfl,show ((2 : Int) == 8) = false from rfl,show ((2 : Int) == 9) = false from rfl,show ((2 : Int) == 10) = false from rfl,cond_true,cond_false]
  refine ⟨_,_,rfl,⟨by show (1 : Int) ≤ 2; decide,by show (2 : Int) ≤ 10; decide⟩,?_,?_,.inr ⟨by show (2 : Int) ≠ 3; decide,rfl⟩,six_all (itZ (nm:=1) (s:=8) (by omega) (by omega)) (itZ (nm:=3) (s:=1) (by omega) (by omega)) (itZ (nm:=4) (s:=2) (by omega) (by omega)) (itZ (nm:=5) (s:=1) (by omega) (by omega)) (itZ (nm:=6) (s:=1) (by omega) (by omega)) (itZ (nm:=7) (s:=1) (by omega) (by omega))⟩
  ·simp [fldB,hasB]
  ·simp [valB,hasB]
 ·simp only [show IntKind.wrap .i64 (1 + 2) = 3 from rfl,show ((3 : Int) == 1) = false from rfl,show ((3 : Int) == 3) = true from rfl,show ((3 : Int) == 4) = false from rfl,show ((3 : Int) == 5) = false from rfl,show ((3 : Int) == 6) = false from rfl,show ((3 : Int) == 7) = false from rfl,show ((3 : Int) == 8) = false from rfl,show ((3 : Int) == 9) = false from rfl,show ((3 : Int) == 10) = false from rfl,cond_true,cond_false]
  obtain ⟨a,t2,e2,r2,h2⟩:=next_tape h1 (n:=6) (by omega)
  rw [e2,Option.bind_some]
  simp only [tape_eta]
  obtain ⟨l,t3,e3,hl⟩:=tape_layers h2 (p:=a) (by omega) j
  rw [e3,Option.bind_some]
  refine ⟨_,_,rfl,⟨by show (1 : Int) ≤ 3; decide,by show (3 : Int) ≤ 10; decide⟩,?_,?_,.inl ⟨rfl,⟨a,by omega,hl⟩,rfl⟩,six_all (itZ (nm:=1) (s:=8) (by omega) (by omega)) (itZ (nm:=3) (s:=1) (by omega) (by omega)) (itZ (nm:=4) (s:=2) (by omega) (by omega)) (itZ (nm:=5) (s:=1) (by omega) (by omega)) (itZ (nm:=6) (s:=1) (by omega) (by omega)) (itZ (nm:=7) (s:=1) (by omega) (by omega))⟩
  ·simp [fldB,hasB]
  ·rfl
 ·simp only [show IntKind.wrap .i64 (1 + 3) = 4 from rfl,show ((4 : Int) == 1) = false from rfl,show ((4 : Int) == 3) = false from rfl,show ((4 : Int) == 4) = true from rfl,show ((4 : Int) == 5) = false from rfl,show ((4 : Int) == 6) = false from rfl,show ((4 : Int) == 7) = false from rfl,show ((4 : Int) == 8) = false from rfl,show ((4 : Int) == 9) = false from rfl,show ((4 : Int) == 10) = false from rfl,cond_true,cond_false]
  obtain ⟨a,t2,e2,r2,h2⟩:=next_tape h1 (n:=6) (by omega)
  obtain ⟨b,t3,e3,r3,h3⟩:=next_tape h2 (n:=1000) (by omega)
  obtain ⟨d,t4,e4,r4,h4⟩:=next_tape h3 (n:=4) (by omega)
  rw [e2,Option.bind_some]
  simp only [tape_eta]
  rw [e3,Option.bind_some]
  simp only [tape_eta]
  rw [e4,Option.bind_some]
  simp only [tape_eta]
  rw [(wrap_i64 (n:=1 + b) (by omega) (by omega))]
  refine ⟨_,_,rfl,⟨by show (1 : Int) ≤ 4; decide,by show (4 : Int) ≤ 10; decide⟩,?_,?_,.inr ⟨by show (4 : Int) ≠ 3; decide,rfl⟩,six_all (itZ (nm:=1) (s:=8) (by omega) (by omega)) (itN (nm:=3) (n:=a) (s:=1) (by omega) (by omega) (by omega) (by omega) (by omega) rfl) (itN (nm:=4) (n:=1 + b) (s:=2) (by omega) (by omega) (by omega) (by omega) (by omega) rfl) (itN (nm:=5) (n:=d) (s:=1) (by omega) (by omega) (by omega) (by omega) (by omega) rfl) (itZ (nm:=6) (s:=1) (by omega) (by omega)) (itZ (nm:=7) (s:=1) (by omega) (by omega))⟩
  ·simp [fldB,hasB]
  ·simp [valB,hasB]; omega
 ·simp only [show IntKind.wrap .i64 (1 + 4) = 5 from rfl,show ((5 : Int) == 1) = false from rfl,show ((5 : Int) == 3) = false from rfl,show ((5 : Int) == 4) = false from rfl,show ((5 : Int) == 5) = true from rfl,show ((5 : Int) == 6) = false from rfl,show ((5 : Int) == 7) = false from rfl,show ((5 : Int) == 8) = false from rfl,show ((5 : Int) == 9) = false from rfl,show ((5 : Int) == 10) = false from rfl,cond_true,cond_false]
  obtain ⟨a,t2,e2,r2,h2⟩:=next_tape h1 (n:=6) (by omega)
  rw [e2,Option.bind_some]
  simp only [tape_eta]
  refine ⟨_,_,rfl,⟨by show (1 : Int) ≤ 5; decide,by show (5 : Int) ≤ 10; decide⟩,?_,?_,.inr ⟨by show (5 : Int) ≠ 3; decide,rfl⟩,six_all (itZ (nm:=1) (s:=8) (by omega) (by omega)) (itN (nm:=3) (n:=a) (s:=1) (by omega) (by omega) (by omega) (by omega) (by omega) rfl) (itZ (nm:=4) (s:=2) (by omega) (by omega)) (itZ (nm:=5) (s:=1) (by omega) (by omega)) (itZ (nm:=6) (s:=1) (by omega) (by omega)) (itZ (nm:=7) (s:=1) (by omega) (by omega))⟩
  ·simp [fldB,hasB]
  ·simp [valB,hasB]; omega
 ·simp only [show IntKind.wrap .i64 (1 + 5) = 6 from rfl,show ((6 : Int) == 1) = false from rfl,show ((6 : Int) == 3) = false from rfl,show ((6 : Int) == 4) = false from rfl,show ((6 : Int) == 5) = false from rfl,show ((6 : Int) == 6) = true from rfl,show ((6 : Int) == 7) = false from rfl,show ((6 : Int) == 8) = false from rfl,show ((6 : Int) == 9) = false from rfl,show ((6 : Int) == 10) = false from rfl,cond_true,cond_false]
  obtain ⟨a,t2,e2,r2,h2⟩:=next_tape h1 (n:=6) (by omega)
  obtain ⟨b,t3,e3,r3,h3⟩:=next_tape h2 (n:=1000) (by omega)
  rw [e2,Option.bind_some]
  simp only [tape_eta]
  rw [e3,Option.bind_some]
  simp only [tape_eta]
  rw [(wrap_i64 (n:=1 + b) (by omega) (by omega))]
  refine ⟨_,_,rfl,⟨by show (1 : Int) ≤ 6; decide,by show (6 : Int) ≤ 10; decide⟩,?_,?_,.inr ⟨by show (6 : Int) ≠ 3; decide,rfl⟩,six_all (itZ (nm:=1) (s:=8) (by omega) (by omega)) (itN (nm:=3) (n:=a) (s:=1) (by omega) (by omega) (by omega) (by omega) (by omega) rfl) (itN (nm:=4) (n:=1 + b) (s:=2) (by omega) (by omega) (by omega) (by omega) (by omega) rfl) (itZ (nm:=5) (s:=1) (by omega) (by omega)) (itZ (nm:=6) (s:=1) (by omega) (by omega)) (itZ (nm:=7) (s:=1) (by omega) (by omega))⟩
  ·simp [fldB,hasB]
  ·simp [valB,hasB]; omega
 ·simp only [show IntKind.wrap .i64 (1 + 6) = 7 from rfl,show ((7 : Int) == 1) = false from rfl,show ((7 : Int) == 3) = false from rfl,show ((7 : Int) == 4) = false from rfl,show ((7 : Int) == 5) = false from rfl,show ((7 : Int) == 6) = false from rfl,show ((7 : Int) == 7) = true from rfl,show ((7 : Int) == 8) = false from rfl,show ((7 : Int) == 9) = false from rfl,show ((7 : Int) == 10) = false from rfl,cond_true,cond_false]
  obtain ⟨a,t2,e2,r2,h2⟩:=next_tape h1 (n:=6) (by omega)
  obtain ⟨b,t3,e3,r3,h3⟩:=next_tape h2 (n:=4) (by omega)
  rw [e2,Option.bind_some]
  simp only [tape_eta]
  rw [e3,Option.bind_some]
  simp only [tape_eta]
  refine ⟨_,_,rfl,⟨by show (1 : Int) ≤ 7; decide,by show (7 : Int) ≤ 10; decide⟩,?_,?_,.inr ⟨by show (7 : Int) ≠ 3; decide,rfl⟩,six_all (itZ (nm:=1) (s:=8) (by omega) (by omega)) (itN (nm:=3) (n:=a) (s:=1) (by omega) (by omega) (by omega) (by omega) (by omega) rfl) (itZ (nm:=4) (s:=2) (by omega) (by omega)) (itN (nm:=5) (n:=b) (s:=1) (by omega) (by omega) (by omega) (by omega) (by omega) rfl) (itZ (nm:=6) (s:=1) (by omega) (by omega)) (itZ (nm:=7) (s:=1) (by omega) (by omega))⟩
  ·simp [fldB,hasB]
  ·simp [valB,hasB]; omega
 ·simp only [show IntKind.wrap .i64 (1 + 7) = 8 from rfl,show ((8 : Int) == 1) = false from rfl,show ((8 : Int) == 3) = false from rfl,show ((8 : Int) == 4) = false from rfl,show ((8 : Int) == 5) = false from rfl,show ((8 : Int) == 6) = false from rfl,show ((8 : Int) == 7) = false from rfl,show ((8 : Int) == 8) = true from rfl,show ((8 : Int) == 9) = false from rfl,show ((8 : Int) == 10) = false from rfl,cond_true,cond_false]
  obtain ⟨a,t2,e2,r2,h2⟩:=next_tape h1 (n:=3) (by omega)
  rw [e2,Option.bind_some]
  simp only [tape_eta]
  refine ⟨_,_,rfl,⟨by show (1 : Int) ≤ 8; decide,by show (8 : Int) ≤ 10; decide⟩,?_,?_,.inr ⟨by show (8 : Int) ≠ 3; decide,rfl⟩,six_all (itZ (nm:=1) (s:=8) (by omega) (by omega)) (itZ (nm:=3) (s:=1) (by omega) (by omega)) (itZ (nm:=4) (s:=2) (by omega) (by omega)) (itZ (nm:=5) (s:=1) (by omega) (by omega)) (itN (nm:=6) (n:=a) (s:=1) (by omega) (by omega) (by omega) (by omega) (by omega) rfl) (itZ (nm:=7) (s:=1) (by omega) (by omega))⟩
  ·simp [fldB,hasB]
  ·simp [valB,hasB]; omega
 ·simp only [show IntKind.wrap .i64 (1 + 8) = 9 from rfl,show ((9 : Int) == 1) = false from rfl,show ((9 : Int) == 3) = false from rfl,show ((9 : Int) == 4) = false from rfl,show ((9 : Int) == 5) = false from rfl,show ((9 : Int) == 6) = false from rfl,show ((9 : Int) == 7) = false from rfl,show ((9 : Int) == 8) = false from rfl,show ((9 : Int) == 9) = true from rfl,show ((9 : Int) == 10) = false from rfl,cond_true,cond_false]
  obtain ⟨a,t2,e2,r2,h2⟩:=next_tape h1 (n:=3) (by omega)
  rw [e2,Option.bind_some]
  simp only [tape_eta]
  refine ⟨_,_,rfl,⟨by show (1 : Int) ≤ 9; decide,by show (9 : Int) ≤ 10; decide⟩,?_,?_,.inr ⟨by show (9 : Int) ≠ 3; decide,rfl⟩,six_all (itZ (nm:=1) (s:=8) (by omega) (by omega)) (itZ (nm:=3) (s:=1) (by omega) (by omega)) (itZ (nm:=4) (s:=2) (by omega) (by omega)) (itZ (nm:=5) (s:=1) (by omega) (by omega)) (itN (nm:=6) (n:=a) (s:=1) (by omega) (by omega) (by omega) (by omega) (by omega) rfl) (itZ (nm:=7) (s:=1) (by omega) (by omega))⟩
  ·simp [fldB,hasB]
  ·simp [valB,hasB]; omega
 ·simp only [show IntKind.wrap .i64 (1 + 9) = 10 from rfl,show ((10 : Int) == 1) = false from rfl,show ((10 : Int) == 3) = false from rfl,show ((10 : Int) == 4) = false from rfl,show ((10 : Int) == 5) = false from rfl,show ((10 : Int) == 6) = false from rfl,show ((10 : Int) == 7) = false from rfl,show ((10 : Int) == 8) = false from rfl,show ((10 : Int) == 9) = false from rfl,show ((10 : Int) == 10) = true from rfl,cond_true,cond_false]
  obtain ⟨a,t2,e2,r2,h2⟩:=next_tape h1 (n:=256) (by omega)
  rw [e2,Option.bind_some]
  simp only [tape_eta]
  refine ⟨_,_,rfl,⟨by show (1 : Int) ≤ 10; decide,by show (10 : Int) ≤ 10; decide⟩,?_,?_,.inr ⟨by show (10 : Int) ≠ 3; decide,rfl⟩,six_all (itZ (nm:=1) (s:=8) (by omega) (by omega)) (itZ (nm:=3) (s:=1) (by omega) (by omega)) (itZ (nm:=4) (s:=2) (by omega) (by omega)) (itZ (nm:=5) (s:=1) (by omega) (by omega)) (itZ (nm:=6) (s:=1) (by omega) (by omega)) (itN (nm:=7) (n:=a) (s:=1) (by omega) (by omega) (by omega) (by omega) (by omega) rfl)⟩
  ·simp [fldB,hasB]
  ·simp [valB,hasB]; omega
end Go.Ev
namespace Go.Ev
open Go.Proofs
set_option linter.unusedVariables false
set_option linter.unusedSimpArgs false
set_option maxRecDepth 100000
noncomputable section
abbrev KT13:=Exit→Env→H→Option (List C × H)
variable (rec : CallF) (loop : LoopV) (σ : Stamp)
theorem octet_Cut_entry (x0 : V) (x1 : Int) (x2 : Int) (h : H) : cvBody G rec loop 59 σ [x0,(.p (.int .i64 x1)),(.p (.int .i64 x2))] h =
(bif decide (x1 < 0) then (some true) else (some (decide (x2 < 0)))).bind fun b1 =>
(bif b1 then (some true) else ((lenO x0).bind fun t2 =>
(castI .i64 t2).bind fun n3 =>
some (decide (x1 > n3)))).bind fun b4 =>
(bif b4 then (some true) else ((lenO x0).bind fun t5 =>
(castI .i64 t5).bind fun n6 =>
some (decide (x2 > (IntKind.wrap .i64 (n6 - x1)))))).bind fun b7 =>
bif b7 then (
fin true σ (List.replicate 35 []::h) [(.p (.slice .none 0 0)),(.p (.bool false))])
else (
(slS 1 x0 (some x1) (some (IntKind.wrap .i64 (x1 + x2))) none).bind fun t8 =>
(callO rec 63 (6::0::1::1::0::σ) [t8] (List.replicate 35 []::h) (some 34)).bind fun q9 =>
fin true σ q9.2 [q9.1,(.p (.bool true))]):=by kernel_rfl
end
end Go.Ev
namespace Go.Ev
open Go.Proofs
set_option linter.unusedVariables false
set_option linter.unusedSimpArgs false
set_option maxRecDepth 100000
section
variable {β α : Type} {Q : β→α→Prop} {K : Exit × Env × H→Option α}
def p_octet_Cut (x0 : (List Int)) (x1 : Int) (x2 : Int) : Option ((List Int) × Bool) :=
(bif decide (x1 < 0) then (some true) else (some (decide (x2 < 0)))).bind fun b1 =>
(bif b1 then (some true) else (some (decide (x1 > ((x0.length : Int)))))).bind fun b5 =>
(bif b5 then (some true) else (some (decide (x2 > (IntKind.wrap .i64 (((x0.length : Int)) - x1)))))).bind fun b9 =>
bif b9 then (
some ((([] : List Int)),false))
else (
(sub x0 x1 (IntKind.wrap .i64 (x1 + x2))).bind fun a14 =>
(p_clone 1 a14).bind fun r16 =>
some (r16,true))
theorem octet_Cut_ok {h : H} {σ : Stamp} (x0 : List Int) {u0 : V} (hu0 : SlH h (dI .u8) x0 u0) (x1 : Int) (x2 : Int) : Sim (p_octet_Cut x0 x1 x2) (ev G X0 59 σ [u0,(.p (.int .i64 x1)),(.p (.int .i64 x2))] h) (fun r s => ∃ (v0 : V),SlF (dI .u8) r.1 v0∧s = ([.v v0,.v (.p (.bool r.2))],h)):=by
 refine .ev rfl (Sim.ext (octet_Cut_entry _ _ _ _ _ _ _) ?_)
 rw [p_octet_Cut]
 have S0 : Fm 35 h [] [] [] (List.replicate 35 []::h):=Fm.start0
 refine .ch (P:=fun r y => r = y) ?_ (fun b1 y2 h3 h4 => ?_)
 ·refine .cq ?_ ?_
  ·exact .ret rfl rfl
  ·exact .ret rfl rfl
 subst h4
 refine .ch (P:=fun r y => r = y) ?_ (fun b5 y6 h7 h8 => ?_)
 ·refine .cq ?_ ?_
  ·exact .ret rfl rfl
  ·refine .op ((S0.low hu0).len) ?_
   refine .ci ?_
   exact .ret rfl rfl
 subst h8
 refine .ch (P:=fun r y => r = y) ?_ (fun b9 y10 h11 h12 => ?_)
 ·refine .cq ?_ ?_
  ·exact .ret rfl rfl
  ·refine .op ((S0.low hu0).len) ?_
   refine .ci ?_
   exact .ret rfl rfl
 subst h12
 refine .cq ?_ ?_
 ·exact .fin (S0.finN (lC (SlF.nil (dI .u8)).still.lv (lC (sB _).lv lN))) ⟨(.p (.slice none 0 0)),(SlF.nil (dI .u8)),rfl⟩
 refine .bd fun a14 h15 => ?_
 refine .op ((S0.low hu0).slS h15 rfl rfl rfl) ?_
 refine .call (clone_ok (b:=1) (f:=63) (tt:=5) (e:=1) (τ:=fun σ => _::_::_::_::_::σ) (fun x h => slices_Clone_Lbyte_byte_entry _ _ _ x h) ((S0.low hu0).sub h15 (e:=1) rfl) rfl (by decide) (by decide) (by decide) (by kernel_rfl) (by kernel_rfl) rfl) fun r16 cs17 H18 h19 q20 => ?_
 obtain ⟨c21,cs22,h23,h24,q20⟩:=q20
 cases q20
 obtain ⟨v25,H26,e27,S28⟩:=S0.land (dt:=(dI .u8)) (d:=34) (e:=0) (n:=0) h23 h24 (by decide) rfl
 erw [e27]
 obtain ⟨v35,H30,e31,h33,S32⟩:=S28.expFrz (i:=0) (τ:=0::1::σ) rfl rfl
 exact .fin (S32.finE (Ex.st e31 (Ex.pl (sB _).lv Ex.nil))) ⟨v35,h33,rfl⟩
end
end Go.Ev
namespace Go.Ev
theorem cut_ok {xs : List Int} {a n : Nat} (h : a + n ≤ xs.length) (hl : xs.length < 2 ^ 39) : p_octet_Cut xs (a : Int) (n : Int) = some ((xs.drop a).take n,true):=by
 unfold p_octet_Cut
 have e1 : decide (((a : Nat) : Int) < 0) = false:=by simp
 have e2 : decide (((n : Nat) : Int) < 0) = false:=by simp
 have e3 : decide (((a : Nat) : Int) > (xs.length : Int)) = false:=by simp; omega
 have e4 : decide (((n : Nat) : Int) > IntKind.wrap .i64 ((xs.length : Int) - (a : Int))) = false:=by
  rw [wrap_i64 (by omega) (by omega)]; simp; omega
 have e5 : IntKind.wrap .i64 ((a : Int) + (n : Int)) = ((a + n : Nat) : Int):=by rw [wrap_i64 (by omega) (by omega)]; rfl
 simp only [e1,e2,e3,e4,e5,cond_false,Option.bind_some,sub_eq h]
 rw [clone_eq (by decide) (by rw [List.length_take,List.length_drop]; omega)]
 rfl
theorem cut_no {xs : List Int} {a n : Nat} (h : xs.length < a + n) (hl : xs.length < 2 ^ 39) : p_octet_Cut xs (a : Int) (n : Int) = some ([],false):=by
 unfold p_octet_Cut
 have e1 : decide (((a : Nat) : Int) < 0) = false:=by simp
 have e2 : decide (((n : Nat) : Int) < 0) = false:=by simp
 simp only [e1,e2,cond_false,Option.bind_some]
 by_cases h3 : xs.length < a
 ·have e3 : decide (((a : Nat) : Int) > (xs.length : Int)) = true:=by simp; omega
  simp only [e3,cond_true,Option.bind_some]
 ·have e3 : decide (((a : Nat) : Int) > (xs.length : Int)) = false:=by simp; omega
  have e4 : decide (((n : Nat) : Int) > IntKind.wrap .i64 ((xs.length : Int) - (a : Int))) = true:=by
   rw [wrap_i64 (by omega) (by omega)]; simp; omega
  simp only [e3,e4,cond_true,cond_false,Option.bind_some]
end Go.Ev
namespace Go.Ev
open Go.Proofs
set_option linter.unusedVariables false
set_option linter.unusedSimpArgs false
set_option maxRecDepth 100000
noncomputable section
abbrev KT14:=Exit→Env→H→Option (List C × H)
variable (rec : CallF) (loop : LoopV) (σ : Stamp)
def ctl_Read_c0 : Code:=(codeAt (bodyOf Try.f30) [1,1,1,1,0,1,0,0])
def ctl_Read_l0 : Lv:=⟨69,12,[(0,69)]⟩
def ctl_Read_k0 : KT14:=(kBlock 0 (kSeq G rec loop (codeAt (bodyOf Try.f30) [1,1,1,1,1]) ⟨12,12,[]⟩ (1::1::1::1::0::σ) (finC G false Try.f30 (1::σ))))
theorem ctl_Read_entry (x0 : V) (h : H) : cvBody G rec loop 30 σ [x0] h =
(some (alO [.p (.int .i64 0),.p (.int .i64 0),.p (.slice none 0 0),.p (.int .i64 0),.p (.int .i64 0),.p (.int .i64 0),.p (.int .i64 0),.p (.int .i64 0)] (0::0::0::σ) 2 (List.replicate 82 []::h))).bind fun q1 =>
(callO rec 70 (1::0::1::0::σ) [x0,(.p (.int .i64 1)),(.p (.int .i64 2))] q1.2 (some 14)).bind fun q2 =>
(extV q2.1 0).bind fun t3 =>
(castI .u64 t3).bind fun n4 =>
(extV q2.1 1).bind fun t5 =>
(asB t5).bind fun b6 =>
(lenO x0).bind fun t7 =>
(castI .i64 t7).bind fun n8 =>
(bif decide (n8 < 3) then (some true) else ((lenO x0).bind fun t9 =>
(castI .i64 t9).bind fun n10 =>
some (decide ((IntKind.wrap .i64 (n10 - 3)) < (IntKind.wrap .i64 n4))))).bind fun b11 =>
bif b11 then (
(buildV Try.prog 58 []).bind fun t12 =>
((stO false 8 (1::0::1::0::1::1::0::σ) q2.2 q1.1 t12).map fun h => (udf,h)).bind fun q13 =>
((ldO true 8 q13.2 q1.1).bind fun t14 => ((some []).map ((.p (.int .i64 13))::·)).map (t14::·)).bind fun t15 => fin false σ q13.2 t15)
else (
(iS 1 x0 0).bind fun t16 =>
(ldO false 1 q2.2 t16).bind fun t17 =>
(castI .u8 t17).bind fun n18 =>
(buildV Try.prog 58 [(0,(.p (.int .i64 (IntKind.wrap .i64 n18))))]).bind fun t19 =>
(some (alO [.p (.int .i64 0),.p (.int .i64 0),.p (.slice none 0 0),.p (.int .i64 0),.p (.int .i64 0),.p (.int .i64 0),.p (.int .i64 0),.p (.int .i64 0)] (5::0::1::1::1::0::σ) 6 q2.2)).bind fun q20 =>
((stO false 8 (6::0::1::1::1::0::σ) q20.2 q20.1 t19).map fun h => (udf,h)).bind fun q21 =>
(loop ctl_Read_c0 ctl_Read_l0 (1::0::1::1::1::1::0::σ) (envL [(0,x0),(2,q1.1),(6,q20.1),(7,(.p (.int .i64 3)))]) q21.2).bind fun r22 => ctl_Read_k0 rec loop σ r22.1 r22.2.1 r22.2.2):=by kernel_rfl
theorem ctl_Read_r0 (x0 : V) (x2 : V) (x6 : V) (x7 : Int) (h : H) : cvRound G rec loop ctl_Read_c0 ctl_Read_l0 σ (envL [(0,x0),(2,x2),(6,x6),(7,(.p (.int .i64 x7)))]) h =
(lenO x0).bind fun t23 =>
(castI .i64 t23).bind fun n24 =>
bif decide ((IntKind.wrap .i64 (x7 + 1)) < n24) then (
(iS 1 x0 (IntKind.wrap .i64 (x7 + 1))).bind fun t25 =>
(ldO false 1 h t25).bind fun t26 =>
(castI .u8 t26).bind fun n27 =>
(callO rec 59 (9::0::1::0::σ) [x0,(.p (.int .i64 (IntKind.wrap .i64 (x7 + 2)))),(.p (.int .i64 (IntKind.wrap .i64 n27)))] h (some 49)).bind fun q28 =>
(extV q28.1 0).bind fun t29 =>
(extV q28.1 1).bind fun t30 =>
(asB t30).bind fun b31 =>
bif !b31 then (
(buildV Try.prog 58 []).bind fun t32 =>
((stO false 8 (1::0::1::0::1::1::0::σ) q28.2 x2 t32).map fun h => (udf,h)).bind fun q33 =>
some (.ret,(envL [(2,x2),(3,(.p (.int .i64 12)))]),q33.2))
else (
(iS 1 x0 x7).bind fun t34 =>
(ldO false 1 q28.2 t34).bind fun t35 =>
(castI .u8 t35).bind fun n36 =>
(callO rec 71 (6::0::1::1::1::0::σ) [x6,(.p (.int .i64 (IntKind.wrap .i64 n36))),t29] q28.2 (some 61)).bind fun q37 =>
(lenO t29).bind fun t38 =>
(castI .i64 t38).bind fun n39 =>
loop ctl_Read_c0 ctl_Read_l0 (1::σ) (envL [(0,x0),(2,x2),(6,x6),(7,(.p (.int .i64 (IntKind.wrap .i64 (x7 + (IntKind.wrap .i64 (2 + n39)))))))]) q37.2))
else (
some ((.exit 0),(envL [(0,x0),(2,x2),(6,x6)]),h)):=by kernel_rfl
theorem ctl_Read_a0_0 (x0 : V) (x2 : V) (x6 : V) (h : H) : ctl_Read_k0 rec loop σ (.exit 0) (envL [(0,x0),(2,x2),(6,x6)]) h =
(ldO true 8 h x6).bind fun t40 =>
(callFO rec 29 (1::0::0::1::1::1::1::1::0::σ) [t40] h (some 69)).bind fun q41 =>
(extV q41.1 0).bind fun t42 =>
(extV q41.1 1).bind fun t43 =>
(castI .i64 t43).bind fun n44 =>
(bif n44 != 0 then (some ((.p (.bool true)),q41.2)) else ((callO rec 72 (5::0::1::0::1::1::1::1::1::0::σ) [t42,x0] q41.2 (some 77)).bind fun q45 =>
(asB q45.1).bind fun b46 =>
some ((.p (.bool (!b46))),q45.2))).bind fun q47 =>
(asB q47.1).bind fun b48 =>
bif b48 then (
(buildV Try.prog 58 []).bind fun t49 =>
((stO false 8 (1::0::1::1::0::1::1::1::1::1::0::σ) q47.2 x2 t49).map fun h => (udf,h)).bind fun q50 =>
((ldO true 8 q50.2 x2).bind fun t51 => ((some []).map ((.p (.int .i64 12))::·)).map (t51::·)).bind fun t52 => fin false σ q50.2 t52)
else (
(ldO true 8 q47.2 x6).bind fun t53 =>
((stO false 8 (1::0::1::1::1::1::1::1::0::σ) q47.2 x2 t53).map fun h => (udf,h)).bind fun q54 =>
((ldO true 8 q54.2 x2).bind fun t55 => ((some []).map ((.p (.int .i64 0))::·)).map (t55::·)).bind fun t56 => fin false σ q54.2 t56):=by kernel_rfl
theorem ctl_Read_a0_ret (x2 : V) (x3 : Int) (h : H) : ctl_Read_k0 rec loop σ .ret (envL [(2,x2),(3,(.p (.int .i64 x3)))]) h =
((ldO true 8 h x2).bind fun t57 => ((some []).map ((.p (.int .i64 x3))::·)).map (t57::·)).bind fun t58 => fin false σ h t58:=by kernel_rfl
theorem ctl_take_entry (x0 : V) (x1 : Int) (x2 : V) (h : H) : cvBody G rec loop 71 σ [x0,(.p (.int .i64 x1)),x2] h =
(lenO x2).bind fun t1 =>
(castI .i64 t1).bind fun n2 =>
(callO rec 70 (3::0::0::σ) [x2,(.p (.int .i64 0)),(.p (.int .i64 n2))] (List.replicate 105 []::h) (some 18)).bind fun q3 =>
(extV q3.1 0).bind fun t4 =>
(castI .u64 t4).bind fun n5 =>
(extV q3.1 1).bind fun t6 =>
(asB t6).bind fun b7 =>
bif x1 == 1 then (
(nilChk x0).bind fun t8 =>
(fA t8 1).bind fun t9 =>
((stO true 1 (5::1::1::1::0::σ) q3.2 t9 (.p (.int .i64 (IntKind.wrap .i64 n5)))).map fun h => (udf,h)).bind fun q10 =>
fin false σ q10.2 [])
else (
bif x1 == 2 then (
(callO rec 70 (1::0::1::1::1::1::0::σ) [x2,(.p (.int .i64 0)),(.p (.int .i64 4))] q3.2 (some 33)).bind fun q11 =>
(extV q11.1 0).bind fun t12 =>
(castI .u64 t12).bind fun n13 =>
(extV q11.1 1).bind fun t14 =>
(asB t14).bind fun b15 =>
(callO rec 70 (1::0::1::1::1::1::1::0::σ) [x2,(.p (.int .i64 4)),(.p (.int .i64 2))] q11.2 (some 38)).bind fun q16 =>
(extV q16.1 0).bind fun t17 =>
(castI .u64 t17).bind fun n18 =>
(extV q16.1 1).bind fun t19 =>
(asB t19).bind fun b20 =>
(lenO x2).bind fun t21 =>
(castI .i64 t21).bind fun n22 =>
(lenO x2).bind fun t23 =>
(castI .i64 t23).bind fun n24 =>
(callO rec 59 (9::0::1::1::1::1::1::1::0::σ) [x2,(.p (.int .i64 ((if n22 < 6 then n22 else 6)))),(.p (.int .i64 ((if (IntKind.wrap .i64 ((IntKind.wrap .i64 (n24 - 4)) - 2)) > 0 then (IntKind.wrap .i64 ((IntKind.wrap .i64 (n24 - 4)) - 2)) else 0))))] q16.2 (some 51)).bind fun q25 =>
(extV q25.1 0).bind fun t26 =>
(extV q25.1 1).bind fun t27 =>
(asB t27).bind fun b28 =>
(nilChk x0).bind fun t29 =>
(fA t29 2).bind fun t30 =>
(ldO false 1 q25.2 t30).bind fun t31 =>
(strO q25.2 t26).bind fun t32 =>
(castS t32).bind fun s33 =>
(buildV Try.prog 70 [(0,(.p (.string s33))),(1,(.p (.int .u32 (IntKind.wrap .u32 n13)))),(2,(.p (.int .i64 (IntKind.wrap .i64 n18))))]).bind fun t34 =>
(bSV Try.prog 56 1 [(0,t34)]).bind fun t35 =>
(apO false 3 32 (13::1::1::1::1::1::1::1::0::σ) 67 q25.2 t31 t35).bind fun q36 =>
(nilChk x0).bind fun t37 =>
(fA t37 2).bind fun t38 =>
((stO true 1 (16::1::1::1::1::1::1::1::0::σ) q36.2 t38 q36.1).map fun h => (udf,h)).bind fun q39 =>
fin false σ q39.2 [])
else (
bif x1 == 3 then (
(nilChk x0).bind fun t40 =>
(fA t40 3).bind fun t41 =>
((stO true 1 (5::1::1::1::1::1::0::σ) q3.2 t41 (.p (.int .i64 (IntKind.wrap .i64 n5)))).map fun h => (udf,h)).bind fun q42 =>
fin false σ q42.2 [])
else (
bif x1 == 4 then (
(nilChk x0).bind fun t43 =>
(fA t43 4).bind fun t44 =>
((stO true 1 (5::1::1::1::1::1::1::0::σ) q3.2 t44 (.p (.int .i64 (IntKind.wrap .i64 n5)))).map fun h => (udf,h)).bind fun q45 =>
fin false σ q45.2 [])
else (
bif x1 == 5 then (
(nilChk x0).bind fun t46 =>
(fA t46 5).bind fun t47 =>
((stO true 1 (5::1::1::1::1::1::1::1::0::σ) q3.2 t47 (.p (.int .i64 (IntKind.wrap .i64 n5)))).map fun h => (udf,h)).bind fun q48 =>
fin false σ q48.2 [])
else (
bif x1 == 6 then (
(nilChk x0).bind fun t49 =>
(fA t49 6).bind fun t50 =>
((stO true 1 (5::1::1::1::1::1::1::1::1::0::σ) q3.2 t50 (.p (.int .i64 (IntKind.wrap .i64 n5)))).map fun h => (udf,h)).bind fun q51 =>
fin false σ q51.2 [])
else (
bif x1 == 7 then (
(nilChk x0).bind fun t52 =>
(fA t52 7).bind fun t53 =>
((stO true 1 (5::1::1::1::1::1::1::1::1::1::0::σ) q3.2 t53 (.p (.int .i64 (IntKind.wrap .i64 n5)))).map fun h => (udf,h)).bind fun q54 =>
fin false σ q54.2 [])
else (
fin false σ q3.2 []))))))):=by kernel_rfl
def octet_Get_c0 : Code:=(codeAt (bodyOf Try.f70) [1,1,1,1,0,1,0,0])
def octet_Get_l0 : Lv:=⟨1024,192,[(0,1024)]⟩
def octet_Get_k0 : KT14:=(kBlock 0 (kSeq G rec loop (codeAt (bodyOf Try.f70) [1,1,1,1,1]) ⟨192,192,[]⟩ (1::1::1::1::0::σ) (finC G false Try.f70 (1::σ))))
theorem octet_Get_entry (x0 : V) (x1 : Int) (x2 : Int) (h : H) : cvBody G rec loop 70 σ [x0,(.p (.int .i64 x1)),(.p (.int .i64 x2))] h =
(callO rec 59 (3::0::1::0::σ) [x0,(.p (.int .i64 x1)),(.p (.int .i64 x2))] (List.replicate 43 []::h) (some 17)).bind fun q1 =>
(extV q1.1 0).bind fun t2 =>
(extV q1.1 1).bind fun t3 =>
(asB t3).bind fun b4 =>
(bif !b4 then (some true) else (some (decide (x2 < 1)))).bind fun b5 =>
(bif b5 then (some true) else (some (decide (x2 > 8)))).bind fun b6 =>
bif b6 then (
fin false σ q1.2 [(.p (.int .u64 0)),(.p (.bool false))])
else (
(lenO t2).bind fun t7 =>
(castI .i64 t7).bind fun n8 =>
(loop octet_Get_c0 octet_Get_l0 (1::0::1::1::1::1::0::σ) (envL [(10,(.p (.int .u64 0))),(30,t2),(31,(.p (.int .i64 n8))),(32,(.p (.int .i64 0)))]) q1.2).bind fun r9 => octet_Get_k0 rec loop σ r9.1 r9.2.1 r9.2.2):=by kernel_rfl
theorem octet_Get_r0 (x10 : Int) (x30 : V) (x31 : Int) (x32 : Int) (h : H) : cvRound G rec loop octet_Get_c0 octet_Get_l0 σ (envL [(10,(.p (.int .u64 x10))),(30,x30),(31,(.p (.int .i64 x31))),(32,(.p (.int .i64 x32)))]) h =
bif decide (x32 < x31) then (
(iS 1 x30 x32).bind fun t10 =>
(ldO false 1 h t10).bind fun t11 =>
(castI .u8 t11).bind fun n12 =>
loop octet_Get_c0 octet_Get_l0 (1::σ) (envL [(10,(.p (.int .u64 (intBits .or .u64 (IntKind.wrap .u64 (x10 * 2 ^ 8)) (IntKind.wrap .u64 n12))))),(30,x30),(31,(.p (.int .i64 x31))),(32,(.p (.int .i64 (IntKind.wrap .i64 (x32 + 1)))))]) h)
else (
some ((.exit 0),(envL [(10,(.p (.int .u64 x10)))]),h)):=by kernel_rfl
theorem octet_Get_a0_0 (x10 : Int) (h : H) : octet_Get_k0 rec loop σ (.exit 0) (envL [(10,(.p (.int .u64 x10)))]) h =
fin false σ h [(.p (.int .u64 x10)),(.p (.bool true))]:=by kernel_rfl
end
end Go.Ev
namespace Go.Ev
open Go.Proofs
set_option linter.unusedVariables false
set_option linter.unusedSimpArgs false
set_option maxRecDepth 100000
section
variable {β α : Type} {Q : β→α→Prop} {K : Exit × Env × H→Option α}
def p_octet_Get_l0 {β : Type} (k : Nat) (kE0 : Int→Option β) (x10 : Int) (x30 : (List Int)) (x31 : Int) (x32 : Int) : Option β:=match k with
| 0 => none
| k + 1 =>
bif decide (x32 < x31) then (
(ix x30 x32).bind fun a22 =>
p_octet_Get_l0 k kE0 (intBits .or .u64 (IntKind.wrap .u64 (x10 * 2 ^ 8)) (IntKind.wrap .u64 a22)) x30 x31 (IntKind.wrap .i64 (x32 + 1)))
else (
kE0 x10)
def p_octet_Get (k : Nat) (x0 : (List Int)) (x1 : Int) (x2 : Int) : Option (Int × Bool) :=
(p_octet_Cut x0 x1 x2).bind fun r1 =>
(bif !r1.2 then (some true) else (some (decide (x2 < 1)))).bind fun b8 =>
(bif b8 then (some true) else (some (decide (x2 > 8)))).bind fun b12 =>
bif b12 then (
some (0,false))
else (
p_octet_Get_l0 k (fun r27_10 =>
some (r27_10,true)) 0 r1.1 ((r1.1.length : Int)) 0)
theorem octet_Get_l0_ok {h : H}  {kE0 : Int→Option β} (hE0 : ∀ (q10 : Int) (H25 : Go.Ev.H) (_ : Fm 43 h [] [] [] H25),Sim (kE0 q10) (K ((.exit 0),(envL [(10,(.p (.int .u64 q10)))]),H25)) Q) (k : Nat) : ∀ (x10 : Int) (x30 : (List Int)) (x31 : Int) (x32 : Int) (v19 : V) (h20 : SlF (dI .u8) x30 v19) (H17 : Go.Ev.H) (_ : Fm 43 h [] [] [] H17) {σ : Stamp},Sim (p_octet_Get_l0 k kE0 x10 x30 x31 x32) ((cvL G X0 octet_Get_c0 octet_Get_l0 σ (envL [(10,(.p (.int .u64 x10))),(30,v19),(31,(.p (.int .i64 x31))),(32,(.p (.int .i64 x32)))]) H17).bind K) Q:=by
 induction k with
 | zero => intros; exact .no
 | succ k ih =>
  intro x10 x30 x31 x32 v19 h20 H17 S18 σ
  rw [p_octet_Get_l0]
  refine .round (Sim.ext (octet_Get_r0 _ _ _ _ _ _ _ _) ?_)
  refine .cq ?_ ?_
  ·refine .bd fun a22 h23 => ?_
   refine .op ((h20.h H17).iS h23 rfl) ?_
   obtain ⟨_,rfl,hE24⟩:=(h20.h H17).el h23 rfl
   refine .op (hE24.ld (j:=0) rfl) ?_
   refine .ci ?_
   exact ih (intBits .or .u64 (IntKind.wrap .u64 (x10 * 2 ^ 8)) (IntKind.wrap .u64 a22)) x30 x31 (IntKind.wrap .i64 (x32 + 1)) v19 h20 H17 (S18.wk2 aN aN)
  exact hE0 x10 H17 (S18.wk2 aN aN)
theorem octet_Get_ok (k : Nat) {h : H} {σ : Stamp} (x0 : List Int) {u0 : V} (hu0 : SlH h (dI .u8) x0 u0) (x1 : Int) (x2 : Int) : Sim (p_octet_Get k x0 x1 x2) (ev G X0 70 σ [u0,(.p (.int .i64 x1)),(.p (.int .i64 x2))] h) (fun r s => s = ([.v (.p (.int .u64 r.1)),.v (.p (.bool r.2))],h)):=by
 refine .ev rfl (Sim.ext (octet_Get_entry _ _ _ _ _ _ _) ?_)
 rw [p_octet_Get]
 have S0 : Fm 43 h [] [] [] (List.replicate 43 []::h):=Fm.start0
 refine .call (octet_Cut_ok x0 (S0.low hu0) x1 x2) fun r1 cs2 H3 h4 q5 => ?_
 obtain ⟨v6,h7,q5⟩:=q5
 cases q5
 refine .or ?_
 refine .or ?_
 refine .ab ?_
 refine .ch (P:=fun r y => r = y) ?_ (fun b8 y9 h10 h11 => ?_)
 ·refine .cq ?_ ?_
  ·exact .ret rfl rfl
  ·exact .ret rfl rfl
 subst h11
 refine .ch (P:=fun r y => r = y) ?_ (fun b12 y13 h14 h15 => ?_)
 ·refine .cq ?_ ?_
  ·exact .ret rfl rfl
  ·exact .ret rfl rfl
 subst h15
 refine .cq ?_ ?_
 ·exact .fin (S0.finN (lC (sI _ _).lv (lC (sB _).lv lN))) rfl
 refine .op ((h7.h (List.replicate 43 []::h)).len) ?_
 refine .ci ?_
 refine .as (octet_Get_l0_ok ?_ k 0 r1.1 ((r1.1.length : Int)) 0 v6 h7 (List.replicate 43 []::h) (S0.wk2 aN aN))
 ·intro r27_10 H28 S29
  refine .ext (octet_Get_a0_0 _ _ _ _ _) ?_
  exact .fin (S29.finN (lC (sI _ _).lv (lC (sB _).lv lN))) rfl
def p_ctl_take (k : Nat) (x0 : TaiCtl) (x1 : Int) (x2 : (List Int)) : Option (TaiCtl) :=
(p_octet_Get k x2 0 ((x2.length : Int))).bind fun r1 =>
bif x1 == 1 then (
some ((⟨x0.Kind,(IntKind.wrap .i64 r1.1),x0.Layers,x0.Peer,x0.Height,x0.Class,x0.Layer,x0.Code⟩ : TaiCtl)))
else (
bif x1 == 2 then (
(p_octet_Get k x2 0 4).bind fun r11 =>
(p_octet_Get k x2 4 2).bind fun r16 =>
(p_octet_Cut x2 ((if ((x2.length : Int)) < 6 then ((x2.length : Int)) else 6)) ((if (IntKind.wrap .i64 ((IntKind.wrap .i64 (((x2.length : Int)) - 4)) - 2)) > 0 then (IntKind.wrap .i64 ((IntKind.wrap .i64 (((x2.length : Int)) - 4)) - 2)) else 0))).bind fun r21 =>
(ap 32 x0.Layers ([((⟨(strB r21.1),(IntKind.wrap .u32 r11.1),(IntKind.wrap .i64 r16.1)⟩ : TaiLayer))])).bind fun a29 =>
some ((⟨x0.Kind,x0.Cap,a29,x0.Peer,x0.Height,x0.Class,x0.Layer,x0.Code⟩ : TaiCtl)))
else (
bif x1 == 3 then (
some ((⟨x0.Kind,x0.Cap,x0.Layers,(IntKind.wrap .i64 r1.1),x0.Height,x0.Class,x0.Layer,x0.Code⟩ : TaiCtl)))
else (
bif x1 == 4 then (
some ((⟨x0.Kind,x0.Cap,x0.Layers,x0.Peer,(IntKind.wrap .i64 r1.1),x0.Class,x0.Layer,x0.Code⟩ : TaiCtl)))
else (
bif x1 == 5 then (
some ((⟨x0.Kind,x0.Cap,x0.Layers,x0.Peer,x0.Height,(IntKind.wrap .i64 r1.1),x0.Layer,x0.Code⟩ : TaiCtl)))
else (
bif x1 == 6 then (
some ((⟨x0.Kind,x0.Cap,x0.Layers,x0.Peer,x0.Height,x0.Class,(IntKind.wrap .i64 r1.1),x0.Code⟩ : TaiCtl)))
else (
bif x1 == 7 then (
some ((⟨x0.Kind,x0.Cap,x0.Layers,x0.Peer,x0.Height,x0.Class,x0.Layer,(IntKind.wrap .i64 r1.1)⟩ : TaiCtl)))
else (
some (x0))))))))
theorem ctl_take_ok (k : Nat) {h : H} {σ : Stamp} (x0 : TaiCtl) {c0_2 : C} (hc0_2 : SoC dTaiLayer x0.Layers c0_2) (hn0_2 : Nn c0_2 3) {l0 : Loc} {o0 : Nat} (ha0 : AtC h l0 o0 ([.v (.p (.int .i64 x0.Kind)),.v (.p (.int .i64 x0.Cap)),c0_2,.v (.p (.int .i64 x0.Peer)),.v (.p (.int .i64 x0.Height)),.v (.p (.int .i64 x0.Class)),.v (.p (.int .i64 x0.Layer)),.v (.p (.int .i64 x0.Code))])) (x1 : Int) (x2 : List Int) {u2 : V} (hu2 : SlF (dI .u8) x2 u2) : Sim (p_ctl_take k x0 x1 x2) (ev G X0 71 σ [(.ref l0 o0),(.p (.int .i64 x1)),u2] h) (fun r s => ∃ (cb0_2 : C),SoC dTaiLayer r.Layers cb0_2∧Nn cb0_2 3∧s = ([],pts h [⟨l0,o0,[.v (.p (.int .i64 r.Kind)),.v (.p (.int .i64 r.Cap)),cb0_2,.v (.p (.int .i64 r.Peer)),.v (.p (.int .i64 r.Height)),.v (.p (.int .i64 r.Class)),.v (.p (.int .i64 r.Layer)),.v (.p (.int .i64 r.Code))]⟩])):=by
 refine .ev rfl (Sim.ext (ctl_take_entry _ _ _ _ _ _ _) ?_)
 rw [p_ctl_take]
 have S0 : Fm 105 h [⟨l0,o0,[.v (.p (.int .i64 x0.Kind)),.v (.p (.int .i64 x0.Cap)),c0_2,.v (.p (.int .i64 x0.Peer)),.v (.p (.int .i64 x0.Height)),.v (.p (.int .i64 x0.Class)),.v (.p (.int .i64 x0.Layer)),.v (.p (.int .i64 x0.Code))]⟩] [] [] (List.replicate 105 []::h):=Fm.start1 ha0
 refine .op ((hu2.h (List.replicate 105 []::h)).len) ?_
 refine .ci ?_
 refine .call (octet_Get_ok k x2 (hu2.h (List.replicate 105 []::h)) 0 ((x2.length : Int))) fun r1 cs2 H3 h4 q5 => ?_
 cases q5
 refine .or ?_
 refine .ci ?_
 refine .or ?_
 refine .ab ?_
 refine .cq ?_ ?_
 ·refine .nc ?_
  refine .fa ?_
  obtain ⟨H7,e8,S9⟩:=S0.stB (i:=0) (j:=1) (own:=true) (σ:=(5::1::1::1::0::σ)) (x:=(.p (.int .i64 (IntKind.wrap .i64 r1.1)))) rfl (sI _ _) rfl
  refine .op (sM e8) ?_
  exact .fin (S9.finN lN) ⟨c0_2,hc0_2,hn0_2,rfl⟩
 refine .cq ?_ ?_
 ·refine .call (octet_Get_ok k x2 (hu2.h (List.replicate 105 []::h)) 0 4) fun r11 cs12 H13 h14 q15 => ?_
  cases q15
  refine .or ?_
  refine .ci ?_
  refine .or ?_
  refine .ab ?_
  refine .call (octet_Get_ok k x2 (hu2.h (List.replicate 105 []::h)) 4 2) fun r16 cs17 H18 h19 q20 => ?_
  cases q20
  refine .or ?_
  refine .ci ?_
  refine .or ?_
  refine .ab ?_
  refine .op ((hu2.h (List.replicate 105 []::h)).len) ?_
  refine .ci ?_
  refine .op ((hu2.h (List.replicate 105 []::h)).len) ?_
  refine .ci ?_
  refine .call (octet_Cut_ok x2 (hu2.h (List.replicate 105 []::h)) ((if ((x2.length : Int)) < 6 then ((x2.length : Int)) else 6)) ((if (IntKind.wrap .i64 ((IntKind.wrap .i64 (((x2.length : Int)) - 4)) - 2)) > 0 then (IntKind.wrap .i64 ((IntKind.wrap .i64 (((x2.length : Int)) - 4)) - 2)) else 0))) fun r21 cs22 H23 h24 q25 => ?_
  obtain ⟨v26,h27,q25⟩:=q25
  cases q25
  refine .or ?_
  refine .or ?_
  refine .ab ?_
  refine .nc ?_
  refine .fa ?_
  refine .op (hc0_2.ld (S0.atB (i:=0) rfl) (j:=2) rfl) ?_
  refine .op ((h27.h (List.replicate 105 []::h)).str) ?_
  refine .op (castS_p _) ?_
  refine .op (bldV (pC rfl (pC rfl (pC rfl pN))) (by kernel_rfl : _ = some (.agg [.p (.string (strB r21.1)),.p (.int .u32 (IntKind.wrap .u32 r11.1)),.p (.int .i64 (IntKind.wrap .i64 r16.1))]))) ?_
  have h28 : SlF dTaiLayer [((⟨(strB r21.1),(IntKind.wrap .u32 r11.1),(IntKind.wrap .i64 r16.1)⟩ : TaiLayer))] (.fz [(.p (.string (strB r21.1))),(.p (.int .u32 (IntKind.wrap .u32 r11.1))),(.p (.int .i64 (IntKind.wrap .i64 r16.1)))] 1 3 true):=SlF.lit (cs:=[(.p (.string (strB r21.1))),(.p (.int .u32 (IntKind.wrap .u32 r11.1))),(.p (.int .i64 (IntKind.wrap .i64 r16.1)))]) (RL.cons (show dTaiLayer.R ((⟨(strB r21.1),(IntKind.wrap .u32 r11.1),(IntKind.wrap .i64 r16.1)⟩ : TaiLayer)) [.p (.string (strB r21.1)),.p (.int .u32 (IntKind.wrap .u32 r11.1)),.p (.int .i64 (IntKind.wrap .i64 r16.1))] from (dTaiLayer.mk)) RL.nil) rfl rfl true
  refine .op (bldS (pC (c:=[.p (.string (strB r21.1)),.p (.int .u32 (IntKind.wrap .u32 r11.1)),.p (.int .i64 (IntKind.wrap .i64 r16.1))]) rfl pN) (by kernel_rfl : _ = some (vOf h28))) ?_
  refine .bd fun a29 h30 => ?_
  obtain ⟨v31,c32,H33,e34,S35⟩:=S0.appB (i:=0) (j:=2) (d:=67) (e:=3) (own:=false) (σ:=(13::1::1::1::1::1::1::1::0::σ)) rfl rfl hc0_2 hn0_2 (h28.h (List.replicate 105 []::h)).y h30 (by simp) rfl (by decide) (by decide) rfl
  refine .op (e34) ?_
  refine .nc ?_
  refine .fa ?_
  obtain ⟨c40,H37,e38,h41,h42,S39⟩:=S35.mvB (i:=0) (j:=2) (k:=0) (σ:=(16::1::1::1::1::1::1::1::0::σ)) rfl rfl rfl rfl rfl
  refine .op (sM e38) ?_
  exact .fin (S39.finN lN) ⟨c40,h41,h42,rfl⟩
 refine .cq ?_ ?_
 ·refine .nc ?_
  refine .fa ?_
  obtain ⟨H44,e45,S46⟩:=S0.stB (i:=0) (j:=3) (own:=true) (σ:=(5::1::1::1::1::1::0::σ)) (x:=(.p (.int .i64 (IntKind.wrap .i64 r1.1)))) rfl (sI _ _) rfl
  refine .op (sM e45) ?_
  exact .fin (S46.finN lN) ⟨c0_2,hc0_2,hn0_2,rfl⟩
 refine .cq ?_ ?_
 ·refine .nc ?_
  refine .fa ?_
  obtain ⟨H48,e49,S50⟩:=S0.stB (i:=0) (j:=4) (own:=true) (σ:=(5::1::1::1::1::1::1::0::σ)) (x:=(.p (.int .i64 (IntKind.wrap .i64 r1.1)))) rfl (sI _ _) rfl
  refine .op (sM e49) ?_
  exact .fin (S50.finN lN) ⟨c0_2,hc0_2,hn0_2,rfl⟩
 refine .cq ?_ ?_
 ·refine .nc ?_
  refine .fa ?_
  obtain ⟨H52,e53,S54⟩:=S0.stB (i:=0) (j:=5) (own:=true) (σ:=(5::1::1::1::1::1::1::1::0::σ)) (x:=(.p (.int .i64 (IntKind.wrap .i64 r1.1)))) rfl (sI _ _) rfl
  refine .op (sM e53) ?_
  exact .fin (S54.finN lN) ⟨c0_2,hc0_2,hn0_2,rfl⟩
 refine .cq ?_ ?_
 ·refine .nc ?_
  refine .fa ?_
  obtain ⟨H56,e57,S58⟩:=S0.stB (i:=0) (j:=6) (own:=true) (σ:=(5::1::1::1::1::1::1::1::1::0::σ)) (x:=(.p (.int .i64 (IntKind.wrap .i64 r1.1)))) rfl (sI _ _) rfl
  refine .op (sM e57) ?_
  exact .fin (S58.finN lN) ⟨c0_2,hc0_2,hn0_2,rfl⟩
 refine .cq ?_ ?_
 ·refine .nc ?_
  refine .fa ?_
  obtain ⟨H60,e61,S62⟩:=S0.stB (i:=0) (j:=7) (own:=true) (σ:=(5::1::1::1::1::1::1::1::1::1::0::σ)) (x:=(.p (.int .i64 (IntKind.wrap .i64 r1.1)))) rfl (sI _ _) rfl
  refine .op (sM e61) ?_
  exact .fin (S62.finN lN) ⟨c0_2,hc0_2,hn0_2,rfl⟩
 exact .fin (S0.finN lN) ⟨c0_2,hc0_2,hn0_2,rfl⟩
end
end Go.Ev
namespace Go.Ev
open Go.Proofs
set_option linter.unusedVariables false
set_option linter.unusedSimpArgs false
set_option maxRecDepth 100000
noncomputable section
abbrev KT15:=Exit→Env→H→Option (List C × H)
variable (rec : CallF) (loop : LoopV) (σ : Stamp)
def slices_Equal_Lbyte_byte_c0 : Code:=(codeAt (bodyOf Try.f72) [1,1,0,1,0,0])
def slices_Equal_Lbyte_byte_l0 : Lv:=⟨0,16,[(0,0)]⟩
def slices_Equal_Lbyte_byte_k0 : KT15:=(kBlock 0 (kSeq G rec loop (codeAt (bodyOf Try.f72) [1,1,1]) ⟨16,16,[]⟩ (1::1::0::σ) (finC G false Try.f72 (1::σ))))
theorem slices_Equal_Lbyte_byte_entry (x0 : V) (x1 : V) (h : H) : cvBody G rec loop 72 σ [x0,x1] h =
(lenO x0).bind fun t1 =>
(castI .i64 t1).bind fun n2 =>
(lenO x1).bind fun t3 =>
(castI .i64 t3).bind fun n4 =>
bif n2 != n4 then (
fin false σ (List.replicate 26 []::h) [(.p (.bool false))])
else (
(lenO x0).bind fun t5 =>
(castI .i64 t5).bind fun n6 =>
(loop slices_Equal_Lbyte_byte_c0 slices_Equal_Lbyte_byte_l0 (1::0::1::1::0::σ) (envL [(0,x0),(1,x1),(12,(.p (.int .i64 n6))),(13,(.p (.int .i64 0)))]) (List.replicate 26 []::h)).bind fun r7 => slices_Equal_Lbyte_byte_k0 rec loop σ r7.1 r7.2.1 r7.2.2):=by kernel_rfl
theorem slices_Equal_Lbyte_byte_r0 (x0 : V) (x1 : V) (x12 : Int) (x13 : Int) (h : H) : cvRound G rec loop slices_Equal_Lbyte_byte_c0 slices_Equal_Lbyte_byte_l0 σ (envL [(0,x0),(1,x1),(12,(.p (.int .i64 x12))),(13,(.p (.int .i64 x13)))]) h =
bif decide (x13 < x12) then (
(iS 1 x0 x13).bind fun t8 =>
(ldO false 1 h t8).bind fun t9 =>
(castI .u8 t9).bind fun n10 =>
(iS 1 x1 x13).bind fun t11 =>
(ldO false 1 h t11).bind fun t12 =>
(castI .u8 t12).bind fun n13 =>
bif n10 != n13 then (
some (.ret,(envL [(4,(.p (.bool false)))]),h))
else (
loop slices_Equal_Lbyte_byte_c0 slices_Equal_Lbyte_byte_l0 (1::σ) (envL [(0,x0),(1,x1),(12,(.p (.int .i64 x12))),(13,(.p (.int .i64 (IntKind.wrap .i64 (x13 + 1)))))]) h))
else (
some ((.exit 0),(envL []),h)):=by kernel_rfl
theorem slices_Equal_Lbyte_byte_a0_0  (h : H) : slices_Equal_Lbyte_byte_k0 rec loop σ (.exit 0) (envL []) h =
fin false σ h [(.p (.bool true))]:=by kernel_rfl
theorem slices_Equal_Lbyte_byte_a0_ret (x4 : Bool) (h : H) : slices_Equal_Lbyte_byte_k0 rec loop σ .ret (envL [(4,(.p (.bool x4)))]) h =
fin false σ h [(.p (.bool x4))]:=by kernel_rfl
end
end Go.Ev
namespace Go.Ev
open Go.Proofs
set_option linter.unusedVariables false
set_option linter.unusedSimpArgs false
set_option maxRecDepth 100000
section
variable {β α : Type} {Q : β→α→Prop} {K : Exit × Env × H→Option α}
def p_slices_Equal_Lbyte_byte_l0 {β : Type} (k : Nat) (kE0 : Unit→Option β) (kE1 : Bool→Option β) (x0 : (List Int)) (x1 : (List Int)) (x12 : Int) (x13 : Int) : Option β:=match k with
| 0 => none
| k + 1 =>
bif decide (x13 < x12) then (
(ix x0 x13).bind fun a9 =>
(ix x1 x13).bind fun a12 =>
bif a9 != a12 then (
kE1 false)
else (
p_slices_Equal_Lbyte_byte_l0 k kE0 kE1 x0 x1 x12 (IntKind.wrap .i64 (x13 + 1))))
else (
kE0 ())
def p_slices_Equal_Lbyte_byte (k : Nat) (x0 : (List Int)) (x1 : (List Int)) : Option (Bool) :=
bif ((x0.length : Int)) != ((x1.length : Int)) then (
some (false))
else (
p_slices_Equal_Lbyte_byte_l0 k (fun (_ : Unit) =>
some (true)) (fun r23_4 =>
some (r23_4)) x0 x1 ((x0.length : Int)) 0)
theorem slices_Equal_Lbyte_byte_l0_ok {h : H}  {kE0 : Unit→Option β} {kE1 : Bool→Option β} (hE0 : ∀ (_u : Unit) (H16 : Go.Ev.H) (_ : Fm 26 h [] [] [] H16),Sim (kE0 ()) (K ((.exit 0),(envL []),H16)) Q) (hE1 : ∀ (q4 : Bool) (H18 : Go.Ev.H) (_ : Fm 26 h [] [] [] H18),Sim (kE1 q4) (K (.ret,(envL [(4,(.p (.bool q4)))]),H18)) Q) (k : Nat) : ∀ (x0 : (List Int)) (x1 : (List Int)) (x12 : Int) (x13 : Int) (v4 : V) (h5 : SlH h (dI .u8) x0 v4) (v6 : V) (h7 : SlH h (dI .u8) x1 v6) (H2 : Go.Ev.H) (_ : Fm 26 h [] [] [] H2) {σ : Stamp},Sim (p_slices_Equal_Lbyte_byte_l0 k kE0 kE1 x0 x1 x12 x13) ((cvL G X0 slices_Equal_Lbyte_byte_c0 slices_Equal_Lbyte_byte_l0 σ (envL [(0,v4),(1,v6),(12,(.p (.int .i64 x12))),(13,(.p (.int .i64 x13)))]) H2).bind K) Q:=by
 induction k with
 | zero => intros; exact .no
 | succ k ih =>
  intro x0 x1 x12 x13 v4 h5 v6 h7 H2 S3 σ
  rw [p_slices_Equal_Lbyte_byte_l0]
  refine .round (Sim.ext (slices_Equal_Lbyte_byte_r0 _ _ _ _ _ _ _ _) ?_)
  refine .cq ?_ ?_
  ·refine .bd fun a9 h10 => ?_
   refine .op ((S3.low h5).iS h10 rfl) ?_
   obtain ⟨_,rfl,hE11⟩:=(S3.low h5).el h10 rfl
   refine .op (hE11.ld (j:=0) rfl) ?_
   refine .ci ?_
   refine .bd fun a12 h13 => ?_
   refine .op ((S3.low h7).iS h13 rfl) ?_
   obtain ⟨_,rfl,hE14⟩:=(S3.low h7).el h13 rfl
   refine .op (hE14.ld (j:=0) rfl) ?_
   refine .ci ?_
   refine .cq ?_ ?_
   ·exact hE1 false H2 (S3.wk2 aN aN)
   exact ih x0 x1 x12 (IntKind.wrap .i64 (x13 + 1)) v4 h5 v6 h7 H2 (S3.wk2 aN aN)
  exact hE0 () H2 (S3.wk2 aN aN)
theorem slices_Equal_Lbyte_byte_ok (k : Nat) {h : H} {σ : Stamp} (x0 : List Int) {u0 : V} (hu0 : SlH h (dI .u8) x0 u0) (x1 : List Int) {u1 : V} (hu1 : SlH h (dI .u8) x1 u1) : Sim (p_slices_Equal_Lbyte_byte k x0 x1) (ev G X0 72 σ [u0,u1] h) (fun r s => s = ([.v (.p (.bool r))],h)):=by
 refine .ev rfl (Sim.ext (slices_Equal_Lbyte_byte_entry _ _ _ _ _ _) ?_)
 rw [p_slices_Equal_Lbyte_byte]
 have S0 : Fm 26 h [] [] [] (List.replicate 26 []::h):=Fm.start0
 refine .op ((S0.low hu0).len) ?_
 refine .ci ?_
 refine .op ((S0.low hu1).len) ?_
 refine .ci ?_
 refine .cq ?_ ?_
 ·exact .fin (S0.finN (lC (sB _).lv lN)) rfl
 refine .op ((S0.low hu0).len) ?_
 refine .ci ?_
 refine .as (slices_Equal_Lbyte_byte_l0_ok ?_ ?_ k x0 x1 ((x0.length : Int)) 0 u0 hu0 u1 hu1 (List.replicate 26 []::h) (S0.wk2 aN aN))
 ·intro _u H21 S22
  refine .ext (slices_Equal_Lbyte_byte_a0_0 _ _ _ _) ?_
  exact .fin (S22.finN (lC (sB _).lv lN)) rfl
 ·intro r23_4 H24 S25
  refine .ext (slices_Equal_Lbyte_byte_a0_ret _ _ _ _ _) ?_
  exact .fin (S25.finN (lC (sB _).lv lN)) rfl
def p_ctl_Read_l0 {β : Type} (k : Nat) (kE0 : (List Int)→TaiCtl→TaiCtl→Option β) (kE1 : Int→TaiCtl→Option β) (x0 : (List Int)) (x7 : Int) (yg4 : TaiCtl) (yg25 : TaiCtl) : Option β:=match k with
| 0 => none
| k + 1 =>
bif decide ((IntKind.wrap .i64 (x7 + 1)) < ((x0.length : Int))) then (
(ix x0 (IntKind.wrap .i64 (x7 + 1))).bind fun a45 =>
(p_octet_Cut x0 (IntKind.wrap .i64 (x7 + 2)) (IntKind.wrap .i64 a45)).bind fun r48 =>
bif !r48.2 then (
kE1 12 ((⟨0,0,(([] : List TaiLayer)),0,0,0,0,0⟩ : TaiCtl)))
else (
(ix x0 x7).bind fun a59 =>
(p_ctl_take k yg25 (IntKind.wrap .i64 a59) r48.1).bind fun r62 =>
p_ctl_Read_l0 k kE0 kE1 x0 (IntKind.wrap .i64 (x7 + (IntKind.wrap .i64 (2 + ((r48.1.length : Int)))))) yg4 r62))
else (
kE0 x0 yg4 yg25)
def p_ctl_Read (k : Nat) (x0 : (List Int)) : Option (TaiCtl × Int) :=
(p_octet_Get k x0 1 2).bind fun r5 =>
(bif decide (((x0.length : Int)) < 3) then (some true) else (some (decide ((IntKind.wrap .i64 (((x0.length : Int)) - 3)) < (IntKind.wrap .i64 r5.1))))).bind fun b10 =>
bif b10 then (
some (((⟨0,0,(([] : List TaiLayer)),0,0,0,0,0⟩ : TaiCtl)),13))
else (
(ix x0 0).bind fun a19 =>
p_ctl_Read_l0 k (fun r94_0 yg36 yg41 =>
(p_ctl_Bytes k yg41).bind fun r120 =>
(bif r120.2 != 0 then (some true) else ((p_slices_Equal_Lbyte_byte k r120.1 r94_0).bind fun r134 =>
some (!r134))).bind fun b139 =>
bif b139 then (
some (((⟨0,0,(([] : List TaiLayer)),0,0,0,0,0⟩ : TaiCtl)),12))
else (
some (yg41,0))) (fun r152_3 yg36 =>
some (yg36,r152_3)) x0 3 ((⟨0,0,(([] : List TaiLayer)),0,0,0,0,0⟩ : TaiCtl)) ((⟨(IntKind.wrap .i64 a19),0,(([] : List TaiLayer)),0,0,0,0,0⟩ : TaiCtl)))
theorem ctl_Read_l0_ok {h : H}  {kE0 : (List Int)→TaiCtl→TaiCtl→Option β} {kE1 : Int→TaiCtl→Option β} (hE0 : ∀ (q0 : (List Int)) (yg36 : TaiCtl) (yg41 : TaiCtl) (v73 : V) (h74 : SlH h (dI .u8) q0 v73) (w75 : List V) (h76 : dTaiCtl.R yg36 w75) (s77 : Stamp) (c79 : C) (h80 : SoC dTaiLayer yg41.Layers c79) (h81 : Nn c79 3) (s82 : Stamp) (H71 : Go.Ev.H) (_ : Fm 82 h [] [(2,s77,List.map C.v w75),(6,s82,[.v (.p (.int .i64 yg41.Kind)),.v (.p (.int .i64 yg41.Cap)),c79,.v (.p (.int .i64 yg41.Peer)),.v (.p (.int .i64 yg41.Height)),.v (.p (.int .i64 yg41.Class)),.v (.p (.int .i64 yg41.Layer)),.v (.p (.int .i64 yg41.Code))])] [] H71),Sim (kE0 q0 yg36 yg41) (K ((.exit 0),(envL [(0,v73),(2,(.ref ⟨h.length,2,0,s77,[]⟩ 0)),(6,(.ref ⟨h.length,6,0,s82,[]⟩ 0))]),H71)) Q) (hE1 : ∀ (q3 : Int) (yg36 : TaiCtl) (w88 : List V) (h89 : dTaiCtl.R yg36 w88) (s90 : Stamp) (H86 : Go.Ev.H) (_ : Fm 82 h [] [(2,s90,List.map C.v w88)] [] H86),Sim (kE1 q3 yg36) (K (.ret,(envL [(2,(.ref ⟨h.length,2,0,s90,[]⟩ 0)),(3,(.p (.int .i64 q3)))]),H86)) Q) (k : Nat) : ∀ (x0 : (List Int)) (x7 : Int) (yg4 : TaiCtl) (yg25 : TaiCtl) (v31 : V) (h32 : SlH h (dI .u8) x0 v31) (w33 : List V) (h34 : dTaiCtl.R yg4 w33) (s35 : Stamp) (c37 : C) (h38 : SoC dTaiLayer yg25.Layers c37) (h39 : Nn c37 3) (s40 : Stamp) (H29 : Go.Ev.H) (_ : Fm 82 h [] [(2,s35,List.map C.v w33),(6,s40,[.v (.p (.int .i64 yg25.Kind)),.v (.p (.int .i64 yg25.Cap)),c37,.v (.p (.int .i64 yg25.Peer)),.v (.p (.int .i64 yg25.Height)),.v (.p (.int .i64 yg25.Class)),.v (.p (.int .i64 yg25.Layer)),.v (.p (.int .i64 yg25.Code))])] [] H29) {σ : Stamp},Sim (p_ctl_Read_l0 k kE0 kE1 x0 x7 yg4 yg25) ((cvL G X0 ctl_Read_c0 ctl_Read_l0 σ (envL [(0,v31),(2,(.ref ⟨h.length,2,0,s35,[]⟩ 0)),(6,(.ref ⟨h.length,6,0,s40,[]⟩ 0)),(7,(.p (.int .i64 x7)))]) H29).bind K) Q:=by
 induction k with
 | zero => intros; exact .no
 | succ k ih =>
  intro x0 x7 yg4 yg25 v31 h32 w33 h34 s35 c37 h38 h39 s40 H29 S30 σ
  rw [p_ctl_Read_l0]
  refine .round (Sim.ext (ctl_Read_r0 _ _ _ _ _ _ _ _) ?_)
  obtain ⟨v42,rfl,h43⟩:=dTaiCtl.inv h34
  refine .op ((S30.low h32).len) ?_
  refine .ci ?_
  refine .cq ?_ ?_
  ·refine .bd fun a45 h46 => ?_
   refine .op ((S30.low h32).iS h46 rfl) ?_
   obtain ⟨_,rfl,hE47⟩:=(S30.low h32).el h46 rfl
   refine .op (hE47.ld (j:=0) rfl) ?_
   refine .ci ?_
   refine .call (octet_Cut_ok x0 (S30.low h32) (IntKind.wrap .i64 (x7 + 2)) (IntKind.wrap .i64 a45)) fun r48 cs49 H50 h51 q52 => ?_
   obtain ⟨v53,h54,q52⟩:=q52
   cases q52
   refine .or ?_
   refine .or ?_
   refine .ab ?_
   refine .cq ?_ ?_
   ·refine .op (bldV pN (by kernel_rfl : _ = some (.agg [.p (.int .i64 0),.p (.int .i64 0),.p (.slice none 0 0),.p (.int .i64 0),.p (.int .i64 0),.p (.int .i64 0),.p (.int .i64 0),.p (.int .i64 0)]))) ?_
    obtain ⟨H56,e57,S58⟩:=S30.stGv (i:=0) (j:=0) (own:=false) (σ:=(1::0::1::0::1::1::0::σ)) (xs:=[.p (.int .i64 0),.p (.int .i64 0),.p (.slice none 0 0),.p (.int .i64 0),.p (.int .i64 0),.p (.int .i64 0),.p (.int .i64 0),.p (.int .i64 0)]) rfl rfl (sC (sI _ _) (sC (sI _ _) (sC (SlF.nil dTaiLayer).still (sC (sI _ _) (sC (sI _ _) (sC (sI _ _) (sC (sI _ _) (sC (sI _ _) sN)))))))) rfl rfl
    refine .op (sM e57) ?_
    exact hE1 12 ((⟨0,0,(([] : List TaiLayer)),0,0,0,0,0⟩ : TaiCtl)) _ (dTaiCtl.mk (SlF.nil dTaiLayer)) s35 H56 (S58.wk2 (aC (aM 0 rfl) aN) aN)
   refine .bd fun a59 h60 => ?_
   refine .op ((S30.low h32).iS h60 rfl) ?_
   obtain ⟨_,rfl,hE61⟩:=(S30.low h32).el h60 rfl
   refine .op (hE61.ld (j:=0) rfl) ?_
   refine .ci ?_
   refine .call (ctl_take_ok k yg25 h38 h39 (S30.atG (i:=1) rfl) (IntKind.wrap .i64 a59) r48.1 h54) fun r62 cs63 H64 h65 q66 => ?_
   obtain ⟨c67,h68,h69,q66⟩:=q66
   cases q66
   have S70:=S30.setG (i:=1) (cs':=[.v (.p (.int .i64 r62.Kind)),.v (.p (.int .i64 r62.Cap)),c67,.v (.p (.int .i64 r62.Peer)),.v (.p (.int .i64 r62.Height)),.v (.p (.int .i64 r62.Class)),.v (.p (.int .i64 r62.Layer)),.v (.p (.int .i64 r62.Code))]) rfl rfl rfl
   refine .op ((h54.h (ptC H29 ⟨h.length,6,0,s40,[]⟩ 0 ([.v (.p (.int .i64 r62.Kind)),.v (.p (.int .i64 r62.Cap)),c67,.v (.p (.int .i64 r62.Peer)),.v (.p (.int .i64 r62.Height)),.v (.p (.int .i64 r62.Class)),.v (.p (.int .i64 r62.Layer)),.v (.p (.int .i64 r62.Code))]))).len) ?_
   refine .ci ?_
   exact ih x0 (IntKind.wrap .i64 (x7 + (IntKind.wrap .i64 (2 + ((r48.1.length : Int)))))) yg4 r62 v31 h32 _ h34 s35 c67 h68 h69 s40 (ptC H29 ⟨h.length,6,0,s40,[]⟩ 0 ([.v (.p (.int .i64 r62.Kind)),.v (.p (.int .i64 r62.Cap)),c67,.v (.p (.int .i64 r62.Peer)),.v (.p (.int .i64 r62.Height)),.v (.p (.int .i64 r62.Class)),.v (.p (.int .i64 r62.Layer)),.v (.p (.int .i64 r62.Code))])) (S70.wk2 (aC (aM 0 rfl) (aC (aM 1 rfl) aN)) aN)
  exact hE0 x0 yg4 yg25 v31 h32 _ h34 s35 c37 h38 h39 s40 H29 (S30.wk2 (aC (aM 0 rfl) (aC (aM 1 rfl) aN)) aN)
theorem ctl_Read_ok (k : Nat) {h : H} {σ : Stamp} (x0 : List Int) {u0 : V} (hu0 : SlH h (dI .u8) x0 u0) : Sim (p_ctl_Read k x0) (ev G X0 30 σ [u0] h) (fun r s => ∃ (w0 : List V),dTaiCtl.R r.1 w0∧s = ([.v (.agg w0),.v (.p (.int .i64 r.2))],h)):=by
 refine .ev rfl (Sim.ext (ctl_Read_entry _ _ _ _ _) ?_)
 rw [p_ctl_Read]
 have S0 : Fm 82 h [] [] [] (List.replicate 82 []::h):=Fm.start0
 obtain ⟨H1,e2,S3⟩:=S0.al (d:=2) (s:=(0::0::0::σ)) (z:=[(.p (.int .i64 0)),(.p (.int .i64 0)),(.p (.slice none 0 0)),(.p (.int .i64 0)),(.p (.int .i64 0)),(.p (.int .i64 0)),(.p (.int .i64 0)),(.p (.int .i64 0))]) (by decide) rfl
 refine .op (congrArg some e2) ?_
 refine .call (octet_Get_ok k x0 (S3.low hu0) 1 2) fun r5 cs6 H7 h8 q9 => ?_
 cases q9
 refine .or ?_
 refine .ci ?_
 refine .or ?_
 refine .ab ?_
 refine .op ((S3.low hu0).len) ?_
 refine .ci ?_
 refine .ch (P:=fun r y => r = y) ?_ (fun b10 y11 h12 h13 => ?_)
 ·refine .cq ?_ ?_
  ·exact .ret rfl rfl
  ·refine .op ((S3.low hu0).len) ?_
   refine .ci ?_
   exact .ret rfl rfl
 subst h13
 refine .cq ?_ ?_
 ·refine .op (bldV pN (by kernel_rfl : _ = some (.agg [.p (.int .i64 0),.p (.int .i64 0),.p (.slice none 0 0),.p (.int .i64 0),.p (.int .i64 0),.p (.int .i64 0),.p (.int .i64 0),.p (.int .i64 0)]))) ?_
  obtain ⟨H15,e16,S17⟩:=S3.stGv (i:=0) (j:=0) (own:=false) (σ:=(1::0::1::0::1::1::0::σ)) (xs:=[.p (.int .i64 0),.p (.int .i64 0),.p (.slice none 0 0),.p (.int .i64 0),.p (.int .i64 0),.p (.int .i64 0),.p (.int .i64 0),.p (.int .i64 0)]) rfl rfl (sC (sI _ _) (sC (sI _ _) (sC (SlF.nil dTaiLayer).still (sC (sI _ _) (sC (sI _ _) (sC (sI _ _) (sC (sI _ _) (sC (sI _ _) sN)))))))) rfl rfl
  refine .op (sM e16) ?_
  have e18 : ldO true 8 H15 (.ref ⟨h.length,2,0,(0::0::0::σ),[]⟩ 0) = some (.agg [.p (.int .i64 0),.p (.int .i64 0),.p (.slice none 0 0),.p (.int .i64 0),.p (.int .i64 0),.p (.int .i64 0),.p (.int .i64 0),.p (.int .i64 0)]):=(S17.atG (i:=0) rfl).ldVs (j:=0) rfl rfl (by decide)
  refine .op (congrArg (Option.bind · _) e18) ?_
  exact .fin (S17.finN (lC (Stills.lv (dTaiCtl.still (dTaiCtl.mk (SlF.nil dTaiLayer)))) (lC (sI _ _).lv lN))) ⟨_,(dTaiCtl.mk (SlF.nil dTaiLayer)),rfl⟩
 refine .bd fun a19 h20 => ?_
 refine .op ((S3.low hu0).iS h20 rfl) ?_
 obtain ⟨_,rfl,hE21⟩:=(S3.low hu0).el h20 rfl
 refine .op (hE21.ld (j:=0) rfl) ?_
 refine .ci ?_
 refine .op (bldV (pC rfl pN) (by kernel_rfl : _ = some (.agg [.p (.int .i64 (IntKind.wrap .i64 a19)),.p (.int .i64 0),.p (.slice none 0 0),.p (.int .i64 0),.p (.int .i64 0),.p (.int .i64 0),.p (.int .i64 0),.p (.int .i64 0)]))) ?_
 obtain ⟨H22,e23,S24⟩:=S3.al (d:=6) (s:=(5::0::1::1::1::0::σ)) (z:=[(.p (.int .i64 0)),(.p (.int .i64 0)),(.p (.slice none 0 0)),(.p (.int .i64 0)),(.p (.int .i64 0)),(.p (.int .i64 0)),(.p (.int .i64 0)),(.p (.int .i64 0))]) (by decide) rfl
 refine .op (congrArg some e23) ?_
 obtain ⟨H26,e27,S28⟩:=S24.stGv (i:=0) (j:=0) (own:=false) (σ:=(6::0::1::1::1::0::σ)) (xs:=[.p (.int .i64 (IntKind.wrap .i64 a19)),.p (.int .i64 0),.p (.slice none 0 0),.p (.int .i64 0),.p (.int .i64 0),.p (.int .i64 0),.p (.int .i64 0),.p (.int .i64 0)]) rfl rfl (sC (sI _ _) (sC (sI _ _) (sC (SlF.nil dTaiLayer).still (sC (sI _ _) (sC (sI _ _) (sC (sI _ _) (sC (sI _ _) (sC (sI _ _) sN)))))))) rfl rfl
 refine .op (sM e27) ?_
 refine .as (ctl_Read_l0_ok ?_ ?_ k x0 3 ((⟨0,0,(([] : List TaiLayer)),0,0,0,0,0⟩ : TaiCtl)) ((⟨(IntKind.wrap .i64 a19),0,(([] : List TaiLayer)),0,0,0,0,0⟩ : TaiCtl)) u0 hu0 _ (dTaiCtl.mk (SlF.nil dTaiLayer)) (0::0::0::σ) (.v (.p (.slice none 0 0))) (SoC.frz (SlF.nil dTaiLayer)) (fun v h => by cases h; simp) (5::0::1::1::1::0::σ) H26 (S28.wk2 (aC (aM 1 rfl) (aC (aM 0 rfl) aN)) aN))
 ·intro r94_0 yg36 yg41 v97 h98 w99 h100 s101 c103 h104 h105 s106 H95 S96
  refine .ext (ctl_Read_a0_0 _ _ _ _ _ _ _) ?_
  obtain ⟨v108,rfl,h109⟩:=dTaiCtl.inv h100
  obtain ⟨v110,h111,h112⟩:=h104.fr
  obtain ⟨w113,H114,h119,e115,e116,e117,S118⟩:=S96.frzV (i:=1) (n:=8) (ys:=[(.p (.int .i64 yg41.Kind)),(.p (.int .i64 yg41.Cap)),v110,(.p (.int .i64 yg41.Peer)),(.p (.int .i64 yg41.Height)),(.p (.int .i64 yg41.Class)),(.p (.int .i64 yg41.Layer)),(.p (.int .i64 yg41.Code))]) rfl rfl ⟨(FrC.v (sI _ _)),⟨(FrC.v (sI _ _)),⟨h111,⟨(FrC.v (sI _ _)),⟨(FrC.v (sI _ _)),⟨(FrC.v (sI _ _)),⟨(FrC.v (sI _ _)),⟨(FrC.v (sI _ _)),trivial⟩⟩⟩⟩⟩⟩⟩⟩ rfl (by decide)
  refine .op (e115) ?_
  erw [callFO_eq (frzAs_cons (frzA_aggL (frz_of_lay e117)) frzAs_nil)]
  refine .call (ctl_Bytes_ok k yg41 (show dTaiCtl.R yg41 [.p (.int .i64 yg41.Kind),.p (.int .i64 yg41.Cap),v110,.p (.int .i64 yg41.Peer),.p (.int .i64 yg41.Height),.p (.int .i64 yg41.Class),.p (.int .i64 yg41.Layer),.p (.int .i64 yg41.Code)] from (dTaiCtl.mk h112))) fun r120 cs121 H122 h123 q124 => ?_
  obtain ⟨c125,cs126,h127,h128,q124⟩:=q124
  cases q124
  obtain ⟨v129,H130,e131,S132⟩:=S118.landN (dt:=(dI .u8)) (d:=69) h127 h128 (by decide) rfl (.p (.int .i64 r120.2)) []
  erw [e131]
  refine .or ?_
  refine .or ?_
  refine .ci ?_
  refine .ch (P:=fun r y => (.p (.bool r),H130) = y) ?_ (fun b139 y140 h141 h142 => ?_)
  ·refine .cq ?_ ?_
   ·exact .ret rfl rfl
   ·refine .call (slices_Equal_Lbyte_byte_ok k r120.1 (S132.sl (i:=0) rfl) r94_0 (S132.low h98)) fun r134 cs135 H136 h137 q138 => ?_
    cases q138
    refine .ab ?_
    exact .ret rfl rfl
  subst h142
  refine .ab ?_
  refine .cq ?_ ?_
  ·refine .op (bldV pN (by kernel_rfl : _ = some (.agg [.p (.int .i64 0),.p (.int .i64 0),.p (.slice none 0 0),.p (.int .i64 0),.p (.int .i64 0),.p (.int .i64 0),.p (.int .i64 0),.p (.int .i64 0)]))) ?_
   obtain ⟨H144,e145,S146⟩:=S132.stGv (i:=0) (j:=0) (own:=false) (σ:=(1::0::1::1::0::1::1::1::1::1::0::σ)) (xs:=[.p (.int .i64 0),.p (.int .i64 0),.p (.slice none 0 0),.p (.int .i64 0),.p (.int .i64 0),.p (.int .i64 0),.p (.int .i64 0),.p (.int .i64 0)]) rfl rfl (sC (sI _ _) (sC (sI _ _) (sC (SlF.nil dTaiLayer).still (sC (sI _ _) (sC (sI _ _) (sC (sI _ _) (sC (sI _ _) (sC (sI _ _) sN)))))))) rfl rfl
   refine .op (sM e145) ?_
   have e147 : ldO true 8 H144 (.ref ⟨h.length,2,0,s101,[]⟩ 0) = some (.agg [.p (.int .i64 0),.p (.int .i64 0),.p (.slice none 0 0),.p (.int .i64 0),.p (.int .i64 0),.p (.int .i64 0),.p (.int .i64 0),.p (.int .i64 0)]):=(S146.atG (i:=0) rfl).ldVs (j:=0) rfl rfl (by decide)
   refine .op (congrArg (Option.bind · _) e147) ?_
   exact .fin (S146.finN (lC (Stills.lv (dTaiCtl.still (dTaiCtl.mk (SlF.nil dTaiLayer)))) (lC (sI _ _).lv lN))) ⟨_,(dTaiCtl.mk (SlF.nil dTaiLayer)),rfl⟩
  refine .op ((S132.atG (i:=1) rfl).ldVs (j:=0) (xs:=[.p (.int .i64 yg41.Kind),.p (.int .i64 yg41.Cap),v110,.p (.int .i64 yg41.Peer),.p (.int .i64 yg41.Height),.p (.int .i64 yg41.Class),.p (.int .i64 yg41.Layer),.p (.int .i64 yg41.Code)]) rfl rfl (by decide)) ?_
  obtain ⟨H148,e149,S150⟩:=S132.stGv (i:=0) (j:=0) (own:=false) (σ:=(1::0::1::1::1::1::1::1::0::σ)) (xs:=[.p (.int .i64 yg41.Kind),.p (.int .i64 yg41.Cap),v110,.p (.int .i64 yg41.Peer),.p (.int .i64 yg41.Height),.p (.int .i64 yg41.Class),.p (.int .i64 yg41.Layer),.p (.int .i64 yg41.Code)]) rfl rfl (sC (sI _ _) (sC (sI _ _) (sC h112.still (sC (sI _ _) (sC (sI _ _) (sC (sI _ _) (sC (sI _ _) (sC (sI _ _) sN)))))))) rfl rfl
  refine .op (sM e149) ?_
  have e151 : ldO true 8 H148 (.ref ⟨h.length,2,0,s101,[]⟩ 0) = some (.agg [.p (.int .i64 yg41.Kind),.p (.int .i64 yg41.Cap),v110,.p (.int .i64 yg41.Peer),.p (.int .i64 yg41.Height),.p (.int .i64 yg41.Class),.p (.int .i64 yg41.Layer),.p (.int .i64 yg41.Code)]):=(S150.atG (i:=0) rfl).ldVs (j:=0) rfl rfl (by decide)
  refine .op (congrArg (Option.bind · _) e151) ?_
  exact .fin (S150.finN (lC (Stills.lv (dTaiCtl.still (dTaiCtl.mk h112))) (lC (sI _ _).lv lN))) ⟨_,(dTaiCtl.mk h112),rfl⟩
 ·intro r152_3 yg36 w155 h156 s157 H153 S154
  refine .ext (ctl_Read_a0_ret _ _ _ _ _ _) ?_
  obtain ⟨v159,rfl,h160⟩:=dTaiCtl.inv h156
  have e161 : ldO true 8 H153 (.ref ⟨h.length,2,0,s157,[]⟩ 0) = some (.agg [(.p (.int .i64 yg36.Kind)),(.p (.int .i64 yg36.Cap)),v159,(.p (.int .i64 yg36.Peer)),(.p (.int .i64 yg36.Height)),(.p (.int .i64 yg36.Class)),(.p (.int .i64 yg36.Layer)),(.p (.int .i64 yg36.Code))]):=(S154.atG (i:=0) rfl).ldVs (j:=0) rfl rfl (by decide)
  refine .op (congrArg (Option.bind · _) e161) ?_
  exact .fin (S154.finN (lC (Stills.lv (dTaiCtl.still h156)) (lC (sI _ _).lv lN))) ⟨_,h156,rfl⟩
end
end Go.Ev
namespace Go.Ev
set_option maxRecDepth 100000
set_option linter.unusedSimpArgs false
theorem or_u64 {a b : Int} (ha : 0 ≤ a) (ha2 : a < 2 ^ 56) (hb : 0 ≤ b∧b < 256) : intBits .or .u64 (IntKind.wrap .u64 (a * 2 ^ 8)) (IntKind.wrap .u64 b) = a * 256 + b:=by
 obtain ⟨m,rfl⟩ : ∃ m : Nat,a = m:=⟨a.toNat,by omega⟩
 obtain ⟨n,rfl⟩ : ∃ n : Nat,b = n:=⟨b.toNat,by omega⟩
 have w1 : IntKind.wrap .u64 ((m : Int) * 2 ^ 8) = ((m * 256 : Nat) : Int):=by rw [wrap_u64 (by omega) (by omega)]; omega
 have w2 : IntKind.wrap .u64 (n : Int) = (n : Int):=wrap_u64 (by omega) (by omega)
 rw [w1,w2]
 have hor : m * 256 ||| n = m * 256 + n:=by
  have:=Nat.shiftLeft_add_eq_or_of_lt (b:=n) (i:=8) (by omega) m
  rw [Nat.shiftLeft_eq] at this
  exact this.symm
 have h1 : (BitVec.ofInt 64 ((m * 256 : Nat) : Int) ||| BitVec.ofInt 64 (n : Int)).toNat = m * 256 + n:=by
  rw [BitVec.toNat_or,BitVec.toNat_ofInt,BitVec.toNat_ofInt]
  have e1 : (((m * 256 : Nat) : Int) % ((2 ^ 64 : Nat) : Int)).toNat = m * 256:=by rw [Int.emod_eq_of_lt (by omega) (by omega)]; rfl
  have e2 : (((n : Nat) : Int) % ((2 ^ 64 : Nat) : Int)).toNat = n:=by rw [Int.emod_eq_of_lt (by omega) (by omega)]; rfl
  rw [e1,e2,hor]
 show IntKind.wrap .u64 (((BitVec.ofInt 64 ((m * 256 : Nat) : Int) ||| BitVec.ofInt 64 (n : Int)).toNat : Nat) : Int) = _
 rw [h1,show ((m * 256 + n : Nat) : Int) = (m : Int) * 256 + n by omega]
 exact wrap_u64 (by omega) (by omega)
theorem get_l0 {β : Type} (kE0 : Int→Option β) (xs : List Int) (hx : isB xs) (hl : xs.length ≤ 8) : ∀ (rest pre : List Int) (j : Nat) (a : Int),xs = pre ++ rest→0 ≤ a→a < 256 ^ pre.length →
  p_octet_Get_l0 (j + rest.length + 1) kE0 a xs (xs.length : Int) (pre.length : Int) = kE0 (getB a rest)
 | [],pre,j,a,h,_,_ => by
  rw [p_octet_Get_l0]
  have h1 : decide ((pre.length : Int) < (xs.length : Int)) = false:=by subst h; simp
  rw [h1,cond_false,getB]
 | b::rest,pre,j,a,h,h0,ha => by
  have hplen : pre.length + 1 ≤ xs.length:=by rw [h,List.length_append,List.length_cons]; omega
  rw [List.length_cons,show j + (rest.length + 1) + 1 = (j + rest.length + 1) + 1 from rfl,p_octet_Get_l0]
  have h1 : decide ((pre.length : Int) < (xs.length : Int)) = true:=decide_eq_true (by omega)
  have h2 : ix xs (pre.length : Int) = some b:=ix_mid' h rfl
  have h4 : IntKind.wrap .i64 ((pre.length : Int) + 1) = (((pre ++ [b]).length : Nat) : Int):=by rw [wrap_i64 (by omega) (by omega)]; simp
  have hb:=hx b (by rw [h]; simp)
  have hpow : (256 : Int) ^ pre.length ≤ 256 ^ 7:=by
   have : (256 : Nat) ^ pre.length ≤ 256 ^ 7:=Nat.pow_le_pow_right (by omega) (by omega)
   exact_mod_cast this
  have h56 : a < 2 ^ 56:=by
   have : (256 : Int) ^ 7 = 2 ^ 56:=rfl
   omega
  rw [h1,cond_true,h2,Option.bind_some,or_u64 h0 h56 hb,h4,get_l0 kE0 xs hx hl rest (pre ++ [b]) j _ (by rw [h]; simp) (by omega) (by
   rw [List.length_append,List.length_cons,List.length_nil,Int.pow_succ]
   omega),getB]
theorem get_ok {k : Nat} (hk : 10 ≤ k) {xs : List Int} (hx : isB xs) (hl : xs.length < 2 ^ 30) {a n : Nat} (h : a + n ≤ xs.length) (h1 : 1 ≤ n) (h8 : n ≤ 8) : p_octet_Get k xs (a : Int) (n : Int) = some (getB 0 ((xs.drop a).take n),true):=by
 unfold p_octet_Get
 rw [cut_ok h (by omega),Option.bind_some]
 have d1 : decide ((n : Int) < 1) = false:=decide_eq_false (by omega)
 have d2 : decide ((n : Int) > 8) = false:=decide_eq_false (by omega)
 simp only [Bool.not_true,cond_false,d1,d2,Option.bind_some]
 have hlen : ((xs.drop a).take n).length = n:=by rw [List.length_take,List.length_drop]; omega
 have hB : isB ((xs.drop a).take n):=fun x hx' => hx x (List.mem_of_mem_drop (List.mem_of_mem_take hx'))
 have:=get_l0 (fun r => some (r,true)) ((xs.drop a).take n) hB (by omega) ((xs.drop a).take n) [] (k - n - 1) 0 rfl (by omega) (by simp)
 rw [hlen] at this ⊢
 rw [show k - n - 1 + n + 1 = k by omega] at this
 exact this
theorem get_big {k : Nat} {xs : List Int} (hl : xs.length < 2 ^ 30) {a n : Nat} (h : a + n ≤ xs.length) (h8 : 8 < n) : p_octet_Get k xs (a : Int) (n : Int) = some (0,false):=by
 unfold p_octet_Get
 rw [cut_ok h (by omega),Option.bind_some]
 have d1 : decide ((n : Int) < 1) = false:=decide_eq_false (by omega)
 have d2 : decide ((n : Int) > 8) = true:=decide_eq_true (by omega)
 simp only [Bool.not_true,cond_false,cond_true,d1,d2,Option.bind_some]
theorem get_no {k : Nat} {xs : List Int} (hl : xs.length < 2 ^ 30) {a n : Nat} (h : xs.length < a + n) : p_octet_Get k xs (a : Int) (n : Int) = some (0,false):=by
 unfold p_octet_Get
 rw [cut_no h (by omega),Option.bind_some]
 simp only [Bool.not_false,cond_true,Option.bind_some]
inductive Steps : TaiCtl→List Fd→TaiCtl→Prop
 | nil (c : TaiCtl) : Steps c [] c
 | cons {c c' c'' : TaiCtl} {f : Fd} {fs : List Fd} (hf : okF f) (ht : ∀ k,20 ≤ k→p_ctl_take k c f.1 f.2 = some c') (hs : Steps c' fs c'') : Steps c (f::fs) c''
theorem Steps.append {a b c : TaiCtl} {fs gs : List Fd} (h : Steps a fs b) (k : Steps b gs c) : Steps a (fs ++ gs) c:=by
 induction h with
 | nil => exact k
 | cons hf ht _ ih => exact .cons hf ht (ih k)
end Go.Ev
namespace Go.Ev
set_option maxRecDepth 100000
set_option linter.unusedSimpArgs false
theorem bytC_cons (c : TaiCtl) : bytC c = c.Kind::(((bodyC c).length : Int) / 256 ^ 1 % 256)::(((bodyC c).length : Int) / 256 ^ 0 % 256)::bodyC c:=rfl
theorem bytC_len (c : TaiCtl) : (bytC c).length = 3 + (bodyC c).length:=by rw [bytC_cons]; simp only [List.length_cons]; omega
end Go.Ev
namespace Go.Ev
set_option maxRecDepth 100000
set_option linter.unusedSimpArgs false
theorem get_any {k : Nat} (hk : 10 ≤ k) {xs : List Int} (hx : isB xs) (hl : xs.length < 2 ^ 30) (a n : Nat) : ∃ r,p_octet_Get k xs (a : Int) (n : Int) = some r:=by
 by_cases h : a + n ≤ xs.length
 ·by_cases h8 : n ≤ 8
  ·by_cases h1 : 1 ≤ n
   ·exact ⟨_,get_ok hk hx hl h h1 h8⟩
   ·unfold p_octet_Get
    rw [cut_ok h (by omega),Option.bind_some]
    have d1 : decide ((n : Int) < 1) = true:=decide_eq_true (by omega)
    simp only [Bool.not_true,cond_false,cond_true,d1,Option.bind_some]
    exact ⟨_,rfl⟩
  ·exact ⟨_,get_big hl h (by omega)⟩
 ·exact ⟨_,get_no hl (by omega)⟩
theorem strB_size (xs : List Int) : (strB xs).size = xs.length:=by
 rw [← bytesS_len]
 unfold bytesS strB
 simp
theorem u32_range (n : Int) : 0 ≤ IntKind.wrap .u32 n∧IntKind.wrap .u32 n < 2 ^ 32:=by
 have : IntKind.wrap .u32 n = n % 4294967296:=by simp [IntKind.wrap,IntKind.signed,IntKind.bits]
 omega
def invL (a : TaiLayer) : Prop:=(0 ≤ a.Ssrc∧a.Ssrc < 2 ^ 32)∧a.Rid.size ≤ 249
def invC (n : Nat) (c : TaiCtl) : Prop:=c.Layers.length ≤ n∧∀ a ∈ c.Layers,invL a
theorem take_any {k : Nat} (hk : 20 ≤ k) {d : List Int} (hd : isB d) (hl : d.length ≤ 255) {n : Nat} (hn : n < 2 ^ 30) {c : TaiCtl} (h : invC n c) (nm : Int) : ∃ c',p_ctl_take k c nm d = some c'∧invC (n + 1) c':=by
 obtain ⟨r1,e1⟩:=get_any (k:=k) (by omega) hd (by omega) 0 d.length
 have e1' : p_octet_Get k d 0 (d.length : Int) = some r1:=e1
 have same : invC (n + 1) c:=⟨by have:=h.1; omega,h.2⟩
 unfold p_ctl_take
 rw [e1',Option.bind_some]
 cases (nm == 1) with
 | true => exact ⟨_,rfl,same⟩
 | false =>
 cases (nm == 2) with
 | true =>
  obtain ⟨r2,e2⟩:=get_any (k:=k) (by omega) hd (by omega) 0 4
  obtain ⟨r3,e3⟩:=get_any (k:=k) (by omega) hd (by omega) 4 2
  have e2' : p_octet_Get k d 0 4 = some r2:=e2
  have e3' : p_octet_Get k d 4 2 = some r3:=e3
  have m1 : (if (d.length : Int) < 6 then (d.length : Int) else 6) = ((min d.length 6 : Nat) : Int):=by split <;> omega
  have w1 : IntKind.wrap .i64 (IntKind.wrap .i64 ((d.length : Int) - 4) - 2) = (d.length : Int) - 6:=by
   rw [wrap_i64 (n:=(d.length : Int) - 4) (by omega) (by omega),wrap_i64 (by omega) (by omega)]; omega
  have m2 : (if (d.length : Int) - 6 > 0 then (d.length : Int) - 6 else 0) = ((d.length - 6 : Nat) : Int):=by split <;> omega
  have c1:=cut_ok (xs:=d) (a:=min d.length 6) (n:=d.length - 6) (by omega) (by omega)
  simp only [cond_false,cond_true,e2',e3',Option.bind_some,w1,m1,m2,c1]
  rw [ap_eq (by decide) (by have:=h.1; simp only [List.length_cons,List.length_nil]; omega),Option.bind_some]
  refine ⟨_,rfl,?_,fun a ha => ?_⟩
  ·show (c.Layers ++ [_]).length ≤ n + 1
   have:=h.1
   rw [List.length_append,List.length_cons,List.length_nil]
   omega
  ·rcases List.mem_append.1 ha with ha | ha
   ·exact h.2 a ha
   ·rw [List.mem_singleton] at ha
    subst ha
    refine ⟨u32_range _,?_⟩
    show (strB _).size ≤ 249
    rw [strB_size,List.length_take]
    omega
 | false =>
 cases (nm == 3) with
 | true => exact ⟨_,rfl,same⟩
 | false =>
 cases (nm == 4) with
 | true => exact ⟨_,rfl,same⟩
 | false =>
 cases (nm == 5) with
 | true => exact ⟨_,rfl,same⟩
 | false =>
 cases (nm == 6) with
 | true => exact ⟨_,rfl,same⟩
 | false =>
 cases (nm == 7) with
 | true => exact ⟨_,rfl,same⟩
 | false => exact ⟨_,rfl,same⟩
theorem chkL_heights : ∀ (l pre : List TaiLayer),chkL pre l = true→∀ a ∈ l,1 ≤ a.Height∧a.Height ≤ 8192
 | [],_,_,_,ha => by cases ha
 | b::l,pre,h,a,ha => by
  rw [chkL] at h
  simp only [Bool.and_eq_true] at h
  obtain ⟨h1,_,h3⟩:=h
  rcases List.mem_cons.1 ha with rfl | ha
  ·unfold okL at h1
   simp only [Bool.and_eq_true,decide_eq_true_eq] at h1
   exact ⟨h1.2.1,h1.2.2.1⟩
  ·exact chkL_heights l _ h3 a ha
theorem layers_any {k : Nat} (hk : 10 ≤ k) {l : List TaiLayer} (hs : ∀ b ∈ l,b.Rid.size < 2 ^ 40) : ∃ r,p_ctl_Layers k l = some r∧(r = 0→l.length ≤ 3∧chkL [] l = true):=by
 by_cases h3 : 3 < l.length
 ·exact ⟨_,layers_many h3 k,fun h => absurd h (by decide)⟩
 by_cases h1 : 1 ≤ l.length
 ·refine ⟨_,layers_eqK hk h1 (by omega) hs,fun h => ⟨by omega,?_⟩⟩
  cases hc : chkL [] l with
  | true => rfl
  | false => rw [hc,cond_false] at h; exact absurd h (by decide)
 ·have : l = []:=List.eq_nil_of_length_eq_zero (by omega)
  subst this
  exact ⟨26,rfl,fun h => absurd h (by decide)⟩
theorem fv {z b v : Bool} (h1 : (z || b) = true) (h2 : (!b || v) = true) : z = true ∨ v = true:=by
 cases z <;> cases b <;> cases v <;> simp_all
theorem right_any {k : Nat} (hk : 10 ≤ k) {n : Nat} {c : TaiCtl} (h : invC n c) : ∃ r,p_ctl_Right k c = some r∧(r = 0→okC c):=by
 unfold p_ctl_Right
 by_cases hK : 1 ≤ c.Kind∧c.Kind ≤ 10
 ·have d1 : decide (c.Kind < 1) = false:=decide_eq_false (by omega)
  have d2 : decide (c.Kind > 10) = false:=decide_eq_false (by omega)
  have f : p_ctl_fields k c = _:=fields_ok c hk
  have v : p_ctl_values c = _:=values_ok c
  simp only [d1,d2,cond_false,Option.bind_some,f,v]
  cases hf : fldB c.Kind 0 [(c.Cap == 0),((c.Layers.length : Int) == 0),(c.Peer == 0),(c.Height == 0),(c.Class == 0),(c.Layer == 0),(c.Code == 0)] with
  | false => exact ⟨12,rfl,fun h => absurd h (by decide)⟩
  | true =>
  cases hv : valB c with
  | false => exact ⟨1,rfl,fun h => absurd h (by decide)⟩
  | true =>
  have hf' : ((c.Cap == 0 || hasB c.Kind 1) && (((c.Layers.length : Int) == 0 || hasB c.Kind 2) && ((c.Peer == 0 || hasB c.Kind 3) && ((c.Height == 0 || hasB c.Kind 4) && ((c.Class == 0 || hasB c.Kind 5) && ((c.Layer == 0 || hasB c.Kind 6) && ((c.Code == 0 || hasB c.Kind 7) && true))))))) = true:=hf
  unfold valB at hv
  simp only [Bool.and_eq_true] at hf' hv
  obtain ⟨f1,f2,f3,f4,f5,f6,f7,_⟩:=hf'
  obtain ⟨⟨⟨⟨⟨v1,v3⟩,v4⟩,v5⟩,v6⟩,v7⟩:=hv
  have six' : ∀ a ∈ six c,okIt a:=by
   have g : ∀ {n lo hi : Int} {s nm : Int},(n == 0) = true ∨ (decide (n ≥ lo) && decide (n ≤ hi)) = true→0 ≤ lo→hi < 2 ^ 62→(0 ≤ nm∧nm < 256)→(1 ≤ s∧s ≤ 8)→okIt ⟨nm,s,n⟩:=fun {n lo hi s nm} hh h0 h1 h2 h3 => by
    have : 0 ≤ n∧n < 2 ^ 62:=by
     rcases hh with hh | hh
     ·have : n = 0:=by simpa using hh
      omega
     ·simp only [Bool.and_eq_true,decide_eq_true_eq] at hh
      omega
    exact ⟨h2,h3,this.1,by show n < 2 ^ 63; omega⟩
   intro a ha
   simp only [six,List.mem_cons,List.not_mem_nil,or_false] at ha
   rcases ha with rfl | rfl | rfl | rfl | rfl | rfl
   ·exact g (fv f1 v1) (by decide) (by decide) (by decide) (by decide)
   ·exact g (fv f3 v3) (by decide) (by decide) (by decide) (by decide)
   ·exact g (fv f4 v4) (by decide) (by decide) (by decide) (by decide)
   ·exact g (fv f5 v5) (by decide) (by decide) (by decide) (by decide)
   ·exact g (fv f6 v6) (by decide) (by decide) (by decide) (by decide)
   ·exact g (fv f7 v7) (by decide) (by decide) (by decide) (by decide)
  simp only [Bool.not_true,cond_false]
  cases h3 : (c.Kind == 3) with
  | true =>
   obtain ⟨r,er,hr⟩:=layers_any hk (l:=c.Layers) fun b hb => by have:=(h.2 b hb).2; omega
   rw [cond_true,er,Option.bind_some]
   refine ⟨r,rfl,fun h0 => ?_⟩
   obtain ⟨l3,lc⟩:=hr h0
   refine ⟨by omega,l3,fun a ha => ?_,six'⟩
   obtain ⟨s1,s2⟩:=h.2 a ha
   have:=chkL_heights _ _ lc a ha
   exact ⟨s1,by omega,s2⟩
  | false =>
   have h2 : hasB c.Kind 2 = false:=h3
   rw [h2,Bool.or_false] at f2
   have h0 : (c.Layers.length : Int) = 0:=by simpa using f2
   have hl : c.Layers = []:=List.eq_nil_of_length_eq_zero (by omega)
   rw [cond_false]
   exact ⟨0,rfl,fun _ => ⟨by omega,by rw [hl]; simp,(by rw [hl]; intro a ha; cases ha),six'⟩⟩
 ·refine ⟨12,?_,fun h => absurd h (by decide)⟩
  by_cases h1 : c.Kind < 1
  ·have d1 : decide (c.Kind < 1) = true:=decide_eq_true h1
   simp only [d1,cond_true,Option.bind_some]
  ·have d1 : decide (c.Kind < 1) = false:=decide_eq_false h1
   have d2 : decide (c.Kind > 10) = true:=decide_eq_true (by omega)
   simp only [d1,d2,cond_true,cond_false,Option.bind_some]
theorem bytes_any {k : Nat} (hk : 40 ≤ k) {n : Nat} {c : TaiCtl} (h : invC n c) : ∃ y e,p_ctl_Bytes k c = some (y,e)∧y.length ≤ 2403∧(e = 0→p_ctl_Right k c = some 0):=by
 obtain ⟨r,er,hr⟩:=right_any (k:=k) (by omega) h
 by_cases h0 : r = 0
 ·subst h0
  refine ⟨_,_,bytes8 (hr rfl) hk er,?_,fun _ => er⟩
  have:=bodyC_len (hr rfl)
  rw [bytC_len]
  omega
 ·refine ⟨[],r,?_,by simp,fun h => absurd h h0⟩
  have er' : p_ctl_Right k c = some r:=er
  have d : (r != 0) = true:=by simpa using h0
  unfold p_ctl_Bytes
  rw [er',Option.bind_some,d,cond_true]
theorem equal_g {β : Type} (kE0 : Unit→Option β) (kE1 : Bool→Option β) {x y : List Int} (hl : x.length < 2 ^ 30) : ∀ (rx ry pre : List Int) (j : Nat),x = pre ++ rx→y = pre ++ ry→rx.length = ry.length →
  (p_slices_Equal_Lbyte_byte_l0 (j + rx.length + 1) kE0 kE1 x y (x.length : Int) (pre.length : Int) = kE0 ()∧x = y) ∨ p_slices_Equal_Lbyte_byte_l0 (j + rx.length + 1) kE0 kE1 x y (x.length : Int) (pre.length : Int) = kE1 false
 | [],ry,pre,j,h,h',hr => by
  have : ry = []:=List.eq_nil_of_length_eq_zero (by rw [← hr]; rfl)
  subst this
  refine .inl ⟨?_,h.trans h'.symm⟩
  rw [p_slices_Equal_Lbyte_byte_l0]
  have h1 : decide ((pre.length : Int) < (x.length : Int)) = false:=by subst h; simp
  rw [h1,cond_false]
 | a::rx,[],pre,j,h,h',hr => by simp at hr
 | a::rx,b::ry,pre,j,h,h',hr => by
  have hplen : pre.length + 1 ≤ x.length:=by rw [h,List.length_append,List.length_cons]; omega
  rw [List.length_cons,show j + (rx.length + 1) + 1 = (j + rx.length + 1) + 1 from rfl,p_slices_Equal_Lbyte_byte_l0]
  have h1 : decide ((pre.length : Int) < (x.length : Int)) = true:=decide_eq_true (by omega)
  have h2 : ix x (pre.length : Int) = some a:=ix_mid' h rfl
  have h3 : ix y (pre.length : Int) = some b:=ix_mid' h' rfl
  have h4 : IntKind.wrap .i64 ((pre.length : Int) + 1) = (((pre ++ [a]).length : Nat) : Int):=by rw [wrap_i64 (by omega) (by omega)]; simp
  rw [h1,cond_true,h2,Option.bind_some,h3,Option.bind_some]
  by_cases hab : a = b
  ·subst hab
   have h5 : (a != a) = false:=by simp
   rw [h5,cond_false,h4]
   exact equal_g kE0 kE1 hl rx ry (pre ++ [a]) j (by rw [h]; simp) (by rw [h']; simp) (by simpa using hr)
  ·have h5 : (a != b) = true:=by simpa using hab
   rw [h5,cond_true]
   exact .inr rfl
theorem equal_any {x y : List Int} {k : Nat} (hl : x.length < 2 ^ 30) (hk : x.length < k) : ∃ b,p_slices_Equal_Lbyte_byte k x y = some b∧(b = true→x = y):=by
 unfold p_slices_Equal_Lbyte_byte
 by_cases hn : x.length = y.length
 ·have h0 : ((x.length : Int) != (y.length : Int)) = false:=by rw [hn]; simp
  rw [h0,cond_false]
  have:=fun (kE0 : Unit→Option Bool) kE1 => equal_g kE0 kE1 hl x y [] (k - x.length - 1) rfl rfl hn
  simp only [show k - x.length - 1 + x.length + 1 = k by omega,List.length_nil] at this
  rcases this (fun (_ : Unit) => some true) (fun r => some r) with ⟨h1,h2⟩ | h1
  ·exact ⟨_,h1,fun _ => h2⟩
  ·exact ⟨_,h1,fun h => by cases h⟩
 ·have h0 : ((x.length : Int) != (y.length : Int)) = true:=by simp; omega
  rw [h0,cond_true]
  exact ⟨_,rfl,fun h => by cases h⟩
abbrev zeroC : TaiCtl:=⟨0,0,[],0,0,0,0,0⟩
theorem readA_l0 {β : Type} (kE0 : List Int→TaiCtl→TaiCtl→Option β) (kE1 : Int→TaiCtl→Option β) {xs : List Int} (hx : isB xs) (hl : xs.length < 2 ^ 30) (y : TaiCtl) : ∀ (m j pos n : Nat) (c : TaiCtl),pos ≤ xs.length→xs.length ≤ pos + m→invC n c→n + m < 2 ^ 30→20 ≤ j →
  (∃ c',p_ctl_Read_l0 (j + m + 1) kE0 kE1 xs (pos : Int) y c = kE0 xs y c'∧invC (n + m) c') ∨ p_ctl_Read_l0 (j + m + 1) kE0 kE1 xs (pos : Int) y c = kE1 12 zeroC
 | 0,j,pos,n,c,hp,hm,hc,_,hj => by
  rw [p_ctl_Read_l0]
  have w : IntKind.wrap .i64 ((pos : Int) + 1) = (pos : Int) + 1:=wrap_i64 (by omega) (by omega)
  have d : decide ((pos : Int) + 1 < (xs.length : Int)) = false:=decide_eq_false (by omega)
  rw [w,d,cond_false]
  exact .inl ⟨c,rfl,hc⟩
 | m + 1,j,pos,n,c,hp,hm,hc,hn,hj => by
  rw [show j + (m + 1) + 1 = (j + m + 1) + 1 from rfl,p_ctl_Read_l0]
  have w : IntKind.wrap .i64 ((pos : Int) + 1) = ((pos + 1 : Nat) : Int):=by rw [wrap_i64 (by omega) (by omega)]; rfl
  rw [w]
  by_cases hlt : pos + 1 < xs.length
  ·have d : decide (((pos + 1 : Nat) : Int) < (xs.length : Int)) = true:=decide_eq_true (by omega)
   obtain ⟨a,ha⟩ : ∃ a,xs[pos + 1]? = some a:=⟨_,List.getElem?_eq_getElem hlt⟩
   obtain ⟨b,hb⟩ : ∃ b,xs[pos]? = some b:=⟨_,List.getElem?_eq_getElem (by omega)⟩
   have aB:=hx a (List.mem_of_getElem? ha)
   obtain ⟨i,rfl⟩ : ∃ i : Nat,a = i:=⟨a.toNat,by omega⟩
   have w2 : IntKind.wrap .i64 ((pos : Int) + 2) = ((pos + 2 : Nat) : Int):=by rw [wrap_i64 (by omega) (by omega)]; rfl
   have w3 : IntKind.wrap .i64 (i : Int) = (i : Int):=wrap_i64 (by omega) (by omega)
   rw [d,cond_true,ix_at ha,Option.bind_some,w2,w3]
   by_cases hf : pos + 2 + i ≤ xs.length
   ·have hlen : ((xs.drop (pos + 2)).take i).length = i:=by rw [List.length_take,List.length_drop]; omega
    have hB : isB ((xs.drop (pos + 2)).take i):=fun x hx' => hx x (List.mem_of_mem_drop (List.mem_of_mem_take hx'))
    obtain ⟨c1,e1,h1⟩:=take_any (k:=j + m + 1) (by omega) hB (by omega) (n:=n) (by omega) hc (IntKind.wrap .i64 b)
    have w5 : IntKind.wrap .i64 (2 + (i : Int)) = 2 + (i : Int):=wrap_i64 (by omega) (by omega)
    have w6 : IntKind.wrap .i64 ((pos : Int) + (2 + (i : Int))) = ((pos + 2 + i : Nat) : Int):=by rw [wrap_i64 (by omega) (by omega)]; omega
    rw [cut_ok hf (by omega),Option.bind_some]
    simp only [Bool.not_true,cond_false]
    rw [ix_at hb,Option.bind_some,e1,Option.bind_some,hlen,w5,w6]
    have ih:=readA_l0 kE0 kE1 hx hl y m j (pos + 2 + i) (n + 1) c1 hf (by omega) h1 (by omega) hj
    rwa [show n + 1 + m = n + (m + 1) by omega] at ih
   ·rw [cut_no (by omega) (by omega),Option.bind_some]
    exact .inr rfl
  ·have d : decide (((pos + 1 : Nat) : Int) < (xs.length : Int)) = false:=decide_eq_false (by omega)
   rw [d,cond_false]
   exact .inl ⟨c,rfl,by have:=hc.1; omega,hc.2⟩
theorem read_any8 {k : Nat} {xs : List Int} (hx : isB xs) (hl : xs.length < 2 ^ 30) (hk : xs.length + 40 ≤ k) (hk2 : 3000 ≤ k) : ∃ c e,p_ctl_Read k xs = some (c,e)∧(e ≠ 0→c = zeroC)∧(e = 0→p_ctl_Bytes k c = some (xs,0)∧p_ctl_Right k c = some 0):=by
 obtain ⟨r,er⟩:=get_any (k:=k) (by omega) hx hl 1 2
 have er' : p_octet_Get k xs 1 2 = some r:=er
 unfold p_ctl_Read
 rw [er',Option.bind_some]
 by_cases h3 : xs.length < 3
 ·have d : decide ((xs.length : Int) < 3) = true:=decide_eq_true (by omega)
  rw [d,cond_true,Option.bind_some,cond_true]
  exact ⟨_,_,rfl,fun _ => rfl,fun h => absurd h (by decide)⟩
 have d : decide ((xs.length : Int) < 3) = false:=decide_eq_false (by omega)
 rw [d,cond_false,Option.bind_some]
 cases decide (IntKind.wrap .i64 ((xs.length : Int) - 3) < IntKind.wrap .i64 r.1) with
 | true => exact ⟨_,_,rfl,fun _ => rfl,fun h => absurd h (by decide)⟩
 | false =>
 obtain ⟨b,hb⟩ : ∃ b,xs[0]? = some b:=⟨_,List.getElem?_eq_getElem (by omega)⟩
 have hb' : ix xs 0 = some b:=ix_at hb
 rw [cond_false,hb',Option.bind_some]
 have hr:=fun (kE0 : List Int→TaiCtl→TaiCtl→Option (TaiCtl × Int)) kE1 y c hc => readA_l0 kE0 kE1 hx hl y (xs.length - 3) (k - (xs.length - 3) - 1) 3 0 c (by omega) (by omega) hc (by omega) (by omega)
 simp only [show k - (xs.length - 3) - 1 + (xs.length - 3) + 1 = k by omega] at hr
 rcases hr (fun r94_0 yg36 yg41 =>
  (p_ctl_Bytes k yg41).bind fun r120 =>
  (bif r120.2 != 0 then (some true) else ((p_slices_Equal_Lbyte_byte k r120.1 r94_0).bind fun r134 =>
  some (!r134))).bind fun b139 =>
  bif b139 then (
  some (((⟨0,0,(([] : List TaiLayer)),0,0,0,0,0⟩ : TaiCtl)),12))
  else (
  some (yg41,0))) (fun r152_3 yg36 => some (yg36,r152_3)) zeroC ⟨IntKind.wrap .i64 b,0,[],0,0,0,0,0⟩ ⟨by simp,fun a ha => by cases ha⟩ with ⟨c',e1,h1⟩ | e1
 ·refine Exists.elim (bytes_any (k:=k) (by omega) h1) fun y h => ?_
  obtain ⟨e,eb,hy,he⟩:=h
  have eb' : p_ctl_Bytes k c' = some (y,e):=eb
  by_cases h0 : e = 0
  ·subst h0
   obtain ⟨q,eq,hq⟩:=equal_any (x:=y) (y:=xs) (k:=k) (by omega) (by omega)
   cases q with
   | true =>
    have:=hq rfl
    subst this
    refine ⟨c',0,e1.trans ?_,fun h => absurd rfl h,fun _ => ⟨eb,he rfl⟩⟩
    simp only [eb',Option.bind_some,eq,show ((0 : Int) != 0) = false from rfl,cond_false,Bool.not_true]
   | false =>
    refine ⟨zeroC,12,e1.trans ?_,fun _ => rfl,fun h => absurd h (by decide)⟩
    simp only [eb',Option.bind_some,eq,show ((0 : Int) != 0) = false from rfl,cond_false,Bool.not_false,cond_true]
  ·have d : (e != 0) = true:=by simpa using h0
   refine ⟨zeroC,12,e1.trans ?_,fun _ => rfl,fun h => absurd h (by decide)⟩
   simp only [eb',Option.bind_some,d,cond_true]
 ·exact ⟨_,_,e1,fun _ => rfl,fun h => absurd h (by decide)⟩
end Go.Ev
namespace Go.Ev
open Go.Proofs
set_option linter.unusedVariables false
set_option linter.unusedSimpArgs false
set_option maxRecDepth 100000
noncomputable section
abbrev KT16:=Exit→Env→H→Option (List C × H)
variable (rec : CallF) (loop : LoopV) (σ : Stamp)
theorem zr8_Bytes_entry (x0 : V) (h : H) : cvBody G rec loop 35 σ [x0] h =
(boxO false (0::0::0::σ) 1 (List.replicate 12 []::h) x0).bind fun q1 =>
(ldO true 8 q1.2 q1.1).bind fun t2 =>
(callO rec 77 (1::0::0::1::0::σ) [t2] q1.2 (some 6)).bind fun q3 =>
(castI .i64 q3.1).bind fun n4 =>
bif n4 != 0 then (
fin false σ q3.2 [(.p (.slice .none 0 0)),(.p (.int .i64 n4))])
else (
(ldO true 8 q3.2 q1.1).bind fun t5 =>
(callO rec 78 (1::0::1::1::0::σ) [t5] q3.2 (some 11)).bind fun q6 =>
fin false σ q6.2 [q6.1,(.p (.int .i64 0))]):=by kernel_rfl
theorem zr8_Right_entry (x0 : V) (h : H) : cvBody G rec loop 77 σ [x0] h =
(boxO false (0::0::0::σ) 1 (List.replicate 155 []::h) x0).bind fun q1 =>
(fA q1.1 0).bind fun t2 =>
(ldO false 1 q1.2 t2).bind fun t3 =>
(castI .i64 t3).bind fun n4 =>
(bif decide (n4 < 1) then (some true) else ((fA q1.1 0).bind fun t5 =>
(ldO false 1 q1.2 t5).bind fun t6 =>
(castI .i64 t6).bind fun n7 =>
some (decide (n7 > 10)))).bind fun b8 =>
bif b8 then (
fin false σ q1.2 [(.p (.int .i64 12))])
else (
(fA q1.1 0).bind fun t9 =>
(ldO false 1 q1.2 t9).bind fun t10 =>
(castI .i64 t10).bind fun n11 =>
(callO rec 110 (2::0::1::1::0::σ) [(.p (.int .i64 n11))] q1.2 (some 14)).bind fun q12 =>
(castS q12.1).bind fun s13 =>
(callO rec 111 (1::0::0::1::1::1::0::σ) [(.p (.string s13)),(.p (.int .u8 99))] q12.2 (some 16)).bind fun q14 =>
(asB q14.1).bind fun b15 =>
(bif !b15 then ((fA q1.1 1).bind fun t16 =>
(ldO false 1 q14.2 t16).bind fun t17 =>
(castI .i64 t17).bind fun n18 =>
some (n18 != 0)) else (some false)).bind fun b19 =>
(bif b19 then (some ((.p (.bool true)),q14.2)) else ((callO rec 111 (10::0::0::1::1::1::0::σ) [(.p (.string s13)),(.p (.int .u8 108))] q14.2 (some 25)).bind fun q20 =>
(asB q20.1).bind fun b21 =>
(bif !b21 then ((fA q1.1 2).bind fun t22 =>
(ldO false 1 q20.2 t22).bind fun t23 =>
(lenO t23).bind fun t24 =>
(castI .i64 t24).bind fun n25 =>
some (decide (n25 > 0))) else (some false)).bind fun b26 =>
some ((.p (.bool b26)),q20.2))).bind fun q27 =>
(asB q27.1).bind fun b28 =>
(bif b28 then (some ((.p (.bool true)),q27.2)) else ((callO rec 111 (21::0::0::1::1::1::0::σ) [(.p (.string s13)),(.p (.int .u8 112))] q27.2 (some 36)).bind fun q29 =>
(asB q29.1).bind fun b30 =>
(bif !b30 then ((fA q1.1 3).bind fun t31 =>
(ldO false 1 q29.2 t31).bind fun t32 =>
(castI .i64 t32).bind fun n33 =>
some (n33 != 0)) else (some false)).bind fun b34 =>
some ((.p (.bool b34)),q29.2))).bind fun q35 =>
(asB q35.1).bind fun b36 =>
(bif b36 then (some ((.p (.bool true)),q35.2)) else ((callO rec 111 (31::0::0::1::1::1::0::σ) [(.p (.string s13)),(.p (.int .u8 104))] q35.2 (some 46)).bind fun q37 =>
(asB q37.1).bind fun b38 =>
(bif !b38 then ((fA q1.1 4).bind fun t39 =>
(ldO false 1 q37.2 t39).bind fun t40 =>
(castI .i64 t40).bind fun n41 =>
some (n41 != 0)) else (some false)).bind fun b42 =>
some ((.p (.bool b42)),q37.2))).bind fun q43 =>
(asB q43.1).bind fun b44 =>
(bif b44 then (some ((.p (.bool true)),q43.2)) else ((callO rec 111 (41::0::0::1::1::1::0::σ) [(.p (.string s13)),(.p (.int .u8 107))] q43.2 (some 56)).bind fun q45 =>
(asB q45.1).bind fun b46 =>
(bif !b46 then ((fA q1.1 5).bind fun t47 =>
(ldO false 1 q45.2 t47).bind fun t48 =>
(castI .i64 t48).bind fun n49 =>
some (n49 != 0)) else (some false)).bind fun b50 =>
some ((.p (.bool b50)),q45.2))).bind fun q51 =>
(asB q51.1).bind fun b52 =>
(bif b52 then (some ((.p (.bool true)),q51.2)) else ((callO rec 111 (51::0::0::1::1::1::0::σ) [(.p (.string s13)),(.p (.int .u8 121))] q51.2 (some 66)).bind fun q53 =>
(asB q53.1).bind fun b54 =>
(bif !b54 then ((fA q1.1 6).bind fun t55 =>
(ldO false 1 q53.2 t55).bind fun t56 =>
(castI .i64 t56).bind fun n57 =>
some (n57 != 0)) else (some false)).bind fun b58 =>
some ((.p (.bool b58)),q53.2))).bind fun q59 =>
(asB q59.1).bind fun b60 =>
(bif b60 then (some ((.p (.bool true)),q59.2)) else ((callO rec 111 (61::0::0::1::1::1::0::σ) [(.p (.string s13)),(.p (.int .u8 101))] q59.2 (some 76)).bind fun q61 =>
(asB q61.1).bind fun b62 =>
(bif !b62 then ((fA q1.1 7).bind fun t63 =>
(ldO false 1 q61.2 t63).bind fun t64 =>
(castI .i64 t64).bind fun n65 =>
some (n65 != 0)) else (some false)).bind fun b66 =>
some ((.p (.bool b66)),q61.2))).bind fun q67 =>
(asB q67.1).bind fun b68 =>
bif b68 then (
fin false σ q67.2 [(.p (.int .i64 12))])
else (
(callO rec 111 (1::0::0::1::1::1::1::0::σ) [(.p (.string s13)),(.p (.int .u8 99))] q67.2 (some 85)).bind fun q69 =>
(asB q69.1).bind fun b70 =>
(bif b70 then ((fA q1.1 1).bind fun t71 =>
(ldO false 1 q69.2 t71).bind fun t72 =>
(castI .i64 t72).bind fun n73 =>
(bif decide (n73 < 1) then (some true) else ((fA q1.1 1).bind fun t74 =>
(ldO false 1 q69.2 t74).bind fun t75 =>
(castI .i64 t75).bind fun n76 =>
some (decide (n76 > 1099511627776)))).bind fun b77 =>
some b77) else (some false)).bind fun b78 =>
(bif b78 then (some true) else ((fA q1.1 3).bind fun t79 =>
(ldO false 1 q69.2 t79).bind fun t80 =>
(castI .i64 t80).bind fun n81 =>
some (decide (n81 < 0)))).bind fun b82 =>
(bif b82 then (some true) else ((fA q1.1 3).bind fun t83 =>
(ldO false 1 q69.2 t83).bind fun t84 =>
(castI .i64 t84).bind fun n85 =>
some (decide (n85 ≥ 6)))).bind fun b86 =>
(bif b86 then (some ((.p (.bool true)),q69.2)) else ((callO rec 111 (24::0::0::1::1::1::1::0::σ) [(.p (.string s13)),(.p (.int .u8 104))] q69.2 (some 108)).bind fun q87 =>
(asB q87.1).bind fun b88 =>
(bif b88 then ((fA q1.1 4).bind fun t89 =>
(ldO false 1 q87.2 t89).bind fun t90 =>
(castI .i64 t90).bind fun n91 =>
(bif decide (n91 < 1) then (some true) else ((fA q1.1 4).bind fun t92 =>
(ldO false 1 q87.2 t92).bind fun t93 =>
(castI .i64 t93).bind fun n94 =>
some (decide (n94 > 8192)))).bind fun b95 =>
some b95) else (some false)).bind fun b96 =>
some ((.p (.bool b96)),q87.2))).bind fun q97 =>
(asB q97.1).bind fun b98 =>
(bif b98 then (some true) else ((fA q1.1 5).bind fun t99 =>
(ldO false 1 q97.2 t99).bind fun t100 =>
(castI .i64 t100).bind fun n101 =>
some (decide (n101 < 0)))).bind fun b102 =>
(bif b102 then (some true) else ((fA q1.1 5).bind fun t103 =>
(ldO false 1 q97.2 t103).bind fun t104 =>
(castI .i64 t104).bind fun n105 =>
some (decide (n105 > 3)))).bind fun b106 =>
(bif b106 then (some true) else ((fA q1.1 6).bind fun t107 =>
(ldO false 1 q97.2 t107).bind fun t108 =>
(castI .i64 t108).bind fun n109 =>
some (decide (n109 < 0)))).bind fun b110 =>
(bif b110 then (some true) else ((fA q1.1 6).bind fun t111 =>
(ldO false 1 q97.2 t111).bind fun t112 =>
(castI .i64 t112).bind fun n113 =>
some (decide (n113 ≥ 3)))).bind fun b114 =>
(bif b114 then (some true) else ((fA q1.1 7).bind fun t115 =>
(ldO false 1 q97.2 t115).bind fun t116 =>
(castI .i64 t116).bind fun n117 =>
some (decide (n117 < 0)))).bind fun b118 =>
(bif b118 then (some true) else ((fA q1.1 7).bind fun t119 =>
(ldO false 1 q97.2 t119).bind fun t120 =>
(castI .i64 t120).bind fun n121 =>
some (decide (n121 > 255)))).bind fun b122 =>
bif b122 then (
fin false σ q97.2 [(.p (.int .i64 1))])
else (
(callO rec 111 (1::0::0::1::1::1::1::1::0::σ) [(.p (.string s13)),(.p (.int .u8 108))] q97.2 (some 151)).bind fun q123 =>
(asB q123.1).bind fun b124 =>
bif b124 then (
(fA q1.1 2).bind fun t125 =>
(ldO false 1 q123.2 t125).bind fun t126 =>
(callO rec 112 (2::0::1::0::1::1::1::1::1::0::σ) [t126] q123.2 (some 154)).bind fun q127 =>
(castI .i64 q127.1).bind fun n128 =>
fin false σ q127.2 [(.p (.int .i64 n128))])
else (
fin false σ q123.2 [(.p (.int .i64 0))])))):=by kernel_rfl
def zr8_Layers_c0 : Code:=(codeAt (bodyOf Try.f112) [1,1,0,1,0,0])
def zr8_Layers_l0 : Lv:=⟨0,4,[(0,0)]⟩
def zr8_Layers_k0 : KT16:=(kBlock 0 (kSeq G rec loop (codeAt (bodyOf Try.f112) [1,1,1]) ⟨4,4,[]⟩ (1::1::0::σ) (finC G false Try.f112 (1::σ))))
def zr8_Layers_c1 : Code:=(codeAt (bodyOf Try.f112) [1,1,0,1,0,0,1,1,0,0,1,1,1,0,0])
def zr8_Layers_l1 : Lv:=⟨114689,4,[(2,114689),(1,114689),(0,0)]⟩
def zr8_Layers_k1 : Exit→Env→H→Option (Exit × Env × H):=(kBlock 2 (kBlock 1 (kSeq G rec loop (codeAt (bodyOf Try.f112) [1,1,0,1,0,0,1,1,1]) ⟨114689,4,[(0,0)]⟩ (1::1::0::σ) (kRound loop (codeAt (bodyOf Try.f112) [1,1,0,1,0,0]) ⟨0,4,[(0,0)]⟩ σ))))
theorem zr8_Layers_entry (x0 : V) (h : H) : cvBody G rec loop 112 σ [x0] h =
(lenO x0).bind fun t1 =>
(castI .i64 t1).bind fun n2 =>
(bif decide (n2 < 1) then (some true) else ((lenO x0).bind fun t3 =>
(castI .i64 t3).bind fun n4 =>
some (decide (n4 > 3)))).bind fun b5 =>
bif b5 then (
fin false σ (List.replicate 76 []::h) [(.p (.int .i64 26))])
else (
(lenO x0).bind fun t6 =>
(castI .i64 t6).bind fun n7 =>
(loop zr8_Layers_c0 zr8_Layers_l0 (1::0::1::1::0::σ) (envL [(0,x0),(14,x0),(15,(.p (.int .i64 n7))),(16,(.p (.int .i64 0)))]) (List.replicate 76 []::h)).bind fun r8 => zr8_Layers_k0 rec loop σ r8.1 r8.2.1 r8.2.2):=by kernel_rfl
theorem zr8_Layers_r0 (x0 : V) (x14 : V) (x15 : Int) (x16 : Int) (h : H) : cvRound G rec loop zr8_Layers_c0 zr8_Layers_l0 σ (envL [(0,x0),(14,x14),(15,(.p (.int .i64 x15))),(16,(.p (.int .i64 x16)))]) h =
bif decide (x16 < x15) then (
(iS 3 x14 x16).bind fun t9 =>
(ldO true 3 h t9).bind fun t10 =>
(some (alO [.p (.string (⟨#[]⟩ : ByteArray)),.p (.int .u32 0),.p (.int .i64 0)] (3::0::0::1::1::0::σ) 4 h)).bind fun q11 =>
((stO false 3 (5::0::0::1::1::0::σ) q11.2 q11.1 t10).map fun h => (udf,h)).bind fun q12 =>
(fA q11.1 0).bind fun t13 =>
(ldO false 1 q12.2 t13).bind fun t14 =>
(castS t14).bind fun s15 =>
(callO rec 65 (2::0::0::1::0::1::1::0::σ) [(.p (.string s15))] q12.2 (some 23)).bind fun q16 =>
(asB q16.1).bind fun b17 =>
(bif !b17 then (some true) else ((fA q11.1 2).bind fun t18 =>
(ldO false 1 q16.2 t18).bind fun t19 =>
(castI .i64 t19).bind fun n20 =>
some (decide (n20 < 1)))).bind fun b21 =>
(bif b21 then (some true) else ((fA q11.1 2).bind fun t22 =>
(ldO false 1 q16.2 t22).bind fun t23 =>
(castI .i64 t23).bind fun n24 =>
some (decide (n24 > 8192)))).bind fun b25 =>
(bif b25 then (some true) else ((bif decide (x16 > 0) then ((fA q11.1 2).bind fun t26 =>
(ldO false 1 q16.2 t26).bind fun t27 =>
(castI .i64 t27).bind fun n28 =>
(iS 3 x0 (IntKind.wrap .i64 (x16 - 1))).bind fun t29 =>
(fA t29 2).bind fun t30 =>
(ldO false 1 q16.2 t30).bind fun t31 =>
(castI .i64 t31).bind fun n32 =>
some (decide (n28 ≤ n32))) else (some false)).bind fun b33 =>
some b33)).bind fun b34 =>
bif b34 then (
some (.ret,(envL [(2,(.p (.int .i64 26)))]),q16.2))
else (
(loop zr8_Layers_c1 zr8_Layers_l1 (1::1::1::0::1::1::0::σ) (envL [(0,x0),(3,(.p (.int .i64 x16))),(4,q11.1),(5,(.p (.int .i64 0))),(14,x14),(15,(.p (.int .i64 x15))),(16,(.p (.int .i64 x16)))]) q16.2).bind fun r35 => zr8_Layers_k1 rec loop σ r35.1 r35.2.1 r35.2.2))
else (
some ((.exit 0),(envL []),h)):=by kernel_rfl
theorem zr8_Layers_a0_0  (h : H) : zr8_Layers_k0 rec loop σ (.exit 0) (envL []) h =
fin false σ h [(.p (.int .i64 0))]:=by kernel_rfl
theorem zr8_Layers_a0_ret (x2 : Int) (h : H) : zr8_Layers_k0 rec loop σ .ret (envL [(2,(.p (.int .i64 x2)))]) h =
fin false σ h [(.p (.int .i64 x2))]:=by kernel_rfl
theorem zr8_Layers_r1 (x0 : V) (x3 : Int) (x4 : V) (x5 : Int) (x14 : V) (x15 : Int) (x16 : Int) (h : H) : cvRound G rec loop zr8_Layers_c1 zr8_Layers_l1 σ (envL [(0,x0),(3,(.p (.int .i64 x3))),(4,x4),(5,(.p (.int .i64 x5))),(14,x14),(15,(.p (.int .i64 x15))),(16,(.p (.int .i64 x16)))]) h =
bif decide (x5 < x3) then (
(iS 3 x0 x5).bind fun t36 =>
(fA t36 1).bind fun t37 =>
(ldO false 1 h t37).bind fun t38 =>
(castI .u32 t38).bind fun n39 =>
(fA x4 1).bind fun t40 =>
(ldO false 1 h t40).bind fun t41 =>
(castI .u32 t41).bind fun n42 =>
(bif n39 == n42 then (some ((.p (.bool true)),h)) else ((iS 3 x0 x5).bind fun t43 =>
(fA t43 0).bind fun t44 =>
(ldO false 1 h t44).bind fun t45 =>
(castS t45).bind fun s46 =>
(fA x4 0).bind fun t47 =>
(ldO false 1 h t47).bind fun t48 =>
(castS t48).bind fun s49 =>
(callO rec 119 (14::0::0::1::0::σ) [(.p (.string s46))] h (some 69)).bind fun q50 =>
(castS q50.1).bind fun s51 =>
need (ldO false 1 q50.2 t47 = some (.p (.string s49))) (
(callO rec 119 (17::0::0::1::0::σ) [(.p (.string s49))] q50.2 (some 72)).bind fun q52 =>
(castS q52.1).bind fun s53 =>
some ((.p (.bool (s51.toList == s53.toList))),q52.2)))).bind fun q54 =>
(asB q54.1).bind fun b55 =>
bif b55 then (
some (.ret,(envL [(2,(.p (.int .i64 26)))]),q54.2))
else (
loop zr8_Layers_c1 zr8_Layers_l1 (1::σ) (envL [(0,x0),(3,(.p (.int .i64 x3))),(4,x4),(5,(.p (.int .i64 (IntKind.wrap .i64 (x5 + 1))))),(14,x14),(15,(.p (.int .i64 x15))),(16,(.p (.int .i64 x16)))]) q54.2))
else (
some ((.exit 2),(envL [(0,x0),(14,x14),(15,(.p (.int .i64 x15))),(16,(.p (.int .i64 x16)))]),h)):=by kernel_rfl
theorem zr8_Layers_a1_2 (x0 : V) (x14 : V) (x15 : Int) (x16 : Int) (h : H) : zr8_Layers_k1 rec loop σ (.exit 2) (envL [(0,x0),(14,x14),(15,(.p (.int .i64 x15))),(16,(.p (.int .i64 x16)))]) h =
loop zr8_Layers_c0 zr8_Layers_l0 (1::σ) (envL [(0,x0),(14,x14),(15,(.p (.int .i64 x15))),(16,(.p (.int .i64 (IntKind.wrap .i64 (x16 + 1)))))]) h:=by kernel_rfl
theorem zr8_Layers_a1_ret (x2 : Int) (h : H) : zr8_Layers_k1 rec loop σ .ret (envL [(2,(.p (.int .i64 x2)))]) h =
some (.ret,(envL [(2,(.p (.int .i64 x2)))]),h):=by kernel_rfl
end
end Go.Ev
namespace Go.Ev
open Go.Proofs
set_option linter.unusedVariables false
set_option linter.unusedSimpArgs false
set_option maxRecDepth 100000
section
variable {β α : Type} {Q : β→α→Prop} {K : Exit × Env × H→Option α}
def p_zr1_Fold (x0 : ByteArray) : Option ByteArray:=if x0.size < 2 ^ 40 then some (RidX.foldB x0) else none
theorem zr1_Fold_ok {h : H} {σ : Stamp} (x0 : ByteArray) : Sim (p_zr1_Fold x0) (ev G X0 119 σ [(.p (.string x0))] h) (fun r s => s = ([.v (.p (.string r))],h)):=by
 unfold p_zr1_Fold
 split
 ·rename_i hs
  exact .told (s:=([.v (.p (.string (RidX.foldB x0)))],h)) (ev_ext (by simp only [X0,plainX,XT]; simp [hs])) rfl
 ·exact .no
def p_zr1_Rid (x0 : ByteArray) : Option Bool:=some (RidX.rightB x0)
theorem zr1_Rid_ok {h : H} {σ : Stamp} (x0 : ByteArray) : Sim (p_zr1_Rid x0) (ev G X0 65 σ [(.p (.string x0))] h) (fun r s => s = ([.v (.p (.bool r))],h)):=Sim.told (ev_ext rfl)
def p_zr8_Layers_l1 {β : Type} (k : Nat) (kE0 : (List TaiLayer)→(List TaiLayer)→Int→Int→Option β) (kE1 : Int→Option β) (x0 : (List TaiLayer)) (x3 : Int) (x5 : Int) (x14 : (List TaiLayer)) (x15 : Int) (x16 : Int) (yg21 : TaiLayer) : Option β:=match k with
| 0 => none
| k + 1 =>
bif decide (x5 < x3) then (
(ix x0 x5).bind fun a64 =>
(bif a64.Ssrc == yg21.Ssrc then (some true) else ((ix x0 x5).bind fun a72 =>
(p_zr1_Fold a72.Rid).bind fun r80 =>
(p_zr1_Fold yg21.Rid).bind fun r85 =>
some (r80.toList == r85.toList))).bind fun b90 =>
bif b90 then (
kE1 26)
else (
p_zr8_Layers_l1 k kE0 kE1 x0 x3 (IntKind.wrap .i64 (x5 + 1)) x14 x15 x16 yg21))
else (
kE0 x0 x14 x15 x16)
def p_zr8_Layers_l0 {β : Type} (k : Nat) (kE0 : Unit→Option β) (kE1 : Int→Option β) (x0 : (List TaiLayer)) (x14 : (List TaiLayer)) (x15 : Int) (x16 : Int) : Option β:=match k with
| 0 => none
| k + 1 =>
bif decide (x16 < x15) then (
(ix x14 x16).bind fun a13 =>
(p_zr1_Rid a13.Rid).bind fun r25 =>
(bif !r25 then (some true) else (some (decide (a13.Height < 1)))).bind fun b30 =>
(bif b30 then (some true) else (some (decide (a13.Height > 8192)))).bind fun b34 =>
(bif b34 then (some true) else ((bif decide (x16 > 0) then ((ix x0 (IntKind.wrap .i64 (x16 - 1))).bind fun a38 =>
some (decide (a13.Height ≤ a38.Height))) else (some false)).bind fun b46 =>
some b46)).bind fun b50 =>
bif b50 then (
kE1 26)
else (
p_zr8_Layers_l1 k (fun r103_0 r103_14 r103_15 r103_16 =>
p_zr8_Layers_l0 k kE0 kE1 r103_0 r103_14 r103_15 (IntKind.wrap .i64 (r103_16 + 1))) (fun r110_2 =>
kE1 r110_2) x0 x16 0 x14 x15 x16 a13))
else (
kE0 ())
def p_zr8_Layers (k : Nat) (x0 : (List TaiLayer)) : Option (Int) :=
(bif decide (((x0.length : Int)) < 1) then (some true) else (some (decide (((x0.length : Int)) > 3)))).bind fun b1 =>
bif b1 then (
some (26))
else (
p_zr8_Layers_l0 k (fun (_ : Unit) =>
some (0)) (fun r120_2 =>
some (r120_2)) x0 x0 ((x0.length : Int)) 0)
theorem zr8_Layers_l1_ok {h : H}  {kE0 : (List TaiLayer)→(List TaiLayer)→Int→Int→Option β} {kE1 : Int→Option β} (hE0 : ∀ (q0 : (List TaiLayer)) (q14 : (List TaiLayer)) (q15 : Int) (q16 : Int) (v97 : V) (h98 : SlH h dTaiLayer q0 v97) (v99 : V) (h100 : SlH h dTaiLayer q14 v99) (H95 : Go.Ev.H) (_ : Fm 76 h [] [] [] H95),Sim (kE0 q0 q14 q15 q16) (K ((.exit 2),(envL [(0,v97),(14,v99),(15,(.p (.int .i64 q15))),(16,(.p (.int .i64 q16)))]),H95)) Q) (hE1 : ∀ (q2 : Int) (H101 : Go.Ev.H) (_ : Fm 76 h [] [] [] H101),Sim (kE1 q2) (K (.ret,(envL [(2,(.p (.int .i64 q2)))]),H101)) Q) (k : Nat) : ∀ (x0 : (List TaiLayer)) (x3 : Int) (x5 : Int) (x14 : (List TaiLayer)) (x15 : Int) (x16 : Int) (yg21 : TaiLayer) (v57 : V) (h58 : SlH h dTaiLayer x0 v57) (v59 : V) (h60 : SlH h dTaiLayer x14 v59) (s61 : Stamp) (H55 : Go.Ev.H) (_ : Fm 76 h [] [(4,s61,List.map C.v [(.p (.string yg21.Rid)),(.p (.int .u32 yg21.Ssrc)),(.p (.int .i64 yg21.Height))])] [] H55) {σ : Stamp},Sim (p_zr8_Layers_l1 k kE0 kE1 x0 x3 x5 x14 x15 x16 yg21) ((cvL G X0 zr8_Layers_c1 zr8_Layers_l1 σ (envL [(0,v57),(3,(.p (.int .i64 x3))),(4,(.ref ⟨h.length,4,0,s61,[]⟩ 0)),(5,(.p (.int .i64 x5))),(14,v59),(15,(.p (.int .i64 x15))),(16,(.p (.int .i64 x16)))]) H55).bind K) Q:=by
 induction k with
 | zero => intros; exact .no
 | succ k ih =>
  intro x0 x3 x5 x14 x15 x16 yg21 v57 h58 v59 h60 s61 H55 S56 σ
  rw [p_zr8_Layers_l1]
  refine .round (Sim.ext (zr8_Layers_r1 _ _ _ _ _ _ _ _ _ _ _) ?_)
  refine .cq ?_ ?_
  ·refine .bd fun a64 h65 => ?_
   refine .op ((S56.low h58).iS h65 rfl) ?_
   obtain ⟨w67,h68,hE66⟩:=(S56.low h58).el h65 rfl
   obtain rfl:=dTaiLayer.inv h68
   refine .op (hE66.fa (j:=1) (by simp)) ?_
   obtain ⟨w70,h71,hE69⟩:=(S56.low h58).el h65 rfl
   obtain rfl:=dTaiLayer.inv h71
   refine .op (hE69.ld (j:=1) rfl) ?_
   refine .ci ?_
   refine .fa ?_
   refine .op ((S56.atG (i:=0) rfl).ld (j:=1) rfl) ?_
   refine .ci ?_
   refine .ch (P:=fun r y => (.p (.bool r),H55) = y) ?_ (fun b90 y91 h92 h93 => ?_)
   ·refine .cq ?_ ?_
    ·exact .ret rfl rfl
    ·refine .bd fun a72 h73 => ?_
     refine .op ((S56.low h58).iS h73 rfl) ?_
     obtain ⟨w75,h76,hE74⟩:=(S56.low h58).el h73 rfl
     obtain rfl:=dTaiLayer.inv h76
     refine .op (hE74.fa (j:=0) (by simp)) ?_
     obtain ⟨w78,h79,hE77⟩:=(S56.low h58).el h73 rfl
     obtain rfl:=dTaiLayer.inv h79
     refine .op (hE77.ld (j:=0) rfl) ?_
     refine .op (castS_p _) ?_
     refine .fa ?_
     refine .op ((S56.atG (i:=0) rfl).ld (j:=0) rfl) ?_
     refine .op (castS_p _) ?_
     refine .call (zr1_Fold_ok a72.Rid) fun r80 cs81 H82 h83 q84 => ?_
     cases q84
     refine .op (castS_p _) ?_
     refine .nd ((S56.atG (i:=0) rfl).ld (j:=0) rfl) ?_
     refine .call (zr1_Fold_ok yg21.Rid) fun r85 cs86 H87 h88 q89 => ?_
     cases q89
     refine .op (castS_p _) ?_
     exact .ret rfl rfl
   subst h93
   refine .ab ?_
   refine .cq ?_ ?_
   ·exact hE1 26 H55 (S56.wk2 aN aN)
   exact ih x0 x3 (IntKind.wrap .i64 (x5 + 1)) x14 x15 x16 yg21 v57 h58 v59 h60 s61 H55 (S56.wk2 (aC (aM 0 rfl) aN) aN)
  exact hE0 x0 x14 x15 x16 v57 h58 v59 h60 H55 (S56.wk2 aN aN)
theorem zr8_Layers_l0_ok {h : H}  {kE0 : Unit→Option β} {kE1 : Int→Option β} (hE0 : ∀ (_u : Unit) (H113 : Go.Ev.H) (_ : Fm 76 h [] [] [] H113),Sim (kE0 ()) (K ((.exit 0),(envL []),H113)) Q) (hE1 : ∀ (q2 : Int) (H115 : Go.Ev.H) (_ : Fm 76 h [] [] [] H115),Sim (kE1 q2) (K (.ret,(envL [(2,(.p (.int .i64 q2)))]),H115)) Q) (k : Nat) : ∀ (x0 : (List TaiLayer)) (x14 : (List TaiLayer)) (x15 : Int) (x16 : Int) (v8 : V) (h9 : SlH h dTaiLayer x0 v8) (v10 : V) (h11 : SlH h dTaiLayer x14 v10) (H6 : Go.Ev.H) (_ : Fm 76 h [] [] [] H6) {σ : Stamp},Sim (p_zr8_Layers_l0 k kE0 kE1 x0 x14 x15 x16) ((cvL G X0 zr8_Layers_c0 zr8_Layers_l0 σ (envL [(0,v8),(14,v10),(15,(.p (.int .i64 x15))),(16,(.p (.int .i64 x16)))]) H6).bind K) Q:=by
 induction k with
 | zero => intros; exact .no
 | succ k ih =>
  intro x0 x14 x15 x16 v8 h9 v10 h11 H6 S7 σ
  rw [p_zr8_Layers_l0]
  refine .round (Sim.ext (zr8_Layers_r0 _ _ _ _ _ _ _ _) ?_)
  refine .cq ?_ ?_
  ·refine .bd fun a13 h14 => ?_
   refine .op ((S7.low h11).iS h14 rfl) ?_
   obtain ⟨w16,h17,hE15⟩:=(S7.low h11).el h14 rfl
   obtain rfl:=dTaiLayer.inv h17
   refine .op (hE15.all (by simp)) ?_
   obtain ⟨H18,e19,S20⟩:=S7.al (d:=4) (s:=(3::0::0::1::1::0::σ)) (z:=[(.p (.string ((⟨#[]⟩ : ByteArray)))),(.p (.int .u32 0)),(.p (.int .i64 0))]) (by decide) rfl
   refine .op (congrArg some e19) ?_
   obtain ⟨H22,e23,S24⟩:=S20.stGv (i:=0) (j:=0) (own:=false) (σ:=(5::0::0::1::1::0::σ)) (xs:=[.p (.string a13.Rid),.p (.int .u32 a13.Ssrc),.p (.int .i64 a13.Height)]) rfl rfl (sC (still_str _) (sC (sI _ _) (sC (sI _ _) sN))) rfl rfl
   refine .op (sM e23) ?_
   refine .fa ?_
   refine .op ((S24.atG (i:=0) rfl).ld (j:=0) rfl) ?_
   refine .op (castS_p _) ?_
   refine .call (zr1_Rid_ok a13.Rid) fun r25 cs26 H27 h28 q29 => ?_
   cases q29
   refine .ab ?_
   refine .ch (P:=fun r y => r = y) ?_ (fun b30 y31 h32 h33 => ?_)
   ·refine .cq ?_ ?_
    ·exact .ret rfl rfl
    ·refine .fa ?_
     refine .op ((S24.atG (i:=0) rfl).ld (j:=2) rfl) ?_
     refine .ci ?_
     exact .ret rfl rfl
   subst h33
   refine .ch (P:=fun r y => r = y) ?_ (fun b34 y35 h36 h37 => ?_)
   ·refine .cq ?_ ?_
    ·exact .ret rfl rfl
    ·refine .fa ?_
     refine .op ((S24.atG (i:=0) rfl).ld (j:=2) rfl) ?_
     refine .ci ?_
     exact .ret rfl rfl
   subst h37
   refine .ch (P:=fun r y => r = y) ?_ (fun b50 y51 h52 h53 => ?_)
   ·refine .cq ?_ ?_
    ·exact .ret rfl rfl
    ·refine .ch (P:=fun r y => r = y) ?_ (fun b46 y47 h48 h49 => ?_)
     ·refine .cq ?_ ?_
      ·refine .fa ?_
       refine .op ((S24.atG (i:=0) rfl).ld (j:=2) rfl) ?_
       refine .ci ?_
       refine .bd fun a38 h39 => ?_
       refine .op ((S24.low h9).iS h39 rfl) ?_
       obtain ⟨w41,h42,hE40⟩:=(S24.low h9).el h39 rfl
       obtain rfl:=dTaiLayer.inv h42
       refine .op (hE40.fa (j:=2) (by simp)) ?_
       obtain ⟨w44,h45,hE43⟩:=(S24.low h9).el h39 rfl
       obtain rfl:=dTaiLayer.inv h45
       refine .op (hE43.ld (j:=2) rfl) ?_
       refine .ci ?_
       exact .ret rfl rfl
      ·exact .ret rfl rfl
     subst h49
     exact .ret rfl rfl
   subst h53
   refine .cq ?_ ?_
   ·exact hE1 26 H22 (S24.wk2 aN aN)
   refine .as (zr8_Layers_l1_ok ?_ ?_ k x0 x16 0 x14 x15 x16 a13 v8 h9 v10 h11 (3::0::0::1::1::0::σ) H22 (S24.wk2 (aC (aM 0 rfl) aN) aN))
   ·intro r103_0 r103_14 r103_15 r103_16 v106 h107 v108 h109 H104 S105
    refine .ext (zr8_Layers_a1_2 _ _ _ _ _ _ _ _) ?_
    exact ih r103_0 r103_14 r103_15 (IntKind.wrap .i64 (r103_16 + 1)) v106 h107 v108 h109 H104 (S105.wk2 aN aN)
   ·intro r110_2 H111 S112
    refine .ext (zr8_Layers_a1_ret _ _ _ _ _) ?_
    exact hE1 r110_2 H111 (S112.wk2 aN aN)
  exact hE0 () H6 (S7.wk2 aN aN)
theorem zr8_Layers_ok (k : Nat) {h : H} {σ : Stamp} (x0 : List TaiLayer) {u0 : V} (hu0 : SlH h dTaiLayer x0 u0) : Sim (p_zr8_Layers k x0) (ev G X0 112 σ [u0] h) (fun r s => s = ([.v (.p (.int .i64 r))],h)):=by
 refine .ev rfl (Sim.ext (zr8_Layers_entry _ _ _ _ _) ?_)
 rw [p_zr8_Layers]
 have S0 : Fm 76 h [] [] [] (List.replicate 76 []::h):=Fm.start0
 refine .op ((S0.low hu0).len) ?_
 refine .ci ?_
 refine .ch (P:=fun r y => r = y) ?_ (fun b1 y2 h3 h4 => ?_)
 ·refine .cq ?_ ?_
  ·exact .ret rfl rfl
  ·refine .op ((S0.low hu0).len) ?_
   refine .ci ?_
   exact .ret rfl rfl
 subst h4
 refine .cq ?_ ?_
 ·exact .fin (S0.finN (lC (sI _ _).lv lN)) rfl
 refine .op ((S0.low hu0).len) ?_
 refine .ci ?_
 refine .as (zr8_Layers_l0_ok ?_ ?_ k x0 x0 ((x0.length : Int)) 0 u0 hu0 u0 hu0 (List.replicate 76 []::h) (S0.wk2 aN aN))
 ·intro _u H118 S119
  refine .ext (zr8_Layers_a0_0 _ _ _ _) ?_
  exact .fin (S119.finN (lC (sI _ _).lv lN)) rfl
 ·intro r120_2 H121 S122
  refine .ext (zr8_Layers_a0_ret _ _ _ _ _) ?_
  exact .fin (S122.finN (lC (sI _ _).lv lN)) rfl
end
end Go.Ev
namespace Go.Ev
open Go.Proofs
set_option linter.unusedVariables false
set_option linter.unusedSimpArgs false
set_option maxRecDepth 100000
noncomputable section
abbrev KT17:=Exit→Env→H→Option (List C × H)
variable (rec : CallF) (loop : LoopV) (σ : Stamp)
theorem zr8_has_entry (x0 : Int) (h : H) : cvBody G rec loop 110 σ [(.p (.int .i64 x0))] h =
(bSV Try.prog 81 11 [(0,(.p (.string ((⟨#[]⟩ : ByteArray))))),(1,(.p (.string ((⟨#[99]⟩ : ByteArray))))),(2,(.p (.string ((⟨#[]⟩ : ByteArray))))),(3,(.p (.string ((⟨#[108]⟩ : ByteArray))))),(4,(.p (.string ((⟨#[112,104,107]⟩ : ByteArray))))),(5,(.p (.string ((⟨#[112]⟩ : ByteArray))))),(6,(.p (.string ((⟨#[112,104]⟩ : ByteArray))))),(7,(.p (.string ((⟨#[112,107]⟩ : ByteArray))))),(8,(.p (.string ((⟨#[121]⟩ : ByteArray))))),(9,(.p (.string ((⟨#[121]⟩ : ByteArray))))),(10,(.p (.string ((⟨#[101]⟩ : ByteArray)))))]).bind fun t1 =>
(iS 1 t1 x0).bind fun t2 =>
(ldO false 1 (List.replicate 7 []::h) t2).bind fun t3 =>
(castS t3).bind fun s4 =>
fin false σ (List.replicate 7 []::h) [(.p (.string s4))]:=by kernel_rfl
end
end Go.Ev
namespace Go.Ev
open Go.Proofs
set_option linter.unusedVariables false
set_option linter.unusedSimpArgs false
set_option maxRecDepth 100000
section
variable {β α : Type} {Q : β→α→Prop} {K : Exit × Env × H→Option α}
def p_zr8_has (x0 : Int) : Option (ByteArray) :=
(ix ([((⟨#[]⟩ : ByteArray)),((⟨#[99]⟩ : ByteArray)),((⟨#[]⟩ : ByteArray)),((⟨#[108]⟩ : ByteArray)),((⟨#[112,104,107]⟩ : ByteArray)),((⟨#[112]⟩ : ByteArray)),((⟨#[112,104]⟩ : ByteArray)),((⟨#[112,107]⟩ : ByteArray)),((⟨#[121]⟩ : ByteArray)),((⟨#[121]⟩ : ByteArray)),((⟨#[101]⟩ : ByteArray))]) x0).bind fun a2 =>
some (a2)
theorem zr8_has_ok {h : H} {σ : Stamp} (x0 : Int) : Sim (p_zr8_has x0) (ev G X0 110 σ [(.p (.int .i64 x0))] h) (fun r s => s = ([.v (.p (.string r))],h)):=by
 refine .ev rfl (Sim.ext (zr8_has_entry _ _ _ _ _) ?_)
 rw [p_zr8_has]
 have S0 : Fm 7 h [] [] [] (List.replicate 7 []::h):=Fm.start0
 have h1 : SlF dS [((⟨#[]⟩ : ByteArray)),((⟨#[99]⟩ : ByteArray)),((⟨#[]⟩ : ByteArray)),((⟨#[108]⟩ : ByteArray)),((⟨#[112,104,107]⟩ : ByteArray)),((⟨#[112]⟩ : ByteArray)),((⟨#[112,104]⟩ : ByteArray)),((⟨#[112,107]⟩ : ByteArray)),((⟨#[121]⟩ : ByteArray)),((⟨#[121]⟩ : ByteArray)),((⟨#[101]⟩ : ByteArray))] (.fz [(.p (.string ((⟨#[]⟩ : ByteArray)))),(.p (.string ((⟨#[99]⟩ : ByteArray)))),(.p (.string ((⟨#[]⟩ : ByteArray)))),(.p (.string ((⟨#[108]⟩ : ByteArray)))),(.p (.string ((⟨#[112,104,107]⟩ : ByteArray)))),(.p (.string ((⟨#[112]⟩ : ByteArray)))),(.p (.string ((⟨#[112,104]⟩ : ByteArray)))),(.p (.string ((⟨#[112,107]⟩ : ByteArray)))),(.p (.string ((⟨#[121]⟩ : ByteArray)))),(.p (.string ((⟨#[121]⟩ : ByteArray)))),(.p (.string ((⟨#[101]⟩ : ByteArray))))] 11 1 true):=SlF.lit (cs:=[(.p (.string ((⟨#[]⟩ : ByteArray)))),(.p (.string ((⟨#[99]⟩ : ByteArray)))),(.p (.string ((⟨#[]⟩ : ByteArray)))),(.p (.string ((⟨#[108]⟩ : ByteArray)))),(.p (.string ((⟨#[112,104,107]⟩ : ByteArray)))),(.p (.string ((⟨#[112]⟩ : ByteArray)))),(.p (.string ((⟨#[112,104]⟩ : ByteArray)))),(.p (.string ((⟨#[112,107]⟩ : ByteArray)))),(.p (.string ((⟨#[121]⟩ : ByteArray)))),(.p (.string ((⟨#[121]⟩ : ByteArray)))),(.p (.string ((⟨#[101]⟩ : ByteArray))))]) (RL.cons (show dS.R ((⟨#[]⟩ : ByteArray)) [(.p (.string ((⟨#[]⟩ : ByteArray))))] from rfl) (RL.cons (show dS.R ((⟨#[99]⟩ : ByteArray)) [(.p (.string ((⟨#[99]⟩ : ByteArray))))] from rfl) (RL.cons (show dS.R ((⟨#[]⟩ : ByteArray)) [(.p (.string ((⟨#[]⟩ : ByteArray))))] from rfl) (RL.cons (show dS.R ((⟨#[108]⟩ : ByteArray)) [(.p (.string ((⟨#[108]⟩ : ByteArray))))] from rfl) (RL.cons (show dS.R ((⟨#[112,104,107]⟩ : ByteArray)) [(.p (.string ((⟨#[112,104,107]⟩ : ByteArray))))] from rfl) (RL.cons (show dS.R ((⟨#[112]⟩ : ByteArray)) [(.p (.string ((⟨#[112]⟩ : ByteArray))))] from rfl) (RL.cons (show dS.R ((⟨#[112,104]⟩ : ByteArray)) [(.p (.string ((⟨#[112,104]⟩ : ByteArray))))] from rfl) (RL.cons (show dS.R ((⟨#[112,107]⟩ : ByteArray)) [(.p (.string ((⟨#[112,107]⟩ : ByteArray))))] from rfl) (RL.cons (show dS.R ((⟨#[121]⟩ : ByteArray)) [(.p (.string ((⟨#[121]⟩ : ByteArray))))] from rfl) (RL.cons (show dS.R ((⟨#[121]⟩ : ByteArray)) [(.p (.string ((⟨#[121]⟩ : ByteArray))))] from rfl) (RL.cons (show dS.R ((⟨#[101]⟩ : ByteArray)) [(.p (.string ((⟨#[101]⟩ : ByteArray))))] from rfl) RL.nil))))))))))) rfl rfl true
 refine .op (bldS (pC rfl (pC rfl (pC rfl (pC rfl (pC rfl (pC rfl (pC rfl (pC rfl (pC rfl (pC rfl (pC rfl pN))))))))))) (by kernel_rfl : _ = some (vOf h1))) ?_
 refine .bd fun a2 h3 => ?_
 refine .op ((h1.h (List.replicate 7 []::h)).iS h3 rfl) ?_
 obtain ⟨_,rfl,hE4⟩:=(h1.h (List.replicate 7 []::h)).el h3 rfl
 refine .op (hE4.ld (j:=0) rfl) ?_
 refine .op (castS_p _) ?_
 exact .fin (S0.finN (lC (still_str _).lv lN)) rfl
end
end Go.Ev
namespace Go.Ev
open Go.Proofs
set_option linter.unusedVariables false
set_option linter.unusedSimpArgs false
set_option maxRecDepth 100000
noncomputable section
abbrev KT18:=Exit→Env→H→Option (List C × H)
variable (rec : CallF) (loop : LoopV) (σ : Stamp)
def zr8_in_c0 : Code:=(codeAt (bodyOf Try.f111) [1,0,1,0,0])
def zr8_in_l0 : Lv:=⟨0,16,[(0,0)]⟩
def zr8_in_k0 : KT18:=(kBlock 0 (kSeq G rec loop (codeAt (bodyOf Try.f111) [1,1]) ⟨16,16,[]⟩ (1::0::σ) (finC G false Try.f111 (1::σ))))
theorem zr8_in_entry (x0 : ByteArray) (x1 : Int) (h : H) : cvBody G rec loop 111 σ [(.p (.string x0)),(.p (.int .u8 x1))] h =
(loop zr8_in_c0 zr8_in_l0 (1::0::1::0::σ) (envL [(0,(.p (.string x0))),(1,(.p (.int .u8 x1))),(5,(.p (.int .i64 0)))]) (List.replicate 17 []::h)).bind fun r1 => zr8_in_k0 rec loop σ r1.1 r1.2.1 r1.2.2:=by kernel_rfl
theorem zr8_in_r0 (x0 : ByteArray) (x1 : Int) (x5 : Int) (h : H) : cvRound G rec loop zr8_in_c0 zr8_in_l0 σ (envL [(0,(.p (.string x0))),(1,(.p (.int .u8 x1))),(5,(.p (.int .i64 x5)))]) h =
bif decide (x5 < ((x0.size : Int))) then (
(iStr x0 x5).bind fun t2 =>
(castI .u8 t2).bind fun n3 =>
bif n3 == x1 then (
some (.ret,(envL [(4,(.p (.bool true)))]),h))
else (
loop zr8_in_c0 zr8_in_l0 (1::σ) (envL [(0,(.p (.string x0))),(1,(.p (.int .u8 x1))),(5,(.p (.int .i64 (IntKind.wrap .i64 (x5 + 1)))))]) h))
else (
some ((.exit 0),(envL []),h)):=by kernel_rfl
theorem zr8_in_a0_0  (h : H) : zr8_in_k0 rec loop σ (.exit 0) (envL []) h =
fin false σ h [(.p (.bool false))]:=by kernel_rfl
theorem zr8_in_a0_ret (x4 : Bool) (h : H) : zr8_in_k0 rec loop σ .ret (envL [(4,(.p (.bool x4)))]) h =
fin false σ h [(.p (.bool x4))]:=by kernel_rfl
end
end Go.Ev
namespace Go.Ev
open Go.Proofs
set_option linter.unusedVariables false
set_option linter.unusedSimpArgs false
set_option maxRecDepth 100000
section
variable {β α : Type} {Q : β→α→Prop} {K : Exit × Env × H→Option α}
def p_zr8_in_l0 {β : Type} (k : Nat) (kE0 : Unit→Option β) (kE1 : Bool→Option β) (x0 : ByteArray) (x1 : Int) (x5 : Int) : Option β:=match k with
| 0 => none
| k + 1 =>
bif decide (x5 < ((x0.size : Int))) then (
(ixS x0 x5).bind fun n4 =>
bif n4 == x1 then (
kE1 true)
else (
p_zr8_in_l0 k kE0 kE1 x0 x1 (IntKind.wrap .i64 (x5 + 1))))
else (
kE0 ())
def p_zr8_in (k : Nat) (x0 : ByteArray) (x1 : Int) : Option (Bool) :=
p_zr8_in_l0 k (fun (_ : Unit) =>
some (false)) (fun r14_4 =>
some (r14_4)) x0 x1 0
theorem zr8_in_l0_ok {h : H}  {kE0 : Unit→Option β} {kE1 : Bool→Option β} (hE0 : ∀ (_u : Unit) (H7 : Go.Ev.H) (_ : Fm 17 h [] [] [] H7),Sim (kE0 ()) (K ((.exit 0),(envL []),H7)) Q) (hE1 : ∀ (q4 : Bool) (H9 : Go.Ev.H) (_ : Fm 17 h [] [] [] H9),Sim (kE1 q4) (K (.ret,(envL [(4,(.p (.bool q4)))]),H9)) Q) (k : Nat) : ∀ (x0 : ByteArray) (x1 : Int) (x5 : Int) (H1 : Go.Ev.H) (_ : Fm 17 h [] [] [] H1) {σ : Stamp},Sim (p_zr8_in_l0 k kE0 kE1 x0 x1 x5) ((cvL G X0 zr8_in_c0 zr8_in_l0 σ (envL [(0,(.p (.string x0))),(1,(.p (.int .u8 x1))),(5,(.p (.int .i64 x5)))]) H1).bind K) Q:=by
 induction k with
 | zero => intros; exact .no
 | succ k ih =>
  intro x0 x1 x5 H1 S2 σ
  rw [p_zr8_in_l0]
  refine .round (Sim.ext (zr8_in_r0 _ _ _ _ _ _ _) ?_)
  refine .cq ?_ ?_
  ·refine .bd fun n4 h5 => ?_
   refine .op (ixS_ok h5) ?_
   refine .ci ?_
   refine .cq ?_ ?_
   ·exact hE1 true H1 (S2.wk2 aN aN)
   exact ih x0 x1 (IntKind.wrap .i64 (x5 + 1)) H1 (S2.wk2 aN aN)
  exact hE0 () H1 (S2.wk2 aN aN)
theorem zr8_in_ok (k : Nat) {h : H} {σ : Stamp} (x0 : ByteArray) (x1 : Int) : Sim (p_zr8_in k x0 x1) (ev G X0 111 σ [(.p (.string x0)),(.p (.int .u8 x1))] h) (fun r s => s = ([.v (.p (.bool r))],h)):=by
 refine .ev rfl (Sim.ext (zr8_in_entry _ _ _ _ _ _) ?_)
 rw [p_zr8_in]
 have S0 : Fm 17 h [] [] [] (List.replicate 17 []::h):=Fm.start0
 refine .as (zr8_in_l0_ok ?_ ?_ k x0 x1 0 (List.replicate 17 []::h) (S0.wk2 aN aN))
 ·intro _u H12 S13
  refine .ext (zr8_in_a0_0 _ _ _ _) ?_
  exact .fin (S13.finN (lC (sB _).lv lN)) rfl
 ·intro r14_4 H15 S16
  refine .ext (zr8_in_a0_ret _ _ _ _ _) ?_
  exact .fin (S16.finN (lC (sB _).lv lN)) rfl
def p_zr8_Right (k : Nat) (x0 : TaiCtl) : Option (Int) :=
(bif decide (x0.Kind < 1) then (some true) else (some (decide (x0.Kind > 10)))).bind fun b7 =>
bif b7 then (
some (12))
else (
(p_zr8_has x0.Kind).bind fun r12 =>
(p_zr8_in k r12 99).bind fun r17 =>
(bif !r17 then (some (x0.Cap != 0)) else (some false)).bind fun b22 =>
(bif b22 then (some true) else ((p_zr8_in k r12 108).bind fun r26 =>
(bif !r26 then (some (decide (((x0.Layers.length : Int)) > 0))) else (some false)).bind fun b31 =>
some b31)).bind fun b35 =>
(bif b35 then (some true) else ((p_zr8_in k r12 112).bind fun r39 =>
(bif !r39 then (some (x0.Peer != 0)) else (some false)).bind fun b44 =>
some b44)).bind fun b48 =>
(bif b48 then (some true) else ((p_zr8_in k r12 104).bind fun r52 =>
(bif !r52 then (some (x0.Height != 0)) else (some false)).bind fun b57 =>
some b57)).bind fun b61 =>
(bif b61 then (some true) else ((p_zr8_in k r12 107).bind fun r65 =>
(bif !r65 then (some (x0.Class != 0)) else (some false)).bind fun b70 =>
some b70)).bind fun b74 =>
(bif b74 then (some true) else ((p_zr8_in k r12 121).bind fun r78 =>
(bif !r78 then (some (x0.Layer != 0)) else (some false)).bind fun b83 =>
some b83)).bind fun b87 =>
(bif b87 then (some true) else ((p_zr8_in k r12 101).bind fun r91 =>
(bif !r91 then (some (x0.Code != 0)) else (some false)).bind fun b96 =>
some b96)).bind fun b100 =>
bif b100 then (
some (12))
else (
(p_zr8_in k r12 99).bind fun r105 =>
(bif r105 then ((bif decide (x0.Cap < 1) then (some true) else (some (decide (x0.Cap > 1099511627776)))).bind fun b110 =>
some b110) else (some false)).bind fun b114 =>
(bif b114 then (some true) else (some (decide (x0.Peer < 0)))).bind fun b118 =>
(bif b118 then (some true) else (some (decide (x0.Peer ≥ 6)))).bind fun b122 =>
(bif b122 then (some true) else ((p_zr8_in k r12 104).bind fun r126 =>
(bif r126 then ((bif decide (x0.Height < 1) then (some true) else (some (decide (x0.Height > 8192)))).bind fun b131 =>
some b131) else (some false)).bind fun b135 =>
some b135)).bind fun b139 =>
(bif b139 then (some true) else (some (decide (x0.Class < 0)))).bind fun b143 =>
(bif b143 then (some true) else (some (decide (x0.Class > 3)))).bind fun b147 =>
(bif b147 then (some true) else (some (decide (x0.Layer < 0)))).bind fun b151 =>
(bif b151 then (some true) else (some (decide (x0.Layer ≥ 3)))).bind fun b155 =>
(bif b155 then (some true) else (some (decide (x0.Code < 0)))).bind fun b159 =>
(bif b159 then (some true) else (some (decide (x0.Code > 255)))).bind fun b163 =>
bif b163 then (
some (1))
else (
(p_zr8_in k r12 108).bind fun r168 =>
bif r168 then (
(p_zr8_Layers k x0.Layers).bind fun r174 =>
some (r174))
else (
some (0)))))
theorem zr8_Right_ok (k : Nat) {h : H} {σ : Stamp} (x0 : TaiCtl) {u0 : List V} (hu0 : dTaiCtl.R x0 u0) : Sim (p_zr8_Right k x0) (ev G X0 77 σ [(.agg u0)] h) (fun r s => s = ([.v (.p (.int .i64 r))],h)):=by
 refine .ev rfl (Sim.ext (zr8_Right_entry _ _ _ _ _) ?_)
 rw [p_zr8_Right]
 obtain ⟨v1,rfl,h2⟩:=dTaiCtl.inv hu0
 have S0 : Fm 155 h [] [] [] (List.replicate 155 []::h):=Fm.start0
 obtain ⟨H3,e4,S5⟩:=S0.box (own:=false) (d:=1) (s:=(0::0::0::σ)) (xs:=[(.p (.int .i64 x0.Kind)),(.p (.int .i64 x0.Cap)),v1,(.p (.int .i64 x0.Peer)),(.p (.int .i64 x0.Height)),(.p (.int .i64 x0.Class)),(.p (.int .i64 x0.Layer)),(.p (.int .i64 x0.Code))]) (sC (sI _ _) (sC (sI _ _) (sC h2.still (sC (sI _ _) (sC (sI _ _) (sC (sI _ _) (sC (sI _ _) (sC (sI _ _) sN)))))))) (by decide) rfl
 refine .op (e4) ?_
 refine .fa ?_
 refine .op ((S5.atG (i:=0) rfl).ld (j:=0) rfl) ?_
 refine .ci ?_
 refine .ch (P:=fun r y => r = y) ?_ (fun b7 y8 h9 h10 => ?_)
 ·refine .cq ?_ ?_
  ·exact .ret rfl rfl
  ·refine .fa ?_
   refine .op ((S5.atG (i:=0) rfl).ld (j:=0) rfl) ?_
   refine .ci ?_
   exact .ret rfl rfl
 subst h10
 refine .cq ?_ ?_
 ·exact .fin (S5.finN (lC (sI _ _).lv lN)) rfl
 refine .fa ?_
 refine .op ((S5.atG (i:=0) rfl).ld (j:=0) rfl) ?_
 refine .ci ?_
 refine .call (zr8_has_ok x0.Kind) fun r12 cs13 H14 h15 q16 => ?_
 cases q16
 refine .op (castS_p _) ?_
 refine .call (zr8_in_ok k r12 99) fun r17 cs18 H19 h20 q21 => ?_
 cases q21
 refine .ab ?_
 refine .ch (P:=fun r y => r = y) ?_ (fun b22 y23 h24 h25 => ?_)
 ·refine .cq ?_ ?_
  ·refine .fa ?_
   refine .op ((S5.atG (i:=0) rfl).ld (j:=1) rfl) ?_
   refine .ci ?_
   exact .ret rfl rfl
  ·exact .ret rfl rfl
 subst h25
 refine .ch (P:=fun r y => (.p (.bool r),H3) = y) ?_ (fun b35 y36 h37 h38 => ?_)
 ·refine .cq ?_ ?_
  ·exact .ret rfl rfl
  ·refine .call (zr8_in_ok k r12 108) fun r26 cs27 H28 h29 q30 => ?_
   cases q30
   refine .ab ?_
   refine .ch (P:=fun r y => r = y) ?_ (fun b31 y32 h33 h34 => ?_)
   ·refine .cq ?_ ?_
    ·refine .fa ?_
     refine .op ((S5.atG (i:=0) rfl).ld (j:=2) rfl) ?_
     refine .op ((h2.h H3).len) ?_
     refine .ci ?_
     exact .ret rfl rfl
    ·exact .ret rfl rfl
   subst h34
   exact .ret rfl rfl
 subst h38
 refine .ab ?_
 refine .ch (P:=fun r y => (.p (.bool r),H3) = y) ?_ (fun b48 y49 h50 h51 => ?_)
 ·refine .cq ?_ ?_
  ·exact .ret rfl rfl
  ·refine .call (zr8_in_ok k r12 112) fun r39 cs40 H41 h42 q43 => ?_
   cases q43
   refine .ab ?_
   refine .ch (P:=fun r y => r = y) ?_ (fun b44 y45 h46 h47 => ?_)
   ·refine .cq ?_ ?_
    ·refine .fa ?_
     refine .op ((S5.atG (i:=0) rfl).ld (j:=3) rfl) ?_
     refine .ci ?_
     exact .ret rfl rfl
    ·exact .ret rfl rfl
   subst h47
   exact .ret rfl rfl
 subst h51
 refine .ab ?_
 refine .ch (P:=fun r y => (.p (.bool r),H3) = y) ?_ (fun b61 y62 h63 h64 => ?_)
 ·refine .cq ?_ ?_
  ·exact .ret rfl rfl
  ·refine .call (zr8_in_ok k r12 104) fun r52 cs53 H54 h55 q56 => ?_
   cases q56
   refine .ab ?_
   refine .ch (P:=fun r y => r = y) ?_ (fun b57 y58 h59 h60 => ?_)
   ·refine .cq ?_ ?_
    ·refine .fa ?_
     refine .op ((S5.atG (i:=0) rfl).ld (j:=4) rfl) ?_
     refine .ci ?_
     exact .ret rfl rfl
    ·exact .ret rfl rfl
   subst h60
   exact .ret rfl rfl
 subst h64
 refine .ab ?_
 refine .ch (P:=fun r y => (.p (.bool r),H3) = y) ?_ (fun b74 y75 h76 h77 => ?_)
 ·refine .cq ?_ ?_
  ·exact .ret rfl rfl
  ·refine .call (zr8_in_ok k r12 107) fun r65 cs66 H67 h68 q69 => ?_
   cases q69
   refine .ab ?_
   refine .ch (P:=fun r y => r = y) ?_ (fun b70 y71 h72 h73 => ?_)
   ·refine .cq ?_ ?_
    ·refine .fa ?_
     refine .op ((S5.atG (i:=0) rfl).ld (j:=5) rfl) ?_
     refine .ci ?_
     exact .ret rfl rfl
    ·exact .ret rfl rfl
   subst h73
   exact .ret rfl rfl
 subst h77
 refine .ab ?_
 refine .ch (P:=fun r y => (.p (.bool r),H3) = y) ?_ (fun b87 y88 h89 h90 => ?_)
 ·refine .cq ?_ ?_
  ·exact .ret rfl rfl
  ·refine .call (zr8_in_ok k r12 121) fun r78 cs79 H80 h81 q82 => ?_
   cases q82
   refine .ab ?_
   refine .ch (P:=fun r y => r = y) ?_ (fun b83 y84 h85 h86 => ?_)
   ·refine .cq ?_ ?_
    ·refine .fa ?_
     refine .op ((S5.atG (i:=0) rfl).ld (j:=6) rfl) ?_
     refine .ci ?_
     exact .ret rfl rfl
    ·exact .ret rfl rfl
   subst h86
   exact .ret rfl rfl
 subst h90
 refine .ab ?_
 refine .ch (P:=fun r y => (.p (.bool r),H3) = y) ?_ (fun b100 y101 h102 h103 => ?_)
 ·refine .cq ?_ ?_
  ·exact .ret rfl rfl
  ·refine .call (zr8_in_ok k r12 101) fun r91 cs92 H93 h94 q95 => ?_
   cases q95
   refine .ab ?_
   refine .ch (P:=fun r y => r = y) ?_ (fun b96 y97 h98 h99 => ?_)
   ·refine .cq ?_ ?_
    ·refine .fa ?_
     refine .op ((S5.atG (i:=0) rfl).ld (j:=7) rfl) ?_
     refine .ci ?_
     exact .ret rfl rfl
    ·exact .ret rfl rfl
   subst h99
   exact .ret rfl rfl
 subst h103
 refine .ab ?_
 refine .cq ?_ ?_
 ·exact .fin (S5.finN (lC (sI _ _).lv lN)) rfl
 refine .call (zr8_in_ok k r12 99) fun r105 cs106 H107 h108 q109 => ?_
 cases q109
 refine .ab ?_
 refine .ch (P:=fun r y => r = y) ?_ (fun b114 y115 h116 h117 => ?_)
 ·refine .cq ?_ ?_
  ·refine .fa ?_
   refine .op ((S5.atG (i:=0) rfl).ld (j:=1) rfl) ?_
   refine .ci ?_
   refine .ch (P:=fun r y => r = y) ?_ (fun b110 y111 h112 h113 => ?_)
   ·refine .cq ?_ ?_
    ·exact .ret rfl rfl
    ·refine .fa ?_
     refine .op ((S5.atG (i:=0) rfl).ld (j:=1) rfl) ?_
     refine .ci ?_
     exact .ret rfl rfl
   subst h113
   exact .ret rfl rfl
  ·exact .ret rfl rfl
 subst h117
 refine .ch (P:=fun r y => r = y) ?_ (fun b118 y119 h120 h121 => ?_)
 ·refine .cq ?_ ?_
  ·exact .ret rfl rfl
  ·refine .fa ?_
   refine .op ((S5.atG (i:=0) rfl).ld (j:=3) rfl) ?_
   refine .ci ?_
   exact .ret rfl rfl
 subst h121
 refine .ch (P:=fun r y => r = y) ?_ (fun b122 y123 h124 h125 => ?_)
 ·refine .cq ?_ ?_
  ·exact .ret rfl rfl
  ·refine .fa ?_
   refine .op ((S5.atG (i:=0) rfl).ld (j:=3) rfl) ?_
   refine .ci ?_
   exact .ret rfl rfl
 subst h125
 refine .ch (P:=fun r y => (.p (.bool r),H3) = y) ?_ (fun b139 y140 h141 h142 => ?_)
 ·refine .cq ?_ ?_
  ·exact .ret rfl rfl
  ·refine .call (zr8_in_ok k r12 104) fun r126 cs127 H128 h129 q130 => ?_
   cases q130
   refine .ab ?_
   refine .ch (P:=fun r y => r = y) ?_ (fun b135 y136 h137 h138 => ?_)
   ·refine .cq ?_ ?_
    ·refine .fa ?_
     refine .op ((S5.atG (i:=0) rfl).ld (j:=4) rfl) ?_
     refine .ci ?_
     refine .ch (P:=fun r y => r = y) ?_ (fun b131 y132 h133 h134 => ?_)
     ·refine .cq ?_ ?_
      ·exact .ret rfl rfl
      ·refine .fa ?_
       refine .op ((S5.atG (i:=0) rfl).ld (j:=4) rfl) ?_
       refine .ci ?_
       exact .ret rfl rfl
     subst h134
     exact .ret rfl rfl
    ·exact .ret rfl rfl
   subst h138
   exact .ret rfl rfl
 subst h142
 refine .ab ?_
 refine .ch (P:=fun r y => r = y) ?_ (fun b143 y144 h145 h146 => ?_)
 ·refine .cq ?_ ?_
  ·exact .ret rfl rfl
  ·refine .fa ?_
   refine .op ((S5.atG (i:=0) rfl).ld (j:=5) rfl) ?_
   refine .ci ?_
   exact .ret rfl rfl
 subst h146
 refine .ch (P:=fun r y => r = y) ?_ (fun b147 y148 h149 h150 => ?_)
 ·refine .cq ?_ ?_
  ·exact .ret rfl rfl
  ·refine .fa ?_
   refine .op ((S5.atG (i:=0) rfl).ld (j:=5) rfl) ?_
   refine .ci ?_
   exact .ret rfl rfl
 subst h150
 refine .ch (P:=fun r y => r = y) ?_ (fun b151 y152 h153 h154 => ?_)
 ·refine .cq ?_ ?_
  ·exact .ret rfl rfl
  ·refine .fa ?_
   refine .op ((S5.atG (i:=0) rfl).ld (j:=6) rfl) ?_
   refine .ci ?_
   exact .ret rfl rfl
 subst h154
 refine .ch (P:=fun r y => r = y) ?_ (fun b155 y156 h157 h158 => ?_)
 ·refine .cq ?_ ?_
  ·exact .ret rfl rfl
  ·refine .fa ?_
   refine .op ((S5.atG (i:=0) rfl).ld (j:=6) rfl) ?_
   refine .ci ?_
   exact .ret rfl rfl
 subst h158
 refine .ch (P:=fun r y => r = y) ?_ (fun b159 y160 h161 h162 => ?_)
 ·refine .cq ?_ ?_
  ·exact .ret rfl rfl
  ·refine .fa ?_
   refine .op ((S5.atG (i:=0) rfl).ld (j:=7) rfl) ?_
   refine .ci ?_
   exact .ret rfl rfl
 subst h162
 refine .ch (P:=fun r y => r = y) ?_ (fun b163 y164 h165 h166 => ?_)
 ·refine .cq ?_ ?_
  ·exact .ret rfl rfl
  ·refine .fa ?_
   refine .op ((S5.atG (i:=0) rfl).ld (j:=7) rfl) ?_
   refine .ci ?_
   exact .ret rfl rfl
 subst h166
 refine .cq ?_ ?_
 ·exact .fin (S5.finN (lC (sI _ _).lv lN)) rfl
 refine .call (zr8_in_ok k r12 108) fun r168 cs169 H170 h171 q172 => ?_
 cases q172
 refine .ab ?_
 refine .cq ?_ ?_
 ·refine .fa ?_
  refine .op ((S5.atG (i:=0) rfl).ld (j:=2) rfl) ?_
  refine .call (zr8_Layers_ok k x0.Layers (h2.h H3)) fun r174 cs175 H176 h177 q178 => ?_
  cases q178
  refine .ci ?_
  exact .fin (S5.finN (lC (sI _ _).lv lN)) rfl
 exact .fin (S5.finN (lC (sI _ _).lv lN)) rfl
end
end Go.Ev
namespace Go.Ev
open Go.Proofs
set_option linter.unusedVariables false
set_option linter.unusedSimpArgs false
set_option maxRecDepth 100000
noncomputable section
abbrev KT19:=Exit→Env→H→Option (List C × H)
variable (rec : CallF) (loop : LoopV) (σ : Stamp)
def zr8_write_c0 : Code:=(codeAt (bodyOf Try.f78) [1,1,1,1,0,1,0,0])
def zr8_write_l0 : Lv:=⟨26,4,[(0,26)]⟩
def zr8_write_k0 : KT19:=(kBlock 0 (kSeq G rec loop (codeAt (bodyOf Try.f78) [1,1,1,1,1]) ⟨4,4,[]⟩ (1::1::1::1::0::σ) (finC G false Try.f78 (1::σ))))
theorem zr8_write_entry (x0 : V) (h : H) : cvBody G rec loop 78 σ [x0] h =
(boxO false (0::0::0::σ) 1 (List.replicate 91 []::h) x0).bind fun q1 =>
(fA q1.1 0).bind fun t2 =>
(ldO false 1 q1.2 t2).bind fun t3 =>
(castI .i64 t3).bind fun n4 =>
(callO rec 110 (2::0::1::1::0::σ) [(.p (.int .i64 n4))] q1.2 (some 10)).bind fun q5 =>
(castS q5.1).bind fun s6 =>
(callO rec 111 (1::0::0::1::1::1::0::σ) [(.p (.string s6)),(.p (.int .u8 99))] q5.2 (some 12)).bind fun q7 =>
(asB q7.1).bind fun b8 =>
bif b8 then (
(fA q1.1 1).bind fun t9 =>
(ldO false 1 q7.2 t9).bind fun t10 =>
(castI .i64 t10).bind fun n11 =>
(callO rec 114 (4::1::0::1::1::1::0::σ) [(.p (.slice .none 0 0)),(.p (.int .u64 (IntKind.wrap .u64 n11))),(.p (.int .i64 8))] q7.2 (some 17)).bind fun q12 =>
(callO rec 113 (5::1::0::1::1::1::0::σ) [(.p (.slice .none 0 0)),(.p (.int .u8 1)),q12.1] q12.2 (some 18)).bind fun q13 =>
(fA q1.1 2).bind fun t14 =>
(ldO false 1 q13.2 t14).bind fun t15 =>
(lenO t15).bind fun t16 =>
(castI .i64 t16).bind fun n17 =>
(loop zr8_write_c0 zr8_write_l0 (1::0::1::1::1::1::0::σ) (envL [(1,q1.1),(3,q13.1),(4,(.p (.string s6))),(20,t15),(21,(.p (.int .i64 n17))),(22,(.p (.int .i64 0)))]) q13.2).bind fun r18 => zr8_write_k0 rec loop σ r18.1 r18.2.1 r18.2.2)
else (
(fA q1.1 2).bind fun t19 =>
(ldO false 1 q7.2 t19).bind fun t20 =>
(lenO t20).bind fun t21 =>
(castI .i64 t21).bind fun n22 =>
(loop zr8_write_c0 zr8_write_l0 (1::0::1::1::1::1::0::σ) (envL [(1,q1.1),(3,(.p (.slice .none 0 0))),(4,(.p (.string s6))),(20,t20),(21,(.p (.int .i64 n22))),(22,(.p (.int .i64 0)))]) q7.2).bind fun r23 => zr8_write_k0 rec loop σ r23.1 r23.2.1 r23.2.2):=by kernel_rfl
theorem zr8_write_r0 (x1 : V) (x3 : V) (x4 : ByteArray) (x20 : V) (x21 : Int) (x22 : Int) (h : H) : cvRound G rec loop zr8_write_c0 zr8_write_l0 σ (envL [(1,x1),(3,x3),(4,(.p (.string x4))),(20,x20),(21,(.p (.int .i64 x21))),(22,(.p (.int .i64 x22)))]) h =
bif decide (x22 < x21) then (
(iS 3 x20 x22).bind fun t24 =>
(ldO true 3 h t24).bind fun t25 =>
(some (alO [.p (.string (⟨#[]⟩ : ByteArray)),.p (.int .u32 0),.p (.int .i64 0)] (2::0::0::1::1::0::σ) 6 h)).bind fun q26 =>
((stO false 3 (3::0::0::1::1::0::σ) q26.2 q26.1 t25).map fun h => (udf,h)).bind fun q27 =>
(fA q26.1 1).bind fun t28 =>
(ldO false 1 q27.2 t28).bind fun t29 =>
(castI .u32 t29).bind fun n30 =>
(fA q26.1 2).bind fun t31 =>
(ldO false 1 q27.2 t31).bind fun t32 =>
(castI .i64 t32).bind fun n33 =>
(callO rec 114 (3::0::1::0::1::1::0::σ) [(.p (.slice .none 0 0)),(.p (.int .u64 (IntKind.wrap .u64 n30))),(.p (.int .i64 4))] q27.2 (some 29)).bind fun q34 =>
need ((some (.p (.int .u64 (IntKind.wrap .u64 n33))) : Option V) = some (.p (.int .u64 (IntKind.wrap .u64 n33)))) (
need (ldO false 1 q34.2 t31 = some (.p (.int .i64 n33))) (
(callO rec 114 (7::0::1::0::1::1::0::σ) [q34.1,(.p (.int .u64 (IntKind.wrap .u64 n33))),(.p (.int .i64 2))] q34.2 (some 33)).bind fun q35 =>
(fA q26.1 0).bind fun t36 =>
(ldO false 1 q35.2 t36).bind fun t37 =>
(castS t37).bind fun s38 =>
(apO true 1 1 (4::1::1::0::1::1::0::σ) 38 q35.2 q35.1 (.p (.string s38))).bind fun q39 =>
(callO rec 113 (5::1::1::0::1::1::0::σ) [x3,(.p (.int .u8 2)),q39.1] q39.2 (some 39)).bind fun q40 =>
loop zr8_write_c0 zr8_write_l0 (1::σ) (envL [(1,x1),(3,q40.1),(4,(.p (.string x4))),(20,x20),(21,(.p (.int .i64 x21))),(22,(.p (.int .i64 (IntKind.wrap .i64 (x22 + 1)))))]) q40.2)))
else (
some ((.exit 0),(envL [(1,x1),(3,x3),(4,(.p (.string x4)))]),h)):=by kernel_rfl
theorem zr8_write_a0_0 (x1 : V) (x3 : V) (x4 : ByteArray) (h : H) : zr8_write_k0 rec loop σ (.exit 0) (envL [(1,x1),(3,x3),(4,(.p (.string x4)))]) h =
(callO rec 111 (1::0::0::1::1::1::1::1::0::σ) [(.p (.string x4)),(.p (.int .u8 112))] h (some 42)).bind fun q41 =>
(asB q41.1).bind fun b42 =>
bif b42 then (
(fA x1 3).bind fun t43 =>
(ldO false 1 q41.2 t43).bind fun t44 =>
(castI .i64 t44).bind fun n45 =>
(bSV Try.prog 32 1 [(0,(.p (.int .u8 (IntKind.wrap .u8 n45))))]).bind fun t46 =>
(callO rec 113 (5::1::0::1::1::1::1::1::0::σ) [x3,(.p (.int .u8 3)),t46] q41.2 (some 48)).bind fun q47 =>
(callO rec 111 (1::0::0::1::1::1::1::1::1::0::σ) [(.p (.string x4)),(.p (.int .u8 104))] q47.2 (some 50)).bind fun q48 =>
(asB q48.1).bind fun b49 =>
bif b49 then (
(fA x1 4).bind fun t50 =>
(ldO false 1 q48.2 t50).bind fun t51 =>
(castI .i64 t51).bind fun n52 =>
(callO rec 114 (4::1::0::1::1::1::1::1::1::0::σ) [(.p (.slice .none 0 0)),(.p (.int .u64 (IntKind.wrap .u64 n52))),(.p (.int .i64 2))] q48.2 (some 55)).bind fun q53 =>
(callO rec 113 (5::1::0::1::1::1::1::1::1::0::σ) [q47.1,(.p (.int .u8 4)),q53.1] q53.2 (some 56)).bind fun q54 =>
(callO rec 111 (1::0::0::1::1::1::1::1::1::1::0::σ) [(.p (.string x4)),(.p (.int .u8 107))] q54.2 (some 58)).bind fun q55 =>
(asB q55.1).bind fun b56 =>
bif b56 then (
(fA x1 5).bind fun t57 =>
(ldO false 1 q55.2 t57).bind fun t58 =>
(castI .i64 t58).bind fun n59 =>
(bSV Try.prog 32 1 [(0,(.p (.int .u8 (IntKind.wrap .u8 n59))))]).bind fun t60 =>
(callO rec 113 (5::1::0::1::1::1::1::1::1::1::0::σ) [q54.1,(.p (.int .u8 5)),t60] q55.2 (some 64)).bind fun q61 =>
(callO rec 111 (1::0::0::1::1::1::1::1::1::1::1::0::σ) [(.p (.string x4)),(.p (.int .u8 121))] q61.2 (some 66)).bind fun q62 =>
(asB q62.1).bind fun b63 =>
bif b63 then (
(fA x1 6).bind fun t64 =>
(ldO false 1 q62.2 t64).bind fun t65 =>
(castI .i64 t65).bind fun n66 =>
(bSV Try.prog 32 1 [(0,(.p (.int .u8 (IntKind.wrap .u8 n66))))]).bind fun t67 =>
(callO rec 113 (5::1::0::1::1::1::1::1::1::1::1::0::σ) [q61.1,(.p (.int .u8 6)),t67] q62.2 (some 72)).bind fun q68 =>
(callO rec 111 (1::0::0::1::1::1::1::1::1::1::1::1::0::σ) [(.p (.string x4)),(.p (.int .u8 101))] q68.2 (some 74)).bind fun q69 =>
(asB q69.1).bind fun b70 =>
bif b70 then (
(fA x1 7).bind fun t71 =>
(ldO false 1 q69.2 t71).bind fun t72 =>
(castI .i64 t72).bind fun n73 =>
(bSV Try.prog 32 1 [(0,(.p (.int .u8 (IntKind.wrap .u8 n73))))]).bind fun t74 =>
(callO rec 113 (5::1::0::1::1::1::1::1::1::1::1::1::0::σ) [q68.1,(.p (.int .u8 7)),t74] q69.2 (some 80)).bind fun q75 =>
(fA x1 0).bind fun t76 =>
(ldO false 1 q75.2 t76).bind fun t77 =>
(castI .i64 t77).bind fun n78 =>
(bSV Try.prog 32 1 [(0,(.p (.int .u8 (IntKind.wrap .u8 n78))))]).bind fun t79 =>
(lenO q75.1).bind fun t80 =>
(castI .i64 t80).bind fun n81 =>
(callO rec 114 (7::0::1::1::1::1::1::1::1::1::1::1::0::σ) [t79,(.p (.int .u64 (IntKind.wrap .u64 n81))),(.p (.int .i64 2))] q75.2 (some 88)).bind fun q82 =>
(apO true 1 1 (9::0::1::1::1::1::1::1::1::1::1::1::0::σ) 90 q82.2 q82.1 q75.1).bind fun q83 =>
fin false σ q83.2 [q83.1])
else (
(fA x1 0).bind fun t84 =>
(ldO false 1 q69.2 t84).bind fun t85 =>
(castI .i64 t85).bind fun n86 =>
(bSV Try.prog 32 1 [(0,(.p (.int .u8 (IntKind.wrap .u8 n86))))]).bind fun t87 =>
(lenO q68.1).bind fun t88 =>
(castI .i64 t88).bind fun n89 =>
(callO rec 114 (7::0::1::1::1::1::1::1::1::1::1::1::0::σ) [t87,(.p (.int .u64 (IntKind.wrap .u64 n89))),(.p (.int .i64 2))] q69.2 (some 88)).bind fun q90 =>
(apO true 1 1 (9::0::1::1::1::1::1::1::1::1::1::1::0::σ) 90 q90.2 q90.1 q68.1).bind fun q91 =>
fin false σ q91.2 [q91.1]))
else (
(callO rec 111 (1::0::0::1::1::1::1::1::1::1::1::1::0::σ) [(.p (.string x4)),(.p (.int .u8 101))] q62.2 (some 74)).bind fun q92 =>
(asB q92.1).bind fun b93 =>
bif b93 then (
(fA x1 7).bind fun t94 =>
(ldO false 1 q92.2 t94).bind fun t95 =>
(castI .i64 t95).bind fun n96 =>
(bSV Try.prog 32 1 [(0,(.p (.int .u8 (IntKind.wrap .u8 n96))))]).bind fun t97 =>
(callO rec 113 (5::1::0::1::1::1::1::1::1::1::1::1::0::σ) [q61.1,(.p (.int .u8 7)),t97] q92.2 (some 80)).bind fun q98 =>
(fA x1 0).bind fun t99 =>
(ldO false 1 q98.2 t99).bind fun t100 =>
(castI .i64 t100).bind fun n101 =>
(bSV Try.prog 32 1 [(0,(.p (.int .u8 (IntKind.wrap .u8 n101))))]).bind fun t102 =>
(lenO q98.1).bind fun t103 =>
(castI .i64 t103).bind fun n104 =>
(callO rec 114 (7::0::1::1::1::1::1::1::1::1::1::1::0::σ) [t102,(.p (.int .u64 (IntKind.wrap .u64 n104))),(.p (.int .i64 2))] q98.2 (some 88)).bind fun q105 =>
(apO true 1 1 (9::0::1::1::1::1::1::1::1::1::1::1::0::σ) 90 q105.2 q105.1 q98.1).bind fun q106 =>
fin false σ q106.2 [q106.1])
else (
(fA x1 0).bind fun t107 =>
(ldO false 1 q92.2 t107).bind fun t108 =>
(castI .i64 t108).bind fun n109 =>
(bSV Try.prog 32 1 [(0,(.p (.int .u8 (IntKind.wrap .u8 n109))))]).bind fun t110 =>
(lenO q61.1).bind fun t111 =>
(castI .i64 t111).bind fun n112 =>
(callO rec 114 (7::0::1::1::1::1::1::1::1::1::1::1::0::σ) [t110,(.p (.int .u64 (IntKind.wrap .u64 n112))),(.p (.int .i64 2))] q92.2 (some 88)).bind fun q113 =>
(apO true 1 1 (9::0::1::1::1::1::1::1::1::1::1::1::0::σ) 90 q113.2 q113.1 q61.1).bind fun q114 =>
fin false σ q114.2 [q114.1])))
else (
(callO rec 111 (1::0::0::1::1::1::1::1::1::1::1::0::σ) [(.p (.string x4)),(.p (.int .u8 121))] q55.2 (some 66)).bind fun q115 =>
(asB q115.1).bind fun b116 =>
bif b116 then (
(fA x1 6).bind fun t117 =>
(ldO false 1 q115.2 t117).bind fun t118 =>
(castI .i64 t118).bind fun n119 =>
(bSV Try.prog 32 1 [(0,(.p (.int .u8 (IntKind.wrap .u8 n119))))]).bind fun t120 =>
(callO rec 113 (5::1::0::1::1::1::1::1::1::1::1::0::σ) [q54.1,(.p (.int .u8 6)),t120] q115.2 (some 72)).bind fun q121 =>
(callO rec 111 (1::0::0::1::1::1::1::1::1::1::1::1::0::σ) [(.p (.string x4)),(.p (.int .u8 101))] q121.2 (some 74)).bind fun q122 =>
(asB q122.1).bind fun b123 =>
bif b123 then (
(fA x1 7).bind fun t124 =>
(ldO false 1 q122.2 t124).bind fun t125 =>
(castI .i64 t125).bind fun n126 =>
(bSV Try.prog 32 1 [(0,(.p (.int .u8 (IntKind.wrap .u8 n126))))]).bind fun t127 =>
(callO rec 113 (5::1::0::1::1::1::1::1::1::1::1::1::0::σ) [q121.1,(.p (.int .u8 7)),t127] q122.2 (some 80)).bind fun q128 =>
(fA x1 0).bind fun t129 =>
(ldO false 1 q128.2 t129).bind fun t130 =>
(castI .i64 t130).bind fun n131 =>
(bSV Try.prog 32 1 [(0,(.p (.int .u8 (IntKind.wrap .u8 n131))))]).bind fun t132 =>
(lenO q128.1).bind fun t133 =>
(castI .i64 t133).bind fun n134 =>
(callO rec 114 (7::0::1::1::1::1::1::1::1::1::1::1::0::σ) [t132,(.p (.int .u64 (IntKind.wrap .u64 n134))),(.p (.int .i64 2))] q128.2 (some 88)).bind fun q135 =>
(apO true 1 1 (9::0::1::1::1::1::1::1::1::1::1::1::0::σ) 90 q135.2 q135.1 q128.1).bind fun q136 =>
fin false σ q136.2 [q136.1])
else (
(fA x1 0).bind fun t137 =>
(ldO false 1 q122.2 t137).bind fun t138 =>
(castI .i64 t138).bind fun n139 =>
(bSV Try.prog 32 1 [(0,(.p (.int .u8 (IntKind.wrap .u8 n139))))]).bind fun t140 =>
(lenO q121.1).bind fun t141 =>
(castI .i64 t141).bind fun n142 =>
(callO rec 114 (7::0::1::1::1::1::1::1::1::1::1::1::0::σ) [t140,(.p (.int .u64 (IntKind.wrap .u64 n142))),(.p (.int .i64 2))] q122.2 (some 88)).bind fun q143 =>
(apO true 1 1 (9::0::1::1::1::1::1::1::1::1::1::1::0::σ) 90 q143.2 q143.1 q121.1).bind fun q144 =>
fin false σ q144.2 [q144.1]))
else (
(callO rec 111 (1::0::0::1::1::1::1::1::1::1::1::1::0::σ) [(.p (.string x4)),(.p (.int .u8 101))] q115.2 (some 74)).bind fun q145 =>
(asB q145.1).bind fun b146 =>
bif b146 then (
(fA x1 7).bind fun t147 =>
(ldO false 1 q145.2 t147).bind fun t148 =>
(castI .i64 t148).bind fun n149 =>
(bSV Try.prog 32 1 [(0,(.p (.int .u8 (IntKind.wrap .u8 n149))))]).bind fun t150 =>
(callO rec 113 (5::1::0::1::1::1::1::1::1::1::1::1::0::σ) [q54.1,(.p (.int .u8 7)),t150] q145.2 (some 80)).bind fun q151 =>
(fA x1 0).bind fun t152 =>
(ldO false 1 q151.2 t152).bind fun t153 =>
(castI .i64 t153).bind fun n154 =>
(bSV Try.prog 32 1 [(0,(.p (.int .u8 (IntKind.wrap .u8 n154))))]).bind fun t155 =>
(lenO q151.1).bind fun t156 =>
(castI .i64 t156).bind fun n157 =>
(callO rec 114 (7::0::1::1::1::1::1::1::1::1::1::1::0::σ) [t155,(.p (.int .u64 (IntKind.wrap .u64 n157))),(.p (.int .i64 2))] q151.2 (some 88)).bind fun q158 =>
(apO true 1 1 (9::0::1::1::1::1::1::1::1::1::1::1::0::σ) 90 q158.2 q158.1 q151.1).bind fun q159 =>
fin false σ q159.2 [q159.1])
else (
(fA x1 0).bind fun t160 =>
(ldO false 1 q145.2 t160).bind fun t161 =>
(castI .i64 t161).bind fun n162 =>
(bSV Try.prog 32 1 [(0,(.p (.int .u8 (IntKind.wrap .u8 n162))))]).bind fun t163 =>
(lenO q54.1).bind fun t164 =>
(castI .i64 t164).bind fun n165 =>
(callO rec 114 (7::0::1::1::1::1::1::1::1::1::1::1::0::σ) [t163,(.p (.int .u64 (IntKind.wrap .u64 n165))),(.p (.int .i64 2))] q145.2 (some 88)).bind fun q166 =>
(apO true 1 1 (9::0::1::1::1::1::1::1::1::1::1::1::0::σ) 90 q166.2 q166.1 q54.1).bind fun q167 =>
fin false σ q167.2 [q167.1]))))
else (
(callO rec 111 (1::0::0::1::1::1::1::1::1::1::0::σ) [(.p (.string x4)),(.p (.int .u8 107))] q48.2 (some 58)).bind fun q168 =>
(asB q168.1).bind fun b169 =>
bif b169 then (
(fA x1 5).bind fun t170 =>
(ldO false 1 q168.2 t170).bind fun t171 =>
(castI .i64 t171).bind fun n172 =>
(bSV Try.prog 32 1 [(0,(.p (.int .u8 (IntKind.wrap .u8 n172))))]).bind fun t173 =>
(callO rec 113 (5::1::0::1::1::1::1::1::1::1::0::σ) [q47.1,(.p (.int .u8 5)),t173] q168.2 (some 64)).bind fun q174 =>
(callO rec 111 (1::0::0::1::1::1::1::1::1::1::1::0::σ) [(.p (.string x4)),(.p (.int .u8 121))] q174.2 (some 66)).bind fun q175 =>
(asB q175.1).bind fun b176 =>
bif b176 then (
(fA x1 6).bind fun t177 =>
(ldO false 1 q175.2 t177).bind fun t178 =>
(castI .i64 t178).bind fun n179 =>
(bSV Try.prog 32 1 [(0,(.p (.int .u8 (IntKind.wrap .u8 n179))))]).bind fun t180 =>
(callO rec 113 (5::1::0::1::1::1::1::1::1::1::1::0::σ) [q174.1,(.p (.int .u8 6)),t180] q175.2 (some 72)).bind fun q181 =>
(callO rec 111 (1::0::0::1::1::1::1::1::1::1::1::1::0::σ) [(.p (.string x4)),(.p (.int .u8 101))] q181.2 (some 74)).bind fun q182 =>
(asB q182.1).bind fun b183 =>
bif b183 then (
(fA x1 7).bind fun t184 =>
(ldO false 1 q182.2 t184).bind fun t185 =>
(castI .i64 t185).bind fun n186 =>
(bSV Try.prog 32 1 [(0,(.p (.int .u8 (IntKind.wrap .u8 n186))))]).bind fun t187 =>
(callO rec 113 (5::1::0::1::1::1::1::1::1::1::1::1::0::σ) [q181.1,(.p (.int .u8 7)),t187] q182.2 (some 80)).bind fun q188 =>
(fA x1 0).bind fun t189 =>
(ldO false 1 q188.2 t189).bind fun t190 =>
(castI .i64 t190).bind fun n191 =>
(bSV Try.prog 32 1 [(0,(.p (.int .u8 (IntKind.wrap .u8 n191))))]).bind fun t192 =>
(lenO q188.1).bind fun t193 =>
(castI .i64 t193).bind fun n194 =>
(callO rec 114 (7::0::1::1::1::1::1::1::1::1::1::1::0::σ) [t192,(.p (.int .u64 (IntKind.wrap .u64 n194))),(.p (.int .i64 2))] q188.2 (some 88)).bind fun q195 =>
(apO true 1 1 (9::0::1::1::1::1::1::1::1::1::1::1::0::σ) 90 q195.2 q195.1 q188.1).bind fun q196 =>
fin false σ q196.2 [q196.1])
else (
(fA x1 0).bind fun t197 =>
(ldO false 1 q182.2 t197).bind fun t198 =>
(castI .i64 t198).bind fun n199 =>
(bSV Try.prog 32 1 [(0,(.p (.int .u8 (IntKind.wrap .u8 n199))))]).bind fun t200 =>
(lenO q181.1).bind fun t201 =>
(castI .i64 t201).bind fun n202 =>
(callO rec 114 (7::0::1::1::1::1::1::1::1::1::1::1::0::σ) [t200,(.p (.int .u64 (IntKind.wrap .u64 n202))),(.p (.int .i64 2))] q182.2 (some 88)).bind fun q203 =>
(apO true 1 1 (9::0::1::1::1::1::1::1::1::1::1::1::0::σ) 90 q203.2 q203.1 q181.1).bind fun q204 =>
fin false σ q204.2 [q204.1]))
else (
(callO rec 111 (1::0::0::1::1::1::1::1::1::1::1::1::0::σ) [(.p (.string x4)),(.p (.int .u8 101))] q175.2 (some 74)).bind fun q205 =>
(asB q205.1).bind fun b206 =>
bif b206 then (
(fA x1 7).bind fun t207 =>
(ldO false 1 q205.2 t207).bind fun t208 =>
(castI .i64 t208).bind fun n209 =>
(bSV Try.prog 32 1 [(0,(.p (.int .u8 (IntKind.wrap .u8 n209))))]).bind fun t210 =>
(callO rec 113 (5::1::0::1::1::1::1::1::1::1::1::1::0::σ) [q174.1,(.p (.int .u8 7)),t210] q205.2 (some 80)).bind fun q211 =>
(fA x1 0).bind fun t212 =>
(ldO false 1 q211.2 t212).bind fun t213 =>
(castI .i64 t213).bind fun n214 =>
(bSV Try.prog 32 1 [(0,(.p (.int .u8 (IntKind.wrap .u8 n214))))]).bind fun t215 =>
(lenO q211.1).bind fun t216 =>
(castI .i64 t216).bind fun n217 =>
(callO rec 114 (7::0::1::1::1::1::1::1::1::1::1::1::0::σ) [t215,(.p (.int .u64 (IntKind.wrap .u64 n217))),(.p (.int .i64 2))] q211.2 (some 88)).bind fun q218 =>
(apO true 1 1 (9::0::1::1::1::1::1::1::1::1::1::1::0::σ) 90 q218.2 q218.1 q211.1).bind fun q219 =>
fin false σ q219.2 [q219.1])
else (
(fA x1 0).bind fun t220 =>
(ldO false 1 q205.2 t220).bind fun t221 =>
(castI .i64 t221).bind fun n222 =>
(bSV Try.prog 32 1 [(0,(.p (.int .u8 (IntKind.wrap .u8 n222))))]).bind fun t223 =>
(lenO q174.1).bind fun t224 =>
(castI .i64 t224).bind fun n225 =>
(callO rec 114 (7::0::1::1::1::1::1::1::1::1::1::1::0::σ) [t223,(.p (.int .u64 (IntKind.wrap .u64 n225))),(.p (.int .i64 2))] q205.2 (some 88)).bind fun q226 =>
(apO true 1 1 (9::0::1::1::1::1::1::1::1::1::1::1::0::σ) 90 q226.2 q226.1 q174.1).bind fun q227 =>
fin false σ q227.2 [q227.1])))
else (
(callO rec 111 (1::0::0::1::1::1::1::1::1::1::1::0::σ) [(.p (.string x4)),(.p (.int .u8 121))] q168.2 (some 66)).bind fun q228 =>
(asB q228.1).bind fun b229 =>
bif b229 then (
(fA x1 6).bind fun t230 =>
(ldO false 1 q228.2 t230).bind fun t231 =>
(castI .i64 t231).bind fun n232 =>
(bSV Try.prog 32 1 [(0,(.p (.int .u8 (IntKind.wrap .u8 n232))))]).bind fun t233 =>
(callO rec 113 (5::1::0::1::1::1::1::1::1::1::1::0::σ) [q47.1,(.p (.int .u8 6)),t233] q228.2 (some 72)).bind fun q234 =>
(callO rec 111 (1::0::0::1::1::1::1::1::1::1::1::1::0::σ) [(.p (.string x4)),(.p (.int .u8 101))] q234.2 (some 74)).bind fun q235 =>
(asB q235.1).bind fun b236 =>
bif b236 then (
(fA x1 7).bind fun t237 =>
(ldO false 1 q235.2 t237).bind fun t238 =>
(castI .i64 t238).bind fun n239 =>
(bSV Try.prog 32 1 [(0,(.p (.int .u8 (IntKind.wrap .u8 n239))))]).bind fun t240 =>
(callO rec 113 (5::1::0::1::1::1::1::1::1::1::1::1::0::σ) [q234.1,(.p (.int .u8 7)),t240] q235.2 (some 80)).bind fun q241 =>
(fA x1 0).bind fun t242 =>
(ldO false 1 q241.2 t242).bind fun t243 =>
(castI .i64 t243).bind fun n244 =>
(bSV Try.prog 32 1 [(0,(.p (.int .u8 (IntKind.wrap .u8 n244))))]).bind fun t245 =>
(lenO q241.1).bind fun t246 =>
(castI .i64 t246).bind fun n247 =>
(callO rec 114 (7::0::1::1::1::1::1::1::1::1::1::1::0::σ) [t245,(.p (.int .u64 (IntKind.wrap .u64 n247))),(.p (.int .i64 2))] q241.2 (some 88)).bind fun q248 =>
(apO true 1 1 (9::0::1::1::1::1::1::1::1::1::1::1::0::σ) 90 q248.2 q248.1 q241.1).bind fun q249 =>
fin false σ q249.2 [q249.1])
else (
(fA x1 0).bind fun t250 =>
(ldO false 1 q235.2 t250).bind fun t251 =>
(castI .i64 t251).bind fun n252 =>
(bSV Try.prog 32 1 [(0,(.p (.int .u8 (IntKind.wrap .u8 n252))))]).bind fun t253 =>
(lenO q234.1).bind fun t254 =>
(castI .i64 t254).bind fun n255 =>
(callO rec 114 (7::0::1::1::1::1::1::1::1::1::1::1::0::σ) [t253,(.p (.int .u64 (IntKind.wrap .u64 n255))),(.p (.int .i64 2))] q235.2 (some 88)).bind fun q256 =>
(apO true 1 1 (9::0::1::1::1::1::1::1::1::1::1::1::0::σ) 90 q256.2 q256.1 q234.1).bind fun q257 =>
fin false σ q257.2 [q257.1]))
else (
(callO rec 111 (1::0::0::1::1::1::1::1::1::1::1::1::0::σ) [(.p (.string x4)),(.p (.int .u8 101))] q228.2 (some 74)).bind fun q258 =>
(asB q258.1).bind fun b259 =>
bif b259 then (
(fA x1 7).bind fun t260 =>
(ldO false 1 q258.2 t260).bind fun t261 =>
(castI .i64 t261).bind fun n262 =>
(bSV Try.prog 32 1 [(0,(.p (.int .u8 (IntKind.wrap .u8 n262))))]).bind fun t263 =>
(callO rec 113 (5::1::0::1::1::1::1::1::1::1::1::1::0::σ) [q47.1,(.p (.int .u8 7)),t263] q258.2 (some 80)).bind fun q264 =>
(fA x1 0).bind fun t265 =>
(ldO false 1 q264.2 t265).bind fun t266 =>
(castI .i64 t266).bind fun n267 =>
(bSV Try.prog 32 1 [(0,(.p (.int .u8 (IntKind.wrap .u8 n267))))]).bind fun t268 =>
(lenO q264.1).bind fun t269 =>
(castI .i64 t269).bind fun n270 =>
(callO rec 114 (7::0::1::1::1::1::1::1::1::1::1::1::0::σ) [t268,(.p (.int .u64 (IntKind.wrap .u64 n270))),(.p (.int .i64 2))] q264.2 (some 88)).bind fun q271 =>
(apO true 1 1 (9::0::1::1::1::1::1::1::1::1::1::1::0::σ) 90 q271.2 q271.1 q264.1).bind fun q272 =>
fin false σ q272.2 [q272.1])
else (
(fA x1 0).bind fun t273 =>
(ldO false 1 q258.2 t273).bind fun t274 =>
(castI .i64 t274).bind fun n275 =>
(bSV Try.prog 32 1 [(0,(.p (.int .u8 (IntKind.wrap .u8 n275))))]).bind fun t276 =>
(lenO q47.1).bind fun t277 =>
(castI .i64 t277).bind fun n278 =>
(callO rec 114 (7::0::1::1::1::1::1::1::1::1::1::1::0::σ) [t276,(.p (.int .u64 (IntKind.wrap .u64 n278))),(.p (.int .i64 2))] q258.2 (some 88)).bind fun q279 =>
(apO true 1 1 (9::0::1::1::1::1::1::1::1::1::1::1::0::σ) 90 q279.2 q279.1 q47.1).bind fun q280 =>
fin false σ q280.2 [q280.1])))))
else (
(callO rec 111 (1::0::0::1::1::1::1::1::1::0::σ) [(.p (.string x4)),(.p (.int .u8 104))] q41.2 (some 50)).bind fun q281 =>
(asB q281.1).bind fun b282 =>
bif b282 then (
(fA x1 4).bind fun t283 =>
(ldO false 1 q281.2 t283).bind fun t284 =>
(castI .i64 t284).bind fun n285 =>
(callO rec 114 (4::1::0::1::1::1::1::1::1::0::σ) [(.p (.slice .none 0 0)),(.p (.int .u64 (IntKind.wrap .u64 n285))),(.p (.int .i64 2))] q281.2 (some 55)).bind fun q286 =>
(callO rec 113 (5::1::0::1::1::1::1::1::1::0::σ) [x3,(.p (.int .u8 4)),q286.1] q286.2 (some 56)).bind fun q287 =>
(callO rec 111 (1::0::0::1::1::1::1::1::1::1::0::σ) [(.p (.string x4)),(.p (.int .u8 107))] q287.2 (some 58)).bind fun q288 =>
(asB q288.1).bind fun b289 =>
bif b289 then (
(fA x1 5).bind fun t290 =>
(ldO false 1 q288.2 t290).bind fun t291 =>
(castI .i64 t291).bind fun n292 =>
(bSV Try.prog 32 1 [(0,(.p (.int .u8 (IntKind.wrap .u8 n292))))]).bind fun t293 =>
(callO rec 113 (5::1::0::1::1::1::1::1::1::1::0::σ) [q287.1,(.p (.int .u8 5)),t293] q288.2 (some 64)).bind fun q294 =>
(callO rec 111 (1::0::0::1::1::1::1::1::1::1::1::0::σ) [(.p (.string x4)),(.p (.int .u8 121))] q294.2 (some 66)).bind fun q295 =>
(asB q295.1).bind fun b296 =>
bif b296 then (
(fA x1 6).bind fun t297 =>
(ldO false 1 q295.2 t297).bind fun t298 =>
(castI .i64 t298).bind fun n299 =>
(bSV Try.prog 32 1 [(0,(.p (.int .u8 (IntKind.wrap .u8 n299))))]).bind fun t300 =>
(callO rec 113 (5::1::0::1::1::1::1::1::1::1::1::0::σ) [q294.1,(.p (.int .u8 6)),t300] q295.2 (some 72)).bind fun q301 =>
(callO rec 111 (1::0::0::1::1::1::1::1::1::1::1::1::0::σ) [(.p (.string x4)),(.p (.int .u8 101))] q301.2 (some 74)).bind fun q302 =>
(asB q302.1).bind fun b303 =>
bif b303 then (
(fA x1 7).bind fun t304 =>
(ldO false 1 q302.2 t304).bind fun t305 =>
(castI .i64 t305).bind fun n306 =>
(bSV Try.prog 32 1 [(0,(.p (.int .u8 (IntKind.wrap .u8 n306))))]).bind fun t307 =>
(callO rec 113 (5::1::0::1::1::1::1::1::1::1::1::1::0::σ) [q301.1,(.p (.int .u8 7)),t307] q302.2 (some 80)).bind fun q308 =>
(fA x1 0).bind fun t309 =>
(ldO false 1 q308.2 t309).bind fun t310 =>
(castI .i64 t310).bind fun n311 =>
(bSV Try.prog 32 1 [(0,(.p (.int .u8 (IntKind.wrap .u8 n311))))]).bind fun t312 =>
(lenO q308.1).bind fun t313 =>
(castI .i64 t313).bind fun n314 =>
(callO rec 114 (7::0::1::1::1::1::1::1::1::1::1::1::0::σ) [t312,(.p (.int .u64 (IntKind.wrap .u64 n314))),(.p (.int .i64 2))] q308.2 (some 88)).bind fun q315 =>
(apO true 1 1 (9::0::1::1::1::1::1::1::1::1::1::1::0::σ) 90 q315.2 q315.1 q308.1).bind fun q316 =>
fin false σ q316.2 [q316.1])
else (
(fA x1 0).bind fun t317 =>
(ldO false 1 q302.2 t317).bind fun t318 =>
(castI .i64 t318).bind fun n319 =>
(bSV Try.prog 32 1 [(0,(.p (.int .u8 (IntKind.wrap .u8 n319))))]).bind fun t320 =>
(lenO q301.1).bind fun t321 =>
(castI .i64 t321).bind fun n322 =>
(callO rec 114 (7::0::1::1::1::1::1::1::1::1::1::1::0::σ) [t320,(.p (.int .u64 (IntKind.wrap .u64 n322))),(.p (.int .i64 2))] q302.2 (some 88)).bind fun q323 =>
(apO true 1 1 (9::0::1::1::1::1::1::1::1::1::1::1::0::σ) 90 q323.2 q323.1 q301.1).bind fun q324 =>
fin false σ q324.2 [q324.1]))
else (
(callO rec 111 (1::0::0::1::1::1::1::1::1::1::1::1::0::σ) [(.p (.string x4)),(.p (.int .u8 101))] q295.2 (some 74)).bind fun q325 =>
(asB q325.1).bind fun b326 =>
bif b326 then (
(fA x1 7).bind fun t327 =>
(ldO false 1 q325.2 t327).bind fun t328 =>
(castI .i64 t328).bind fun n329 =>
(bSV Try.prog 32 1 [(0,(.p (.int .u8 (IntKind.wrap .u8 n329))))]).bind fun t330 =>
(callO rec 113 (5::1::0::1::1::1::1::1::1::1::1::1::0::σ) [q294.1,(.p (.int .u8 7)),t330] q325.2 (some 80)).bind fun q331 =>
(fA x1 0).bind fun t332 =>
(ldO false 1 q331.2 t332).bind fun t333 =>
(castI .i64 t333).bind fun n334 =>
(bSV Try.prog 32 1 [(0,(.p (.int .u8 (IntKind.wrap .u8 n334))))]).bind fun t335 =>
(lenO q331.1).bind fun t336 =>
(castI .i64 t336).bind fun n337 =>
(callO rec 114 (7::0::1::1::1::1::1::1::1::1::1::1::0::σ) [t335,(.p (.int .u64 (IntKind.wrap .u64 n337))),(.p (.int .i64 2))] q331.2 (some 88)).bind fun q338 =>
(apO true 1 1 (9::0::1::1::1::1::1::1::1::1::1::1::0::σ) 90 q338.2 q338.1 q331.1).bind fun q339 =>
fin false σ q339.2 [q339.1])
else (
(fA x1 0).bind fun t340 =>
(ldO false 1 q325.2 t340).bind fun t341 =>
(castI .i64 t341).bind fun n342 =>
(bSV Try.prog 32 1 [(0,(.p (.int .u8 (IntKind.wrap .u8 n342))))]).bind fun t343 =>
(lenO q294.1).bind fun t344 =>
(castI .i64 t344).bind fun n345 =>
(callO rec 114 (7::0::1::1::1::1::1::1::1::1::1::1::0::σ) [t343,(.p (.int .u64 (IntKind.wrap .u64 n345))),(.p (.int .i64 2))] q325.2 (some 88)).bind fun q346 =>
(apO true 1 1 (9::0::1::1::1::1::1::1::1::1::1::1::0::σ) 90 q346.2 q346.1 q294.1).bind fun q347 =>
fin false σ q347.2 [q347.1])))
else (
(callO rec 111 (1::0::0::1::1::1::1::1::1::1::1::0::σ) [(.p (.string x4)),(.p (.int .u8 121))] q288.2 (some 66)).bind fun q348 =>
(asB q348.1).bind fun b349 =>
bif b349 then (
(fA x1 6).bind fun t350 =>
(ldO false 1 q348.2 t350).bind fun t351 =>
(castI .i64 t351).bind fun n352 =>
(bSV Try.prog 32 1 [(0,(.p (.int .u8 (IntKind.wrap .u8 n352))))]).bind fun t353 =>
(callO rec 113 (5::1::0::1::1::1::1::1::1::1::1::0::σ) [q287.1,(.p (.int .u8 6)),t353] q348.2 (some 72)).bind fun q354 =>
(callO rec 111 (1::0::0::1::1::1::1::1::1::1::1::1::0::σ) [(.p (.string x4)),(.p (.int .u8 101))] q354.2 (some 74)).bind fun q355 =>
(asB q355.1).bind fun b356 =>
bif b356 then (
(fA x1 7).bind fun t357 =>
(ldO false 1 q355.2 t357).bind fun t358 =>
(castI .i64 t358).bind fun n359 =>
(bSV Try.prog 32 1 [(0,(.p (.int .u8 (IntKind.wrap .u8 n359))))]).bind fun t360 =>
(callO rec 113 (5::1::0::1::1::1::1::1::1::1::1::1::0::σ) [q354.1,(.p (.int .u8 7)),t360] q355.2 (some 80)).bind fun q361 =>
(fA x1 0).bind fun t362 =>
(ldO false 1 q361.2 t362).bind fun t363 =>
(castI .i64 t363).bind fun n364 =>
(bSV Try.prog 32 1 [(0,(.p (.int .u8 (IntKind.wrap .u8 n364))))]).bind fun t365 =>
(lenO q361.1).bind fun t366 =>
(castI .i64 t366).bind fun n367 =>
(callO rec 114 (7::0::1::1::1::1::1::1::1::1::1::1::0::σ) [t365,(.p (.int .u64 (IntKind.wrap .u64 n367))),(.p (.int .i64 2))] q361.2 (some 88)).bind fun q368 =>
(apO true 1 1 (9::0::1::1::1::1::1::1::1::1::1::1::0::σ) 90 q368.2 q368.1 q361.1).bind fun q369 =>
fin false σ q369.2 [q369.1])
else (
(fA x1 0).bind fun t370 =>
(ldO false 1 q355.2 t370).bind fun t371 =>
(castI .i64 t371).bind fun n372 =>
(bSV Try.prog 32 1 [(0,(.p (.int .u8 (IntKind.wrap .u8 n372))))]).bind fun t373 =>
(lenO q354.1).bind fun t374 =>
(castI .i64 t374).bind fun n375 =>
(callO rec 114 (7::0::1::1::1::1::1::1::1::1::1::1::0::σ) [t373,(.p (.int .u64 (IntKind.wrap .u64 n375))),(.p (.int .i64 2))] q355.2 (some 88)).bind fun q376 =>
(apO true 1 1 (9::0::1::1::1::1::1::1::1::1::1::1::0::σ) 90 q376.2 q376.1 q354.1).bind fun q377 =>
fin false σ q377.2 [q377.1]))
else (
(callO rec 111 (1::0::0::1::1::1::1::1::1::1::1::1::0::σ) [(.p (.string x4)),(.p (.int .u8 101))] q348.2 (some 74)).bind fun q378 =>
(asB q378.1).bind fun b379 =>
bif b379 then (
(fA x1 7).bind fun t380 =>
(ldO false 1 q378.2 t380).bind fun t381 =>
(castI .i64 t381).bind fun n382 =>
(bSV Try.prog 32 1 [(0,(.p (.int .u8 (IntKind.wrap .u8 n382))))]).bind fun t383 =>
(callO rec 113 (5::1::0::1::1::1::1::1::1::1::1::1::0::σ) [q287.1,(.p (.int .u8 7)),t383] q378.2 (some 80)).bind fun q384 =>
(fA x1 0).bind fun t385 =>
(ldO false 1 q384.2 t385).bind fun t386 =>
(castI .i64 t386).bind fun n387 =>
(bSV Try.prog 32 1 [(0,(.p (.int .u8 (IntKind.wrap .u8 n387))))]).bind fun t388 =>
(lenO q384.1).bind fun t389 =>
(castI .i64 t389).bind fun n390 =>
(callO rec 114 (7::0::1::1::1::1::1::1::1::1::1::1::0::σ) [t388,(.p (.int .u64 (IntKind.wrap .u64 n390))),(.p (.int .i64 2))] q384.2 (some 88)).bind fun q391 =>
(apO true 1 1 (9::0::1::1::1::1::1::1::1::1::1::1::0::σ) 90 q391.2 q391.1 q384.1).bind fun q392 =>
fin false σ q392.2 [q392.1])
else (
(fA x1 0).bind fun t393 =>
(ldO false 1 q378.2 t393).bind fun t394 =>
(castI .i64 t394).bind fun n395 =>
(bSV Try.prog 32 1 [(0,(.p (.int .u8 (IntKind.wrap .u8 n395))))]).bind fun t396 =>
(lenO q287.1).bind fun t397 =>
(castI .i64 t397).bind fun n398 =>
(callO rec 114 (7::0::1::1::1::1::1::1::1::1::1::1::0::σ) [t396,(.p (.int .u64 (IntKind.wrap .u64 n398))),(.p (.int .i64 2))] q378.2 (some 88)).bind fun q399 =>
(apO true 1 1 (9::0::1::1::1::1::1::1::1::1::1::1::0::σ) 90 q399.2 q399.1 q287.1).bind fun q400 =>
fin false σ q400.2 [q400.1]))))
else (
(callO rec 111 (1::0::0::1::1::1::1::1::1::1::0::σ) [(.p (.string x4)),(.p (.int .u8 107))] q281.2 (some 58)).bind fun q401 =>
(asB q401.1).bind fun b402 =>
bif b402 then (
(fA x1 5).bind fun t403 =>
(ldO false 1 q401.2 t403).bind fun t404 =>
(castI .i64 t404).bind fun n405 =>
(bSV Try.prog 32 1 [(0,(.p (.int .u8 (IntKind.wrap .u8 n405))))]).bind fun t406 =>
(callO rec 113 (5::1::0::1::1::1::1::1::1::1::0::σ) [x3,(.p (.int .u8 5)),t406] q401.2 (some 64)).bind fun q407 =>
(callO rec 111 (1::0::0::1::1::1::1::1::1::1::1::0::σ) [(.p (.string x4)),(.p (.int .u8 121))] q407.2 (some 66)).bind fun q408 =>
(asB q408.1).bind fun b409 =>
bif b409 then (
(fA x1 6).bind fun t410 =>
(ldO false 1 q408.2 t410).bind fun t411 =>
(castI .i64 t411).bind fun n412 =>
(bSV Try.prog 32 1 [(0,(.p (.int .u8 (IntKind.wrap .u8 n412))))]).bind fun t413 =>
(callO rec 113 (5::1::0::1::1::1::1::1::1::1::1::0::σ) [q407.1,(.p (.int .u8 6)),t413] q408.2 (some 72)).bind fun q414 =>
(callO rec 111 (1::0::0::1::1::1::1::1::1::1::1::1::0::σ) [(.p (.string x4)),(.p (.int .u8 101))] q414.2 (some 74)).bind fun q415 =>
(asB q415.1).bind fun b416 =>
bif b416 then (
(fA x1 7).bind fun t417 =>
(ldO false 1 q415.2 t417).bind fun t418 =>
(castI .i64 t418).bind fun n419 =>
(bSV Try.prog 32 1 [(0,(.p (.int .u8 (IntKind.wrap .u8 n419))))]).bind fun t420 =>
(callO rec 113 (5::1::0::1::1::1::1::1::1::1::1::1::0::σ) [q414.1,(.p (.int .u8 7)),t420] q415.2 (some 80)).bind fun q421 =>
(fA x1 0).bind fun t422 =>
(ldO false 1 q421.2 t422).bind fun t423 =>
(castI .i64 t423).bind fun n424 =>
(bSV Try.prog 32 1 [(0,(.p (.int .u8 (IntKind.wrap .u8 n424))))]).bind fun t425 =>
(lenO q421.1).bind fun t426 =>
(castI .i64 t426).bind fun n427 =>
(callO rec 114 (7::0::1::1::1::1::1::1::1::1::1::1::0::σ) [t425,(.p (.int .u64 (IntKind.wrap .u64 n427))),(.p (.int .i64 2))] q421.2 (some 88)).bind fun q428 =>
(apO true 1 1 (9::0::1::1::1::1::1::1::1::1::1::1::0::σ) 90 q428.2 q428.1 q421.1).bind fun q429 =>
fin false σ q429.2 [q429.1])
else (
(fA x1 0).bind fun t430 =>
(ldO false 1 q415.2 t430).bind fun t431 =>
(castI .i64 t431).bind fun n432 =>
(bSV Try.prog 32 1 [(0,(.p (.int .u8 (IntKind.wrap .u8 n432))))]).bind fun t433 =>
(lenO q414.1).bind fun t434 =>
(castI .i64 t434).bind fun n435 =>
(callO rec 114 (7::0::1::1::1::1::1::1::1::1::1::1::0::σ) [t433,(.p (.int .u64 (IntKind.wrap .u64 n435))),(.p (.int .i64 2))] q415.2 (some 88)).bind fun q436 =>
(apO true 1 1 (9::0::1::1::1::1::1::1::1::1::1::1::0::σ) 90 q436.2 q436.1 q414.1).bind fun q437 =>
fin false σ q437.2 [q437.1]))
else (
(callO rec 111 (1::0::0::1::1::1::1::1::1::1::1::1::0::σ) [(.p (.string x4)),(.p (.int .u8 101))] q408.2 (some 74)).bind fun q438 =>
(asB q438.1).bind fun b439 =>
bif b439 then (
(fA x1 7).bind fun t440 =>
(ldO false 1 q438.2 t440).bind fun t441 =>
(castI .i64 t441).bind fun n442 =>
(bSV Try.prog 32 1 [(0,(.p (.int .u8 (IntKind.wrap .u8 n442))))]).bind fun t443 =>
(callO rec 113 (5::1::0::1::1::1::1::1::1::1::1::1::0::σ) [q407.1,(.p (.int .u8 7)),t443] q438.2 (some 80)).bind fun q444 =>
(fA x1 0).bind fun t445 =>
(ldO false 1 q444.2 t445).bind fun t446 =>
(castI .i64 t446).bind fun n447 =>
(bSV Try.prog 32 1 [(0,(.p (.int .u8 (IntKind.wrap .u8 n447))))]).bind fun t448 =>
(lenO q444.1).bind fun t449 =>
(castI .i64 t449).bind fun n450 =>
(callO rec 114 (7::0::1::1::1::1::1::1::1::1::1::1::0::σ) [t448,(.p (.int .u64 (IntKind.wrap .u64 n450))),(.p (.int .i64 2))] q444.2 (some 88)).bind fun q451 =>
(apO true 1 1 (9::0::1::1::1::1::1::1::1::1::1::1::0::σ) 90 q451.2 q451.1 q444.1).bind fun q452 =>
fin false σ q452.2 [q452.1])
else (
(fA x1 0).bind fun t453 =>
(ldO false 1 q438.2 t453).bind fun t454 =>
(castI .i64 t454).bind fun n455 =>
(bSV Try.prog 32 1 [(0,(.p (.int .u8 (IntKind.wrap .u8 n455))))]).bind fun t456 =>
(lenO q407.1).bind fun t457 =>
(castI .i64 t457).bind fun n458 =>
(callO rec 114 (7::0::1::1::1::1::1::1::1::1::1::1::0::σ) [t456,(.p (.int .u64 (IntKind.wrap .u64 n458))),(.p (.int .i64 2))] q438.2 (some 88)).bind fun q459 =>
(apO true 1 1 (9::0::1::1::1::1::1::1::1::1::1::1::0::σ) 90 q459.2 q459.1 q407.1).bind fun q460 =>
fin false σ q460.2 [q460.1])))
else (
(callO rec 111 (1::0::0::1::1::1::1::1::1::1::1::0::σ) [(.p (.string x4)),(.p (.int .u8 121))] q401.2 (some 66)).bind fun q461 =>
(asB q461.1).bind fun b462 =>
bif b462 then (
(fA x1 6).bind fun t463 =>
(ldO false 1 q461.2 t463).bind fun t464 =>
(castI .i64 t464).bind fun n465 =>
(bSV Try.prog 32 1 [(0,(.p (.int .u8 (IntKind.wrap .u8 n465))))]).bind fun t466 =>
(callO rec 113 (5::1::0::1::1::1::1::1::1::1::1::0::σ) [x3,(.p (.int .u8 6)),t466] q461.2 (some 72)).bind fun q467 =>
(callO rec 111 (1::0::0::1::1::1::1::1::1::1::1::1::0::σ) [(.p (.string x4)),(.p (.int .u8 101))] q467.2 (some 74)).bind fun q468 =>
(asB q468.1).bind fun b469 =>
bif b469 then (
(fA x1 7).bind fun t470 =>
(ldO false 1 q468.2 t470).bind fun t471 =>
(castI .i64 t471).bind fun n472 =>
(bSV Try.prog 32 1 [(0,(.p (.int .u8 (IntKind.wrap .u8 n472))))]).bind fun t473 =>
(callO rec 113 (5::1::0::1::1::1::1::1::1::1::1::1::0::σ) [q467.1,(.p (.int .u8 7)),t473] q468.2 (some 80)).bind fun q474 =>
(fA x1 0).bind fun t475 =>
(ldO false 1 q474.2 t475).bind fun t476 =>
(castI .i64 t476).bind fun n477 =>
(bSV Try.prog 32 1 [(0,(.p (.int .u8 (IntKind.wrap .u8 n477))))]).bind fun t478 =>
(lenO q474.1).bind fun t479 =>
(castI .i64 t479).bind fun n480 =>
(callO rec 114 (7::0::1::1::1::1::1::1::1::1::1::1::0::σ) [t478,(.p (.int .u64 (IntKind.wrap .u64 n480))),(.p (.int .i64 2))] q474.2 (some 88)).bind fun q481 =>
(apO true 1 1 (9::0::1::1::1::1::1::1::1::1::1::1::0::σ) 90 q481.2 q481.1 q474.1).bind fun q482 =>
fin false σ q482.2 [q482.1])
else (
(fA x1 0).bind fun t483 =>
(ldO false 1 q468.2 t483).bind fun t484 =>
(castI .i64 t484).bind fun n485 =>
(bSV Try.prog 32 1 [(0,(.p (.int .u8 (IntKind.wrap .u8 n485))))]).bind fun t486 =>
(lenO q467.1).bind fun t487 =>
(castI .i64 t487).bind fun n488 =>
(callO rec 114 (7::0::1::1::1::1::1::1::1::1::1::1::0::σ) [t486,(.p (.int .u64 (IntKind.wrap .u64 n488))),(.p (.int .i64 2))] q468.2 (some 88)).bind fun q489 =>
(apO true 1 1 (9::0::1::1::1::1::1::1::1::1::1::1::0::σ) 90 q489.2 q489.1 q467.1).bind fun q490 =>
fin false σ q490.2 [q490.1]))
else (
(callO rec 111 (1::0::0::1::1::1::1::1::1::1::1::1::0::σ) [(.p (.string x4)),(.p (.int .u8 101))] q461.2 (some 74)).bind fun q491 =>
(asB q491.1).bind fun b492 =>
bif b492 then (
(fA x1 7).bind fun t493 =>
(ldO false 1 q491.2 t493).bind fun t494 =>
(castI .i64 t494).bind fun n495 =>
(bSV Try.prog 32 1 [(0,(.p (.int .u8 (IntKind.wrap .u8 n495))))]).bind fun t496 =>
(callO rec 113 (5::1::0::1::1::1::1::1::1::1::1::1::0::σ) [x3,(.p (.int .u8 7)),t496] q491.2 (some 80)).bind fun q497 =>
(fA x1 0).bind fun t498 =>
(ldO false 1 q497.2 t498).bind fun t499 =>
(castI .i64 t499).bind fun n500 =>
(bSV Try.prog 32 1 [(0,(.p (.int .u8 (IntKind.wrap .u8 n500))))]).bind fun t501 =>
(lenO q497.1).bind fun t502 =>
(castI .i64 t502).bind fun n503 =>
(callO rec 114 (7::0::1::1::1::1::1::1::1::1::1::1::0::σ) [t501,(.p (.int .u64 (IntKind.wrap .u64 n503))),(.p (.int .i64 2))] q497.2 (some 88)).bind fun q504 =>
(apO true 1 1 (9::0::1::1::1::1::1::1::1::1::1::1::0::σ) 90 q504.2 q504.1 q497.1).bind fun q505 =>
fin false σ q505.2 [q505.1])
else (
(fA x1 0).bind fun t506 =>
(ldO false 1 q491.2 t506).bind fun t507 =>
(castI .i64 t507).bind fun n508 =>
(bSV Try.prog 32 1 [(0,(.p (.int .u8 (IntKind.wrap .u8 n508))))]).bind fun t509 =>
(lenO x3).bind fun t510 =>
(castI .i64 t510).bind fun n511 =>
(callO rec 114 (7::0::1::1::1::1::1::1::1::1::1::1::0::σ) [t509,(.p (.int .u64 (IntKind.wrap .u64 n511))),(.p (.int .i64 2))] q491.2 (some 88)).bind fun q512 =>
(apO true 1 1 (9::0::1::1::1::1::1::1::1::1::1::1::0::σ) 90 q512.2 q512.1 x3).bind fun q513 =>
fin false σ q513.2 [q513.1]))))):=by kernel_rfl
def zr1_Put_c0 : Code:=(codeAt (bodyOf Try.f114) [1,1,1,0,1,0,0])
def zr1_Put_l0 : Lv:=⟨128,64,[(0,128)]⟩
def zr1_Put_k0 : KT19:=(kBlock 0 (kSeq G rec loop (codeAt (bodyOf Try.f114) [1,1,1,1]) ⟨64,64,[]⟩ (1::1::1::0::σ) (finC G false Try.f114 (1::σ))))
theorem zr1_Put_entry (x0 : V) (x1 : Int) (x2 : Int) (h : H) : cvBody G rec loop 114 σ [x0,(.p (.int .u64 x1)),(.p (.int .i64 x2))] h =
(bSV Try.prog 32 0 []).bind fun t1 =>
(apO true 1 1 (2::0::1::0::σ) 11 (List.replicate 35 []::h) t1 x0).bind fun q2 =>
(bif decide (x2 < 1) then (some true) else (some (decide (x2 > 8)))).bind fun b3 =>
bif b3 then (
fin false σ q2.2 [q2.1])
else (
(loop zr1_Put_c0 zr1_Put_l0 (1::0::1::1::1::0::σ) (envL [(1,(.p (.int .u64 x1))),(7,q2.1),(8,(.p (.int .i64 (IntKind.wrap .i64 (x2 - 1)))))]) q2.2).bind fun r4 => zr1_Put_k0 rec loop σ r4.1 r4.2.1 r4.2.2):=by kernel_rfl
theorem zr1_Put_r0 (x1 : Int) (x7 : V) (x8 : Int) (h : H) : cvRound G rec loop zr1_Put_c0 zr1_Put_l0 σ (envL [(1,(.p (.int .u64 x1))),(7,x7),(8,(.p (.int .i64 x8)))]) h =
bif decide (x8 ≥ 0) then (
(shiftV .shr .u64 x1 (IntKind.wrap .u64 (IntKind.wrap .i64 (8 * x8)))).bind fun t5 =>
(castI .u64 t5).bind fun n6 =>
(bSV Try.prog 32 1 [(0,(.p (.int .u8 (IntKind.wrap .u8 n6))))]).bind fun t7 =>
(apO true 1 1 (8::0::1::0::σ) 33 h x7 t7).bind fun q8 =>
loop zr1_Put_c0 zr1_Put_l0 (1::σ) (envL [(1,(.p (.int .u64 x1))),(7,q8.1),(8,(.p (.int .i64 (IntKind.wrap .i64 (x8 - 1)))))]) q8.2)
else (
some ((.exit 0),(envL [(7,x7)]),h)):=by kernel_rfl
theorem zr1_Put_a0_0 (x7 : V) (h : H) : zr1_Put_k0 rec loop σ (.exit 0) (envL [(7,x7)]) h =
fin false σ h [x7]:=by kernel_rfl
end
end Go.Ev
namespace Go.Ev
open Go.Proofs
set_option linter.unusedVariables false
set_option linter.unusedSimpArgs false
set_option maxRecDepth 100000
section
variable {β α : Type} {Q : β→α→Prop} {K : Exit × Env × H→Option α}
def p_zr1_Put_l0 {β : Type} (k : Nat) (kE0 : (List Int)→Option β) (x1 : Int) (x7 : (List Int)) (x8 : Int) : Option β:=match k with
| 0 => none
| k + 1 =>
bif decide (x8 ≥ 0) then (
(shP .shr .u64 x1 (IntKind.wrap .u64 (IntKind.wrap .i64 (8 * x8)))).bind fun n27 =>
(ap 1 x7 ([(IntKind.wrap .u8 n27)])).bind fun a30 =>
p_zr1_Put_l0 k kE0 x1 a30 (IntKind.wrap .i64 (x8 - 1)))
else (
kE0 x7)
def p_zr1_Put (k : Nat) (x0 : (List Int)) (x1 : Int) (x2 : Int) : Option ((List Int)) :=
(ap 1 (([] : List Int)) x0).bind fun a4 =>
(bif decide (x2 < 1) then (some true) else (some (decide (x2 > 8)))).bind fun b10 =>
bif b10 then (
some (a4))
else (
p_zr1_Put_l0 k (fun r40_7 =>
some (r40_7)) x1 a4 (IntKind.wrap .i64 (x2 - 1)))
theorem zr1_Put_l0_ok {h : H}  {kE0 : (List Int)→Option β} (hE0 : ∀ (q7 : (List Int)) (v38 : V) (H36 : Go.Ev.H) (_ : Fm 35 h [] [] [⟨[11,33],v38,(dI .u8),q7⟩] H36),Sim (kE0 q7) (K ((.exit 0),(envL [(7,v38)]),H36)) Q) (k : Nat) : ∀ (x1 : Int) (x7 : (List Int)) (x8 : Int) (v24 : V) (H22 : Go.Ev.H) (_ : Fm 35 h [] [] [⟨[11,33],v24,(dI .u8),x7⟩] H22) {σ : Stamp},Sim (p_zr1_Put_l0 k kE0 x1 x7 x8) ((cvL G X0 zr1_Put_c0 zr1_Put_l0 σ (envL [(1,(.p (.int .u64 x1))),(7,v24),(8,(.p (.int .i64 x8)))]) H22).bind K) Q:=by
 induction k with
 | zero => intros; exact .no
 | succ k ih =>
  intro x1 x7 x8 v24 H22 S23 σ
  rw [p_zr1_Put_l0]
  refine .round (Sim.ext (zr1_Put_r0 _ _ _ _ _ _ _) ?_)
  refine .cq ?_ ?_
  ·refine .bd fun n27 h28 => ?_
   refine .op (shP_ok h28) ?_
   refine .ci ?_
   have h29:=SlF.int1 .u8 (IntKind.wrap .u8 n27)
   refine .op (bldS (pC rfl pN) (by kernel_rfl : _ = some (vOf h29))) ?_
   refine .bd fun a30 h31 => ?_
   obtain ⟨v32,H33,e34,S35⟩:=S23.app (i:=0) (d:=33) (e:=1) (own:=true) (σ:=(8::0::1::0::σ)) rfl (h29.h H22).y h31 rfl (by decide) (by decide) rfl
   refine .op (e34) ?_
   exact ih x1 a30 (IntKind.wrap .i64 (x8 - 1)) v32 H33 (S35.wk2 aN (aC ⟨[33,11,33],by simp,aM 0 rfl⟩ aN))
  exact hE0 x7 v24 H22 (S23.wk2 aN (aC ⟨[11,33],by simp,aM 0 rfl⟩ aN))
theorem zr1_Put_ok (k : Nat) {h : H} {σ : Stamp} (x0 : List Int) {u0 : V} (hu0 : SlH h (dI .u8) x0 u0) (x1 : Int) (x2 : Int) : Sim (p_zr1_Put k x0 x1 x2) (ev G X0 114 σ [u0,(.p (.int .u64 x1)),(.p (.int .i64 x2))] h) (fun r s => ∃ (c0 : C),∃ (a0 : List V),OwnS c0 (dI .u8).sz r.length a0∧(dI .u8).L r a0∧s = ([c0],h)):=by
 refine .ev rfl (Sim.ext (zr1_Put_entry _ _ _ _ _ _ _) ?_)
 rw [p_zr1_Put]
 have S0 : Fm 35 h [] [] [] (List.replicate 35 []::h):=Fm.start0
 have h1 : SlF (dI .u8) ([] : List Int) (.fz [] 0 1 true):=SlF.lit (cs:=[]) RL.nil rfl rfl true
 refine .op (bldS pN (by kernel_rfl : _ = some (vOf h1))) ?_
 have S3:=S0.nil' (dI .u8) [] (e:=1) rfl
 refine .bd fun a4 h5 => ?_
 obtain ⟨v6,H7,e8,S9⟩:=S3.app (i:=0) (d:=11) (e:=1) (own:=true) (σ:=(2::0::1::0::σ)) rfl (S3.low hu0).y h5 rfl (by decide) (by decide) rfl
 refine .op (e8) ?_
 refine .ch (P:=fun r y => r = y) ?_ (fun b10 y11 h12 h13 => ?_)
 ·refine .cq ?_ ?_
  ·exact .ret rfl rfl
  ·exact .ret rfl rfl
 subst h13
 refine .cq ?_ ?_
 ·obtain ⟨c20,cs21,H15,e16,h18,h19,S17⟩:=S9.expOwn (i:=0) (τ:=0::1::σ) rfl rfl rfl
  exact .fin (S17.finE (Ex.st e16 Ex.nil)) ⟨c20,cs21,h18,h19,rfl⟩
 refine .as (zr1_Put_l0_ok ?_ k x1 a4 (IntKind.wrap .i64 (x2 - 1)) v6 H7 (S9.wk2 aN (aC ⟨[11],by simp,aM 0 rfl⟩ aN)))
 ·intro r40_7 v43 H41 S42
  refine .ext (zr1_Put_a0_0 _ _ _ _ _) ?_
  obtain ⟨c50,cs51,H45,e46,h48,h49,S47⟩:=S42.expOwn (i:=0) (τ:=0::1::σ) rfl rfl rfl
  exact .fin (S47.finE (Ex.st e46 Ex.nil)) ⟨c50,cs51,h48,h49,rfl⟩
end
end Go.Ev
namespace Go.Ev
open Go.Proofs
set_option linter.unusedVariables false
set_option linter.unusedSimpArgs false
set_option maxRecDepth 100000
noncomputable section
abbrev KT20:=Exit→Env→H→Option (List C × H)
variable (rec : CallF) (loop : LoopV) (σ : Stamp)
theorem zr8_field_entry (x0 : V) (x1 : Int) (x2 : V) (h : H) : cvBody G rec loop 113 σ [x0,(.p (.int .u8 x1)),x2] h =
(lenO x2).bind fun t1 =>
(castI .i64 t1).bind fun n2 =>
(bSV Try.prog 32 2 [(0,(.p (.int .u8 x1))),(1,(.p (.int .u8 (IntKind.wrap .u8 n2))))]).bind fun t3 =>
(apO true 1 1 (6::0::1::0::σ) 13 (List.replicate 16 []::h) x0 t3).bind fun q4 =>
(apO true 1 1 (8::0::1::0::σ) 15 q4.2 q4.1 x2).bind fun q5 =>
fin false σ q5.2 [q5.1]:=by kernel_rfl
end
end Go.Ev
namespace Go.Ev
open Go.Proofs
set_option linter.unusedVariables false
set_option linter.unusedSimpArgs false
set_option maxRecDepth 100000
section
variable {β α : Type} {Q : β→α→Prop} {K : Exit × Env × H→Option α}
def p_zr8_field (x0 : (List Int)) (x1 : Int) (x2 : (List Int)) : Option ((List Int)) :=
(ap 1 x0 ([x1,(IntKind.wrap .u8 ((x2.length : Int)))])).bind fun a4 =>
(ap 1 a4 x2).bind fun a13 =>
some (a13)
theorem zr8_field_ok {h : H} {σ : Stamp} (x0 : List Int) {u0 : V} {D0 : List Nat} (hu0 : OwnA D0 h (dI .u8) x0 u0) (x1 : Int) (x2 : List Int) {u2 : V} (hu2 : ∀ h',KillA D0 h h'→SlH h' (dI .u8) x2 u2) : Sim (p_zr8_field x0 x1 x2) (ev G X0 113 σ [u0,(.p (.int .u8 x1)),u2] h) (fun r s => ∃ (c0 : C),∃ (a0 : List V),OwnS c0 (dI .u8).sz r.length a0∧(dI .u8).L r a0∧KillA D0 h s.2∧s.1 = [c0]):=by
 refine .ev rfl (Sim.ext (zr8_field_entry _ _ _ _ _ _ _) ?_)
 rw [p_zr8_field]
 have S0 : Fm 16 h [] [] [] (List.replicate 16 []::h):=Fm.start0
 refine .op ((S0.low (hu2 _ (OwnA.refl hu0))).len) ?_
 refine .ci ?_
 have h1 : SlF (dI .u8) [x1,(IntKind.wrap .u8 ((x2.length : Int)))] (.fz [(.p (.int .u8 x1)),(.p (.int .u8 (IntKind.wrap .u8 ((x2.length : Int)))))] 2 1 true):=SlF.lit (cs:=[(.p (.int .u8 x1)),(.p (.int .u8 (IntKind.wrap .u8 ((x2.length : Int)))))]) (RL.cons (show (dI .u8).R x1 [(.p (.int .u8 x1))] from rfl) (RL.cons (show (dI .u8).R (IntKind.wrap .u8 ((x2.length : Int))) [(.p (.int .u8 (IntKind.wrap .u8 ((x2.length : Int)))))] from rfl) RL.nil)) rfl rfl true
 refine .op (bldS (pC rfl (pC rfl pN)) (by kernel_rfl : _ = some (vOf h1))) ?_
 refine .bd fun a4 h5 => ?_
 obtain ⟨v6,h7,H9,e10,h8,S11⟩:=S0.appA (d:=13) (e:=1) (own:=true) (σ:=(6::0::1::0::σ)) hu0 (h1.h (List.replicate 16 []::h)).y h5 rfl (by decide) (by simp) (by decide)
 refine .op (e10) ?_
 refine .bd fun a13 h14 => ?_
 obtain ⟨v15,H16,e17,S18⟩:=S11.app (i:=0) (d:=15) (e:=1) (own:=true) (σ:=(8::0::1::0::σ)) rfl (S11.low (hu2 _ h8)).y h14 rfl (by decide) (by decide) rfl
 refine .op (e17) ?_
 obtain ⟨c24,cs25,H19,e20,h22,h23,S21⟩:=S18.expOwn (i:=0) (τ:=0::1::σ) rfl rfl rfl
 exact .fin (S21.finE (Ex.st e20 Ex.nil)) ⟨c24,cs25,h22,h23,h8,rfl⟩
end
end Go.Ev
