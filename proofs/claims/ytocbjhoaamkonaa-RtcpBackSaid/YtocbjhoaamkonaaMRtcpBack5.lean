/- A part of the proof that follows: Reports are read as they were written, one behind the other; cut off they are none. -/
import Derived.Test.YtocbjhoaamkonaaMRtcpBack4
import Derived.KernelRfl
/- Lifted by lift.py: limelightlaw6_known as a plain function. -/
namespace Go.Ev
open Go.Proofs
set_option linter.unusedVariables false
set_option linter.unusedSimpArgs false
set_option maxRecDepth 100000
def p_limelightlaw6_known (k : Nat)  : Option (Bool) :=
(p_rtcp_Bytes k ([((⟨3, 1, 2, (([] : List T_api_Tuple)), (([] : List Int)), (([] : List Int)), 0, 0, 0, (([] : List Int))⟩ : T_api_Report)), ((⟨5, 0, 0, (([] : List T_api_Tuple)), ([5]), (([] : List Int)), 8000, 0, 0, (([] : List Int))⟩ : T_api_Report))])).bind fun r10 =>
(p_rtcp_Read k r10.1).bind fun r17 =>
(p_rtcp_Read k (([] : List Int))).bind fun r24 =>
(p_rtcp_Bytes k (([] : List T_api_Report))).bind fun r31 =>
(p_rtcp_Read k ([161, 206, 0, 0])).bind fun r39 =>
(bif r10.2 == 0 then (some (((r10.1.length : Int)) == 36)) else (some false)).bind fun b46 =>
(bif b46 then ((sub r10.1 0 4).bind fun a50 =>
some ((strB a50).toList == ((⟨#[129, 206, 0, 2]⟩ : ByteArray)).toList)) else (some false)).bind fun b52 =>
(bif b52 then (some (r17.2 == 0)) else (some false)).bind fun b56 =>
(bif b56 then (some (((r17.1.length : Int)) == 2)) else (some false)).bind fun b60 =>
(bif b60 then ((ix r17.1 0).bind fun a64 =>
(p_rtcp_Same k a64 ((⟨3, 1, 2, (([] : List T_api_Tuple)), (([] : List Int)), (([] : List Int)), 0, 0, 0, (([] : List Int))⟩ : T_api_Report))).bind fun r77 =>
some r77) else (some false)).bind fun b82 =>
(bif b82 then ((ix r17.1 1).bind fun a86 =>
some (a86.Rate == 8000)) else (some false)).bind fun b110 =>
(bif b110 then (some (r24.2 == 13)) else (some false)).bind fun b114 =>
(bif b114 then (some (r31.2 == 1)) else (some false)).bind fun b118 =>
(bif b118 then (some (r39.2 == 12)) else (some false)).bind fun b122 =>
(bif b122 then ((p_rtcp_Is r10.1).bind fun r126 =>
some r126) else (some false)).bind fun b131 =>
(bif b131 then ((p_rtcp_Is (([] : List Int))).bind fun r135 =>
some (!r135)) else (some false)).bind fun b140 =>
(bif b140 then ((p_rtcp_Is ([128, 96])).bind fun r145 =>
some (!r145)) else (some false)).bind fun b150 =>
(bif b150 then ((p_rtcp_Right k ((⟨0, 0, 0, (([] : List T_api_Tuple)), (([] : List Int)), (([] : List Int)), 0, 0, 0, (([] : List Int))⟩ : T_api_Report))).bind fun r154 =>
some (r154 == 12)) else (some false)).bind fun b159 =>
some (b159)
theorem limelightlaw6_known_ok (k : Nat) {h : H} {σ : Stamp}  : Sim (p_limelightlaw6_known k ) (ev G X0 20 σ [] h) (fun r s => s = ([.v (.p (.bool r))], h)) := by
  refine Sim.ev rfl (Sim.ext (limelightlaw6_known_entry _ _ _ _) ?_)
  rw [p_limelightlaw6_known]
  have S0 : Fm 105 h [] [] [] (List.replicate 105 [] :: h) := Fm.start0
  refine Sim.op (bldV (pt_cons rfl (pt_cons rfl (pt_cons rfl pt_nil))) (by kernel_rfl : _ = some (.agg [.p (.int .i64 3), .p (.int .u32 1), .p (.int .u32 2), .p (.slice none 0 0), .p (.slice none 0 0), .p (.slice none 0 0), .p (.int .u64 0), .p (.int .i64 0), .p (.int .i64 0), .p (.slice none 0 0)]))) ?_
  obtain ⟨H1, e2, S3⟩ := S0.al (d := 1) (s := (1 :: 0 :: 1 :: 0 :: σ)) (z := [(.p (.int .i64 0)), (.p (.int .u32 0)), (.p (.int .u32 0)), (.p (.slice none 0 0)), (.p (.slice none 0 0)), (.p (.slice none 0 0)), (.p (.int .u64 0)), (.p (.int .i64 0)), (.p (.int .i64 0)), (.p (.slice none 0 0))]) (by decide) rfl
  refine Sim.op (congrArg some e2) ?_
  obtain ⟨H5, e6, S7⟩ := S3.stGv (i := 0) (j := 0) (own := false) (σ := (2 :: 0 :: 1 :: 0 :: σ)) (xs := [.p (.int .i64 3), .p (.int .u32 1), .p (.int .u32 2), .p (.slice none 0 0), .p (.slice none 0 0), .p (.slice none 0 0), .p (.int .u64 0), .p (.int .i64 0), .p (.int .i64 0), .p (.slice none 0 0)]) rfl rfl (stills_cons (still_int _ _) (stills_cons (still_int _ _) (stills_cons (still_int _ _) (stills_cons (SlF.nil dT_api_Tuple).still (stills_cons (SlF.nil (dI .u32)).still (stills_cons (SlF.nil (dI .i64)).still (stills_cons (still_int _ _) (stills_cons (still_int _ _) (stills_cons (still_int _ _) (stills_cons (SlF.nil (dI .u8)).still stills_nil)))))))))) rfl rfl
  refine Sim.op (st_map e6) ?_
  refine Sim.op ((S7.atG (i := 0) rfl).ldVs (j := 0) (xs := [.p (.int .i64 3), .p (.int .u32 1), .p (.int .u32 2), .p (.slice none 0 0), .p (.slice none 0 0), .p (.slice none 0 0), .p (.int .u64 0), .p (.int .i64 0), .p (.int .i64 0), .p (.slice none 0 0)]) rfl rfl (by decide)) ?_
  have h8 : SlF (dI .u32) [5] (.fz [(.p (.int .u32 5))] 1 1 true) := SlF.lit (cs := [(.p (.int .u32 5))]) (RL.cons (show (dI .u32).R 5 [(.p (.int .u32 5))] from rfl) RL.nil) rfl rfl true
  refine Sim.op (bldS (pt_cons rfl pt_nil) (by kernel_rfl : _ = some (.fz [(.p (.int .u32 5))] 1 1 true))) ?_
  refine Sim.op (bldV (pt_cons rfl (pt_cons rfl (pt_cons h8.still.cells pt_nil))) (by kernel_rfl : _ = some (.agg [.p (.int .i64 5), .p (.int .u32 0), .p (.int .u32 0), .p (.slice none 0 0), .fz [(.p (.int .u32 5))] 1 1 true, .p (.slice none 0 0), .p (.int .u64 8000), .p (.int .i64 0), .p (.int .i64 0), .p (.slice none 0 0)]))) ?_
  have h9 : SlF dT_api_Report [((⟨3, 1, 2, (([] : List T_api_Tuple)), (([] : List Int)), (([] : List Int)), 0, 0, 0, (([] : List Int))⟩ : T_api_Report)), ((⟨5, 0, 0, (([] : List T_api_Tuple)), ([5]), (([] : List Int)), 8000, 0, 0, (([] : List Int))⟩ : T_api_Report))] (.fz [(.p (.int .i64 3)), (.p (.int .u32 1)), (.p (.int .u32 2)), (.p (.slice none 0 0)), (.p (.slice none 0 0)), (.p (.slice none 0 0)), (.p (.int .u64 0)), (.p (.int .i64 0)), (.p (.int .i64 0)), (.p (.slice none 0 0)), (.p (.int .i64 5)), (.p (.int .u32 0)), (.p (.int .u32 0)), (.p (.slice none 0 0)), (.fz [(.p (.int .u32 5))] 1 1 true), (.p (.slice none 0 0)), (.p (.int .u64 8000)), (.p (.int .i64 0)), (.p (.int .i64 0)), (.p (.slice none 0 0))] 2 10 true) := SlF.lit (cs := [(.p (.int .i64 3)), (.p (.int .u32 1)), (.p (.int .u32 2)), (.p (.slice none 0 0)), (.p (.slice none 0 0)), (.p (.slice none 0 0)), (.p (.int .u64 0)), (.p (.int .i64 0)), (.p (.int .i64 0)), (.p (.slice none 0 0)), (.p (.int .i64 5)), (.p (.int .u32 0)), (.p (.int .u32 0)), (.p (.slice none 0 0)), (.fz [(.p (.int .u32 5))] 1 1 true), (.p (.slice none 0 0)), (.p (.int .u64 8000)), (.p (.int .i64 0)), (.p (.int .i64 0)), (.p (.slice none 0 0))]) (RL.cons (show dT_api_Report.R ((⟨3, 1, 2, (([] : List T_api_Tuple)), (([] : List Int)), (([] : List Int)), 0, 0, 0, (([] : List Int))⟩ : T_api_Report)) [.p (.int .i64 3), .p (.int .u32 1), .p (.int .u32 2), .p (.slice none 0 0), .p (.slice none 0 0), .p (.slice none 0 0), .p (.int .u64 0), .p (.int .i64 0), .p (.int .i64 0), .p (.slice none 0 0)] from (dT_api_Report.mk (SlF.nil dT_api_Tuple) (SlF.nil (dI .u32)) (SlF.nil (dI .i64)) (SlF.nil (dI .u8)))) (RL.cons (show dT_api_Report.R ((⟨5, 0, 0, (([] : List T_api_Tuple)), ([5]), (([] : List Int)), 8000, 0, 0, (([] : List Int))⟩ : T_api_Report)) [.p (.int .i64 5), .p (.int .u32 0), .p (.int .u32 0), .p (.slice none 0 0), .fz [(.p (.int .u32 5))] 1 1 true, .p (.slice none 0 0), .p (.int .u64 8000), .p (.int .i64 0), .p (.int .i64 0), .p (.slice none 0 0)] from (dT_api_Report.mk (SlF.nil dT_api_Tuple) h8 (SlF.nil (dI .i64)) (SlF.nil (dI .u8)))) RL.nil)) rfl rfl true
  refine Sim.op (bldS (pt_cons (c := [.p (.int .i64 3), .p (.int .u32 1), .p (.int .u32 2), .p (.slice none 0 0), .p (.slice none 0 0), .p (.slice none 0 0), .p (.int .u64 0), .p (.int .i64 0), .p (.int .i64 0), .p (.slice none 0 0)]) rfl (pt_cons (c := [.p (.int .i64 5), .p (.int .u32 0), .p (.int .u32 0), .p (.slice none 0 0), .fz [(.p (.int .u32 5))] 1 1 true, .p (.slice none 0 0), .p (.int .u64 8000), .p (.int .i64 0), .p (.int .i64 0), .p (.slice none 0 0)]) rfl pt_nil)) (by kernel_rfl : _ = some (.fz [(.p (.int .i64 3)), (.p (.int .u32 1)), (.p (.int .u32 2)), (.p (.slice none 0 0)), (.p (.slice none 0 0)), (.p (.slice none 0 0)), (.p (.int .u64 0)), (.p (.int .i64 0)), (.p (.int .i64 0)), (.p (.slice none 0 0)), (.p (.int .i64 5)), (.p (.int .u32 0)), (.p (.int .u32 0)), (.p (.slice none 0 0)), (.fz [(.p (.int .u32 5))] 1 1 true), (.p (.slice none 0 0)), (.p (.int .u64 8000)), (.p (.int .i64 0)), (.p (.int .i64 0)), (.p (.slice none 0 0))] 2 10 true))) ?_
  erw [callFO_eq (frzAs_cons (frzA_F h9) frzAs_nil)]
  refine Sim.call (rtcp_Bytes_ok k ([((⟨3, 1, 2, (([] : List T_api_Tuple)), (([] : List Int)), (([] : List Int)), 0, 0, 0, (([] : List Int))⟩ : T_api_Report)), ((⟨5, 0, 0, (([] : List T_api_Tuple)), ([5]), (([] : List Int)), 8000, 0, 0, (([] : List Int))⟩ : T_api_Report))]) (h9.h H5)) fun r10 cs11 H12 h13 q14 => ?_
  obtain ⟨v15, h16, q14⟩ := q14
  cases q14
  refine Sim.op (rfl) ?_
  refine Sim.op (rfl) ?_
  refine Sim.op (castI_p _ _) ?_
  erw [callFO_eq (frzAs_cons (frzA_F h16) frzAs_nil)]
  refine Sim.call (rtcp_Read_ok k r10.1 h16) fun r17 cs18 H19 h20 q21 => ?_
  obtain ⟨v22, h23, q21⟩ := q21
  cases q21
  refine Sim.op (rfl) ?_
  refine Sim.op (rfl) ?_
  refine Sim.op (castI_p _ _) ?_
  erw [callFO_eq (frzAs_cons (frzA_F (SlF.nil (dI .u8))) frzAs_nil)]
  refine Sim.call (rtcp_Read_ok k (([] : List Int)) (SlF.nil (dI .u8))) fun r24 cs25 H26 h27 q28 => ?_
  obtain ⟨v29, h30, q28⟩ := q28
  cases q28
  refine Sim.op (rfl) ?_
  refine Sim.op (rfl) ?_
  refine Sim.op (castI_p _ _) ?_
  erw [callFO_eq (frzAs_cons (frzA_F (SlF.nil dT_api_Report)) frzAs_nil)]
  refine Sim.call (rtcp_Bytes_ok k (([] : List T_api_Report)) ((SlF.nil dT_api_Report).h H5)) fun r31 cs32 H33 h34 q35 => ?_
  obtain ⟨v36, h37, q35⟩ := q35
  cases q35
  refine Sim.op (rfl) ?_
  refine Sim.op (rfl) ?_
  refine Sim.op (castI_p _ _) ?_
  have h38 : SlF (dI .u8) [161, 206, 0, 0] (.fz [(.p (.int .u8 161)), (.p (.int .u8 206)), (.p (.int .u8 0)), (.p (.int .u8 0))] 4 1 true) := SlF.lit (cs := [(.p (.int .u8 161)), (.p (.int .u8 206)), (.p (.int .u8 0)), (.p (.int .u8 0))]) (RL.cons (show (dI .u8).R 161 [(.p (.int .u8 161))] from rfl) (RL.cons (show (dI .u8).R 206 [(.p (.int .u8 206))] from rfl) (RL.cons (show (dI .u8).R 0 [(.p (.int .u8 0))] from rfl) (RL.cons (show (dI .u8).R 0 [(.p (.int .u8 0))] from rfl) RL.nil)))) rfl rfl true
  refine Sim.op (bldS (pt_cons rfl (pt_cons rfl (pt_cons rfl (pt_cons rfl pt_nil)))) (by kernel_rfl : _ = some (.fz [(.p (.int .u8 161)), (.p (.int .u8 206)), (.p (.int .u8 0)), (.p (.int .u8 0))] 4 1 true))) ?_
  erw [callFO_eq (frzAs_cons (frzA_F h38) frzAs_nil)]
  refine Sim.call (rtcp_Read_ok k ([161, 206, 0, 0]) h38) fun r39 cs40 H41 h42 q43 => ?_
  obtain ⟨v44, h45, q43⟩ := q43
  cases q43
  refine Sim.op (rfl) ?_
  refine Sim.op (rfl) ?_
  refine Sim.op (castI_p _ _) ?_
  refine Sim.ch (P := fun r y => r = y) ?_ (fun b46 y47 h48 h49 => ?_)
  · refine Sim.cd (fun hc => ?_) (fun hc => ?_)
    · refine Sim.op ((h16.h H5).len) ?_
      refine Sim.op (castI_p _ _) ?_
      exact Sim.ret rfl rfl
    · exact Sim.ret rfl rfl
  subst h49
  refine Sim.ch (P := fun r y => r = y) ?_ (fun b52 y53 h54 h55 => ?_)
  · refine Sim.cd (fun hc => ?_) (fun hc => ?_)
    · refine Sim.bd fun a50 h51 => ?_
      refine Sim.op ((h16.h H5).slS h51 rfl rfl rfl) ?_
      refine Sim.op (((h16.h H5).sub h51 (e := 1) rfl).str) ?_
      refine Sim.op (castS_p _) ?_
      exact Sim.ret rfl rfl
    · exact Sim.ret rfl rfl
  subst h55
  refine Sim.ch (P := fun r y => r = y) ?_ (fun b56 y57 h58 h59 => ?_)
  · refine Sim.cd (fun hc => ?_) (fun hc => ?_)
    · exact Sim.ret rfl rfl
    · exact Sim.ret rfl rfl
  subst h59
  refine Sim.ch (P := fun r y => r = y) ?_ (fun b60 y61 h62 h63 => ?_)
  · refine Sim.cd (fun hc => ?_) (fun hc => ?_)
    · refine Sim.op ((h23.h H5).len) ?_
      refine Sim.op (castI_p _ _) ?_
      exact Sim.ret rfl rfl
    · exact Sim.ret rfl rfl
  subst h63
  refine Sim.ch (P := fun r y => (.p (.bool r), H5) = y) ?_ (fun b82 y83 h84 h85 => ?_)
  · refine Sim.cd (fun hc => ?_) (fun hc => ?_)
    · refine Sim.bd fun a64 h65 => ?_
      refine Sim.op ((h23.h H5).iS h65 rfl) ?_
      obtain ⟨w67, h68, hE66⟩ := (h23.h H5).el h65 rfl
      obtain ⟨v69, v71, v73, v75, rfl, h70, h72, h74, h76⟩ := dT_api_Report.inv h68
      refine Sim.op (hE66.all (by simp)) ?_
      refine Sim.op ((S7.atG (i := 0) rfl).ldVs (j := 0) (xs := [.p (.int .i64 3), .p (.int .u32 1), .p (.int .u32 2), .p (.slice none 0 0), .p (.slice none 0 0), .p (.slice none 0 0), .p (.int .u64 0), .p (.int .i64 0), .p (.int .i64 0), .p (.slice none 0 0)]) rfl rfl (by decide)) ?_
      refine Sim.call (rtcp_Same_ok k a64 (show dT_api_Report.R a64 [.p (.int .i64 a64.Kind), .p (.int .u32 a64.From), .p (.int .u32 a64.About), v69, v71, v73, .p (.int .u64 a64.Rate), .p (.int .i64 a64.f_Type), .p (.int .i64 a64.Count), v75] from (dT_api_Report.mk h70 h72 h74 h76)) ((⟨3, 1, 2, (([] : List T_api_Tuple)), (([] : List Int)), (([] : List Int)), 0, 0, 0, (([] : List Int))⟩ : T_api_Report)) (show dT_api_Report.R ((⟨3, 1, 2, (([] : List T_api_Tuple)), (([] : List Int)), (([] : List Int)), 0, 0, 0, (([] : List Int))⟩ : T_api_Report)) [.p (.int .i64 3), .p (.int .u32 1), .p (.int .u32 2), .p (.slice none 0 0), .p (.slice none 0 0), .p (.slice none 0 0), .p (.int .u64 0), .p (.int .i64 0), .p (.int .i64 0), .p (.slice none 0 0)] from (dT_api_Report.mk (SlF.nil dT_api_Tuple) (SlF.nil (dI .u32)) (SlF.nil (dI .i64)) (SlF.nil (dI .u8))))) fun r77 cs78 H79 h80 q81 => ?_
      cases q81
      refine Sim.op (asB_p _) ?_
      exact Sim.ret rfl rfl
    · exact Sim.ret rfl rfl
  subst h85
  refine Sim.op (asB_p _) ?_
  refine Sim.ch (P := fun r y => r = y) ?_ (fun b110 y111 h112 h113 => ?_)
  · refine Sim.cd (fun hc => ?_) (fun hc => ?_)
    · refine Sim.bd fun a86 h87 => ?_
      refine Sim.op ((h23.h H5).iS h87 rfl) ?_
      obtain ⟨w89, h90, hE88⟩ := (h23.h H5).el h87 rfl
      obtain ⟨v91, v93, v95, v97, rfl, h92, h94, h96, h98⟩ := dT_api_Report.inv h90
      refine Sim.op (hE88.fa (j := 6) (by simp)) ?_
      obtain ⟨w100, h101, hE99⟩ := (h23.h H5).el h87 rfl
      obtain ⟨v102, v104, v106, v108, rfl, h103, h105, h107, h109⟩ := dT_api_Report.inv h101
      refine Sim.op (hE99.ld (j := 6) rfl) ?_
      refine Sim.op (castI_p _ _) ?_
      exact Sim.ret rfl rfl
    · exact Sim.ret rfl rfl
  subst h113
  refine Sim.ch (P := fun r y => r = y) ?_ (fun b114 y115 h116 h117 => ?_)
  · refine Sim.cd (fun hc => ?_) (fun hc => ?_)
    · exact Sim.ret rfl rfl
    · exact Sim.ret rfl rfl
  subst h117
  refine Sim.ch (P := fun r y => r = y) ?_ (fun b118 y119 h120 h121 => ?_)
  · refine Sim.cd (fun hc => ?_) (fun hc => ?_)
    · exact Sim.ret rfl rfl
    · exact Sim.ret rfl rfl
  subst h121
  refine Sim.ch (P := fun r y => r = y) ?_ (fun b122 y123 h124 h125 => ?_)
  · refine Sim.cd (fun hc => ?_) (fun hc => ?_)
    · exact Sim.ret rfl rfl
    · exact Sim.ret rfl rfl
  subst h125
  refine Sim.ch (P := fun r y => (.p (.bool r), H5) = y) ?_ (fun b131 y132 h133 h134 => ?_)
  · refine Sim.cd (fun hc => ?_) (fun hc => ?_)
    · refine Sim.call (rtcp_Is_ok r10.1 (h16.h H5)) fun r126 cs127 H128 h129 q130 => ?_
      cases q130
      refine Sim.op (asB_p _) ?_
      exact Sim.ret rfl rfl
    · exact Sim.ret rfl rfl
  subst h134
  refine Sim.op (asB_p _) ?_
  refine Sim.ch (P := fun r y => (.p (.bool r), H5) = y) ?_ (fun b140 y141 h142 h143 => ?_)
  · refine Sim.cd (fun hc => ?_) (fun hc => ?_)
    · refine Sim.call (rtcp_Is_ok (([] : List Int)) ((SlF.nil (dI .u8)).h H5)) fun r135 cs136 H137 h138 q139 => ?_
      cases q139
      refine Sim.op (asB_p _) ?_
      exact Sim.ret rfl rfl
    · exact Sim.ret rfl rfl
  subst h143
  refine Sim.op (asB_p _) ?_
  refine Sim.ch (P := fun r y => (.p (.bool r), H5) = y) ?_ (fun b150 y151 h152 h153 => ?_)
  · refine Sim.cd (fun hc => ?_) (fun hc => ?_)
    · have h144 : SlF (dI .u8) [128, 96] (.fz [(.p (.int .u8 128)), (.p (.int .u8 96))] 2 1 true) := SlF.lit (cs := [(.p (.int .u8 128)), (.p (.int .u8 96))]) (RL.cons (show (dI .u8).R 128 [(.p (.int .u8 128))] from rfl) (RL.cons (show (dI .u8).R 96 [(.p (.int .u8 96))] from rfl) RL.nil)) rfl rfl true
      refine Sim.op (bldS (pt_cons rfl (pt_cons rfl pt_nil)) (by kernel_rfl : _ = some (.fz [(.p (.int .u8 128)), (.p (.int .u8 96))] 2 1 true))) ?_
      refine Sim.call (rtcp_Is_ok ([128, 96]) (h144.h H5)) fun r145 cs146 H147 h148 q149 => ?_
      cases q149
      refine Sim.op (asB_p _) ?_
      exact Sim.ret rfl rfl
    · exact Sim.ret rfl rfl
  subst h153
  refine Sim.op (asB_p _) ?_
  refine Sim.ch (P := fun r y => (.p (.bool r), H5) = y) ?_ (fun b159 y160 h161 h162 => ?_)
  · refine Sim.cd (fun hc => ?_) (fun hc => ?_)
    · refine Sim.op (bldV pt_nil (by kernel_rfl : _ = some (.agg [.p (.int .i64 0), .p (.int .u32 0), .p (.int .u32 0), .p (.slice none 0 0), .p (.slice none 0 0), .p (.slice none 0 0), .p (.int .u64 0), .p (.int .i64 0), .p (.int .i64 0), .p (.slice none 0 0)]))) ?_
      refine Sim.call (rtcp_Right_ok k ((⟨0, 0, 0, (([] : List T_api_Tuple)), (([] : List Int)), (([] : List Int)), 0, 0, 0, (([] : List Int))⟩ : T_api_Report)) (show dT_api_Report.R ((⟨0, 0, 0, (([] : List T_api_Tuple)), (([] : List Int)), (([] : List Int)), 0, 0, 0, (([] : List Int))⟩ : T_api_Report)) [.p (.int .i64 0), .p (.int .u32 0), .p (.int .u32 0), .p (.slice none 0 0), .p (.slice none 0 0), .p (.slice none 0 0), .p (.int .u64 0), .p (.int .i64 0), .p (.int .i64 0), .p (.slice none 0 0)] from (dT_api_Report.mk (SlF.nil dT_api_Tuple) (SlF.nil (dI .u32)) (SlF.nil (dI .i64)) (SlF.nil (dI .u8))))) fun r154 cs155 H156 h157 q158 => ?_
      cases q158
      refine Sim.op (castI_p _ _) ?_
      exact Sim.ret rfl rfl
    · exact Sim.ret rfl rfl
  subst h162
  refine Sim.op (asB_p _) ?_
  exact Sim.fin (S7.finN (lv_cons (still_bool _).lv lv_nil)) rfl
end Go.Ev
namespace Go.Ev
set_option maxRecDepth 100000
end Go.Ev
/- Equations, printed by tracer2.py. -/
namespace Go.Ev
open Go.Proofs
set_option linter.unusedVariables false
set_option maxRecDepth 100000
-- 5 limelight/limelightlaw6.RtcpBack
theorem limelightlaw6_RtcpBack_entry (rec : CallF) (loop : LoopV) (σ : Stamp) (x0 : V) (x1 : Int) (h : H) : cvBody G rec loop 5 σ [x0, (.p (.int .i64 x1))] h =
 (buildV Try.prog 26 [(0, x0)]).bind fun t1 =>
 (boxO false (2 :: 0 :: 1 :: 0 :: σ) 18 (List.replicate 115 [] :: h) t1).bind fun q2 =>
 (callO rec 15 (1 :: 0 :: 1 :: 1 :: 0 :: σ) [q2.1] q2.2 (some 20)).bind fun q3 =>
 (callO rec 15 (3 :: 0 :: 1 :: 1 :: 0 :: σ) [q2.1] q3.2 (some 22)).bind fun q4 =>
 (buildSliceV Try.prog 36 2 [(0, q3.1), (1, q4.1)]).bind fun t5 =>
 (callFO rec 24 (1 :: 0 :: 1 :: 1 :: 1 :: 0 :: σ) [t5] q4.2 (some 26)).bind fun q6 =>
 (extV q6.1 0).bind fun t7 =>
 (extV q6.1 1).bind fun t8 =>
 (castI .i64 t8).bind fun n9 =>
 (callFO rec 25 (1 :: 0 :: 1 :: 1 :: 1 :: 1 :: 0 :: σ) [t7] q6.2 (some 31)).bind fun q10 =>
 (extV q10.1 0).bind fun t11 =>
 (extV q10.1 1).bind fun t12 =>
 (castI .i64 t12).bind fun n13 =>
 (slS 10 t5 none (some 1) none).bind fun t14 =>
 (callFO rec 24 (2 :: 0 :: 1 :: 1 :: 1 :: 1 :: 1 :: 0 :: σ) [t14] q10.2 (some 37)).bind fun q15 =>
 (extV q15.1 0).bind fun t16 =>
 (extV q15.1 1).bind fun t17 =>
 (castI .i64 t17).bind fun n18 =>
 (bif n9 != 0 then (some true) else (some (n13 != 0))).bind fun b19 =>
 (bif b19 then (some true) else (some (n18 != 0))).bind fun b20 =>
 (bif b20 then (some ((.p (.bool true)), q15.2)) else ((callO rec 26 (13 :: 0 :: 0 :: 1 :: 1 :: 1 :: 1 :: 1 :: 1 :: 0 :: σ) [t5, t11] q15.2 (some 53)).bind fun q21 =>
 (asB q21.1).bind fun b22 =>
 some ((.p (.bool (!b22))), q21.2))).bind fun q23 =>
 (asB q23.1).bind fun b24 =>
 (bif b24 then (some true) else ((lenO t7).bind fun t25 =>
 (castI .i64 t25).bind fun n26 =>
 some ((Int.tmod n26 4) != 0))).bind fun b27 =>
 (bif b27 then (some true) else ((lenO t16).bind fun t28 =>
 (castI .i64 t28).bind fun n29 =>
 (lenO t7).bind fun t30 =>
 (castI .i64 t30).bind fun n31 =>
 some (decide (n29 ≥ n31)))).bind fun b32 =>
 (bif b32 then (some true) else ((lenO t16).bind fun t33 =>
 (castI .i64 t33).bind fun n34 =>
 (slS 1 t7 none (some n34) none).bind fun t35 =>
 (strO q23.2 t35).bind fun t36 =>
 (castS t36).bind fun s37 =>
 (strO q23.2 t16).bind fun t38 =>
 (castS t38).bind fun s39 =>
 some (!(s37.toList == s39.toList)))).bind fun b40 =>
 bif b40 then (
 fin false σ q23.2 [(.p (.bool false))])
 else (
 (lenO t7).bind fun t41 =>
 (castI .i64 t41).bind fun n42 =>
 (callO rec 21 (4 :: 0 :: 1 :: 1 :: 1 :: 1 :: 1 :: 1 :: 1 :: 0 :: σ) [(.p (.int .i64 x1)), (.p (.int .i64 0)), (.p (.int .i64 (IntKind.wrap .i64 (n42 - 1))))] q23.2 (some 83)).bind fun q43 =>
 (castI .i64 q43.1).bind fun n44 =>
 (slS 1 t7 none (some n44) none).bind fun t45 =>
 (callFO rec 25 (3 :: 0 :: 1 :: 1 :: 1 :: 1 :: 1 :: 1 :: 1 :: 1 :: 0 :: σ) [t45] q43.2 (some 88)).bind fun q46 =>
 (extV q46.1 0).bind fun t47 =>
 (extV q46.1 1).bind fun t48 =>
 (castI .i64 t48).bind fun n49 =>
 (lenO t16).bind fun t50 =>
 (castI .i64 t50).bind fun n51 =>
 bif n44 == n51 then (
 (bif n49 == 0 then ((lenO t47).bind fun t52 =>
 (castI .i64 t52).bind fun n53 =>
 some (n53 == 1)) else (some false)).bind fun b54 =>
 (bif b54 then ((callO rec 20 (8 :: 0 :: 1 :: 0 :: 1 :: 1 :: 1 :: 1 :: 1 :: 1 :: 1 :: 1 :: 1 :: 0 :: σ) [] q46.2 (some 103)).bind fun q55 =>
 (asB q55.1).bind fun b56 =>
 some ((.p (.bool b56)), q55.2)) else (some ((.p (.bool false)), q46.2))).bind fun q57 =>
 (asB q57.1).bind fun b58 =>
 fin false σ q57.2 [(.p (.bool b58))])
 else (
 (bif n49 == 13 then ((lenO t47).bind fun t59 =>
 (castI .i64 t59).bind fun n60 =>
 some (n60 == 0)) else (some false)).bind fun b61 =>
 (bif b61 then ((callO rec 20 (8 :: 0 :: 1 :: 1 :: 1 :: 1 :: 1 :: 1 :: 1 :: 1 :: 1 :: 1 :: 0 :: σ) [] q46.2 (some 113)).bind fun q62 =>
 (asB q62.1).bind fun b63 =>
 some ((.p (.bool b63)), q62.2)) else (some ((.p (.bool false)), q46.2))).bind fun q64 =>
 (asB q64.1).bind fun b65 =>
 fin false σ q64.2 [(.p (.bool b65))])) := by kernel_rfl
end Go.Ev
/- Lifted by lift.py: limelightlaw6_RtcpBack as a plain function. -/
namespace Go.Ev
open Go.Proofs
set_option linter.unusedVariables false
set_option linter.unusedSimpArgs false
set_option maxRecDepth 100000
def p_limelightlaw6_RtcpBack (k : Nat) (x0 : (List Int)) (x1 : Int) : Option (Bool) :=
(p_limelightkeep_Tape_Report k (⟨x0, 0⟩ : T_limelightkeep_Tape)).bind fun r5 =>
(p_limelightkeep_Tape_Report k r5.2).bind fun r23 =>
(p_rtcp_Bytes k ([r5.1, r23.1])).bind fun r42 =>
(p_rtcp_Read k r42.1).bind fun r49 =>
(sub ([r5.1, r23.1]) 0 1).bind fun a56 =>
(p_rtcp_Bytes k a56).bind fun r58 =>
(bif r42.2 != 0 then (some true) else (some (r49.2 != 0))).bind fun b65 =>
(bif b65 then (some true) else (some (r58.2 != 0))).bind fun b69 =>
(bif b69 then (some true) else ((p_limelightref6_All k ([r5.1, r23.1]) r49.1).bind fun r73 =>
some (!r73))).bind fun b78 =>
(bif b78 then (some true) else (some ((Int.tmod ((r42.1.length : Int)) 4) != 0))).bind fun b82 =>
(bif b82 then (some true) else (some (decide (((r58.1.length : Int)) ≥ ((r42.1.length : Int)))))).bind fun b86 =>
(bif b86 then (some true) else ((sub r42.1 0 ((r58.1.length : Int))).bind fun a90 =>
some (!((strB a90).toList == (strB r58.1).toList)))).bind fun b92 =>
bif b92 then (
some (false))
else (
(p_limelightbook_Within x1 0 (IntKind.wrap .i64 (((r42.1.length : Int)) - 1))).bind fun r97 =>
(sub r42.1 0 r97).bind fun a102 =>
(p_rtcp_Read k a102).bind fun r104 =>
bif r97 == ((r58.1.length : Int)) then (
(bif r104.2 == 0 then (some (((r104.1.length : Int)) == 1)) else (some false)).bind fun b112 =>
(bif b112 then ((p_limelightlaw6_known k).bind fun r116 =>
some r116) else (some false)).bind fun b121 =>
some (b121))
else (
(bif r104.2 == 13 then (some (((r104.1.length : Int)) == 0)) else (some false)).bind fun b125 =>
(bif b125 then ((p_limelightlaw6_known k).bind fun r129 =>
some r129) else (some false)).bind fun b134 =>
some (b134)))
theorem limelightlaw6_RtcpBack_ok (k : Nat) {h : H} {σ : Stamp} (x0 : List Int) {u0 : V} (hu0 : SlF (dI .i64) x0 u0) (x1 : Int) : Sim (p_limelightlaw6_RtcpBack k x0 x1) (ev G X0 5 σ [u0, (.p (.int .i64 x1))] h) (fun r s => s = ([.v (.p (.bool r))], h)) := by
  refine Sim.ev rfl (Sim.ext (limelightlaw6_RtcpBack_entry _ _ _ _ _ _) ?_)
  rw [p_limelightlaw6_RtcpBack]
  have S0 : Fm 115 h [] [] [] (List.replicate 115 [] :: h) := Fm.start0
  refine Sim.op (bldV (pt_cons hu0.still.cells pt_nil) (by kernel_rfl : _ = some (.agg [u0, .p (.int .i64 0)]))) ?_
  obtain ⟨H1, e2, S3⟩ := S0.box (own := false) (d := 18) (s := (2 :: 0 :: 1 :: 0 :: σ)) (xs := [u0, .p (.int .i64 0)]) (stills_cons hu0.still (stills_cons (still_int _ _) stills_nil)) (by decide) rfl
  refine Sim.op (e2) ?_
  refine Sim.call (limelightkeep_Tape_Report_ok k (⟨x0, 0⟩ : T_limelightkeep_Tape) hu0 (S3.atG (i := 0) rfl)) fun r5 cs6 H7 h8 q9 => ?_
  obtain ⟨w10, v12, h11, h13, q9⟩ := q9
  cases q9
  obtain ⟨v15, v17, v19, v21, rfl, h16, h18, h20, h22⟩ := dT_api_Report.inv h11
  have S14 := S3.setG (i := 0) (cs' := List.map C.v [v12, (.p (.int .i64 r5.2.f_At))]) rfl rfl rfl
  refine Sim.call (limelightkeep_Tape_Report_ok k r5.2 h13 (S14.atG (i := 0) rfl)) fun r23 cs24 H25 h26 q27 => ?_
  obtain ⟨w28, v30, h29, h31, q27⟩ := q27
  cases q27
  obtain ⟨v33, v35, v37, v39, rfl, h34, h36, h38, h40⟩ := dT_api_Report.inv h29
  have S32 := S14.setG (i := 0) (cs' := List.map C.v [v30, (.p (.int .i64 r23.2.f_At))]) rfl rfl rfl
  have h41 : SlF dT_api_Report [r5.1, r23.1] (.fz [(.p (.int .i64 r5.1.Kind)), (.p (.int .u32 r5.1.From)), (.p (.int .u32 r5.1.About)), v15, v17, v19, (.p (.int .u64 r5.1.Rate)), (.p (.int .i64 r5.1.f_Type)), (.p (.int .i64 r5.1.Count)), v21, (.p (.int .i64 r23.1.Kind)), (.p (.int .u32 r23.1.From)), (.p (.int .u32 r23.1.About)), v33, v35, v37, (.p (.int .u64 r23.1.Rate)), (.p (.int .i64 r23.1.f_Type)), (.p (.int .i64 r23.1.Count)), v39] 2 10 true) := SlF.lit (cs := [(.p (.int .i64 r5.1.Kind)), (.p (.int .u32 r5.1.From)), (.p (.int .u32 r5.1.About)), v15, v17, v19, (.p (.int .u64 r5.1.Rate)), (.p (.int .i64 r5.1.f_Type)), (.p (.int .i64 r5.1.Count)), v21, (.p (.int .i64 r23.1.Kind)), (.p (.int .u32 r23.1.From)), (.p (.int .u32 r23.1.About)), v33, v35, v37, (.p (.int .u64 r23.1.Rate)), (.p (.int .i64 r23.1.f_Type)), (.p (.int .i64 r23.1.Count)), v39]) (RL.cons (show dT_api_Report.R r5.1 [(.p (.int .i64 r5.1.Kind)), (.p (.int .u32 r5.1.From)), (.p (.int .u32 r5.1.About)), v15, v17, v19, (.p (.int .u64 r5.1.Rate)), (.p (.int .i64 r5.1.f_Type)), (.p (.int .i64 r5.1.Count)), v21] from h11) (RL.cons (show dT_api_Report.R r23.1 [(.p (.int .i64 r23.1.Kind)), (.p (.int .u32 r23.1.From)), (.p (.int .u32 r23.1.About)), v33, v35, v37, (.p (.int .u64 r23.1.Rate)), (.p (.int .i64 r23.1.f_Type)), (.p (.int .i64 r23.1.Count)), v39] from h29) RL.nil)) rfl rfl true
  refine Sim.op (bldS (pt_cons (c := [(.p (.int .i64 r5.1.Kind)), (.p (.int .u32 r5.1.From)), (.p (.int .u32 r5.1.About)), v15, v17, v19, (.p (.int .u64 r5.1.Rate)), (.p (.int .i64 r5.1.f_Type)), (.p (.int .i64 r5.1.Count)), v21]) rfl (pt_cons (c := [(.p (.int .i64 r23.1.Kind)), (.p (.int .u32 r23.1.From)), (.p (.int .u32 r23.1.About)), v33, v35, v37, (.p (.int .u64 r23.1.Rate)), (.p (.int .i64 r23.1.f_Type)), (.p (.int .i64 r23.1.Count)), v39]) rfl pt_nil)) (by kernel_rfl : _ = some (.fz [(.p (.int .i64 r5.1.Kind)), (.p (.int .u32 r5.1.From)), (.p (.int .u32 r5.1.About)), v15, v17, v19, (.p (.int .u64 r5.1.Rate)), (.p (.int .i64 r5.1.f_Type)), (.p (.int .i64 r5.1.Count)), v21, (.p (.int .i64 r23.1.Kind)), (.p (.int .u32 r23.1.From)), (.p (.int .u32 r23.1.About)), v33, v35, v37, (.p (.int .u64 r23.1.Rate)), (.p (.int .i64 r23.1.f_Type)), (.p (.int .i64 r23.1.Count)), v39] 2 10 true))) ?_
  erw [callFO_eq (frzAs_cons (frzA_F h41) frzAs_nil)]
  refine Sim.call (rtcp_Bytes_ok k ([r5.1, r23.1]) (h41.h (ptC (ptC H1 ⟨h.length, 18, 0, (2 :: 0 :: 1 :: 0 :: σ), []⟩ 0 (List.map C.v [v12, (.p (.int .i64 r5.2.f_At))])) ⟨h.length, 18, 0, (2 :: 0 :: 1 :: 0 :: σ), []⟩ 0 (List.map C.v [v30, (.p (.int .i64 r23.2.f_At))])))) fun r42 cs43 H44 h45 q46 => ?_
  obtain ⟨v47, h48, q46⟩ := q46
  cases q46
  refine Sim.op (rfl) ?_
  refine Sim.op (rfl) ?_
  refine Sim.op (castI_p _ _) ?_
  erw [callFO_eq (frzAs_cons (frzA_F h48) frzAs_nil)]
  refine Sim.call (rtcp_Read_ok k r42.1 h48) fun r49 cs50 H51 h52 q53 => ?_
  obtain ⟨v54, h55, q53⟩ := q53
  cases q53
  refine Sim.op (rfl) ?_
  refine Sim.op (rfl) ?_
  refine Sim.op (castI_p _ _) ?_
  refine Sim.bd fun a56 h57 => ?_
  refine Sim.op ((h41.h (ptC (ptC H1 ⟨h.length, 18, 0, (2 :: 0 :: 1 :: 0 :: σ), []⟩ 0 (List.map C.v [v12, (.p (.int .i64 r5.2.f_At))])) ⟨h.length, 18, 0, (2 :: 0 :: 1 :: 0 :: σ), []⟩ 0 (List.map C.v [v30, (.p (.int .i64 r23.2.f_At))]))).slS h57 rfl rfl rfl) ?_
  erw [callFO_eq (frzAs_cons (frzA_F (h41.sub h57 (e := 10) rfl)) frzAs_nil)]
  refine Sim.call (rtcp_Bytes_ok k a56 ((h41.h (ptC (ptC H1 ⟨h.length, 18, 0, (2 :: 0 :: 1 :: 0 :: σ), []⟩ 0 (List.map C.v [v12, (.p (.int .i64 r5.2.f_At))])) ⟨h.length, 18, 0, (2 :: 0 :: 1 :: 0 :: σ), []⟩ 0 (List.map C.v [v30, (.p (.int .i64 r23.2.f_At))]))).sub h57 (e := 10) rfl)) fun r58 cs59 H60 h61 q62 => ?_
  obtain ⟨v63, h64, q62⟩ := q62
  cases q62
  refine Sim.op (rfl) ?_
  refine Sim.op (rfl) ?_
  refine Sim.op (castI_p _ _) ?_
  refine Sim.ch (P := fun r y => r = y) ?_ (fun b65 y66 h67 h68 => ?_)
  · refine Sim.cd (fun hc => ?_) (fun hc => ?_)
    · exact Sim.ret rfl rfl
    · exact Sim.ret rfl rfl
  subst h68
  refine Sim.ch (P := fun r y => r = y) ?_ (fun b69 y70 h71 h72 => ?_)
  · refine Sim.cd (fun hc => ?_) (fun hc => ?_)
    · exact Sim.ret rfl rfl
    · exact Sim.ret rfl rfl
  subst h72
  refine Sim.ch (P := fun r y => (.p (.bool r), (ptC (ptC H1 ⟨h.length, 18, 0, (2 :: 0 :: 1 :: 0 :: σ), []⟩ 0 (List.map C.v [v12, (.p (.int .i64 r5.2.f_At))])) ⟨h.length, 18, 0, (2 :: 0 :: 1 :: 0 :: σ), []⟩ 0 (List.map C.v [v30, (.p (.int .i64 r23.2.f_At))]))) = y) ?_ (fun b78 y79 h80 h81 => ?_)
  · refine Sim.cd (fun hc => ?_) (fun hc => ?_)
    · exact Sim.ret rfl rfl
    · refine Sim.call (limelightref6_All_ok k ([r5.1, r23.1]) (h41.h (ptC (ptC H1 ⟨h.length, 18, 0, (2 :: 0 :: 1 :: 0 :: σ), []⟩ 0 (List.map C.v [v12, (.p (.int .i64 r5.2.f_At))])) ⟨h.length, 18, 0, (2 :: 0 :: 1 :: 0 :: σ), []⟩ 0 (List.map C.v [v30, (.p (.int .i64 r23.2.f_At))]))) r49.1 (h55.h (ptC (ptC H1 ⟨h.length, 18, 0, (2 :: 0 :: 1 :: 0 :: σ), []⟩ 0 (List.map C.v [v12, (.p (.int .i64 r5.2.f_At))])) ⟨h.length, 18, 0, (2 :: 0 :: 1 :: 0 :: σ), []⟩ 0 (List.map C.v [v30, (.p (.int .i64 r23.2.f_At))])))) fun r73 cs74 H75 h76 q77 => ?_
      cases q77
      refine Sim.op (asB_p _) ?_
      exact Sim.ret rfl rfl
  subst h81
  refine Sim.op (asB_p _) ?_
  refine Sim.ch (P := fun r y => r = y) ?_ (fun b82 y83 h84 h85 => ?_)
  · refine Sim.cd (fun hc => ?_) (fun hc => ?_)
    · exact Sim.ret rfl rfl
    · refine Sim.op ((h48.h (ptC (ptC H1 ⟨h.length, 18, 0, (2 :: 0 :: 1 :: 0 :: σ), []⟩ 0 (List.map C.v [v12, (.p (.int .i64 r5.2.f_At))])) ⟨h.length, 18, 0, (2 :: 0 :: 1 :: 0 :: σ), []⟩ 0 (List.map C.v [v30, (.p (.int .i64 r23.2.f_At))]))).len) ?_
      refine Sim.op (castI_p _ _) ?_
      exact Sim.ret rfl rfl
  subst h85
  refine Sim.ch (P := fun r y => r = y) ?_ (fun b86 y87 h88 h89 => ?_)
  · refine Sim.cd (fun hc => ?_) (fun hc => ?_)
    · exact Sim.ret rfl rfl
    · refine Sim.op ((h64.h (ptC (ptC H1 ⟨h.length, 18, 0, (2 :: 0 :: 1 :: 0 :: σ), []⟩ 0 (List.map C.v [v12, (.p (.int .i64 r5.2.f_At))])) ⟨h.length, 18, 0, (2 :: 0 :: 1 :: 0 :: σ), []⟩ 0 (List.map C.v [v30, (.p (.int .i64 r23.2.f_At))]))).len) ?_
      refine Sim.op (castI_p _ _) ?_
      refine Sim.op ((h48.h (ptC (ptC H1 ⟨h.length, 18, 0, (2 :: 0 :: 1 :: 0 :: σ), []⟩ 0 (List.map C.v [v12, (.p (.int .i64 r5.2.f_At))])) ⟨h.length, 18, 0, (2 :: 0 :: 1 :: 0 :: σ), []⟩ 0 (List.map C.v [v30, (.p (.int .i64 r23.2.f_At))]))).len) ?_
      refine Sim.op (castI_p _ _) ?_
      exact Sim.ret rfl rfl
  subst h89
  refine Sim.ch (P := fun r y => r = y) ?_ (fun b92 y93 h94 h95 => ?_)
  · refine Sim.cd (fun hc => ?_) (fun hc => ?_)
    · exact Sim.ret rfl rfl
    · refine Sim.op ((h64.h (ptC (ptC H1 ⟨h.length, 18, 0, (2 :: 0 :: 1 :: 0 :: σ), []⟩ 0 (List.map C.v [v12, (.p (.int .i64 r5.2.f_At))])) ⟨h.length, 18, 0, (2 :: 0 :: 1 :: 0 :: σ), []⟩ 0 (List.map C.v [v30, (.p (.int .i64 r23.2.f_At))]))).len) ?_
      refine Sim.op (castI_p _ _) ?_
      refine Sim.bd fun a90 h91 => ?_
      refine Sim.op ((h48.h (ptC (ptC H1 ⟨h.length, 18, 0, (2 :: 0 :: 1 :: 0 :: σ), []⟩ 0 (List.map C.v [v12, (.p (.int .i64 r5.2.f_At))])) ⟨h.length, 18, 0, (2 :: 0 :: 1 :: 0 :: σ), []⟩ 0 (List.map C.v [v30, (.p (.int .i64 r23.2.f_At))]))).slS h91 rfl rfl rfl) ?_
      refine Sim.op (((h48.h (ptC (ptC H1 ⟨h.length, 18, 0, (2 :: 0 :: 1 :: 0 :: σ), []⟩ 0 (List.map C.v [v12, (.p (.int .i64 r5.2.f_At))])) ⟨h.length, 18, 0, (2 :: 0 :: 1 :: 0 :: σ), []⟩ 0 (List.map C.v [v30, (.p (.int .i64 r23.2.f_At))]))).sub h91 (e := 1) rfl).str) ?_
      refine Sim.op (castS_p _) ?_
      refine Sim.op ((h64.h (ptC (ptC H1 ⟨h.length, 18, 0, (2 :: 0 :: 1 :: 0 :: σ), []⟩ 0 (List.map C.v [v12, (.p (.int .i64 r5.2.f_At))])) ⟨h.length, 18, 0, (2 :: 0 :: 1 :: 0 :: σ), []⟩ 0 (List.map C.v [v30, (.p (.int .i64 r23.2.f_At))]))).str) ?_
      refine Sim.op (castS_p _) ?_
      exact Sim.ret rfl rfl
  subst h95
  refine Sim.cd (fun hc96 => ?_) (fun hc96 => ?_)
  · exact Sim.fin (S32.finN (lv_cons (still_bool _).lv lv_nil)) rfl
  refine Sim.op ((h48.h (ptC (ptC H1 ⟨h.length, 18, 0, (2 :: 0 :: 1 :: 0 :: σ), []⟩ 0 (List.map C.v [v12, (.p (.int .i64 r5.2.f_At))])) ⟨h.length, 18, 0, (2 :: 0 :: 1 :: 0 :: σ), []⟩ 0 (List.map C.v [v30, (.p (.int .i64 r23.2.f_At))]))).len) ?_
  refine Sim.op (castI_p _ _) ?_
  refine Sim.call (limelightbook_Within_ok x1 0 (IntKind.wrap .i64 (((r42.1.length : Int)) - 1))) fun r97 cs98 H99 h100 q101 => ?_
  cases q101
  refine Sim.op (castI_p _ _) ?_
  refine Sim.bd fun a102 h103 => ?_
  refine Sim.op ((h48.h (ptC (ptC H1 ⟨h.length, 18, 0, (2 :: 0 :: 1 :: 0 :: σ), []⟩ 0 (List.map C.v [v12, (.p (.int .i64 r5.2.f_At))])) ⟨h.length, 18, 0, (2 :: 0 :: 1 :: 0 :: σ), []⟩ 0 (List.map C.v [v30, (.p (.int .i64 r23.2.f_At))]))).slS h103 rfl rfl rfl) ?_
  erw [callFO_eq (frzAs_cons (frzA_F (h48.sub h103 (e := 1) rfl)) frzAs_nil)]
  refine Sim.call (rtcp_Read_ok k a102 (h48.sub h103 (e := 1) rfl)) fun r104 cs105 H106 h107 q108 => ?_
  obtain ⟨v109, h110, q108⟩ := q108
  cases q108
  refine Sim.op (rfl) ?_
  refine Sim.op (rfl) ?_
  refine Sim.op (castI_p _ _) ?_
  refine Sim.op ((h64.h (ptC (ptC H1 ⟨h.length, 18, 0, (2 :: 0 :: 1 :: 0 :: σ), []⟩ 0 (List.map C.v [v12, (.p (.int .i64 r5.2.f_At))])) ⟨h.length, 18, 0, (2 :: 0 :: 1 :: 0 :: σ), []⟩ 0 (List.map C.v [v30, (.p (.int .i64 r23.2.f_At))]))).len) ?_
  refine Sim.op (castI_p _ _) ?_
  refine Sim.cd (fun hc111 => ?_) (fun hc111 => ?_)
  · refine Sim.ch (P := fun r y => r = y) ?_ (fun b112 y113 h114 h115 => ?_)
    · refine Sim.cd (fun hc => ?_) (fun hc => ?_)
      · refine Sim.op ((h110.h (ptC (ptC H1 ⟨h.length, 18, 0, (2 :: 0 :: 1 :: 0 :: σ), []⟩ 0 (List.map C.v [v12, (.p (.int .i64 r5.2.f_At))])) ⟨h.length, 18, 0, (2 :: 0 :: 1 :: 0 :: σ), []⟩ 0 (List.map C.v [v30, (.p (.int .i64 r23.2.f_At))]))).len) ?_
        refine Sim.op (castI_p _ _) ?_
        exact Sim.ret rfl rfl
      · exact Sim.ret rfl rfl
    subst h115
    refine Sim.ch (P := fun r y => (.p (.bool r), (ptC (ptC H1 ⟨h.length, 18, 0, (2 :: 0 :: 1 :: 0 :: σ), []⟩ 0 (List.map C.v [v12, (.p (.int .i64 r5.2.f_At))])) ⟨h.length, 18, 0, (2 :: 0 :: 1 :: 0 :: σ), []⟩ 0 (List.map C.v [v30, (.p (.int .i64 r23.2.f_At))]))) = y) ?_ (fun b121 y122 h123 h124 => ?_)
    · refine Sim.cd (fun hc => ?_) (fun hc => ?_)
      · refine Sim.call (limelightlaw6_known_ok k ) fun r116 cs117 H118 h119 q120 => ?_
        cases q120
        refine Sim.op (asB_p _) ?_
        exact Sim.ret rfl rfl
      · exact Sim.ret rfl rfl
    subst h124
    refine Sim.op (asB_p _) ?_
    exact Sim.fin (S32.finN (lv_cons (still_bool _).lv lv_nil)) rfl
  refine Sim.ch (P := fun r y => r = y) ?_ (fun b125 y126 h127 h128 => ?_)
  · refine Sim.cd (fun hc => ?_) (fun hc => ?_)
    · refine Sim.op ((h110.h (ptC (ptC H1 ⟨h.length, 18, 0, (2 :: 0 :: 1 :: 0 :: σ), []⟩ 0 (List.map C.v [v12, (.p (.int .i64 r5.2.f_At))])) ⟨h.length, 18, 0, (2 :: 0 :: 1 :: 0 :: σ), []⟩ 0 (List.map C.v [v30, (.p (.int .i64 r23.2.f_At))]))).len) ?_
      refine Sim.op (castI_p _ _) ?_
      exact Sim.ret rfl rfl
    · exact Sim.ret rfl rfl
  subst h128
  refine Sim.ch (P := fun r y => (.p (.bool r), (ptC (ptC H1 ⟨h.length, 18, 0, (2 :: 0 :: 1 :: 0 :: σ), []⟩ 0 (List.map C.v [v12, (.p (.int .i64 r5.2.f_At))])) ⟨h.length, 18, 0, (2 :: 0 :: 1 :: 0 :: σ), []⟩ 0 (List.map C.v [v30, (.p (.int .i64 r23.2.f_At))]))) = y) ?_ (fun b134 y135 h136 h137 => ?_)
  · refine Sim.cd (fun hc => ?_) (fun hc => ?_)
    · refine Sim.call (limelightlaw6_known_ok k ) fun r129 cs130 H131 h132 q133 => ?_
      cases q133
      refine Sim.op (asB_p _) ?_
      exact Sim.ret rfl rfl
    · exact Sim.ret rfl rfl
  subst h137
  refine Sim.op (asB_p _) ?_
  exact Sim.fin (S32.finN (lv_cons (still_bool _).lv lv_nil)) rfl
end Go.Ev
/- Equations, printed by tracer2.py. -/
namespace Go.Ev
open Go.Proofs
set_option linter.unusedVariables false
set_option maxRecDepth 100000
-- 7 limelight/limelightlaw6.RtcpApart
end Go.Ev
/- Lifted by lift.py: limelightlaw6_RtcpApart as a plain function. -/
namespace Go.Ev
open Go.Proofs
set_option linter.unusedVariables false
set_option linter.unusedSimpArgs false
set_option maxRecDepth 100000
end Go.Ev
namespace Go.Ev
set_option maxRecDepth 100000
set_option linter.unusedSimpArgs false
theorem all_self {k : Nat} (hk : 1010 ≤ k) {s t : SR} (hs : okS s) (ht : okS t) : p_limelightref6_All k [rep s, rep t] [rep s, rep t] = some true := by
  obtain ⟨j, rfl⟩ : ∃ j, k = j + 3 := ⟨k - 3, by omega⟩
  obtain ⟨v, hv, e1⟩ := sameS (k := j + 2) (by omega) hs hs
  obtain rfl : v = true := hv.2 rfl
  obtain ⟨v, hv, e2⟩ := sameS (k := j + 1) (by omega) ht ht
  obtain rfl : v = true := hv.2 rfl
  have l2 : ((([rep s, rep t] : List T_api_Report).length : Nat) : Int) = 2 := rfl
  have i0 : ix [rep s, rep t] 0 = some (rep s) := rfl
  have i1 : ix [rep s, rep t] 1 = some (rep t) := rfl
  unfold p_limelightref6_All
  rw [l2, bne_self_eq_false, cond_false, p_limelightref6_All_l0, show decide ((0 : Int) < 2) = true from rfl, cond_true, i0, Option.bind_some, Option.bind_some, e1, Option.bind_some, Bool.not_true, cond_false, show IntKind.wrap .i64 (0 + 1) = 1 from rfl]
  rw [p_limelightref6_All_l0, show decide ((1 : Int) < 2) = true from rfl, cond_true, i1, Option.bind_some, Option.bind_some, e2, Option.bind_some, Bool.not_true, cond_false, show IntKind.wrap .i64 (1 + 1) = 2 from rfl]
  rw [p_limelightref6_All_l0, show decide ((2 : Int) < 2) = false from rfl, cond_false]
theorem known6' : p_limelightlaw6_known 1100 = some true := by kernel_rfl
theorem rtcpBack_true (x0 : List Int) (h0 : x0.length < 2 ^ 50) (x1 : Int) : p_limelightlaw6_RtcpBack 1100 x0 x1 = some true := by
  unfold p_limelightlaw6_RtcpBack
  obtain ⟨s, t1, ea, hs, hsw, ht1⟩ := tape_report (t := ⟨x0, 0⟩) (k := 1100) ⟨by simp, by simp, h0⟩ (by decide)
  obtain ⟨t, t2, eb, ht, htw, _⟩ := tape_report ht1 (k := 1100) (by decide)
  have hbs := bodyLen hs
  have hls := bytS_len s
  have hbt := bodyLen ht
  have hlt := bytS_len t
  have h2 : ∀ x ∈ [s, t], okS x ∧ okW x := fun x hx => by
    rcases List.mem_cons.1 hx with rfl | hx
    · exact ⟨hs, hsw⟩
    · rw [List.mem_singleton] at hx
      subst hx
      exact ⟨ht, htw⟩
  have h1 : ∀ x ∈ [s], okS x ∧ okW x := fun x hx => by
    rw [List.mem_singleton] at hx
    subst hx
    exact ⟨hs, hsw⟩
  have b2 : p_rtcp_Bytes 1100 [rep s, rep t] = some (bytS s ++ bytS t, 0) := by
    have := bytes_okR (k := 1100) (by decide) h2 (Nat.le_add_left 1 1) (Nat.le_succ 2)
    rwa [List.flatMap_cons, List.flatMap_cons, List.flatMap_nil, List.append_nil] at this
  have b1 : p_rtcp_Bytes 1100 [rep s] = some (bytS s, 0) := by
    have := bytes_okR (k := 1100) (by decide) h1 (Nat.le_refl 1) (Nat.le_add_left 1 2)
    rwa [List.flatMap_cons, List.flatMap_nil, List.append_nil] at this
  have r2 : p_rtcp_Read 1100 (bytS s ++ bytS t) = some ([rep s, rep t], 0) := by
    have := read_all (k := 1100) (by decide) (fun x hx => (h2 x hx).1) (Nat.le_add_left 1 1) (Nat.le_add_left 2 4)
    rwa [List.flatMap_cons, List.flatMap_cons, List.flatMap_nil, List.append_nil] at this
  have r1 : p_rtcp_Read 1100 (bytS s) = some ([rep s], 0) := by
    have := read_all (k := 1100) (by decide) (fun x hx => (h1 x hx).1) (Nat.le_refl 1) (Nat.le_add_left 1 5)
    rwa [List.flatMap_cons, List.flatMap_nil, List.append_nil] at this
  have hlen : (bytS s ++ bytS t).length = (bytS s).length + (bytS t).length := List.length_append
  have hsub1 : sub [rep s, rep t] 0 1 = some [rep s] := rfl
  have hm4 : (Int.tmod (((bytS s ++ bytS t).length : Nat) : Int) 4 != 0) = false := by
    rw [show Int.tmod (((bytS s ++ bytS t).length : Nat) : Int) 4 = (((bytS s ++ bytS t).length % 4 : Nat) : Int) from rfl, bne_eq_false_iff_eq]
    omega
  have dge : decide (((bytS s).length : Int) ≥ ((bytS s ++ bytS t).length : Int)) = false := decide_eq_false (by omega)
  have hsub2 : sub (bytS s ++ bytS t) 0 ((bytS s).length : Int) = some (bytS s) := by
    have := sub_eq (xs := bytS s ++ bytS t) (a := 0) (n := (bytS s).length) (by omega)
    rw [Nat.zero_add, List.drop_zero, List.take_left] at this
    exact this
  have w1 : IntKind.wrap .i64 (((bytS s ++ bytS t).length : Int) - 1) = (((bytS s ++ bytS t).length - 1 : Nat) : Int) := by rw [wrap_i64 (by omega) (by omega)]; omega
  obtain ⟨q, hq, q0, q1⟩ := within_lo (x := x1) (hi := (((bytS s ++ bytS t).length - 1 : Nat) : Int)) (by omega) (by omega)
  obtain ⟨m, rfl⟩ : ∃ m : Nat, q = m := ⟨q.toNat, by omega⟩
  have hsub3 : sub (bytS s ++ bytS t) 0 (m : Int) = some ((bytS s ++ bytS t).take m) := by
    have := sub_eq (xs := bytS s ++ bytS t) (a := 0) (n := m) (by omega)
    rw [Nat.zero_add, List.drop_zero] at this
    exact this
  have ast := all_self (k := 1100) (by decide) hs ht
  erw [ea, Option.bind_some, eb, Option.bind_some]
  simp only [b2, r2, hsub1, b1, Option.bind_some, bne_self_eq_false, cond_false, ast, Bool.not_true, hm4, dge, hsub2, beq_self_eq_true, w1, hq, hsub3]
  by_cases hm : m = (bytS s).length
  · subst hm
    rw [List.take_left, r1]
    simp only [Option.bind_some, beq_self_eq_true, cond_true, List.length_singleton, Int.natCast_one, known6']
  · have dm : ((m : Int) == ((bytS s).length : Int)) = false := by rw [beq_eq_false_iff_ne]; omega
    have r3 : p_rtcp_Read 1100 ((bytS s ++ bytS t).take m) = some ([], 13) := by
      by_cases hlt2 : m < (bytS s).length
      · exact read_cut (k := 1100) (by decide) (L := []) (fun x hx => by cases hx) (Nat.zero_le 5) hs hlt2 (fun h => absurd rfl h) (by rw [List.flatMap_nil, List.nil_append, List.take_append_of_le_length (by omega)])
      · exact read_cut (k := 1100) (by decide) (L := [s]) (fun x hx => (h1 x hx).1) (Nat.le_add_left 1 4) ht (m := m - (bytS s).length) (by omega) (fun _ => by omega) (by rw [List.flatMap_cons, List.flatMap_nil, List.append_nil, List.take_append, List.take_of_length_le (by omega)])
    rw [r3]
    simp only [Option.bind_some, dm, cond_false, beq_self_eq_true, cond_true, List.length_nil, Int.natCast_zero, known6']
theorem rtcpBack_ev (a0 : (DT.slice 8 (.int .i64)).D) (a1 : (DT.int .i64).D) (w0 : (DT.slice 8 (.int .i64)).ok a0) (_ : (DT.int .i64).ok a1) :
    ev G X0 5 [] [(DT.slice 8 (.int .i64)).val a0, (DT.int .i64).val a1] [] = some ([.v (bV true)], []) := by
  have hl : (Option.getD a0 []).length < 2 ^ 50 := by
    cases a0 with
    | none => exact Nat.two_pow_pos 50
    | some l =>
      have := w0.1
      have hr : reachBytes ≤ 140737488355328 := by decide
      have e : (Option.getD (some l) []).length = l.length := rfl
      omega
  obtain ⟨_, h1, rfl⟩ := limelightlaw6_RtcpBack_ok 1100 (h := []) (σ := []) (Option.getD a0 []) (slF_ints a0) a1 _ (rtcpBack_true _ hl a1)
  exact h1
end Go.Ev
