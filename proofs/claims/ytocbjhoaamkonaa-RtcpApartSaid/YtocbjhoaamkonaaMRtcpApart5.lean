/- A part of the proof that follows: Reports that are not the same have not the same bytes; each is right alone, as in a row. -/
import Derived.Test.YtocbjhoaamkonaaMRtcpApart4
/- Lifted by lift.py: limelightlaw6_RtcpApart as a plain function. -/
namespace Go.Ev
open Go.Proofs
set_option linter.unusedVariables false
set_option linter.unusedSimpArgs false
set_option maxRecDepth 100000
def p_limelightlaw6_RtcpApart (k : Nat) (x0 : (List Int)) (x1 : (List Int)) : Option (Bool) :=
(p_limelightkeep_Tape_Report k (⟨x0, 0⟩ : T_limelightkeep_Tape)).bind fun r5 =>
(p_limelightkeep_Tape_Report k (⟨x1, 0⟩ : T_limelightkeep_Tape)).bind fun r27 =>
(p_rtcp_Bytes k ([r5.1])).bind fun r60 =>
(p_rtcp_Bytes k ([r27.1])).bind fun r68 =>
(p_rtcp_Bytes k ([r5.1, r27.1])).bind fun r76 =>
(bif r60.2 == 0 then (some (r68.2 == 0)) else (some false)).bind fun b83 =>
(bif b83 then (some (r76.2 == 0)) else (some false)).bind fun b87 =>
(bif b87 then ((p_limelightref6_Same k r5.1 r27.1).bind fun r91 =>
some (((strB r60.1).toList == (strB r68.1).toList) == r91)) else (some false)).bind fun b96 =>
(bif b96 then ((addS (strB r60.1) (strB r68.1)).bind fun s100 =>
some ((strB r76.1).toList == s100.toList)) else (some false)).bind fun b102 =>
(bif b102 then ((p_rtcp_Right k r5.1).bind fun r106 =>
some (r106 == 0)) else (some false)).bind fun b111 =>
(bif b111 then ((p_rtcp_Is r60.1).bind fun r115 =>
some r115) else (some false)).bind fun b120 =>
(bif b120 then ((p_limelightlaw6_known k).bind fun r124 =>
some r124) else (some false)).bind fun b129 =>
some (b129)
theorem limelightlaw6_RtcpApart_ok (k : Nat) {h : H} {σ : Stamp} (x0 : List Int) {u0 : V} (hu0 : SlF (dI .i64) x0 u0) (x1 : List Int) {u1 : V} (hu1 : SlF (dI .i64) x1 u1) : Sim (p_limelightlaw6_RtcpApart k x0 x1) (ev G X0 7 σ [u0, u1] h) (fun r s => s = ([.v (.p (.bool r))], h)) := by
  refine Sim.ev rfl (Sim.ext (limelightlaw6_RtcpApart_entry _ _ _ _ _ _) ?_)
  rw [p_limelightlaw6_RtcpApart]
  have S0 : Fm 83 h [] [] [] (List.replicate 83 [] :: h) := Fm.start0
  refine Sim.op (bldV (pt_cons hu0.still.cells pt_nil) (by kernel_rfl : _ = some (.agg [u0, .p (.int .i64 0)]))) ?_
  obtain ⟨H1, e2, S3⟩ := S0.box (own := false) (d := 15) (s := (2 :: 0 :: 1 :: 0 :: σ)) (xs := [u0, .p (.int .i64 0)]) (stills_cons hu0.still (stills_cons (still_int _ _) stills_nil)) (by decide) rfl
  refine Sim.op (e2) ?_
  refine Sim.call (limelightkeep_Tape_Report_ok k (⟨x0, 0⟩ : T_limelightkeep_Tape) hu0 (S3.atG (i := 0) rfl)) fun r5 cs6 H7 h8 q9 => ?_
  obtain ⟨w10, v12, h11, h13, q9⟩ := q9
  cases q9
  obtain ⟨v15, v17, v19, v21, rfl, h16, h18, h20, h22⟩ := dT_api_Report.inv h11
  have S14 := S3.setG (i := 0) (cs' := List.map C.v [v12, (.p (.int .i64 r5.2.f_At))]) rfl rfl rfl
  refine Sim.op (bldV (pt_cons hu1.still.cells pt_nil) (by kernel_rfl : _ = some (.agg [u1, .p (.int .i64 0)]))) ?_
  obtain ⟨H23, e24, S25⟩ := S14.box (own := false) (d := 19) (s := (6 :: 0 :: 1 :: 0 :: σ)) (xs := [u1, .p (.int .i64 0)]) (stills_cons hu1.still (stills_cons (still_int _ _) stills_nil)) (by decide) rfl
  refine Sim.op (e24) ?_
  refine Sim.call (limelightkeep_Tape_Report_ok k (⟨x1, 0⟩ : T_limelightkeep_Tape) hu1 (S25.atG (i := 0) rfl)) fun r27 cs28 H29 h30 q31 => ?_
  obtain ⟨w32, v34, h33, h35, q31⟩ := q31
  cases q31
  obtain ⟨v37, v39, v41, v43, rfl, h38, h40, h42, h44⟩ := dT_api_Report.inv h33
  have S36 := S25.setG (i := 0) (cs' := List.map C.v [v34, (.p (.int .i64 r27.2.f_At))]) rfl rfl rfl
  obtain ⟨H45, e46, S47⟩ := S36.al (d := 5) (s := (8 :: 0 :: 1 :: 0 :: σ)) (z := [(.p (.int .i64 0)), (.p (.int .u32 0)), (.p (.int .u32 0)), (.p (.slice none 0 0)), (.p (.slice none 0 0)), (.p (.slice none 0 0)), (.p (.int .u64 0)), (.p (.int .i64 0)), (.p (.int .i64 0)), (.p (.slice none 0 0))]) (by decide) rfl
  refine Sim.op (congrArg some e46) ?_
  obtain ⟨H49, e50, S51⟩ := S47.al (d := 6) (s := (9 :: 0 :: 1 :: 0 :: σ)) (z := [(.p (.int .i64 0)), (.p (.int .u32 0)), (.p (.int .u32 0)), (.p (.slice none 0 0)), (.p (.slice none 0 0)), (.p (.slice none 0 0)), (.p (.int .u64 0)), (.p (.int .i64 0)), (.p (.int .i64 0)), (.p (.slice none 0 0))]) (by decide) rfl
  refine Sim.op (congrArg some e50) ?_
  obtain ⟨H53, e54, S55⟩ := S51.stGv (i := 1) (j := 0) (own := false) (σ := (10 :: 0 :: 1 :: 0 :: σ)) (xs := [(.p (.int .i64 r5.1.Kind)), (.p (.int .u32 r5.1.From)), (.p (.int .u32 r5.1.About)), v15, v17, v19, (.p (.int .u64 r5.1.Rate)), (.p (.int .i64 r5.1.f_Type)), (.p (.int .i64 r5.1.Count)), v21]) rfl rfl (stills_cons (still_int _ _) (stills_cons (still_int _ _) (stills_cons (still_int _ _) (stills_cons h16.still (stills_cons h18.still (stills_cons h20.still (stills_cons (still_int _ _) (stills_cons (still_int _ _) (stills_cons (still_int _ _) (stills_cons h22.still stills_nil)))))))))) rfl rfl
  refine Sim.op (st_map e54) ?_
  obtain ⟨H56, e57, S58⟩ := S55.stGv (i := 0) (j := 0) (own := false) (σ := (11 :: 0 :: 1 :: 0 :: σ)) (xs := [(.p (.int .i64 r27.1.Kind)), (.p (.int .u32 r27.1.From)), (.p (.int .u32 r27.1.About)), v37, v39, v41, (.p (.int .u64 r27.1.Rate)), (.p (.int .i64 r27.1.f_Type)), (.p (.int .i64 r27.1.Count)), v43]) rfl rfl (stills_cons (still_int _ _) (stills_cons (still_int _ _) (stills_cons (still_int _ _) (stills_cons h38.still (stills_cons h40.still (stills_cons h42.still (stills_cons (still_int _ _) (stills_cons (still_int _ _) (stills_cons (still_int _ _) (stills_cons h44.still stills_nil)))))))))) rfl rfl
  refine Sim.op (st_map e57) ?_
  refine Sim.op ((S58.atG (i := 1) rfl).ldVs (j := 0) (xs := [.p (.int .i64 r5.1.Kind), .p (.int .u32 r5.1.From), .p (.int .u32 r5.1.About), v15, v17, v19, .p (.int .u64 r5.1.Rate), .p (.int .i64 r5.1.f_Type), .p (.int .i64 r5.1.Count), v21]) rfl rfl (by decide)) ?_
  have h59 : SlF dT_api_Report [r5.1] (.fz [(.p (.int .i64 r5.1.Kind)), (.p (.int .u32 r5.1.From)), (.p (.int .u32 r5.1.About)), v15, v17, v19, (.p (.int .u64 r5.1.Rate)), (.p (.int .i64 r5.1.f_Type)), (.p (.int .i64 r5.1.Count)), v21] 1 10 true) := SlF.lit (cs := [(.p (.int .i64 r5.1.Kind)), (.p (.int .u32 r5.1.From)), (.p (.int .u32 r5.1.About)), v15, v17, v19, (.p (.int .u64 r5.1.Rate)), (.p (.int .i64 r5.1.f_Type)), (.p (.int .i64 r5.1.Count)), v21]) (RL.cons (show dT_api_Report.R r5.1 [.p (.int .i64 r5.1.Kind), .p (.int .u32 r5.1.From), .p (.int .u32 r5.1.About), v15, v17, v19, .p (.int .u64 r5.1.Rate), .p (.int .i64 r5.1.f_Type), .p (.int .i64 r5.1.Count), v21] from (dT_api_Report.mk h16 h18 h20 h22)) RL.nil) rfl rfl true
  refine Sim.op (bldS (pt_cons (c := [.p (.int .i64 r5.1.Kind), .p (.int .u32 r5.1.From), .p (.int .u32 r5.1.About), v15, v17, v19, .p (.int .u64 r5.1.Rate), .p (.int .i64 r5.1.f_Type), .p (.int .i64 r5.1.Count), v21]) rfl pt_nil) (by kernel_rfl : _ = some (.fz [(.p (.int .i64 r5.1.Kind)), (.p (.int .u32 r5.1.From)), (.p (.int .u32 r5.1.About)), v15, v17, v19, (.p (.int .u64 r5.1.Rate)), (.p (.int .i64 r5.1.f_Type)), (.p (.int .i64 r5.1.Count)), v21] 1 10 true))) ?_
  erw [callFO_eq (frzAs_cons (frzA_F h59) frzAs_nil)]
  refine Sim.call (rtcp_Bytes_ok k ([r5.1]) (h59.h H56)) fun r60 cs61 H62 h63 q64 => ?_
  obtain ⟨v65, h66, q64⟩ := q64
  cases q64
  refine Sim.op (rfl) ?_
  refine Sim.op (rfl) ?_
  refine Sim.op (castI_p _ _) ?_
  refine Sim.op ((S58.atG (i := 0) rfl).ldVs (j := 0) (xs := [.p (.int .i64 r27.1.Kind), .p (.int .u32 r27.1.From), .p (.int .u32 r27.1.About), v37, v39, v41, .p (.int .u64 r27.1.Rate), .p (.int .i64 r27.1.f_Type), .p (.int .i64 r27.1.Count), v43]) rfl rfl (by decide)) ?_
  have h67 : SlF dT_api_Report [r27.1] (.fz [(.p (.int .i64 r27.1.Kind)), (.p (.int .u32 r27.1.From)), (.p (.int .u32 r27.1.About)), v37, v39, v41, (.p (.int .u64 r27.1.Rate)), (.p (.int .i64 r27.1.f_Type)), (.p (.int .i64 r27.1.Count)), v43] 1 10 true) := SlF.lit (cs := [(.p (.int .i64 r27.1.Kind)), (.p (.int .u32 r27.1.From)), (.p (.int .u32 r27.1.About)), v37, v39, v41, (.p (.int .u64 r27.1.Rate)), (.p (.int .i64 r27.1.f_Type)), (.p (.int .i64 r27.1.Count)), v43]) (RL.cons (show dT_api_Report.R r27.1 [.p (.int .i64 r27.1.Kind), .p (.int .u32 r27.1.From), .p (.int .u32 r27.1.About), v37, v39, v41, .p (.int .u64 r27.1.Rate), .p (.int .i64 r27.1.f_Type), .p (.int .i64 r27.1.Count), v43] from (dT_api_Report.mk h38 h40 h42 h44)) RL.nil) rfl rfl true
  refine Sim.op (bldS (pt_cons (c := [.p (.int .i64 r27.1.Kind), .p (.int .u32 r27.1.From), .p (.int .u32 r27.1.About), v37, v39, v41, .p (.int .u64 r27.1.Rate), .p (.int .i64 r27.1.f_Type), .p (.int .i64 r27.1.Count), v43]) rfl pt_nil) (by kernel_rfl : _ = some (.fz [(.p (.int .i64 r27.1.Kind)), (.p (.int .u32 r27.1.From)), (.p (.int .u32 r27.1.About)), v37, v39, v41, (.p (.int .u64 r27.1.Rate)), (.p (.int .i64 r27.1.f_Type)), (.p (.int .i64 r27.1.Count)), v43] 1 10 true))) ?_
  erw [callFO_eq (frzAs_cons (frzA_F h67) frzAs_nil)]
  refine Sim.call (rtcp_Bytes_ok k ([r27.1]) (h67.h H56)) fun r68 cs69 H70 h71 q72 => ?_
  obtain ⟨v73, h74, q72⟩ := q72
  cases q72
  refine Sim.op (rfl) ?_
  refine Sim.op (rfl) ?_
  refine Sim.op (castI_p _ _) ?_
  refine Sim.op ((S58.atG (i := 1) rfl).ldVs (j := 0) (xs := [.p (.int .i64 r5.1.Kind), .p (.int .u32 r5.1.From), .p (.int .u32 r5.1.About), v15, v17, v19, .p (.int .u64 r5.1.Rate), .p (.int .i64 r5.1.f_Type), .p (.int .i64 r5.1.Count), v21]) rfl rfl (by decide)) ?_
  refine Sim.op ((S58.atG (i := 0) rfl).ldVs (j := 0) (xs := [.p (.int .i64 r27.1.Kind), .p (.int .u32 r27.1.From), .p (.int .u32 r27.1.About), v37, v39, v41, .p (.int .u64 r27.1.Rate), .p (.int .i64 r27.1.f_Type), .p (.int .i64 r27.1.Count), v43]) rfl rfl (by decide)) ?_
  have h75 : SlF dT_api_Report [r5.1, r27.1] (.fz [(.p (.int .i64 r5.1.Kind)), (.p (.int .u32 r5.1.From)), (.p (.int .u32 r5.1.About)), v15, v17, v19, (.p (.int .u64 r5.1.Rate)), (.p (.int .i64 r5.1.f_Type)), (.p (.int .i64 r5.1.Count)), v21, (.p (.int .i64 r27.1.Kind)), (.p (.int .u32 r27.1.From)), (.p (.int .u32 r27.1.About)), v37, v39, v41, (.p (.int .u64 r27.1.Rate)), (.p (.int .i64 r27.1.f_Type)), (.p (.int .i64 r27.1.Count)), v43] 2 10 true) := SlF.lit (cs := [(.p (.int .i64 r5.1.Kind)), (.p (.int .u32 r5.1.From)), (.p (.int .u32 r5.1.About)), v15, v17, v19, (.p (.int .u64 r5.1.Rate)), (.p (.int .i64 r5.1.f_Type)), (.p (.int .i64 r5.1.Count)), v21, (.p (.int .i64 r27.1.Kind)), (.p (.int .u32 r27.1.From)), (.p (.int .u32 r27.1.About)), v37, v39, v41, (.p (.int .u64 r27.1.Rate)), (.p (.int .i64 r27.1.f_Type)), (.p (.int .i64 r27.1.Count)), v43]) (RL.cons (show dT_api_Report.R r5.1 [.p (.int .i64 r5.1.Kind), .p (.int .u32 r5.1.From), .p (.int .u32 r5.1.About), v15, v17, v19, .p (.int .u64 r5.1.Rate), .p (.int .i64 r5.1.f_Type), .p (.int .i64 r5.1.Count), v21] from (dT_api_Report.mk h16 h18 h20 h22)) (RL.cons (show dT_api_Report.R r27.1 [.p (.int .i64 r27.1.Kind), .p (.int .u32 r27.1.From), .p (.int .u32 r27.1.About), v37, v39, v41, .p (.int .u64 r27.1.Rate), .p (.int .i64 r27.1.f_Type), .p (.int .i64 r27.1.Count), v43] from (dT_api_Report.mk h38 h40 h42 h44)) RL.nil)) rfl rfl true
  refine Sim.op (bldS (pt_cons (c := [.p (.int .i64 r5.1.Kind), .p (.int .u32 r5.1.From), .p (.int .u32 r5.1.About), v15, v17, v19, .p (.int .u64 r5.1.Rate), .p (.int .i64 r5.1.f_Type), .p (.int .i64 r5.1.Count), v21]) rfl (pt_cons (c := [.p (.int .i64 r27.1.Kind), .p (.int .u32 r27.1.From), .p (.int .u32 r27.1.About), v37, v39, v41, .p (.int .u64 r27.1.Rate), .p (.int .i64 r27.1.f_Type), .p (.int .i64 r27.1.Count), v43]) rfl pt_nil)) (by kernel_rfl : _ = some (.fz [(.p (.int .i64 r5.1.Kind)), (.p (.int .u32 r5.1.From)), (.p (.int .u32 r5.1.About)), v15, v17, v19, (.p (.int .u64 r5.1.Rate)), (.p (.int .i64 r5.1.f_Type)), (.p (.int .i64 r5.1.Count)), v21, (.p (.int .i64 r27.1.Kind)), (.p (.int .u32 r27.1.From)), (.p (.int .u32 r27.1.About)), v37, v39, v41, (.p (.int .u64 r27.1.Rate)), (.p (.int .i64 r27.1.f_Type)), (.p (.int .i64 r27.1.Count)), v43] 2 10 true))) ?_
  erw [callFO_eq (frzAs_cons (frzA_F h75) frzAs_nil)]
  refine Sim.call (rtcp_Bytes_ok k ([r5.1, r27.1]) (h75.h H56)) fun r76 cs77 H78 h79 q80 => ?_
  obtain ⟨v81, h82, q80⟩ := q80
  cases q80
  refine Sim.op (rfl) ?_
  refine Sim.op (rfl) ?_
  refine Sim.op (castI_p _ _) ?_
  refine Sim.ch (P := fun r y => r = y) ?_ (fun b83 y84 h85 h86 => ?_)
  · refine Sim.cd (fun hc => ?_) (fun hc => ?_)
    · exact Sim.ret rfl rfl
    · exact Sim.ret rfl rfl
  subst h86
  refine Sim.ch (P := fun r y => r = y) ?_ (fun b87 y88 h89 h90 => ?_)
  · refine Sim.cd (fun hc => ?_) (fun hc => ?_)
    · exact Sim.ret rfl rfl
    · exact Sim.ret rfl rfl
  subst h90
  refine Sim.ch (P := fun r y => (.p (.bool r), H56) = y) ?_ (fun b96 y97 h98 h99 => ?_)
  · refine Sim.cd (fun hc => ?_) (fun hc => ?_)
    · refine Sim.op ((h66.h H56).str) ?_
      refine Sim.op (castS_p _) ?_
      refine Sim.op ((h74.h H56).str) ?_
      refine Sim.op (castS_p _) ?_
      refine Sim.op ((S58.atG (i := 1) rfl).ldVs (j := 0) (xs := [.p (.int .i64 r5.1.Kind), .p (.int .u32 r5.1.From), .p (.int .u32 r5.1.About), v15, v17, v19, .p (.int .u64 r5.1.Rate), .p (.int .i64 r5.1.f_Type), .p (.int .i64 r5.1.Count), v21]) rfl rfl (by decide)) ?_
      refine Sim.op ((S58.atG (i := 0) rfl).ldVs (j := 0) (xs := [.p (.int .i64 r27.1.Kind), .p (.int .u32 r27.1.From), .p (.int .u32 r27.1.About), v37, v39, v41, .p (.int .u64 r27.1.Rate), .p (.int .i64 r27.1.f_Type), .p (.int .i64 r27.1.Count), v43]) rfl rfl (by decide)) ?_
      refine Sim.call (limelightref6_Same_ok k r5.1 (show dT_api_Report.R r5.1 [.p (.int .i64 r5.1.Kind), .p (.int .u32 r5.1.From), .p (.int .u32 r5.1.About), v15, v17, v19, .p (.int .u64 r5.1.Rate), .p (.int .i64 r5.1.f_Type), .p (.int .i64 r5.1.Count), v21] from (dT_api_Report.mk h16 h18 h20 h22)) r27.1 (show dT_api_Report.R r27.1 [.p (.int .i64 r27.1.Kind), .p (.int .u32 r27.1.From), .p (.int .u32 r27.1.About), v37, v39, v41, .p (.int .u64 r27.1.Rate), .p (.int .i64 r27.1.f_Type), .p (.int .i64 r27.1.Count), v43] from (dT_api_Report.mk h38 h40 h42 h44))) fun r91 cs92 H93 h94 q95 => ?_
      cases q95
      refine Sim.op (asB_p _) ?_
      refine Sim.nd (rfl) ?_
      refine Sim.nd ((h74.h H56).str) ?_
      refine Sim.nd ((h66.h H56).str) ?_
      exact Sim.ret rfl rfl
    · exact Sim.ret rfl rfl
  subst h99
  refine Sim.op (asB_p _) ?_
  refine Sim.ch (P := fun r y => r = y) ?_ (fun b102 y103 h104 h105 => ?_)
  · refine Sim.cd (fun hc => ?_) (fun hc => ?_)
    · refine Sim.op ((h82.h H56).str) ?_
      refine Sim.op (castS_p _) ?_
      refine Sim.op ((h66.h H56).str) ?_
      refine Sim.op (castS_p _) ?_
      refine Sim.op ((h74.h H56).str) ?_
      refine Sim.op (castS_p _) ?_
      refine Sim.bd fun s100 h101 => ?_
      refine Sim.op (addS_ok h101) ?_
      refine Sim.op (castS_p _) ?_
      exact Sim.ret rfl rfl
    · exact Sim.ret rfl rfl
  subst h105
  refine Sim.ch (P := fun r y => (.p (.bool r), H56) = y) ?_ (fun b111 y112 h113 h114 => ?_)
  · refine Sim.cd (fun hc => ?_) (fun hc => ?_)
    · refine Sim.op ((S58.atG (i := 1) rfl).ldVs (j := 0) (xs := [.p (.int .i64 r5.1.Kind), .p (.int .u32 r5.1.From), .p (.int .u32 r5.1.About), v15, v17, v19, .p (.int .u64 r5.1.Rate), .p (.int .i64 r5.1.f_Type), .p (.int .i64 r5.1.Count), v21]) rfl rfl (by decide)) ?_
      refine Sim.call (rtcp_Right_ok k r5.1 (show dT_api_Report.R r5.1 [.p (.int .i64 r5.1.Kind), .p (.int .u32 r5.1.From), .p (.int .u32 r5.1.About), v15, v17, v19, .p (.int .u64 r5.1.Rate), .p (.int .i64 r5.1.f_Type), .p (.int .i64 r5.1.Count), v21] from (dT_api_Report.mk h16 h18 h20 h22))) fun r106 cs107 H108 h109 q110 => ?_
      cases q110
      refine Sim.op (castI_p _ _) ?_
      exact Sim.ret rfl rfl
    · exact Sim.ret rfl rfl
  subst h114
  refine Sim.op (asB_p _) ?_
  refine Sim.ch (P := fun r y => (.p (.bool r), H56) = y) ?_ (fun b120 y121 h122 h123 => ?_)
  · refine Sim.cd (fun hc => ?_) (fun hc => ?_)
    · refine Sim.call (rtcp_Is_ok r60.1 (h66.h H56)) fun r115 cs116 H117 h118 q119 => ?_
      cases q119
      refine Sim.op (asB_p _) ?_
      exact Sim.ret rfl rfl
    · exact Sim.ret rfl rfl
  subst h123
  refine Sim.op (asB_p _) ?_
  refine Sim.ch (P := fun r y => (.p (.bool r), H56) = y) ?_ (fun b129 y130 h131 h132 => ?_)
  · refine Sim.cd (fun hc => ?_) (fun hc => ?_)
    · refine Sim.call (limelightlaw6_known_ok k ) fun r124 cs125 H126 h127 q128 => ?_
      cases q128
      refine Sim.op (asB_p _) ?_
      exact Sim.ret rfl rfl
    · exact Sim.ret rfl rfl
  subst h132
  refine Sim.op (asB_p _) ?_
  exact Sim.fin (S58.finN (lv_cons (still_bool _).lv lv_nil)) rfl
end Go.Ev
namespace Go.Ev
set_option maxRecDepth 100000
set_option linter.unusedSimpArgs false
theorem known6' : p_limelightlaw6_known 1100 = some true := by kernel_rfl
theorem rtcpApart_true (x0 x1 : List Int) (h0 : x0.length < 2 ^ 50) (h1 : x1.length < 2 ^ 50) : p_limelightlaw6_RtcpApart 1100 x0 x1 = some true := by
  unfold p_limelightlaw6_RtcpApart
  obtain ⟨s, t1, ea, hs, hsw, _⟩ := tape_report (t := ⟨x0, 0⟩) (k := 1100) ⟨by simp, by simp, h0⟩ (by decide)
  obtain ⟨t, t2, eb, ht, htw, _⟩ := tape_report (t := ⟨x1, 0⟩) (k := 1100) ⟨by simp, by simp, h1⟩ (by decide)
  have hbs := bodyLen hs
  have hls := bytS_len s
  have hbt := bodyLen ht
  have hlt := bytS_len t
  have h2 : ∀ x ∈ [s, t], okS x ∧ okW x := fun x hx => by
    rcases List.mem_cons.1 hx with rfl | hx
    · exact ⟨hs, hsw⟩
    · rw [List.mem_singleton] at hx
      subst hx
      exact ⟨ht, htw⟩
  have b2 : p_rtcp_Bytes 1100 [rep s, rep t] = some (bytS s ++ bytS t, 0) := by
    have := bytes_okR (k := 1100) (by decide) h2 (Nat.le_add_left 1 1) (Nat.le_succ 2)
    rwa [List.flatMap_cons, List.flatMap_cons, List.flatMap_nil, List.append_nil] at this
  have b1 : ∀ x, okS x → okW x → p_rtcp_Bytes 1100 [rep x] = some (bytS x, 0) := fun x hx hw => by
    have := bytes_okR (k := 1100) (by decide) (L := [x]) (fun y hy => by rw [List.mem_singleton] at hy; subst hy; exact ⟨hx, hw⟩) (Nat.le_refl 1) (Nat.le_add_left 1 2)
    rwa [List.flatMap_cons, List.flatMap_nil, List.append_nil] at this
  obtain ⟨v, hv, es⟩ := sameS (k := 1100) (by decide) hs ht
  have hstr : ((strB (bytS s)).toList == (strB (bytS t)).toList) = v := by
    rw [Bool.eq_iff_iff, bt_inj, hv]
    constructor
    · intro h
      refine bytS_inj hs ht ?_
      rw [← bytesS_strB (bytS_isB hs), h, bytesS_strB (bytS_isB ht)]
    · intro h
      have p := b1 s hs hsw
      rw [h, b1 t ht htw] at p
      simp only [Option.some.injEq, Prod.mk.injEq, and_true] at p
      rw [p]
  have hsz : ∀ x : List Int, (strB x).size = x.length := fun x => by
    show (((x.map fun n => UInt8.ofNat n.toNat).toArray).size) = x.length
    simp
  have hadd : addS (strB (bytS s)) (strB (bytS t)) = some (strB (bytS s ++ bytS t)) := by
    unfold addS
    rw [if_neg (by rw [hsz, hsz]; omega)]
    congr 1
    refine bt_inj.1 ?_
    rw [bta, bta, ByteArray.data_append]
    simp [strB]
  have rg := right_okR (k := 1100) (by decide) hs hsw
  have is : p_rtcp_Is (bytS s) = some true := by
    have hty := typ_le hs
    have i1 : ix (bytS s) 1 = some (typ s : Int) := by rw [bytS]; rfl
    have d1 : decide (((bytS s).length : Int) ≥ 2) = true := decide_eq_true (by omega)
    have d2 : decide ((typ s : Int) ≥ 192) = true := decide_eq_true (by omega)
    have d3 : decide ((typ s : Int) ≤ 223) = true := decide_eq_true (by omega)
    unfold p_rtcp_Is
    simp only [d1, cond_true, i1, Option.bind_some, d2, d3]
  rw [ea, Option.bind_some, eb, Option.bind_some]
  simp only [rep_eta, b1 s hs hsw, b1 t ht htw, b2, es, Option.bind_some, beq_self_eq_true, cond_true, hstr, hadd, rg, is, known6']
theorem rtcpApart_ev (a0 a1 : (DT.slice 8 (.int .i64)).D) (w0 : (DT.slice 8 (.int .i64)).ok a0) (w1 : (DT.slice 8 (.int .i64)).ok a1) :
    ev G X0 7 [] [(DT.slice 8 (.int .i64)).val a0, (DT.slice 8 (.int .i64)).val a1] [] = some ([.v (bV true)], []) := by
  have hl : ∀ x : (DT.slice 8 (.int .i64)).D, (DT.slice 8 (.int .i64)).ok x → (Option.getD x []).length < 2 ^ 50 := fun x w => by
    cases x with
    | none => exact Nat.two_pow_pos 50
    | some l =>
      have := w.1
      have hr : reachBytes ≤ 140737488355328 := by decide
      have e : (Option.getD (some l) []).length = l.length := rfl
      omega
  obtain ⟨_, h1, rfl⟩ := limelightlaw6_RtcpApart_ok 1100 (h := []) (σ := []) (Option.getD a0 []) (slF_ints a0) (Option.getD a1 []) (slF_ints a1) _ (rtcpApart_true _ _ (hl _ w0) (hl _ w1))
  exact h1
end Go.Ev
