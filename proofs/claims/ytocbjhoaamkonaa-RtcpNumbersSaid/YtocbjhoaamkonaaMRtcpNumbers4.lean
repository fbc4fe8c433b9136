/- A part of the proof that follows: Chapter 6's runs: reports of sixty tapes, each thing of them turned; bytes cut off, each byte turned; reports of each type and count. -/
import Derived.Test.YtocbjhoaamkonaaMRtcpNumbers3
namespace Go.Ev
open Go.Proofs
set_option linter.unusedVariables false
set_option linter.unusedSimpArgs false
set_option maxRecDepth 100000
def p_zl6_odd (x0 : TaiReport) (x1 : Int) (x2 : Int) : Option (TaiReport) :=
(p_zb_Within x1 0 10).bind fun r17 =>
bif r17 == 0 then (
some (((⟨x2,x0.From,x0.About,x0.Tuples,x0.Abouts,x0.Numbers,x0.Rate,x0.f_Type,x0.Count,x0.Body⟩ : TaiReport))))
else (
bif r17 == 1 then (
some (((⟨x0.Kind,(IntKind.wrap .u32 x2),x0.About,x0.Tuples,x0.Abouts,x0.Numbers,x0.Rate,x0.f_Type,x0.Count,x0.Body⟩ : TaiReport))))
else (
bif r17 == 2 then (
some (((⟨x0.Kind,x0.From,(IntKind.wrap .u32 x2),x0.Tuples,x0.Abouts,x0.Numbers,x0.Rate,x0.f_Type,x0.Count,x0.Body⟩ : TaiReport))))
else (
bif r17 == 3 then (
some (((⟨x0.Kind,x0.From,x0.About,x0.Tuples,x0.Abouts,x0.Numbers,(IntKind.wrap .u64 x2),x0.f_Type,x0.Count,x0.Body⟩ : TaiReport))))
else (
bif r17 == 4 then (
(ap 24 (([] : List TaiTuple)) x0.Tuples).bind fun a58 =>
(ap 24 a58 ([((⟨0,(IntKind.wrap .u64 x2),7⟩ : TaiTuple))])).bind fun a65 =>
some (((⟨x0.Kind,x0.From,x0.About,a65,x0.Abouts,x0.Numbers,x0.Rate,x0.f_Type,x0.Count,x0.Body⟩ : TaiReport))))
else (
bif r17 == 5 then (
(ap 24 (([] : List TaiTuple)) x0.Tuples).bind fun a95 =>
(ap 24 a95 ([((⟨0,0,x2⟩ : TaiTuple))])).bind fun a102 =>
some (((⟨x0.Kind,x0.From,x0.About,a102,x0.Abouts,x0.Numbers,x0.Rate,x0.f_Type,x0.Count,x0.Body⟩ : TaiReport))))
else (
bif r17 == 6 then (
(ap 4 (([] : List Int)) x0.Abouts).bind fun a132 =>
(ap 4 a132 ([(IntKind.wrap .u32 x2)])).bind fun a139 =>
some (((⟨x0.Kind,x0.From,x0.About,x0.Tuples,a139,x0.Numbers,x0.Rate,x0.f_Type,x0.Count,x0.Body⟩ : TaiReport))))
else (
bif r17 == 7 then (
(ap 8 (([] : List Int)) x0.Numbers).bind fun a169 =>
(ap 8 a169 ([x2])).bind fun a176 =>
some (((⟨x0.Kind,x0.From,x0.About,x0.Tuples,x0.Abouts,a176,x0.Rate,x0.f_Type,x0.Count,x0.Body⟩ : TaiReport))))
else (
bif r17 == 8 then (
some (((⟨x0.Kind,x0.From,x0.About,x0.Tuples,x0.Abouts,x0.Numbers,x0.Rate,x2,x0.Count,x0.Body⟩ : TaiReport))))
else (
bif r17 == 9 then (
some (((⟨x0.Kind,x0.From,x0.About,x0.Tuples,x0.Abouts,x0.Numbers,x0.Rate,x0.f_Type,x2,x0.Body⟩ : TaiReport))))
else (
(ap 1 (([] : List Int)) x0.Body).bind fun a221 =>
(zB (IntKind.wrap .i64 ((intBits .and .i64 x2 3) + 1))).bind fun a227 =>
(ap 1 a221 a227).bind fun a229 =>
some (((⟨x0.Kind,x0.From,x0.About,x0.Tuples,x0.Abouts,x0.Numbers,x0.Rate,x0.f_Type,x0.Count,a229⟩ : TaiReport)))))))))))))
theorem zl6_odd_ok {h : H} {σ : Stamp} (x0 : TaiReport) {u0 : List V} (hu0 : dTaiReport.R x0 u0) (x1 : Int) (x2 : Int) : Sim (p_zl6_odd x0 x1 x2) (ev G X0 17 σ [(.agg u0),(.p (.int .i64 x1)),(.p (.int .i64 x2))] h) (fun r s => ∃ (w0 : List V),dTaiReport.R r w0∧s = ([.v (.agg w0)],h)):=by
  refine Sim.ev rfl (Sim.ext (zl6_odd_entry _ _ _ _ _ _ _) ?_)
  rw [p_zl6_odd]
  obtain ⟨v1,v3,v5,v7,rfl,h2,h4,h6,h8⟩:=dTaiReport.inv hu0
  have S0 : Fm 90 h [] [] [] (List.replicate 90 []::h):=Fm.start0
  obtain ⟨H9,e10,S11⟩:=S0.box (own:=false) (d:=3) (s:=(0::0::0::σ)) (xs:=[(.p (.int .i64 x0.Kind)),(.p (.int .u32 x0.From)),(.p (.int .u32 x0.About)),v1,v3,v5,(.p (.int .u64 x0.Rate)),(.p (.int .i64 x0.f_Type)),(.p (.int .i64 x0.Count)),v7]) (sC (sI _ _) (sC (sI _ _) (sC (sI _ _) (sC h2.still (sC h4.still (sC h6.still (sC (sI _ _) (sC (sI _ _) (sC (sI _ _) (sC h8.still sN)))))))))) (by decide) rfl
  refine Sim.op (e10) ?_
  obtain ⟨H13,e14,S15⟩:=S11.al (d:=6) (s:=(1::0::0::σ)) (z:=[(.p (.int .i64 0)),(.p (.int .u32 0)),(.p (.int .u32 0)),(.p (.slice none 0 0)),(.p (.slice none 0 0)),(.p (.slice none 0 0)),(.p (.int .u64 0)),(.p (.int .i64 0)),(.p (.int .i64 0)),(.p (.slice none 0 0))]) (by decide) rfl
  refine Sim.op (congrArg some e14) ?_
  refine Sim.call (zb_Within_ok x1 0 10) fun r17 cs18 H19 h20 q21 => ?_
  cases q21
  refine Sim.ci ?_
  refine Sim.cq ?_ ?_
  · refine Sim.fa ?_
    obtain ⟨H23,e24,S25⟩:=S15.stG (i:=1) (j:=0) (own:=true) (σ:=(2::1::1::0::1::0::σ)) (x:=(.p (.int .i64 x2))) rfl rfl (sI _ _) rfl
    refine Sim.op (sM e24) ?_
    refine Sim.op ((S25.atG (i:=1) rfl).ldVs (j:=0) (xs:=[.p (.int .i64 x2),.p (.int .u32 x0.From),.p (.int .u32 x0.About),v1,v3,v5,.p (.int .u64 x0.Rate),.p (.int .i64 x0.f_Type),.p (.int .i64 x0.Count),v7]) rfl rfl (by decide)) ?_
    obtain ⟨H26,e27,S28⟩:=S25.stGv (i:=0) (j:=0) (own:=false) (σ:=(1::0::1::1::0::σ)) (xs:=[.p (.int .i64 x2),.p (.int .u32 x0.From),.p (.int .u32 x0.About),v1,v3,v5,.p (.int .u64 x0.Rate),.p (.int .i64 x0.f_Type),.p (.int .i64 x0.Count),v7]) rfl rfl (sC (sI _ _) (sC (sI _ _) (sC (sI _ _) (sC h2.still (sC h4.still (sC h6.still (sC (sI _ _) (sC (sI _ _) (sC (sI _ _) (sC h8.still sN)))))))))) rfl rfl
    refine Sim.op (sM e27) ?_
    have e29 : ldO true 10 H26 (.ref ⟨h.length,6,0,(1::0::0::σ),[]⟩ 0) = some (.agg [.p (.int .i64 x2),.p (.int .u32 x0.From),.p (.int .u32 x0.About),v1,v3,v5,.p (.int .u64 x0.Rate),.p (.int .i64 x0.f_Type),.p (.int .i64 x0.Count),v7]):=(S28.atG (i:=0) rfl).ldVs (j:=0) rfl rfl (by decide)
    refine Sim.op (congrArg (Option.bind · _) e29) ?_
    exact Sim.fin (S28.finN (lC (Stills.lv (dTaiReport.still (dTaiReport.mk h2 h4 h6 h8))) lN)) ⟨_,(dTaiReport.mk h2 h4 h6 h8),rfl⟩
  refine Sim.cq ?_ ?_
  · refine Sim.fa ?_
    obtain ⟨H31,e32,S33⟩:=S15.stG (i:=1) (j:=1) (own:=true) (σ:=(3::1::1::1::0::1::0::σ)) (x:=(.p (.int .u32 (IntKind.wrap .u32 x2)))) rfl rfl (sI _ _) rfl
    refine Sim.op (sM e32) ?_
    refine Sim.op ((S33.atG (i:=1) rfl).ldVs (j:=0) (xs:=[.p (.int .i64 x0.Kind),.p (.int .u32 (IntKind.wrap .u32 x2)),.p (.int .u32 x0.About),v1,v3,v5,.p (.int .u64 x0.Rate),.p (.int .i64 x0.f_Type),.p (.int .i64 x0.Count),v7]) rfl rfl (by decide)) ?_
    obtain ⟨H34,e35,S36⟩:=S33.stGv (i:=0) (j:=0) (own:=false) (σ:=(1::0::1::1::0::σ)) (xs:=[.p (.int .i64 x0.Kind),.p (.int .u32 (IntKind.wrap .u32 x2)),.p (.int .u32 x0.About),v1,v3,v5,.p (.int .u64 x0.Rate),.p (.int .i64 x0.f_Type),.p (.int .i64 x0.Count),v7]) rfl rfl (sC (sI _ _) (sC (sI _ _) (sC (sI _ _) (sC h2.still (sC h4.still (sC h6.still (sC (sI _ _) (sC (sI _ _) (sC (sI _ _) (sC h8.still sN)))))))))) rfl rfl
    refine Sim.op (sM e35) ?_
    have e37 : ldO true 10 H34 (.ref ⟨h.length,6,0,(1::0::0::σ),[]⟩ 0) = some (.agg [.p (.int .i64 x0.Kind),.p (.int .u32 (IntKind.wrap .u32 x2)),.p (.int .u32 x0.About),v1,v3,v5,.p (.int .u64 x0.Rate),.p (.int .i64 x0.f_Type),.p (.int .i64 x0.Count),v7]):=(S36.atG (i:=0) rfl).ldVs (j:=0) rfl rfl (by decide)
    refine Sim.op (congrArg (Option.bind · _) e37) ?_
    exact Sim.fin (S36.finN (lC (Stills.lv (dTaiReport.still (dTaiReport.mk h2 h4 h6 h8))) lN)) ⟨_,(dTaiReport.mk h2 h4 h6 h8),rfl⟩
  refine Sim.cq ?_ ?_
  · refine Sim.fa ?_
    obtain ⟨H39,e40,S41⟩:=S15.stG (i:=1) (j:=2) (own:=true) (σ:=(3::1::1::1::1::0::1::0::σ)) (x:=(.p (.int .u32 (IntKind.wrap .u32 x2)))) rfl rfl (sI _ _) rfl
    refine Sim.op (sM e40) ?_
    refine Sim.op ((S41.atG (i:=1) rfl).ldVs (j:=0) (xs:=[.p (.int .i64 x0.Kind),.p (.int .u32 x0.From),.p (.int .u32 (IntKind.wrap .u32 x2)),v1,v3,v5,.p (.int .u64 x0.Rate),.p (.int .i64 x0.f_Type),.p (.int .i64 x0.Count),v7]) rfl rfl (by decide)) ?_
    obtain ⟨H42,e43,S44⟩:=S41.stGv (i:=0) (j:=0) (own:=false) (σ:=(1::0::1::1::0::σ)) (xs:=[.p (.int .i64 x0.Kind),.p (.int .u32 x0.From),.p (.int .u32 (IntKind.wrap .u32 x2)),v1,v3,v5,.p (.int .u64 x0.Rate),.p (.int .i64 x0.f_Type),.p (.int .i64 x0.Count),v7]) rfl rfl (sC (sI _ _) (sC (sI _ _) (sC (sI _ _) (sC h2.still (sC h4.still (sC h6.still (sC (sI _ _) (sC (sI _ _) (sC (sI _ _) (sC h8.still sN)))))))))) rfl rfl
    refine Sim.op (sM e43) ?_
    have e45 : ldO true 10 H42 (.ref ⟨h.length,6,0,(1::0::0::σ),[]⟩ 0) = some (.agg [.p (.int .i64 x0.Kind),.p (.int .u32 x0.From),.p (.int .u32 (IntKind.wrap .u32 x2)),v1,v3,v5,.p (.int .u64 x0.Rate),.p (.int .i64 x0.f_Type),.p (.int .i64 x0.Count),v7]):=(S44.atG (i:=0) rfl).ldVs (j:=0) rfl rfl (by decide)
    refine Sim.op (congrArg (Option.bind · _) e45) ?_
    exact Sim.fin (S44.finN (lC (Stills.lv (dTaiReport.still (dTaiReport.mk h2 h4 h6 h8))) lN)) ⟨_,(dTaiReport.mk h2 h4 h6 h8),rfl⟩
  refine Sim.cq ?_ ?_
  · refine Sim.fa ?_
    obtain ⟨H47,e48,S49⟩:=S15.stG (i:=1) (j:=6) (own:=true) (σ:=(3::1::1::1::1::1::0::1::0::σ)) (x:=(.p (.int .u64 (IntKind.wrap .u64 x2)))) rfl rfl (sI _ _) rfl
    refine Sim.op (sM e48) ?_
    refine Sim.op ((S49.atG (i:=1) rfl).ldVs (j:=0) (xs:=[.p (.int .i64 x0.Kind),.p (.int .u32 x0.From),.p (.int .u32 x0.About),v1,v3,v5,.p (.int .u64 (IntKind.wrap .u64 x2)),.p (.int .i64 x0.f_Type),.p (.int .i64 x0.Count),v7]) rfl rfl (by decide)) ?_
    obtain ⟨H50,e51,S52⟩:=S49.stGv (i:=0) (j:=0) (own:=false) (σ:=(1::0::1::1::0::σ)) (xs:=[.p (.int .i64 x0.Kind),.p (.int .u32 x0.From),.p (.int .u32 x0.About),v1,v3,v5,.p (.int .u64 (IntKind.wrap .u64 x2)),.p (.int .i64 x0.f_Type),.p (.int .i64 x0.Count),v7]) rfl rfl (sC (sI _ _) (sC (sI _ _) (sC (sI _ _) (sC h2.still (sC h4.still (sC h6.still (sC (sI _ _) (sC (sI _ _) (sC (sI _ _) (sC h8.still sN)))))))))) rfl rfl
    refine Sim.op (sM e51) ?_
    have e53 : ldO true 10 H50 (.ref ⟨h.length,6,0,(1::0::0::σ),[]⟩ 0) = some (.agg [.p (.int .i64 x0.Kind),.p (.int .u32 x0.From),.p (.int .u32 x0.About),v1,v3,v5,.p (.int .u64 (IntKind.wrap .u64 x2)),.p (.int .i64 x0.f_Type),.p (.int .i64 x0.Count),v7]):=(S52.atG (i:=0) rfl).ldVs (j:=0) rfl rfl (by decide)
    refine Sim.op (congrArg (Option.bind · _) e53) ?_
    exact Sim.fin (S52.finN (lC (Stills.lv (dTaiReport.still (dTaiReport.mk h2 h4 h6 h8))) lN)) ⟨_,(dTaiReport.mk h2 h4 h6 h8),rfl⟩
  refine Sim.cq ?_ ?_
  · have h55 : SlF dTaiTuple ([] : List TaiTuple) (.fz [] 0 3 true):=SlF.lit (cs:=[]) RL.nil rfl rfl true
    refine Sim.op (bldS pN (by kernel_rfl : _ = some (vOf h55))) ?_
    refine Sim.fa ?_
    refine Sim.op ((S15.atG (i:=1) rfl).ld (j:=3) rfl) ?_
    have S57:=S15.nil' dTaiTuple [] (e:=3) rfl
    refine Sim.bd fun a58 h59 => ?_
    obtain ⟨v60,H61,e62,S63⟩:=S57.app (i:=0) (d:=42) (e:=3) (own:=false) (σ:=(3::1::1::1::1::1::1::0::1::0::σ)) rfl (h2.h H13).y h59 rfl (by decide) (by decide) rfl
    refine Sim.op (e62) ?_
    refine Sim.op (bldV (pC rfl (pC rfl pN)) (by kernel_rfl : _ = some (.agg [.p (.int .u32 0),.p (.int .u64 (IntKind.wrap .u64 x2)),.p (.int .i64 7)]))) ?_
    have h64 : SlF dTaiTuple [((⟨0,(IntKind.wrap .u64 x2),7⟩ : TaiTuple))] (.fz [(.p (.int .u32 0)),(.p (.int .u64 (IntKind.wrap .u64 x2))),(.p (.int .i64 7))] 1 3 true):=SlF.lit (cs:=[(.p (.int .u32 0)),(.p (.int .u64 (IntKind.wrap .u64 x2))),(.p (.int .i64 7))]) (RL.cons (show dTaiTuple.R ((⟨0,(IntKind.wrap .u64 x2),7⟩ : TaiTuple)) [.p (.int .u32 0),.p (.int .u64 (IntKind.wrap .u64 x2)),.p (.int .i64 7)] from (dTaiTuple.mk)) RL.nil) rfl rfl true
    refine Sim.op (bldS (pC (c:=[.p (.int .u32 0),.p (.int .u64 (IntKind.wrap .u64 x2)),.p (.int .i64 7)]) rfl pN) (by kernel_rfl : _ = some (vOf h64))) ?_
    refine Sim.bd fun a65 h66 => ?_
    obtain ⟨v67,H68,e69,S70⟩:=S63.app (i:=0) (d:=47) (e:=3) (own:=false) (σ:=(8::1::1::1::1::1::1::0::1::0::σ)) rfl (h64.h H61).y h66 rfl (by decide) (by decide) rfl
    refine Sim.op (e69) ?_
    refine Sim.fa ?_
    obtain ⟨c74,H71,e72,h75,h76,S73⟩:=S70.mvG (i:=1) (j:=3) (k:=0) (σ:=(10::1::1::1::1::1::1::0::1::0::σ)) rfl rfl rfl rfl rfl rfl
    refine Sim.op (sM e72) ?_
    obtain ⟨v77,h78,h79⟩:=h75.fr
    obtain ⟨w80,H81,h86,e82,e83,e84,S85⟩:=S73.frzV (i:=1) (n:=10) (ys:=[(.p (.int .i64 x0.Kind)),(.p (.int .u32 x0.From)),(.p (.int .u32 x0.About)),v77,v3,v5,(.p (.int .u64 x0.Rate)),(.p (.int .i64 x0.f_Type)),(.p (.int .i64 x0.Count)),v7]) rfl rfl ⟨(FrC.v (sI _ _)),⟨(FrC.v (sI _ _)),⟨(FrC.v (sI _ _)),⟨h78,⟨(FrC.v h4.still),⟨(FrC.v h6.still),⟨(FrC.v (sI _ _)),⟨(FrC.v (sI _ _)),⟨(FrC.v (sI _ _)),⟨(FrC.v h8.still),trivial⟩⟩⟩⟩⟩⟩⟩⟩⟩⟩ rfl (by decide)
    refine Sim.op (e82) ?_
    obtain ⟨H87,e88,S89⟩:=Fm.stFrz (S0:=S73) (i0:=0) (i:=0) (j:=0) (n:=10) (σ:=(1::0::1::1::0::σ)) S85 rfl e84 rfl rfl h86 rfl rfl
    refine Sim.op (sM e88) ?_
    have e90 : ldO true 10 H87 (.ref ⟨h.length,6,0,(1::0::0::σ),[]⟩ 0) = some (.agg [.p (.int .i64 x0.Kind),.p (.int .u32 x0.From),.p (.int .u32 x0.About),v77,v3,v5,.p (.int .u64 x0.Rate),.p (.int .i64 x0.f_Type),.p (.int .i64 x0.Count),v7]):=(S89.atG (i:=0) rfl).ldVs (j:=0) rfl rfl (by decide)
    refine Sim.op (congrArg (Option.bind · _) e90) ?_
    exact Sim.fin (S89.finN (lC (Stills.lv (dTaiReport.still (dTaiReport.mk h79 h4 h6 h8))) lN)) ⟨_,(dTaiReport.mk h79 h4 h6 h8),rfl⟩
  refine Sim.cq ?_ ?_
  · have h92 : SlF dTaiTuple ([] : List TaiTuple) (.fz [] 0 3 true):=SlF.lit (cs:=[]) RL.nil rfl rfl true
    refine Sim.op (bldS pN (by kernel_rfl : _ = some (vOf h92))) ?_
    refine Sim.fa ?_
    refine Sim.op ((S15.atG (i:=1) rfl).ld (j:=3) rfl) ?_
    have S94:=S15.nil' dTaiTuple [] (e:=3) rfl
    refine Sim.bd fun a95 h96 => ?_
    obtain ⟨v97,H98,e99,S100⟩:=S94.app (i:=0) (d:=54) (e:=3) (own:=false) (σ:=(3::1::1::1::1::1::1::1::0::1::0::σ)) rfl (h2.h H13).y h96 rfl (by decide) (by decide) rfl
    refine Sim.op (e99) ?_
    refine Sim.op (bldV (pC rfl pN) (by kernel_rfl : _ = some (.agg [.p (.int .u32 0),.p (.int .u64 0),.p (.int .i64 x2)]))) ?_
    have h101 : SlF dTaiTuple [((⟨0,0,x2⟩ : TaiTuple))] (.fz [(.p (.int .u32 0)),(.p (.int .u64 0)),(.p (.int .i64 x2))] 1 3 true):=SlF.lit (cs:=[(.p (.int .u32 0)),(.p (.int .u64 0)),(.p (.int .i64 x2))]) (RL.cons (show dTaiTuple.R ((⟨0,0,x2⟩ : TaiTuple)) [.p (.int .u32 0),.p (.int .u64 0),.p (.int .i64 x2)] from (dTaiTuple.mk)) RL.nil) rfl rfl true
    refine Sim.op (bldS (pC (c:=[.p (.int .u32 0),.p (.int .u64 0),.p (.int .i64 x2)]) rfl pN) (by kernel_rfl : _ = some (vOf h101))) ?_
    refine Sim.bd fun a102 h103 => ?_
    obtain ⟨v104,H105,e106,S107⟩:=S100.app (i:=0) (d:=58) (e:=3) (own:=false) (σ:=(7::1::1::1::1::1::1::1::0::1::0::σ)) rfl (h101.h H98).y h103 rfl (by decide) (by decide) rfl
    refine Sim.op (e106) ?_
    refine Sim.fa ?_
    obtain ⟨c111,H108,e109,h112,h113,S110⟩:=S107.mvG (i:=1) (j:=3) (k:=0) (σ:=(9::1::1::1::1::1::1::1::0::1::0::σ)) rfl rfl rfl rfl rfl rfl
    refine Sim.op (sM e109) ?_
    obtain ⟨v114,h115,h116⟩:=h112.fr
    obtain ⟨w117,H118,h123,e119,e120,e121,S122⟩:=S110.frzV (i:=1) (n:=10) (ys:=[(.p (.int .i64 x0.Kind)),(.p (.int .u32 x0.From)),(.p (.int .u32 x0.About)),v114,v3,v5,(.p (.int .u64 x0.Rate)),(.p (.int .i64 x0.f_Type)),(.p (.int .i64 x0.Count)),v7]) rfl rfl ⟨(FrC.v (sI _ _)),⟨(FrC.v (sI _ _)),⟨(FrC.v (sI _ _)),⟨h115,⟨(FrC.v h4.still),⟨(FrC.v h6.still),⟨(FrC.v (sI _ _)),⟨(FrC.v (sI _ _)),⟨(FrC.v (sI _ _)),⟨(FrC.v h8.still),trivial⟩⟩⟩⟩⟩⟩⟩⟩⟩⟩ rfl (by decide)
    refine Sim.op (e119) ?_
    obtain ⟨H124,e125,S126⟩:=Fm.stFrz (S0:=S110) (i0:=0) (i:=0) (j:=0) (n:=10) (σ:=(1::0::1::1::0::σ)) S122 rfl e121 rfl rfl h123 rfl rfl
    refine Sim.op (sM e125) ?_
    have e127 : ldO true 10 H124 (.ref ⟨h.length,6,0,(1::0::0::σ),[]⟩ 0) = some (.agg [.p (.int .i64 x0.Kind),.p (.int .u32 x0.From),.p (.int .u32 x0.About),v114,v3,v5,.p (.int .u64 x0.Rate),.p (.int .i64 x0.f_Type),.p (.int .i64 x0.Count),v7]):=(S126.atG (i:=0) rfl).ldVs (j:=0) rfl rfl (by decide)
    refine Sim.op (congrArg (Option.bind · _) e127) ?_
    exact Sim.fin (S126.finN (lC (Stills.lv (dTaiReport.still (dTaiReport.mk h116 h4 h6 h8))) lN)) ⟨_,(dTaiReport.mk h116 h4 h6 h8),rfl⟩
  refine Sim.cq ?_ ?_
  · have h129 : SlF (dI .u32) ([] : List Int) (.fz [] 0 1 true):=SlF.lit (cs:=[]) RL.nil rfl rfl true
    refine Sim.op (bldS pN (by kernel_rfl : _ = some (vOf h129))) ?_
    refine Sim.fa ?_
    refine Sim.op ((S15.atG (i:=1) rfl).ld (j:=4) rfl) ?_
    have S131:=S15.nil' (dI .u32) [] (e:=1) rfl
    refine Sim.bd fun a132 h133 => ?_
    obtain ⟨v134,H135,e136,S137⟩:=S131.app (i:=0) (d:=65) (e:=1) (own:=true) (σ:=(3::1::1::1::1::1::1::1::1::0::1::0::σ)) rfl (h4.h H13).y h133 rfl (by decide) (by decide) rfl
    refine Sim.op (e136) ?_
    have h138:=SlF.int1 .u32 (IntKind.wrap .u32 x2)
    refine Sim.op (bldS (pC rfl pN) (by kernel_rfl : _ = some (vOf h138))) ?_
    refine Sim.bd fun a139 h140 => ?_
    obtain ⟨v141,H142,e143,S144⟩:=S137.app (i:=0) (d:=69) (e:=1) (own:=true) (σ:=(7::1::1::1::1::1::1::1::1::0::1::0::σ)) rfl (h138.h H135).y h140 rfl (by decide) (by decide) rfl
    refine Sim.op (e143) ?_
    refine Sim.fa ?_
    obtain ⟨c148,H145,e146,h149,h150,S147⟩:=S144.mvG (i:=1) (j:=4) (k:=0) (σ:=(9::1::1::1::1::1::1::1::1::0::1::0::σ)) rfl rfl rfl rfl rfl rfl
    refine Sim.op (sM e146) ?_
    obtain ⟨v151,h152,h153⟩:=h149.fr
    obtain ⟨w154,H155,h160,e156,e157,e158,S159⟩:=S147.frzV (i:=1) (n:=10) (ys:=[(.p (.int .i64 x0.Kind)),(.p (.int .u32 x0.From)),(.p (.int .u32 x0.About)),v1,v151,v5,(.p (.int .u64 x0.Rate)),(.p (.int .i64 x0.f_Type)),(.p (.int .i64 x0.Count)),v7]) rfl rfl ⟨(FrC.v (sI _ _)),⟨(FrC.v (sI _ _)),⟨(FrC.v (sI _ _)),⟨(FrC.v h2.still),⟨h152,⟨(FrC.v h6.still),⟨(FrC.v (sI _ _)),⟨(FrC.v (sI _ _)),⟨(FrC.v (sI _ _)),⟨(FrC.v h8.still),trivial⟩⟩⟩⟩⟩⟩⟩⟩⟩⟩ rfl (by decide)
    refine Sim.op (e156) ?_
    obtain ⟨H161,e162,S163⟩:=Fm.stFrz (S0:=S147) (i0:=0) (i:=0) (j:=0) (n:=10) (σ:=(1::0::1::1::0::σ)) S159 rfl e158 rfl rfl h160 rfl rfl
    refine Sim.op (sM e162) ?_
    have e164 : ldO true 10 H161 (.ref ⟨h.length,6,0,(1::0::0::σ),[]⟩ 0) = some (.agg [.p (.int .i64 x0.Kind),.p (.int .u32 x0.From),.p (.int .u32 x0.About),v1,v151,v5,.p (.int .u64 x0.Rate),.p (.int .i64 x0.f_Type),.p (.int .i64 x0.Count),v7]):=(S163.atG (i:=0) rfl).ldVs (j:=0) rfl rfl (by decide)
    refine Sim.op (congrArg (Option.bind · _) e164) ?_
    exact Sim.fin (S163.finN (lC (Stills.lv (dTaiReport.still (dTaiReport.mk h2 h153 h6 h8))) lN)) ⟨_,(dTaiReport.mk h2 h153 h6 h8),rfl⟩
  refine Sim.cq ?_ ?_
  · have h166 : SlF (dI .i64) ([] : List Int) (.fz [] 0 1 true):=SlF.lit (cs:=[]) RL.nil rfl rfl true
    refine Sim.op (bldS pN (by kernel_rfl : _ = some (vOf h166))) ?_
    refine Sim.fa ?_
    refine Sim.op ((S15.atG (i:=1) rfl).ld (j:=5) rfl) ?_
    have S168:=S15.nil' (dI .i64) [] (e:=1) rfl
    refine Sim.bd fun a169 h170 => ?_
    obtain ⟨v171,H172,e173,S174⟩:=S168.app (i:=0) (d:=76) (e:=1) (own:=true) (σ:=(3::1::1::1::1::1::1::1::1::1::0::1::0::σ)) rfl (h6.h H13).y h170 rfl (by decide) (by decide) rfl
    refine Sim.op (e173) ?_
    have h175:=SlF.int1 .i64 x2
    refine Sim.op (bldS (pC rfl pN) (by kernel_rfl : _ = some (vOf h175))) ?_
    refine Sim.bd fun a176 h177 => ?_
    obtain ⟨v178,H179,e180,S181⟩:=S174.app (i:=0) (d:=79) (e:=1) (own:=true) (σ:=(6::1::1::1::1::1::1::1::1::1::0::1::0::σ)) rfl (h175.h H172).y h177 rfl (by decide) (by decide) rfl
    refine Sim.op (e180) ?_
    refine Sim.fa ?_
    obtain ⟨c185,H182,e183,h186,h187,S184⟩:=S181.mvG (i:=1) (j:=5) (k:=0) (σ:=(8::1::1::1::1::1::1::1::1::1::0::1::0::σ)) rfl rfl rfl rfl rfl rfl
    refine Sim.op (sM e183) ?_
    obtain ⟨v188,h189,h190⟩:=h186.fr
    obtain ⟨w191,H192,h197,e193,e194,e195,S196⟩:=S184.frzV (i:=1) (n:=10) (ys:=[(.p (.int .i64 x0.Kind)),(.p (.int .u32 x0.From)),(.p (.int .u32 x0.About)),v1,v3,v188,(.p (.int .u64 x0.Rate)),(.p (.int .i64 x0.f_Type)),(.p (.int .i64 x0.Count)),v7]) rfl rfl ⟨(FrC.v (sI _ _)),⟨(FrC.v (sI _ _)),⟨(FrC.v (sI _ _)),⟨(FrC.v h2.still),⟨(FrC.v h4.still),⟨h189,⟨(FrC.v (sI _ _)),⟨(FrC.v (sI _ _)),⟨(FrC.v (sI _ _)),⟨(FrC.v h8.still),trivial⟩⟩⟩⟩⟩⟩⟩⟩⟩⟩ rfl (by decide)
    refine Sim.op (e193) ?_
    obtain ⟨H198,e199,S200⟩:=Fm.stFrz (S0:=S184) (i0:=0) (i:=0) (j:=0) (n:=10) (σ:=(1::0::1::1::0::σ)) S196 rfl e195 rfl rfl h197 rfl rfl
    refine Sim.op (sM e199) ?_
    have e201 : ldO true 10 H198 (.ref ⟨h.length,6,0,(1::0::0::σ),[]⟩ 0) = some (.agg [.p (.int .i64 x0.Kind),.p (.int .u32 x0.From),.p (.int .u32 x0.About),v1,v3,v188,.p (.int .u64 x0.Rate),.p (.int .i64 x0.f_Type),.p (.int .i64 x0.Count),v7]):=(S200.atG (i:=0) rfl).ldVs (j:=0) rfl rfl (by decide)
    refine Sim.op (congrArg (Option.bind · _) e201) ?_
    exact Sim.fin (S200.finN (lC (Stills.lv (dTaiReport.still (dTaiReport.mk h2 h4 h190 h8))) lN)) ⟨_,(dTaiReport.mk h2 h4 h190 h8),rfl⟩
  refine Sim.cq ?_ ?_
  · refine Sim.fa ?_
    obtain ⟨H203,e204,S205⟩:=S15.stG (i:=1) (j:=7) (own:=true) (σ:=(2::1::1::1::1::1::1::1::1::1::1::0::1::0::σ)) (x:=(.p (.int .i64 x2))) rfl rfl (sI _ _) rfl
    refine Sim.op (sM e204) ?_
    refine Sim.op ((S205.atG (i:=1) rfl).ldVs (j:=0) (xs:=[.p (.int .i64 x0.Kind),.p (.int .u32 x0.From),.p (.int .u32 x0.About),v1,v3,v5,.p (.int .u64 x0.Rate),.p (.int .i64 x2),.p (.int .i64 x0.Count),v7]) rfl rfl (by decide)) ?_
    obtain ⟨H206,e207,S208⟩:=S205.stGv (i:=0) (j:=0) (own:=false) (σ:=(1::0::1::1::0::σ)) (xs:=[.p (.int .i64 x0.Kind),.p (.int .u32 x0.From),.p (.int .u32 x0.About),v1,v3,v5,.p (.int .u64 x0.Rate),.p (.int .i64 x2),.p (.int .i64 x0.Count),v7]) rfl rfl (sC (sI _ _) (sC (sI _ _) (sC (sI _ _) (sC h2.still (sC h4.still (sC h6.still (sC (sI _ _) (sC (sI _ _) (sC (sI _ _) (sC h8.still sN)))))))))) rfl rfl
    refine Sim.op (sM e207) ?_
    have e209 : ldO true 10 H206 (.ref ⟨h.length,6,0,(1::0::0::σ),[]⟩ 0) = some (.agg [.p (.int .i64 x0.Kind),.p (.int .u32 x0.From),.p (.int .u32 x0.About),v1,v3,v5,.p (.int .u64 x0.Rate),.p (.int .i64 x2),.p (.int .i64 x0.Count),v7]):=(S208.atG (i:=0) rfl).ldVs (j:=0) rfl rfl (by decide)
    refine Sim.op (congrArg (Option.bind · _) e209) ?_
    exact Sim.fin (S208.finN (lC (Stills.lv (dTaiReport.still (dTaiReport.mk h2 h4 h6 h8))) lN)) ⟨_,(dTaiReport.mk h2 h4 h6 h8),rfl⟩
  refine Sim.cq ?_ ?_
  · refine Sim.fa ?_
    obtain ⟨H211,e212,S213⟩:=S15.stG (i:=1) (j:=8) (own:=true) (σ:=(2::1::1::1::1::1::1::1::1::1::1::1::0::1::0::σ)) (x:=(.p (.int .i64 x2))) rfl rfl (sI _ _) rfl
    refine Sim.op (sM e212) ?_
    refine Sim.op ((S213.atG (i:=1) rfl).ldVs (j:=0) (xs:=[.p (.int .i64 x0.Kind),.p (.int .u32 x0.From),.p (.int .u32 x0.About),v1,v3,v5,.p (.int .u64 x0.Rate),.p (.int .i64 x0.f_Type),.p (.int .i64 x2),v7]) rfl rfl (by decide)) ?_
    obtain ⟨H214,e215,S216⟩:=S213.stGv (i:=0) (j:=0) (own:=false) (σ:=(1::0::1::1::0::σ)) (xs:=[.p (.int .i64 x0.Kind),.p (.int .u32 x0.From),.p (.int .u32 x0.About),v1,v3,v5,.p (.int .u64 x0.Rate),.p (.int .i64 x0.f_Type),.p (.int .i64 x2),v7]) rfl rfl (sC (sI _ _) (sC (sI _ _) (sC (sI _ _) (sC h2.still (sC h4.still (sC h6.still (sC (sI _ _) (sC (sI _ _) (sC (sI _ _) (sC h8.still sN)))))))))) rfl rfl
    refine Sim.op (sM e215) ?_
    have e217 : ldO true 10 H214 (.ref ⟨h.length,6,0,(1::0::0::σ),[]⟩ 0) = some (.agg [.p (.int .i64 x0.Kind),.p (.int .u32 x0.From),.p (.int .u32 x0.About),v1,v3,v5,.p (.int .u64 x0.Rate),.p (.int .i64 x0.f_Type),.p (.int .i64 x2),v7]):=(S216.atG (i:=0) rfl).ldVs (j:=0) rfl rfl (by decide)
    refine Sim.op (congrArg (Option.bind · _) e217) ?_
    exact Sim.fin (S216.finN (lC (Stills.lv (dTaiReport.still (dTaiReport.mk h2 h4 h6 h8))) lN)) ⟨_,(dTaiReport.mk h2 h4 h6 h8),rfl⟩
  have h218 : SlF (dI .u8) ([] : List Int) (.fz [] 0 1 true):=SlF.lit (cs:=[]) RL.nil rfl rfl true
  refine Sim.op (bldS pN (by kernel_rfl : _ = some (vOf h218))) ?_
  refine Sim.fa ?_
  refine Sim.op ((S15.atG (i:=1) rfl).ld (j:=9) rfl) ?_
  have S220:=S15.nil' (dI .u8) [] (e:=1) rfl
  refine Sim.bd fun a221 h222 => ?_
  obtain ⟨v223,H224,e225,S226⟩:=S220.app (i:=0) (d:=12) (e:=1) (own:=true) (σ:=(3::1::1::1::1::1::1::1::1::1::1::1::0::1::0::σ)) rfl (h8.h H13).y h222 rfl (by decide) (by decide) rfl
  refine Sim.op (e225) ?_
  refine Sim.bd fun a227 h228 => ?_
  refine Sim.bd fun a229 h230 => ?_
  obtain ⟨v231,H232,e233,S234⟩:=S226.appZ (i:=0) (d:=16) (own:=true) (σ:=(7::1::1::1::1::1::1::1::1::1::1::1::0::1::0::σ)) rfl h228 h230 (by decide) rfl
  refine Sim.op (e233) ?_
  refine Sim.fa ?_
  obtain ⟨c238,H235,e236,h239,h240,S237⟩:=S234.mvG (i:=1) (j:=9) (k:=0) (σ:=(9::1::1::1::1::1::1::1::1::1::1::1::0::1::0::σ)) rfl rfl rfl rfl rfl rfl
  refine Sim.op (sM e236) ?_
  obtain ⟨v241,h242,h243⟩:=h239.fr
  obtain ⟨w244,H245,h250,e246,e247,e248,S249⟩:=S237.frzV (i:=1) (n:=10) (ys:=[(.p (.int .i64 x0.Kind)),(.p (.int .u32 x0.From)),(.p (.int .u32 x0.About)),v1,v3,v5,(.p (.int .u64 x0.Rate)),(.p (.int .i64 x0.f_Type)),(.p (.int .i64 x0.Count)),v241]) rfl rfl ⟨(FrC.v (sI _ _)),⟨(FrC.v (sI _ _)),⟨(FrC.v (sI _ _)),⟨(FrC.v h2.still),⟨(FrC.v h4.still),⟨(FrC.v h6.still),⟨(FrC.v (sI _ _)),⟨(FrC.v (sI _ _)),⟨(FrC.v (sI _ _)),⟨h242,trivial⟩⟩⟩⟩⟩⟩⟩⟩⟩⟩ rfl (by decide)
  refine Sim.op (e246) ?_
  obtain ⟨H251,e252,S253⟩:=Fm.stFrz (S0:=S237) (i0:=0) (i:=0) (j:=0) (n:=10) (σ:=(1::0::1::1::0::σ)) S249 rfl e248 rfl rfl h250 rfl rfl
  refine Sim.op (sM e252) ?_
  have e254 : ldO true 10 H251 (.ref ⟨h.length,6,0,(1::0::0::σ),[]⟩ 0) = some (.agg [.p (.int .i64 x0.Kind),.p (.int .u32 x0.From),.p (.int .u32 x0.About),v1,v3,v5,.p (.int .u64 x0.Rate),.p (.int .i64 x0.f_Type),.p (.int .i64 x0.Count),v241]):=(S253.atG (i:=0) rfl).ldVs (j:=0) rfl rfl (by decide)
  refine Sim.op (congrArg (Option.bind · _) e254) ?_
  exact Sim.fin (S253.finN (lC (Stills.lv (dTaiReport.still (dTaiReport.mk h2 h4 h6 h243))) lN)) ⟨_,(dTaiReport.mk h2 h4 h6 h243),rfl⟩
end Go.Ev
namespace Go.Ev
open Go.Proofs
set_option linter.unusedVariables false
set_option linter.unusedSimpArgs false
set_option maxRecDepth 100000
noncomputable section
abbrev KT25:=Exit→Env→H→Option (List C × H)
variable (rec : CallF) (loop : LoopV) (σ : Stamp)
theorem zl6_reads_entry (x0 : V) (h : H) : cvBody G rec loop 19 σ [x0] h =
(callFO rec 25 (1::0::1::0::σ) [x0] (List.replicate 32 []::h) (some 9)).bind fun q1 =>
(extV q1.1 0).bind fun t2 =>
(extV q1.1 1).bind fun t3 =>
(castI .i64 t3).bind fun n4 =>
(callO rec 49 (1::0::1::1::0::σ) [x0] q1.2 (some 14)).bind fun q5 =>
(extV q5.1 0).bind fun t6 =>
(extV q5.1 1).bind fun t7 =>
(castI .i64 t7).bind fun n8 =>
(bif n4 == n8 then ((callO rec 26 (6::0::1::1::1::0::σ) [t2,t6] q5.2 (some 23)).bind fun q9 =>
(asB q9.1).bind fun b10 =>
some ((.p (.bool b10)),q9.2)) else (some ((.p (.bool false)),q5.2))).bind fun q11 =>
(asB q11.1).bind fun b12 =>
(bif b12 then ((callO rec 29 (10::0::1::1::1::0::σ) [x0] q11.2 (some 27)).bind fun q13 =>
(asB q13.1).bind fun b14 =>
(callO rec 50 (12::0::1::1::1::0::σ) [x0] q13.2 (some 29)).bind fun q15 =>
(asB q15.1).bind fun b16 =>
some ((.p (.bool (b14 == b16))),q15.2)) else (some ((.p (.bool false)),q11.2))).bind fun q17 =>
(asB q17.1).bind fun b18 =>
fin false σ q17.2 [(.p (.bool b18))]:=by kernel_rfl
def zr6_All_c0 : Code:=(codeAt (bodyOf Try.f26) [1,1,0,1,0,0])
def zr6_All_l0 : Lv:=⟨0,16,[(0,0)]⟩
def zr6_All_k0 : KT25:=(kBlock 0 (kSeq G rec loop (codeAt (bodyOf Try.f26) [1,1,1]) ⟨16,16,[]⟩ (1::1::0::σ) (finC G false Try.f26 (1::σ))))
theorem zr6_All_entry (x0 : V) (x1 : V) (h : H) : cvBody G rec loop 26 σ [x0,x1] h =
(lenO x0).bind fun t1 =>
(castI .i64 t1).bind fun n2 =>
(lenO x1).bind fun t3 =>
(castI .i64 t3).bind fun n4 =>
bif n2 != n4 then (
fin false σ (List.replicate 27 []::h) [(.p (.bool false))])
else (
(lenO x0).bind fun t5 =>
(castI .i64 t5).bind fun n6 =>
(loop zr6_All_c0 zr6_All_l0 (1::0::1::1::0::σ) (envL [(0,x0),(1,x1),(12,(.p (.int .i64 n6))),(13,(.p (.int .i64 0)))]) (List.replicate 27 []::h)).bind fun r7 => zr6_All_k0 rec loop σ r7.1 r7.2.1 r7.2.2):=by kernel_rfl
theorem zr6_All_r0 (x0 : V) (x1 : V) (x12 : Int) (x13 : Int) (h : H) : cvRound G rec loop zr6_All_c0 zr6_All_l0 σ (envL [(0,x0),(1,x1),(12,(.p (.int .i64 x12))),(13,(.p (.int .i64 x13)))]) h =
bif decide (x13 < x12) then (
(iS 10 x0 x13).bind fun t8 =>
(ldO true 10 h t8).bind fun t9 =>
(iS 10 x1 x13).bind fun t10 =>
(ldO true 10 h t10).bind fun t11 =>
(callO rec 23 (8::0::1::0::1::1::0::σ) [t9,t11] h (some 24)).bind fun q12 =>
(asB q12.1).bind fun b13 =>
bif !b13 then (
some (.ret,(envL [(4,(.p (.bool false)))]),q12.2))
else (
loop zr6_All_c0 zr6_All_l0 (1::σ) (envL [(0,x0),(1,x1),(12,(.p (.int .i64 x12))),(13,(.p (.int .i64 (IntKind.wrap .i64 (x13 + 1)))))]) q12.2))
else (
some ((.exit 0),(envL []),h)):=by kernel_rfl
theorem zr6_All_a0_0  (h : H) : zr6_All_k0 rec loop σ (.exit 0) (envL []) h =
fin false σ h [(.p (.bool true))]:=by kernel_rfl
theorem zr6_All_a0_ret (x4 : Bool) (h : H) : zr6_All_k0 rec loop σ .ret (envL [(4,(.p (.bool x4)))]) h =
fin false σ h [(.p (.bool x4))]:=by kernel_rfl
def zr6_Same_c0 : Code:=(codeAt (bodyOf Try.f23) [1,1,0,1,0,0])
def zr6_Same_l0 : Lv:=⟨0,16,[(0,0)]⟩
def zr6_Same_k0 : KT25:=(kBlock 0 (kSeq G rec loop (codeAt (bodyOf Try.f23) [1,1,1]) ⟨16,16,[]⟩ (1::1::0::σ) (finC G false Try.f23 (1::σ))))
theorem zr6_Same_entry (x0 : V) (x1 : V) (h : H) : cvBody G rec loop 23 σ [x0,x1] h =
(boxO false (0::0::0::σ) 2 (List.replicate 98 []::h) x0).bind fun q1 =>
(boxO false (1::0::0::σ) 3 q1.2 x1).bind fun q2 =>
(fA q1.1 0).bind fun t3 =>
(ldO false 1 q2.2 t3).bind fun t4 =>
(castI .i64 t4).bind fun n5 =>
(fA q2.1 0).bind fun t6 =>
(ldO false 1 q2.2 t6).bind fun t7 =>
(castI .i64 t7).bind fun n8 =>
(bif n5 != n8 then (some true) else ((fA q1.1 1).bind fun t9 =>
(ldO false 1 q2.2 t9).bind fun t10 =>
(castI .u32 t10).bind fun n11 =>
(fA q2.1 1).bind fun t12 =>
(ldO false 1 q2.2 t12).bind fun t13 =>
(castI .u32 t13).bind fun n14 =>
some (n11 != n14))).bind fun b15 =>
(bif b15 then (some true) else ((fA q1.1 2).bind fun t16 =>
(ldO false 1 q2.2 t16).bind fun t17 =>
(castI .u32 t17).bind fun n18 =>
(fA q2.1 2).bind fun t19 =>
(ldO false 1 q2.2 t19).bind fun t20 =>
(castI .u32 t20).bind fun n21 =>
some (n18 != n21))).bind fun b22 =>
(bif b22 then (some true) else ((fA q1.1 6).bind fun t23 =>
(ldO false 1 q2.2 t23).bind fun t24 =>
(castI .u64 t24).bind fun n25 =>
(fA q2.1 6).bind fun t26 =>
(ldO false 1 q2.2 t26).bind fun t27 =>
(castI .u64 t27).bind fun n28 =>
some (n25 != n28))).bind fun b29 =>
(bif b29 then (some true) else ((fA q1.1 7).bind fun t30 =>
(ldO false 1 q2.2 t30).bind fun t31 =>
(castI .i64 t31).bind fun n32 =>
(fA q2.1 7).bind fun t33 =>
(ldO false 1 q2.2 t33).bind fun t34 =>
(castI .i64 t34).bind fun n35 =>
some (n32 != n35))).bind fun b36 =>
(bif b36 then (some true) else ((fA q1.1 8).bind fun t37 =>
(ldO false 1 q2.2 t37).bind fun t38 =>
(castI .i64 t38).bind fun n39 =>
(fA q2.1 8).bind fun t40 =>
(ldO false 1 q2.2 t40).bind fun t41 =>
(castI .i64 t41).bind fun n42 =>
some (n39 != n42))).bind fun b43 =>
(bif b43 then (some true) else ((fA q1.1 9).bind fun t44 =>
(ldO false 1 q2.2 t44).bind fun t45 =>
(strO q2.2 t45).bind fun t46 =>
(castS t46).bind fun s47 =>
(fA q2.1 9).bind fun t48 =>
(ldO false 1 q2.2 t48).bind fun t49 =>
(strO q2.2 t49).bind fun t50 =>
(castS t50).bind fun s51 =>
some (!(s47.toList == s51.toList)))).bind fun b52 =>
(bif b52 then (some ((.p (.bool true)),q2.2)) else ((fA q1.1 4).bind fun t53 =>
(ldO false 1 q2.2 t53).bind fun t54 =>
(fA q2.1 4).bind fun t55 =>
(ldO false 1 q2.2 t55).bind fun t56 =>
(callO rec 55 (54::0::0::1::0::σ) [t54,t56] q2.2 (some 60)).bind fun q57 =>
(asB q57.1).bind fun b58 =>
some ((.p (.bool (!b58))),q57.2))).bind fun q59 =>
(asB q59.1).bind fun b60 =>
(bif b60 then (some ((.p (.bool true)),q59.2)) else ((fA q1.1 3).bind fun t61 =>
(ldO false 1 q59.2 t61).bind fun t62 =>
(fA q2.1 3).bind fun t63 =>
(ldO false 1 q59.2 t63).bind fun t64 =>
(callO rec 31 (62::0::0::1::0::σ) [t62,t64] q59.2 (some 68)).bind fun q65 =>
(asB q65.1).bind fun b66 =>
some ((.p (.bool (!b66))),q65.2))).bind fun q67 =>
(asB q67.1).bind fun b68 =>
(bif b68 then (some true) else ((fA q1.1 5).bind fun t69 =>
(ldO false 1 q67.2 t69).bind fun t70 =>
(lenO t70).bind fun t71 =>
(castI .i64 t71).bind fun n72 =>
(fA q2.1 5).bind fun t73 =>
(ldO false 1 q67.2 t73).bind fun t74 =>
(lenO t74).bind fun t75 =>
(castI .i64 t75).bind fun n76 =>
some (n72 != n76))).bind fun b77 =>
bif b77 then (
fin false σ q67.2 [(.p (.bool false))])
else (
(fA q1.1 5).bind fun t78 =>
(ldO false 1 q67.2 t78).bind fun t79 =>
(lenO t79).bind fun t80 =>
(castI .i64 t80).bind fun n81 =>
(loop zr6_Same_c0 zr6_Same_l0 (1::0::1::1::0::σ) (envL [(2,q1.1),(3,q2.1),(82,(.p (.int .i64 n81))),(83,(.p (.int .i64 0)))]) q67.2).bind fun r82 => zr6_Same_k0 rec loop σ r82.1 r82.2.1 r82.2.2):=by kernel_rfl
theorem zr6_Same_r0 (x2 : V) (x3 : V) (x82 : Int) (x83 : Int) (h : H) : cvRound G rec loop zr6_Same_c0 zr6_Same_l0 σ (envL [(2,x2),(3,x3),(82,(.p (.int .i64 x82))),(83,(.p (.int .i64 x83)))]) h =
bif decide (x83 < x82) then (
(fA x2 5).bind fun t83 =>
(ldO false 1 h t83).bind fun t84 =>
(iS 1 t84 x83).bind fun t85 =>
(ldO false 1 h t85).bind fun t86 =>
(castI .i64 t86).bind fun n87 =>
(fA x3 5).bind fun t88 =>
(ldO false 1 h t88).bind fun t89 =>
(iS 1 t89 x83).bind fun t90 =>
(ldO false 1 h t90).bind fun t91 =>
(castI .i64 t91).bind fun n92 =>
bif n87 != n92 then (
some (.ret,(envL [(4,(.p (.bool false)))]),h))
else (
loop zr6_Same_c0 zr6_Same_l0 (1::σ) (envL [(2,x2),(3,x3),(82,(.p (.int .i64 x82))),(83,(.p (.int .i64 (IntKind.wrap .i64 (x83 + 1)))))]) h))
else (
some ((.exit 0),(envL []),h)):=by kernel_rfl
theorem zr6_Same_a0_0  (h : H) : zr6_Same_k0 rec loop σ (.exit 0) (envL []) h =
fin false σ h [(.p (.bool true))]:=by kernel_rfl
theorem zr6_Same_a0_ret (x4 : Bool) (h : H) : zr6_Same_k0 rec loop σ .ret (envL [(4,(.p (.bool x4)))]) h =
fin false σ h [(.p (.bool x4))]:=by kernel_rfl
def zr6_Tuples_c0 : Code:=(codeAt (bodyOf Try.f31) [1,1,0,1,0,0])
def zr6_Tuples_l0 : Lv:=⟨0,16,[(0,0)]⟩
def zr6_Tuples_k0 : KT25:=(kBlock 0 (kSeq G rec loop (codeAt (bodyOf Try.f31) [1,1,1]) ⟨16,16,[]⟩ (1::1::0::σ) (finC G false Try.f31 (1::σ))))
theorem zr6_Tuples_entry (x0 : V) (x1 : V) (h : H) : cvBody G rec loop 31 σ [x0,x1] h =
(lenO x0).bind fun t1 =>
(castI .i64 t1).bind fun n2 =>
(lenO x1).bind fun t3 =>
(castI .i64 t3).bind fun n4 =>
bif n2 != n4 then (
fin false σ (List.replicate 26 []::h) [(.p (.bool false))])
else (
(lenO x0).bind fun t5 =>
(castI .i64 t5).bind fun n6 =>
(loop zr6_Tuples_c0 zr6_Tuples_l0 (1::0::1::1::0::σ) (envL [(0,x0),(1,x1),(12,(.p (.int .i64 n6))),(13,(.p (.int .i64 0)))]) (List.replicate 26 []::h)).bind fun r7 => zr6_Tuples_k0 rec loop σ r7.1 r7.2.1 r7.2.2):=by kernel_rfl
theorem zr6_Tuples_r0 (x0 : V) (x1 : V) (x12 : Int) (x13 : Int) (h : H) : cvRound G rec loop zr6_Tuples_c0 zr6_Tuples_l0 σ (envL [(0,x0),(1,x1),(12,(.p (.int .i64 x12))),(13,(.p (.int .i64 x13)))]) h =
bif decide (x13 < x12) then (
(iS 3 x0 x13).bind fun t8 =>
(ldO true 3 h t8).bind fun t9 =>
(iS 3 x1 x13).bind fun t10 =>
(ldO true 3 h t10).bind fun t11 =>
(binV Try.prog h .neq 57 t9 t11).bind fun t12 =>
(asB t12).bind fun b13 =>
bif b13 then (
some (.ret,(envL [(4,(.p (.bool false)))]),h))
else (
loop zr6_Tuples_c0 zr6_Tuples_l0 (1::σ) (envL [(0,x0),(1,x1),(12,(.p (.int .i64 x12))),(13,(.p (.int .i64 (IntKind.wrap .i64 (x13 + 1)))))]) h))
else (
some ((.exit 0),(envL []),h)):=by kernel_rfl
theorem zr6_Tuples_a0_0  (h : H) : zr6_Tuples_k0 rec loop σ (.exit 0) (envL []) h =
fin false σ h [(.p (.bool true))]:=by kernel_rfl
theorem zr6_Tuples_a0_ret (x4 : Bool) (h : H) : zr6_Tuples_k0 rec loop σ .ret (envL [(4,(.p (.bool x4)))]) h =
fin false σ h [(.p (.bool x4))]:=by kernel_rfl
end
end Go.Ev
namespace Go.Ev
open Go.Proofs
set_option linter.unusedVariables false
set_option linter.unusedSimpArgs false
set_option maxRecDepth 100000
def p_zr6_Tuples_l0 {β : Type} (k : Nat) (kE0 : Unit→Option β) (kE1 : Bool→Option β) (x0 : (List TaiTuple)) (x1 : (List TaiTuple)) (x12 : Int) (x13 : Int) : Option β:=match k with
| 0 => none
| k + 1 =>
bif decide (x13 < x12) then (
(ix x0 x13).bind fun a9 =>
(ix x1 x13).bind fun a14 =>
bif !(andB [a9.Owner == a14.Owner,a9.Rate == a14.Rate,a9.Over == a14.Over]) then (
kE1 false)
else (
p_zr6_Tuples_l0 k kE0 kE1 x0 x1 x12 (IntKind.wrap .i64 (x13 + 1))))
else (
kE0 ())
def p_zr6_Tuples (k : Nat) (x0 : (List TaiTuple)) (x1 : (List TaiTuple)) : Option (Bool) :=
bif ((x0.length : Int)) != ((x1.length : Int)) then (
some (false))
else (
p_zr6_Tuples_l0 k (fun (_ : Unit) =>
some (true)) (fun r27_4 =>
some (r27_4)) x0 x1 ((x0.length : Int)) 0)
theorem zr6_Tuples_l0_ok {h : H}  {β α : Type} {Q : β→α→Prop} {K : Exit × Env × H→Option α} {kE0 : Unit→Option β} {kE1 : Bool→Option β} (hE0 : ∀ (_u : Unit) (H20 : Go.Ev.H) (_ : Fm 26 h [] [] [] H20),Sim (kE0 ()) (K ((.exit 0),(envL []),H20)) Q) (hE1 : ∀ (q4 : Bool) (H22 : Go.Ev.H) (_ : Fm 26 h [] [] [] H22),Sim (kE1 q4) (K (.ret,(envL [(4,(.p (.bool q4)))]),H22)) Q) (k : Nat) : ∀ (x0 : (List TaiTuple)) (x1 : (List TaiTuple)) (x12 : Int) (x13 : Int) (v4 : V) (h5 : SlH h dTaiTuple x0 v4) (v6 : V) (h7 : SlH h dTaiTuple x1 v6) (H2 : Go.Ev.H) (_ : Fm 26 h [] [] [] H2) {σ : Stamp},Sim (p_zr6_Tuples_l0 k kE0 kE1 x0 x1 x12 x13) ((cvL G X0 zr6_Tuples_c0 zr6_Tuples_l0 σ (envL [(0,v4),(1,v6),(12,(.p (.int .i64 x12))),(13,(.p (.int .i64 x13)))]) H2).bind K) Q:=by
  induction k with
  | zero => intros; exact Sim.no
  | succ k ih =>
    intro x0 x1 x12 x13 v4 h5 v6 h7 H2 S3 σ
    rw [p_zr6_Tuples_l0]
    refine Sim.round (Sim.ext (zr6_Tuples_r0 _ _ _ _ _ _ _ _) ?_)
    refine Sim.cq ?_ ?_
    · refine Sim.bd fun a9 h10 => ?_
      refine Sim.op ((S3.low h5).iS h10 rfl) ?_
      obtain ⟨w12,h13,hE11⟩:=(S3.low h5).el h10 rfl
      obtain rfl:=dTaiTuple.inv h13
      refine Sim.op (hE11.all (by simp)) ?_
      refine Sim.bd fun a14 h15 => ?_
      refine Sim.op ((S3.low h7).iS h15 rfl) ?_
      obtain ⟨w17,h18,hE16⟩:=(S3.low h7).el h15 rfl
      obtain rfl:=dTaiTuple.inv h18
      refine Sim.op (hE16.all (by simp)) ?_
      refine Sim.op (nqS_ok (by kernel_rfl : _ = andL [a9.Owner == a14.Owner,a9.Rate == a14.Rate,a9.Over == a14.Over])) ?_
      refine Sim.ab ?_
      refine Sim.cq ?_ ?_
      · exact hE1 false H2 (S3.wk2 aN aN)
      exact ih x0 x1 x12 (IntKind.wrap .i64 (x13 + 1)) v4 h5 v6 h7 H2 (S3.wk2 aN aN)
    exact hE0 () H2 (S3.wk2 aN aN)
theorem zr6_Tuples_ok (k : Nat) {h : H} {σ : Stamp} (x0 : List TaiTuple) {u0 : V} (hu0 : SlH h dTaiTuple x0 u0) (x1 : List TaiTuple) {u1 : V} (hu1 : SlH h dTaiTuple x1 u1) : Sim (p_zr6_Tuples k x0 x1) (ev G X0 31 σ [u0,u1] h) (fun r s => s = ([.v (.p (.bool r))],h)):=by
  refine Sim.ev rfl (Sim.ext (zr6_Tuples_entry _ _ _ _ _ _) ?_)
  rw [p_zr6_Tuples]
  have S0 : Fm 26 h [] [] [] (List.replicate 26 []::h):=Fm.start0
  refine Sim.op ((S0.low hu0).len) ?_
  refine Sim.ci ?_
  refine Sim.op ((S0.low hu1).len) ?_
  refine Sim.ci ?_
  refine Sim.cq ?_ ?_
  · exact Sim.fin (S0.finN (lC (sB _).lv lN)) rfl
  refine Sim.op ((S0.low hu0).len) ?_
  refine Sim.ci ?_
  refine Sim.as (zr6_Tuples_l0_ok ?_ ?_ k x0 x1 ((x0.length : Int)) 0 u0 hu0 u1 hu1 (List.replicate 26 []::h) (S0.wk2 aN aN))
  · intro _u H25 S26
    refine Sim.ext (zr6_Tuples_a0_0 _ _ _ _) ?_
    exact Sim.fin (S26.finN (lC (sB _).lv lN)) rfl
  · intro r27_4 H28 S29
    refine Sim.ext (zr6_Tuples_a0_ret _ _ _ _ _) ?_
    exact Sim.fin (S29.finN (lC (sB _).lv lN)) rfl
end Go.Ev
namespace Go.Ev
open Go.Proofs
set_option linter.unusedVariables false
set_option linter.unusedSimpArgs false
set_option maxRecDepth 100000
noncomputable section
abbrev KT26:=Exit→Env→H→Option (List C × H)
variable (rec : CallF) (loop : LoopV) (σ : Stamp)
def zr6_nums_c0 : Code:=(codeAt (bodyOf Try.f55) [1,1,0,1,0,0])
def zr6_nums_l0 : Lv:=⟨0,16,[(0,0)]⟩
def zr6_nums_k0 : KT26:=(kBlock 0 (kSeq G rec loop (codeAt (bodyOf Try.f55) [1,1,1]) ⟨16,16,[]⟩ (1::1::0::σ) (finC G true Try.f55 (1::σ))))
theorem zr6_nums_entry (x0 : V) (x1 : V) (h : H) : cvBody G rec loop 55 σ [x0,x1] h =
(lenO x0).bind fun t1 =>
(castI .i64 t1).bind fun n2 =>
(lenO x1).bind fun t3 =>
(castI .i64 t3).bind fun n4 =>
bif n2 != n4 then (
fin true σ (List.replicate 26 []::h) [(.p (.bool false))])
else (
(lenO x0).bind fun t5 =>
(castI .i64 t5).bind fun n6 =>
(loop zr6_nums_c0 zr6_nums_l0 (1::0::1::1::0::σ) (envL [(0,x0),(1,x1),(12,(.p (.int .i64 n6))),(13,(.p (.int .i64 0)))]) (List.replicate 26 []::h)).bind fun r7 => zr6_nums_k0 rec loop σ r7.1 r7.2.1 r7.2.2):=by kernel_rfl
theorem zr6_nums_r0 (x0 : V) (x1 : V) (x12 : Int) (x13 : Int) (h : H) : cvRound G rec loop zr6_nums_c0 zr6_nums_l0 σ (envL [(0,x0),(1,x1),(12,(.p (.int .i64 x12))),(13,(.p (.int .i64 x13)))]) h =
bif decide (x13 < x12) then (
(iS 1 x0 x13).bind fun t8 =>
(ldO false 1 h t8).bind fun t9 =>
(castI .u32 t9).bind fun n10 =>
(iS 1 x1 x13).bind fun t11 =>
(ldO false 1 h t11).bind fun t12 =>
(castI .u32 t12).bind fun n13 =>
bif n10 != n13 then (
some (.ret,(envL [(4,(.p (.bool false)))]),h))
else (
loop zr6_nums_c0 zr6_nums_l0 (1::σ) (envL [(0,x0),(1,x1),(12,(.p (.int .i64 x12))),(13,(.p (.int .i64 (IntKind.wrap .i64 (x13 + 1)))))]) h))
else (
some ((.exit 0),(envL []),h)):=by kernel_rfl
theorem zr6_nums_a0_0  (h : H) : zr6_nums_k0 rec loop σ (.exit 0) (envL []) h =
fin true σ h [(.p (.bool true))]:=by kernel_rfl
theorem zr6_nums_a0_ret (x4 : Bool) (h : H) : zr6_nums_k0 rec loop σ .ret (envL [(4,(.p (.bool x4)))]) h =
fin true σ h [(.p (.bool x4))]:=by kernel_rfl
end
end Go.Ev
namespace Go.Ev
open Go.Proofs
set_option linter.unusedVariables false
set_option linter.unusedSimpArgs false
set_option maxRecDepth 100000
def p_zr6_nums_l0 {β : Type} (k : Nat) (kE0 : Unit→Option β) (kE1 : Bool→Option β) (x0 : (List Int)) (x1 : (List Int)) (x12 : Int) (x13 : Int) : Option β:=match k with
| 0 => none
| k + 1 =>
bif decide (x13 < x12) then (
(ix x0 x13).bind fun a9 =>
(ix x1 x13).bind fun a12 =>
bif a9 != a12 then (
kE1 false)
else (
p_zr6_nums_l0 k kE0 kE1 x0 x1 x12 (IntKind.wrap .i64 (x13 + 1))))
else (
kE0 ())
def p_zr6_nums (k : Nat) (x0 : (List Int)) (x1 : (List Int)) : Option (Bool) :=
bif ((x0.length : Int)) != ((x1.length : Int)) then (
some (false))
else (
p_zr6_nums_l0 k (fun (_ : Unit) =>
some (true)) (fun r23_4 =>
some (r23_4)) x0 x1 ((x0.length : Int)) 0)
theorem zr6_nums_l0_ok {h : H}  {β α : Type} {Q : β→α→Prop} {K : Exit × Env × H→Option α} {kE0 : Unit→Option β} {kE1 : Bool→Option β} (hE0 : ∀ (_u : Unit) (H16 : Go.Ev.H) (_ : Fm 26 h [] [] [] H16),Sim (kE0 ()) (K ((.exit 0),(envL []),H16)) Q) (hE1 : ∀ (q4 : Bool) (H18 : Go.Ev.H) (_ : Fm 26 h [] [] [] H18),Sim (kE1 q4) (K (.ret,(envL [(4,(.p (.bool q4)))]),H18)) Q) (k : Nat) : ∀ (x0 : (List Int)) (x1 : (List Int)) (x12 : Int) (x13 : Int) (v4 : V) (h5 : SlH h (dI .u32) x0 v4) (v6 : V) (h7 : SlH h (dI .u32) x1 v6) (H2 : Go.Ev.H) (_ : Fm 26 h [] [] [] H2) {σ : Stamp},Sim (p_zr6_nums_l0 k kE0 kE1 x0 x1 x12 x13) ((cvL G X0 zr6_nums_c0 zr6_nums_l0 σ (envL [(0,v4),(1,v6),(12,(.p (.int .i64 x12))),(13,(.p (.int .i64 x13)))]) H2).bind K) Q:=by
  induction k with
  | zero => intros; exact Sim.no
  | succ k ih =>
    intro x0 x1 x12 x13 v4 h5 v6 h7 H2 S3 σ
    rw [p_zr6_nums_l0]
    refine Sim.round (Sim.ext (zr6_nums_r0 _ _ _ _ _ _ _ _) ?_)
    refine Sim.cq ?_ ?_
    · refine Sim.bd fun a9 h10 => ?_
      refine Sim.op ((S3.low h5).iS h10 rfl) ?_
      obtain ⟨_,rfl,hE11⟩:=(S3.low h5).el h10 rfl
      refine Sim.op (hE11.ld (j:=0) rfl) ?_
      refine Sim.ci ?_
      refine Sim.bd fun a12 h13 => ?_
      refine Sim.op ((S3.low h7).iS h13 rfl) ?_
      obtain ⟨_,rfl,hE14⟩:=(S3.low h7).el h13 rfl
      refine Sim.op (hE14.ld (j:=0) rfl) ?_
      refine Sim.ci ?_
      refine Sim.cq ?_ ?_
      · exact hE1 false H2 (S3.wk2 aN aN)
      exact ih x0 x1 x12 (IntKind.wrap .i64 (x13 + 1)) v4 h5 v6 h7 H2 (S3.wk2 aN aN)
    exact hE0 () H2 (S3.wk2 aN aN)
theorem zr6_nums_ok (k : Nat) {h : H} {σ : Stamp} (x0 : List Int) {u0 : V} (hu0 : SlH h (dI .u32) x0 u0) (x1 : List Int) {u1 : V} (hu1 : SlH h (dI .u32) x1 u1) : Sim (p_zr6_nums k x0 x1) (ev G X0 55 σ [u0,u1] h) (fun r s => s = ([.v (.p (.bool r))],h)):=by
  refine Sim.ev rfl (Sim.ext (zr6_nums_entry _ _ _ _ _ _) ?_)
  rw [p_zr6_nums]
  have S0 : Fm 26 h [] [] [] (List.replicate 26 []::h):=Fm.start0
  refine Sim.op ((S0.low hu0).len) ?_
  refine Sim.ci ?_
  refine Sim.op ((S0.low hu1).len) ?_
  refine Sim.ci ?_
  refine Sim.cq ?_ ?_
  · exact Sim.fin (S0.finN (lC (sB _).lv lN)) rfl
  refine Sim.op ((S0.low hu0).len) ?_
  refine Sim.ci ?_
  refine Sim.as (zr6_nums_l0_ok ?_ ?_ k x0 x1 ((x0.length : Int)) 0 u0 hu0 u1 hu1 (List.replicate 26 []::h) (S0.wk2 aN aN))
  · intro _u H21 S22
    refine Sim.ext (zr6_nums_a0_0 _ _ _ _) ?_
    exact Sim.fin (S22.finN (lC (sB _).lv lN)) rfl
  · intro r23_4 H24 S25
    refine Sim.ext (zr6_nums_a0_ret _ _ _ _ _) ?_
    exact Sim.fin (S25.finN (lC (sB _).lv lN)) rfl
def p_zr6_Same_l0 {β : Type} (k : Nat) (kE0 : Unit→Option β) (kE1 : Bool→Option β) (x82 : Int) (x83 : Int) (yg20 : TaiReport) (yg24 : TaiReport) : Option β:=match k with
| 0 => none
| k + 1 =>
bif decide (x83 < x82) then (
(ix yg20.Numbers x83).bind fun a95 =>
(ix yg24.Numbers x83).bind fun a98 =>
bif a95 != a98 then (
kE1 false)
else (
p_zr6_Same_l0 k kE0 kE1 x82 (IntKind.wrap .i64 (x83 + 1)) yg20 yg24))
else (
kE0 ())
def p_zr6_Same (k : Nat) (x0 : TaiReport) (x1 : TaiReport) : Option (Bool) :=
(bif x0.Kind != x1.Kind then (some true) else (some (x0.From != x1.From))).bind fun b25 =>
(bif b25 then (some true) else (some (x0.About != x1.About))).bind fun b29 =>
(bif b29 then (some true) else (some (x0.Rate != x1.Rate))).bind fun b33 =>
(bif b33 then (some true) else (some (x0.f_Type != x1.f_Type))).bind fun b37 =>
(bif b37 then (some true) else (some (x0.Count != x1.Count))).bind fun b41 =>
(bif b41 then (some true) else (some (!((strB x0.Body).toList == (strB x1.Body).toList)))).bind fun b45 =>
(bif b45 then (some true) else ((p_zr6_nums k x0.Abouts x1.Abouts).bind fun r49 =>
some (!r49))).bind fun b54 =>
(bif b54 then (some true) else ((p_zr6_Tuples k x0.Tuples x1.Tuples).bind fun r58 =>
some (!r58))).bind fun b63 =>
(bif b63 then (some true) else (some (((x0.Numbers.length : Int)) != ((x1.Numbers.length : Int))))).bind fun b67 =>
bif b67 then (
some (false))
else (
p_zr6_Same_l0 k (fun (_ : Unit) =>
some (true)) (fun r109_4 =>
some (r109_4)) ((x0.Numbers.length : Int)) 0 x0 x1)
theorem zr6_Same_l0_ok {h : H}  {β α : Type} {Q : β→α→Prop} {K : Exit × Env × H→Option α} {kE0 : Unit→Option β} {kE1 : Bool→Option β} (hE0 : ∀ (_u : Unit) (H102 : Go.Ev.H) (_ : Fm 98 h [] [] [] H102),Sim (kE0 ()) (K ((.exit 0),(envL []),H102)) Q) (hE1 : ∀ (q4 : Bool) (H104 : Go.Ev.H) (_ : Fm 98 h [] [] [] H104),Sim (kE1 q4) (K (.ret,(envL [(4,(.p (.bool q4)))]),H104)) Q) (k : Nat) : ∀ (x82 : Int) (x83 : Int) (yg20 : TaiReport) (yg24 : TaiReport) (v74 : V) (h75 : SlF dTaiTuple yg20.Tuples v74) (v76 : V) (h77 : SlF (dI .u32) yg20.Abouts v76) (v78 : V) (h79 : SlF (dI .i64) yg20.Numbers v78) (v80 : V) (h81 : SlF (dI .u8) yg20.Body v80) (s82 : Stamp) (v84 : V) (h85 : SlF dTaiTuple yg24.Tuples v84) (v86 : V) (h87 : SlF (dI .u32) yg24.Abouts v86) (v88 : V) (h89 : SlF (dI .i64) yg24.Numbers v88) (v90 : V) (h91 : SlF (dI .u8) yg24.Body v90) (s92 : Stamp) (H72 : Go.Ev.H) (_ : Fm 98 h [] [(2,s82,List.map C.v [(.p (.int .i64 yg20.Kind)),(.p (.int .u32 yg20.From)),(.p (.int .u32 yg20.About)),v74,v76,v78,(.p (.int .u64 yg20.Rate)),(.p (.int .i64 yg20.f_Type)),(.p (.int .i64 yg20.Count)),v80]),(3,s92,List.map C.v [(.p (.int .i64 yg24.Kind)),(.p (.int .u32 yg24.From)),(.p (.int .u32 yg24.About)),v84,v86,v88,(.p (.int .u64 yg24.Rate)),(.p (.int .i64 yg24.f_Type)),(.p (.int .i64 yg24.Count)),v90])] [] H72) {σ : Stamp},Sim (p_zr6_Same_l0 k kE0 kE1 x82 x83 yg20 yg24) ((cvL G X0 zr6_Same_c0 zr6_Same_l0 σ (envL [(2,(.ref ⟨h.length,2,0,s82,[]⟩ 0)),(3,(.ref ⟨h.length,3,0,s92,[]⟩ 0)),(82,(.p (.int .i64 x82))),(83,(.p (.int .i64 x83)))]) H72).bind K) Q:=by
  induction k with
  | zero => intros; exact Sim.no
  | succ k ih =>
    intro x82 x83 yg20 yg24 v74 h75 v76 h77 v78 h79 v80 h81 s82 v84 h85 v86 h87 v88 h89 v90 h91 s92 H72 S73 σ
    rw [p_zr6_Same_l0]
    refine Sim.round (Sim.ext (zr6_Same_r0 _ _ _ _ _ _ _ _) ?_)
    refine Sim.cq ?_ ?_
    · refine Sim.fa ?_
      refine Sim.op ((S73.atG (i:=0) rfl).ld (j:=5) rfl) ?_
      refine Sim.bd fun a95 h96 => ?_
      refine Sim.op ((h79.h H72).iS h96 rfl) ?_
      obtain ⟨_,rfl,hE97⟩:=(h79.h H72).el h96 rfl
      refine Sim.op (hE97.ld (j:=0) rfl) ?_
      refine Sim.ci ?_
      refine Sim.fa ?_
      refine Sim.op ((S73.atG (i:=1) rfl).ld (j:=5) rfl) ?_
      refine Sim.bd fun a98 h99 => ?_
      refine Sim.op ((h89.h H72).iS h99 rfl) ?_
      obtain ⟨_,rfl,hE100⟩:=(h89.h H72).el h99 rfl
      refine Sim.op (hE100.ld (j:=0) rfl) ?_
      refine Sim.ci ?_
      refine Sim.cq ?_ ?_
      · exact hE1 false H72 (S73.wk2 aN aN)
      exact ih x82 (IntKind.wrap .i64 (x83 + 1)) yg20 yg24 v74 h75 v76 h77 v78 h79 v80 h81 s82 v84 h85 v86 h87 v88 h89 v90 h91 s92 H72 (S73.wk2 (aC (aM 0 rfl) (aC (aM 1 rfl) aN)) aN)
    exact hE0 () H72 (S73.wk2 aN aN)
theorem zr6_Same_ok (k : Nat) {h : H} {σ : Stamp} (x0 : TaiReport) {u0 : List V} (hu0 : dTaiReport.R x0 u0) (x1 : TaiReport) {u1 : List V} (hu1 : dTaiReport.R x1 u1) : Sim (p_zr6_Same k x0 x1) (ev G X0 23 σ [(.agg u0),(.agg u1)] h) (fun r s => s = ([.v (.p (.bool r))],h)):=by
  refine Sim.ev rfl (Sim.ext (zr6_Same_entry _ _ _ _ _ _) ?_)
  rw [p_zr6_Same]
  obtain ⟨v1,v3,v5,v7,rfl,h2,h4,h6,h8⟩:=dTaiReport.inv hu0
  obtain ⟨v9,v11,v13,v15,rfl,h10,h12,h14,h16⟩:=dTaiReport.inv hu1
  have S0 : Fm 98 h [] [] [] (List.replicate 98 []::h):=Fm.start0
  obtain ⟨H17,e18,S19⟩:=S0.box (own:=false) (d:=2) (s:=(0::0::0::σ)) (xs:=[(.p (.int .i64 x0.Kind)),(.p (.int .u32 x0.From)),(.p (.int .u32 x0.About)),v1,v3,v5,(.p (.int .u64 x0.Rate)),(.p (.int .i64 x0.f_Type)),(.p (.int .i64 x0.Count)),v7]) (sC (sI _ _) (sC (sI _ _) (sC (sI _ _) (sC h2.still (sC h4.still (sC h6.still (sC (sI _ _) (sC (sI _ _) (sC (sI _ _) (sC h8.still sN)))))))))) (by decide) rfl
  refine Sim.op (e18) ?_
  obtain ⟨H21,e22,S23⟩:=S19.box (own:=false) (d:=3) (s:=(1::0::0::σ)) (xs:=[(.p (.int .i64 x1.Kind)),(.p (.int .u32 x1.From)),(.p (.int .u32 x1.About)),v9,v11,v13,(.p (.int .u64 x1.Rate)),(.p (.int .i64 x1.f_Type)),(.p (.int .i64 x1.Count)),v15]) (sC (sI _ _) (sC (sI _ _) (sC (sI _ _) (sC h10.still (sC h12.still (sC h14.still (sC (sI _ _) (sC (sI _ _) (sC (sI _ _) (sC h16.still sN)))))))))) (by decide) rfl
  refine Sim.op (e22) ?_
  refine Sim.fa ?_
  refine Sim.op ((S23.atG (i:=1) rfl).ld (j:=0) rfl) ?_
  refine Sim.ci ?_
  refine Sim.fa ?_
  refine Sim.op ((S23.atG (i:=0) rfl).ld (j:=0) rfl) ?_
  refine Sim.ci ?_
  refine Sim.ch (P:=fun r y => r = y) ?_ (fun b25 y26 h27 h28 => ?_)
  · refine Sim.cq ?_ ?_
    · exact Sim.ret rfl rfl
    · refine Sim.fa ?_
      refine Sim.op ((S23.atG (i:=1) rfl).ld (j:=1) rfl) ?_
      refine Sim.ci ?_
      refine Sim.fa ?_
      refine Sim.op ((S23.atG (i:=0) rfl).ld (j:=1) rfl) ?_
      refine Sim.ci ?_
      exact Sim.ret rfl rfl
  subst h28
  refine Sim.ch (P:=fun r y => r = y) ?_ (fun b29 y30 h31 h32 => ?_)
  · refine Sim.cq ?_ ?_
    · exact Sim.ret rfl rfl
    · refine Sim.fa ?_
      refine Sim.op ((S23.atG (i:=1) rfl).ld (j:=2) rfl) ?_
      refine Sim.ci ?_
      refine Sim.fa ?_
      refine Sim.op ((S23.atG (i:=0) rfl).ld (j:=2) rfl) ?_
      refine Sim.ci ?_
      exact Sim.ret rfl rfl
  subst h32
  refine Sim.ch (P:=fun r y => r = y) ?_ (fun b33 y34 h35 h36 => ?_)
  · refine Sim.cq ?_ ?_
    · exact Sim.ret rfl rfl
    · refine Sim.fa ?_
      refine Sim.op ((S23.atG (i:=1) rfl).ld (j:=6) rfl) ?_
      refine Sim.ci ?_
      refine Sim.fa ?_
      refine Sim.op ((S23.atG (i:=0) rfl).ld (j:=6) rfl) ?_
      refine Sim.ci ?_
      exact Sim.ret rfl rfl
  subst h36
  refine Sim.ch (P:=fun r y => r = y) ?_ (fun b37 y38 h39 h40 => ?_)
  · refine Sim.cq ?_ ?_
    · exact Sim.ret rfl rfl
    · refine Sim.fa ?_
      refine Sim.op ((S23.atG (i:=1) rfl).ld (j:=7) rfl) ?_
      refine Sim.ci ?_
      refine Sim.fa ?_
      refine Sim.op ((S23.atG (i:=0) rfl).ld (j:=7) rfl) ?_
      refine Sim.ci ?_
      exact Sim.ret rfl rfl
  subst h40
  refine Sim.ch (P:=fun r y => r = y) ?_ (fun b41 y42 h43 h44 => ?_)
  · refine Sim.cq ?_ ?_
    · exact Sim.ret rfl rfl
    · refine Sim.fa ?_
      refine Sim.op ((S23.atG (i:=1) rfl).ld (j:=8) rfl) ?_
      refine Sim.ci ?_
      refine Sim.fa ?_
      refine Sim.op ((S23.atG (i:=0) rfl).ld (j:=8) rfl) ?_
      refine Sim.ci ?_
      exact Sim.ret rfl rfl
  subst h44
  refine Sim.ch (P:=fun r y => r = y) ?_ (fun b45 y46 h47 h48 => ?_)
  · refine Sim.cq ?_ ?_
    · exact Sim.ret rfl rfl
    · refine Sim.fa ?_
      refine Sim.op ((S23.atG (i:=1) rfl).ld (j:=9) rfl) ?_
      refine Sim.op ((h8.h H21).str) ?_
      refine Sim.op (castS_p _) ?_
      refine Sim.fa ?_
      refine Sim.op ((S23.atG (i:=0) rfl).ld (j:=9) rfl) ?_
      refine Sim.op ((h16.h H21).str) ?_
      refine Sim.op (castS_p _) ?_
      exact Sim.ret rfl rfl
  subst h48
  refine Sim.ch (P:=fun r y => (.p (.bool r),H21) = y) ?_ (fun b54 y55 h56 h57 => ?_)
  · refine Sim.cq ?_ ?_
    · exact Sim.ret rfl rfl
    · refine Sim.fa ?_
      refine Sim.op ((S23.atG (i:=1) rfl).ld (j:=4) rfl) ?_
      refine Sim.fa ?_
      refine Sim.op ((S23.atG (i:=0) rfl).ld (j:=4) rfl) ?_
      refine Sim.call (zr6_nums_ok k x0.Abouts (h4.h H21) x1.Abouts (h12.h H21)) fun r49 cs50 H51 h52 q53 => ?_
      cases q53
      refine Sim.ab ?_
      exact Sim.ret rfl rfl
  subst h57
  refine Sim.ab ?_
  refine Sim.ch (P:=fun r y => (.p (.bool r),H21) = y) ?_ (fun b63 y64 h65 h66 => ?_)
  · refine Sim.cq ?_ ?_
    · exact Sim.ret rfl rfl
    · refine Sim.fa ?_
      refine Sim.op ((S23.atG (i:=1) rfl).ld (j:=3) rfl) ?_
      refine Sim.fa ?_
      refine Sim.op ((S23.atG (i:=0) rfl).ld (j:=3) rfl) ?_
      refine Sim.call (zr6_Tuples_ok k x0.Tuples (h2.h H21) x1.Tuples (h10.h H21)) fun r58 cs59 H60 h61 q62 => ?_
      cases q62
      refine Sim.ab ?_
      exact Sim.ret rfl rfl
  subst h66
  refine Sim.ab ?_
  refine Sim.ch (P:=fun r y => r = y) ?_ (fun b67 y68 h69 h70 => ?_)
  · refine Sim.cq ?_ ?_
    · exact Sim.ret rfl rfl
    · refine Sim.fa ?_
      refine Sim.op ((S23.atG (i:=1) rfl).ld (j:=5) rfl) ?_
      refine Sim.op ((h6.h H21).len) ?_
      refine Sim.ci ?_
      refine Sim.fa ?_
      refine Sim.op ((S23.atG (i:=0) rfl).ld (j:=5) rfl) ?_
      refine Sim.op ((h14.h H21).len) ?_
      refine Sim.ci ?_
      exact Sim.ret rfl rfl
  subst h70
  refine Sim.cq ?_ ?_
  · exact Sim.fin (S23.finN (lC (sB _).lv lN)) rfl
  refine Sim.fa ?_
  refine Sim.op ((S23.atG (i:=1) rfl).ld (j:=5) rfl) ?_
  refine Sim.op ((h6.h H21).len) ?_
  refine Sim.ci ?_
  refine Sim.as (zr6_Same_l0_ok ?_ ?_ k ((x0.Numbers.length : Int)) 0 x0 x1 v1 h2 v3 h4 v5 h6 v7 h8 (0::0::0::σ) v9 h10 v11 h12 v13 h14 v15 h16 (1::0::0::σ) H21 (S23.wk2 (aC (aM 1 rfl) (aC (aM 0 rfl) aN)) aN))
  · intro _u H107 S108
    refine Sim.ext (zr6_Same_a0_0 _ _ _ _) ?_
    exact Sim.fin (S108.finN (lC (sB _).lv lN)) rfl
  · intro r109_4 H110 S111
    refine Sim.ext (zr6_Same_a0_ret _ _ _ _ _) ?_
    exact Sim.fin (S111.finN (lC (sB _).lv lN)) rfl
def p_zr6_All_l0 {β : Type} (k : Nat) (kE0 : Unit→Option β) (kE1 : Bool→Option β) (x0 : (List TaiReport)) (x1 : (List TaiReport)) (x12 : Int) (x13 : Int) : Option β:=match k with
| 0 => none
| k + 1 =>
bif decide (x13 < x12) then (
(ix x0 x13).bind fun a9 =>
(ix x1 x13).bind fun a22 =>
(p_zr6_Same k a9 a22).bind fun r35 =>
bif !r35 then (
kE1 false)
else (
p_zr6_All_l0 k kE0 kE1 x0 x1 x12 (IntKind.wrap .i64 (x13 + 1))))
else (
kE0 ())
def p_zr6_All (k : Nat) (x0 : (List TaiReport)) (x1 : (List TaiReport)) : Option (Bool) :=
bif ((x0.length : Int)) != ((x1.length : Int)) then (
some (false))
else (
p_zr6_All_l0 k (fun (_ : Unit) =>
some (true)) (fun r48_4 =>
some (r48_4)) x0 x1 ((x0.length : Int)) 0)
theorem zr6_All_l0_ok {h : H}  {β α : Type} {Q : β→α→Prop} {K : Exit × Env × H→Option α} {kE0 : Unit→Option β} {kE1 : Bool→Option β} (hE0 : ∀ (_u : Unit) (H41 : Go.Ev.H) (_ : Fm 27 h [] [] [] H41),Sim (kE0 ()) (K ((.exit 0),(envL []),H41)) Q) (hE1 : ∀ (q4 : Bool) (H43 : Go.Ev.H) (_ : Fm 27 h [] [] [] H43),Sim (kE1 q4) (K (.ret,(envL [(4,(.p (.bool q4)))]),H43)) Q) (k : Nat) : ∀ (x0 : (List TaiReport)) (x1 : (List TaiReport)) (x12 : Int) (x13 : Int) (v4 : V) (h5 : SlH h dTaiReport x0 v4) (v6 : V) (h7 : SlH h dTaiReport x1 v6) (H2 : Go.Ev.H) (_ : Fm 27 h [] [] [] H2) {σ : Stamp},Sim (p_zr6_All_l0 k kE0 kE1 x0 x1 x12 x13) ((cvL G X0 zr6_All_c0 zr6_All_l0 σ (envL [(0,v4),(1,v6),(12,(.p (.int .i64 x12))),(13,(.p (.int .i64 x13)))]) H2).bind K) Q:=by
  induction k with
  | zero => intros; exact Sim.no
  | succ k ih =>
    intro x0 x1 x12 x13 v4 h5 v6 h7 H2 S3 σ
    rw [p_zr6_All_l0]
    refine Sim.round (Sim.ext (zr6_All_r0 _ _ _ _ _ _ _ _) ?_)
    refine Sim.cq ?_ ?_
    · refine Sim.bd fun a9 h10 => ?_
      refine Sim.op ((S3.low h5).iS h10 rfl) ?_
      obtain ⟨w12,h13,hE11⟩:=(S3.low h5).el h10 rfl
      obtain ⟨v14,v16,v18,v20,rfl,h15,h17,h19,h21⟩:=dTaiReport.inv h13
      refine Sim.op (hE11.all (by simp)) ?_
      refine Sim.bd fun a22 h23 => ?_
      refine Sim.op ((S3.low h7).iS h23 rfl) ?_
      obtain ⟨w25,h26,hE24⟩:=(S3.low h7).el h23 rfl
      obtain ⟨v27,v29,v31,v33,rfl,h28,h30,h32,h34⟩:=dTaiReport.inv h26
      refine Sim.op (hE24.all (by simp)) ?_
      refine Sim.call (zr6_Same_ok k a9 (show dTaiReport.R a9 [.p (.int .i64 a9.Kind),.p (.int .u32 a9.From),.p (.int .u32 a9.About),v14,v16,v18,.p (.int .u64 a9.Rate),.p (.int .i64 a9.f_Type),.p (.int .i64 a9.Count),v20] from (dTaiReport.mk h15 h17 h19 h21)) a22 (show dTaiReport.R a22 [.p (.int .i64 a22.Kind),.p (.int .u32 a22.From),.p (.int .u32 a22.About),v27,v29,v31,.p (.int .u64 a22.Rate),.p (.int .i64 a22.f_Type),.p (.int .i64 a22.Count),v33] from (dTaiReport.mk h28 h30 h32 h34))) fun r35 cs36 H37 h38 q39 => ?_
      cases q39
      refine Sim.ab ?_
      refine Sim.cq ?_ ?_
      · exact hE1 false H2 (S3.wk2 aN aN)
      exact ih x0 x1 x12 (IntKind.wrap .i64 (x13 + 1)) v4 h5 v6 h7 H2 (S3.wk2 aN aN)
    exact hE0 () H2 (S3.wk2 aN aN)
theorem zr6_All_ok (k : Nat) {h : H} {σ : Stamp} (x0 : List TaiReport) {u0 : V} (hu0 : SlH h dTaiReport x0 u0) (x1 : List TaiReport) {u1 : V} (hu1 : SlH h dTaiReport x1 u1) : Sim (p_zr6_All k x0 x1) (ev G X0 26 σ [u0,u1] h) (fun r s => s = ([.v (.p (.bool r))],h)):=by
  refine Sim.ev rfl (Sim.ext (zr6_All_entry _ _ _ _ _ _) ?_)
  rw [p_zr6_All]
  have S0 : Fm 27 h [] [] [] (List.replicate 27 []::h):=Fm.start0
  refine Sim.op ((S0.low hu0).len) ?_
  refine Sim.ci ?_
  refine Sim.op ((S0.low hu1).len) ?_
  refine Sim.ci ?_
  refine Sim.cq ?_ ?_
  · exact Sim.fin (S0.finN (lC (sB _).lv lN)) rfl
  refine Sim.op ((S0.low hu0).len) ?_
  refine Sim.ci ?_
  refine Sim.as (zr6_All_l0_ok ?_ ?_ k x0 x1 ((x0.length : Int)) 0 u0 hu0 u1 hu1 (List.replicate 27 []::h) (S0.wk2 aN aN))
  · intro _u H46 S47
    refine Sim.ext (zr6_All_a0_0 _ _ _ _) ?_
    exact Sim.fin (S47.finN (lC (sB _).lv lN)) rfl
  · intro r48_4 H49 S50
    refine Sim.ext (zr6_All_a0_ret _ _ _ _ _) ?_
    exact Sim.fin (S50.finN (lC (sB _).lv lN)) rfl
end Go.Ev
namespace Go.Ev
open Go.Proofs
set_option linter.unusedVariables false
set_option linter.unusedSimpArgs false
set_option maxRecDepth 100000
noncomputable section
abbrev KT27:=Exit→Env→H→Option (List C × H)
variable (rec : CallF) (loop : LoopV) (σ : Stamp)
theorem zr6_Is_entry (x0 : V) (h : H) : cvBody G rec loop 50 σ [x0] h =
(lenO x0).bind fun t1 =>
(castI .i64 t1).bind fun n2 =>
(bif decide (n2 ≥ 2) then ((iS 1 x0 1).bind fun t3 =>
(ldO false 1 (List.replicate 18 []::h) t3).bind fun t4 =>
(castI .u8 t4).bind fun n5 =>
some (decide (n5 ≥ 192))) else (some false)).bind fun b6 =>
(bif b6 then ((iS 1 x0 1).bind fun t7 =>
(ldO false 1 (List.replicate 18 []::h) t7).bind fun t8 =>
(castI .u8 t8).bind fun n9 =>
some (decide (n9 ≤ 223))) else (some false)).bind fun b10 =>
fin false σ (List.replicate 18 []::h) [(.p (.bool b10))]:=by kernel_rfl
end
end Go.Ev
namespace Go.Ev
open Go.Proofs
set_option linter.unusedVariables false
set_option linter.unusedSimpArgs false
set_option maxRecDepth 100000
def p_zr6_Is (x0 : (List Int)) : Option (Bool) :=
(bif decide (((x0.length : Int)) ≥ 2) then ((ix x0 1).bind fun a1 =>
some (decide (a1 ≥ 192))) else (some false)).bind fun b4 =>
(bif b4 then ((ix x0 1).bind fun a8 =>
some (decide (a8 ≤ 223))) else (some false)).bind fun b11 =>
some (b11)
theorem zr6_Is_ok {h : H} {σ : Stamp} (x0 : List Int) {u0 : V} (hu0 : SlH h (dI .u8) x0 u0) : Sim (p_zr6_Is x0) (ev G X0 50 σ [u0] h) (fun r s => s = ([.v (.p (.bool r))],h)):=by
  refine Sim.ev rfl (Sim.ext (zr6_Is_entry _ _ _ _ _) ?_)
  rw [p_zr6_Is]
  have S0 : Fm 18 h [] [] [] (List.replicate 18 []::h):=Fm.start0
  refine Sim.op ((S0.low hu0).len) ?_
  refine Sim.ci ?_
  refine Sim.ch (P:=fun r y => r = y) ?_ (fun b4 y5 h6 h7 => ?_)
  · refine Sim.cq ?_ ?_
    · refine Sim.bd fun a1 h2 => ?_
      refine Sim.op ((S0.low hu0).iS h2 rfl) ?_
      obtain ⟨_,rfl,hE3⟩:=(S0.low hu0).el h2 rfl
      refine Sim.op (hE3.ld (j:=0) rfl) ?_
      refine Sim.ci ?_
      exact Sim.ret rfl rfl
    · exact Sim.ret rfl rfl
  subst h7
  refine Sim.ch (P:=fun r y => r = y) ?_ (fun b11 y12 h13 h14 => ?_)
  · refine Sim.cq ?_ ?_
    · refine Sim.bd fun a8 h9 => ?_
      refine Sim.op ((S0.low hu0).iS h9 rfl) ?_
      obtain ⟨_,rfl,hE10⟩:=(S0.low hu0).el h9 rfl
      refine Sim.op (hE10.ld (j:=0) rfl) ?_
      refine Sim.ci ?_
      exact Sim.ret rfl rfl
    · exact Sim.ret rfl rfl
  subst h14
  exact Sim.fin (S0.finN (lC (sB _).lv lN)) rfl
end Go.Ev
namespace Go.Ev
open Go.Proofs
set_option linter.unusedVariables false
set_option linter.unusedSimpArgs false
set_option maxRecDepth 100000
noncomputable section
abbrev KT28:=Exit→Env→H→Option (List C × H)
variable (rec : CallF) (loop : LoopV) (σ : Stamp)
def zr6_Read_c0 : Code:=(codeAt (bodyOf Try.f49) [1,1,1,1,0,1,0,0])
def zr6_Read_l0 : Lv:=⟨16,12,[(0,16)]⟩
def zr6_Read_k0 : KT28:=(kBlock 0 (kSeq G rec loop (codeAt (bodyOf Try.f49) [1,1,1,1,1]) ⟨12,12,[]⟩ (1::1::1::1::0::σ) (finC G true Try.f49 (1::σ))))
theorem zr6_Read_entry (x0 : V) (h : H) : cvBody G rec loop 49 σ [x0] h =
(lenO x0).bind fun t1 =>
(castI .i64 t1).bind fun n2 =>
bif decide (n2 > 1500) then (
fin true σ (List.replicate 95 []::h) [(.p (.slice .none 0 0)),(.p (.int .i64 3))])
else (
(lenO x0).bind fun t3 =>
(castI .i64 t3).bind fun n4 =>
bif n4 == 0 then (
fin true σ (List.replicate 95 []::h) [(.p (.slice .none 0 0)),(.p (.int .i64 13))])
else (
(loop zr6_Read_c0 zr6_Read_l0 (1::0::1::1::1::1::0::σ) (envL [(0,x0),(4,(.p (.slice .none 0 0))),(5,(.p (.int .i64 0)))]) (List.replicate 95 []::h)).bind fun r5 => zr6_Read_k0 rec loop σ r5.1 r5.2.1 r5.2.2)):=by kernel_rfl
theorem zr6_Read_r0 (x0 : V) (x4 : V) (x5 : Int) (h : H) : cvRound G rec loop zr6_Read_c0 zr6_Read_l0 σ (envL [(0,x0),(4,x4),(5,(.p (.int .i64 x5)))]) h =
(lenO x0).bind fun t6 =>
(castI .i64 t6).bind fun n7 =>
bif decide (x5 < n7) then (
(callO rec 90 (3::0::1::0::σ) [x0,(.p (.int .i64 (IntKind.wrap .i64 (x5 + 2)))),(.p (.int .i64 2))] h (some 25)).bind fun q8 =>
(extV q8.1 0).bind fun t9 =>
(castI .u64 t9).bind fun n10 =>
(extV q8.1 1).bind fun t11 =>
(asB t11).bind fun b12 =>
(callO rec 91 (6::0::1::1::0::σ) [x0,(.p (.int .i64 x5)),(.p (.int .i64 (IntKind.wrap .i64 (4 + (IntKind.wrap .i64 (4 * (IntKind.wrap .i64 n10)))))))] q8.2 (some 35)).bind fun q13 =>
(extV q13.1 0).bind fun t14 =>
(extV q13.1 1).bind fun t15 =>
(asB t15).bind fun b16 =>
(bif !b12 then (some true) else (some (!b16))).bind fun b17 =>
bif b17 then (
some (.ret,(envL [(2,(.p (.slice .none 0 0))),(3,(.p (.int .i64 13)))]),q13.2))
else (
(iS 1 t14 0).bind fun t18 =>
(ldO false 1 q13.2 t18).bind fun t19 =>
(castI .u8 t19).bind fun n20 =>
(bif (Int.fdiv n20 (2 ^ 5)) != 4 then (some true) else ((iS 1 t14 1).bind fun t21 =>
(ldO false 1 q13.2 t21).bind fun t22 =>
(castI .u8 t22).bind fun n23 =>
some (decide (n23 < 192)))).bind fun b24 =>
(bif b24 then (some true) else ((iS 1 t14 1).bind fun t25 =>
(ldO false 1 q13.2 t25).bind fun t26 =>
(castI .u8 t26).bind fun n27 =>
some (decide (n27 > 223)))).bind fun b28 =>
bif b28 then (
some (.ret,(envL [(2,(.p (.slice .none 0 0))),(3,(.p (.int .i64 12)))]),q13.2))
else (
need (∃ z,tzero Try.prog 33 = some z∧slotOf (alO [.p (.int .i64 0),.p (.int .u32 0),.p (.int .u32 0),.p (.slice none 0 0),.p (.slice none 0 0),.p (.slice none 0 0),.p (.int .u64 0),.p (.int .i64 0),.p (.int .i64 0),.p (.slice none 0 0)] (12::0::1::1::1::1::1::0::σ) 10 q13.2).2 10 = some [.own (12::0::1::1::1::1::1::0::σ) (z.map .v)]) (
(iS 1 t14 1).bind fun t29 =>
(ldO false 1 (alO [.p (.int .i64 0),.p (.int .u32 0),.p (.int .u32 0),.p (.slice none 0 0),.p (.slice none 0 0),.p (.slice none 0 0),.p (.int .u64 0),.p (.int .i64 0),.p (.int .i64 0),.p (.slice none 0 0)] (12::0::1::1::1::1::1::0::σ) 10 q13.2).2 t29).bind fun t30 =>
(castI .u8 t30).bind fun n31 =>
(iS 1 t14 0).bind fun t32 =>
(ldO false 1 (alO [.p (.int .i64 0),.p (.int .u32 0),.p (.int .u32 0),.p (.slice none 0 0),.p (.slice none 0 0),.p (.slice none 0 0),.p (.int .u64 0),.p (.int .i64 0),.p (.int .i64 0),.p (.slice none 0 0)] (12::0::1::1::1::1::1::0::σ) 10 q13.2).2 t32).bind fun t33 =>
(castI .u8 t33).bind fun n34 =>
(slS 1 t14 (some 4) none none).bind fun t35 =>
(callO rec 92 (11::0::1::1::1::1::1::0::σ) [(.p (.int .i64 (IntKind.wrap .i64 n31))),(.p (.int .i64 (IntKind.wrap .i64 (intBits .and .u8 n34 31)))),t35] (alO [.p (.int .i64 0),.p (.int .u32 0),.p (.int .u32 0),.p (.slice none 0 0),.p (.slice none 0 0),.p (.slice none 0 0),.p (.int .u64 0),.p (.int .i64 0),.p (.int .i64 0),.p (.slice none 0 0)] (12::0::1::1::1::1::1::0::σ) 10 q13.2).2 (some 72)).bind fun q36 =>
need (∃ z,tzero Try.prog 33 = some z∧slotOf q36.2 10 = some [.own (12::0::1::1::1::1::1::0::σ) (z.map .v)]) (
((stO false 10 (13::0::1::1::1::1::1::0::σ) q36.2 (.ref (newLoc (alO [.p (.int .i64 0),.p (.int .u32 0),.p (.int .u32 0),.p (.slice none 0 0),.p (.slice none 0 0),.p (.slice none 0 0),.p (.int .u64 0),.p (.int .i64 0),.p (.int .i64 0),.p (.slice none 0 0)] (12::0::1::1::1::1::1::0::σ) 10 q13.2).2 10 (12::0::1::1::1::1::1::0::σ)) 0) q36.1).map fun h => (udf,h)).bind fun q37 =>
(ldO true 10 q37.2 (.ref (newLoc (alO [.p (.int .i64 0),.p (.int .u32 0),.p (.int .u32 0),.p (.slice none 0 0),.p (.slice none 0 0),.p (.slice none 0 0),.p (.int .u64 0),.p (.int .i64 0),.p (.int .i64 0),.p (.slice none 0 0)] (12::0::1::1::1::1::1::0::σ) 10 q13.2).2 10 (12::0::1::1::1::1::1::0::σ)) 0)).bind fun t38 =>
(callO rec 47 (1::0::0::1::1::1::1::1::1::0::σ) [t38] q37.2 (some 74)).bind fun q39 =>
(castI .i64 q39.1).bind fun n40 =>
(bif n40 != 0 then (some ((.p (.bool true)),q39.2)) else ((ldO true 10 q39.2 (.ref (newLoc (alO [.p (.int .i64 0),.p (.int .u32 0),.p (.int .u32 0),.p (.slice none 0 0),.p (.slice none 0 0),.p (.slice none 0 0),.p (.int .u64 0),.p (.int .i64 0),.p (.int .i64 0),.p (.slice none 0 0)] (12::0::1::1::1::1::1::0::σ) 10 q13.2).2 10 (12::0::1::1::1::1::1::0::σ)) 0)).bind fun t41 =>
(ldO true 10 q39.2 (.ref (newLoc (alO [.p (.int .i64 0),.p (.int .u32 0),.p (.int .u32 0),.p (.slice none 0 0),.p (.slice none 0 0),.p (.slice none 0 0),.p (.int .u64 0),.p (.int .i64 0),.p (.int .i64 0),.p (.slice none 0 0)] (12::0::1::1::1::1::1::0::σ) 10 q13.2).2 10 (12::0::1::1::1::1::1::0::σ)) 0)).bind fun t42 =>
(callO rec 48 (5::0::0::1::1::1::1::1::1::0::σ) [t41] q39.2 (some 78)).bind fun q43 =>
need (ldO true 10 q43.2 (.ref (newLoc (alO [.p (.int .i64 0),.p (.int .u32 0),.p (.int .u32 0),.p (.slice none 0 0),.p (.slice none 0 0),.p (.slice none 0 0),.p (.int .u64 0),.p (.int .i64 0),.p (.int .i64 0),.p (.slice none 0 0)] (12::0::1::1::1::1::1::0::σ) 10 q13.2).2 10 (12::0::1::1::1::1::1::0::σ)) 0) = some t42) (
(strO q43.2 q43.1).bind fun t44 =>
(castS t44).bind fun s45 =>
(callO rec 93 (9::0::0::1::1::1::1::1::1::0::σ) [t14,t42] q43.2 (some 82)).bind fun q46 =>
need (strO q46.2 q43.1 = some (.p (.string s45))) (
(strO q46.2 q46.1).bind fun t47 =>
(castS t47).bind fun s48 =>
some ((.p (.bool (!(s45.toList == s48.toList)))),q46.2))))).bind fun q49 =>
(asB q49.1).bind fun b50 =>
bif b50 then (
some (.ret,(envL [(2,(.p (.slice .none 0 0))),(3,(.p (.int .i64 12)))]),q49.2))
else (
(ldO true 10 q49.2 (.ref (newLoc (alO [.p (.int .i64 0),.p (.int .u32 0),.p (.int .u32 0),.p (.slice none 0 0),.p (.slice none 0 0),.p (.slice none 0 0),.p (.int .u64 0),.p (.int .i64 0),.p (.int .i64 0),.p (.slice none 0 0)] (12::0::1::1::1::1::1::0::σ) 10 q13.2).2 10 (12::0::1::1::1::1::1::0::σ)) 0)).bind fun t51 =>
(bSV Try.prog 36 1 [(0,t51)]).bind fun t52 =>
(apO false 10 136 (3::0::1::1::1::1::1::1::1::0::σ) 89 q49.2 x4 t52).bind fun q53 =>
(lenO t14).bind fun t54 =>
(castI .i64 t54).bind fun n55 =>
loop zr6_Read_c0 zr6_Read_l0 (1::σ) (envL [(0,x0),(4,q53.1),(5,(.p (.int .i64 (IntKind.wrap .i64 (x5 + n55)))))]) q53.2))))))
else (
some ((.exit 0),(envL [(4,x4)]),h)):=by kernel_rfl
theorem zr6_Read_a0_0 (x4 : V) (h : H) : zr6_Read_k0 rec loop σ (.exit 0) (envL [(4,x4)]) h =
fin true σ h [x4,(.p (.int .i64 0))]:=by kernel_rfl
theorem zr6_Read_a0_ret (x2 : V) (x3 : Int) (h : H) : zr6_Read_k0 rec loop σ .ret (envL [(2,x2),(3,(.p (.int .i64 x3)))]) h =
fin true σ h [x2,(.p (.int .i64 x3))]:=by kernel_rfl
theorem zr1_Cut_entry (x0 : V) (x1 : Int) (x2 : Int) (h : H) : cvBody G rec loop 91 σ [x0,(.p (.int .i64 x1)),(.p (.int .i64 x2))] h =
(bif decide (x1 < 0) then (some true) else (some (decide (x2 < 0)))).bind fun b1 =>
(bif b1 then (some true) else ((lenO x0).bind fun t2 =>
(castI .i64 t2).bind fun n3 =>
some (decide (x1 > n3)))).bind fun b4 =>
(bif b4 then (some true) else ((lenO x0).bind fun t5 =>
(castI .i64 t5).bind fun n6 =>
some (decide (x2 > (IntKind.wrap .i64 (n6 - x1)))))).bind fun b7 =>
bif b7 then (
fin true σ (List.replicate 36 []::h) [(.p (.slice .none 0 0)),(.p (.bool false))])
else (
(bSV Try.prog 31 0 []).bind fun t8 =>
(slS 1 x0 (some x1) (some (IntKind.wrap .i64 (x1 + x2))) none).bind fun t9 =>
(apO true 1 1 (7::0::1::1::0::σ) 35 (List.replicate 36 []::h) t8 t9).bind fun q10 =>
fin true σ q10.2 [q10.1,(.p (.bool true))]):=by kernel_rfl
end
end Go.Ev
namespace Go.Ev
open Go.Proofs
set_option linter.unusedVariables false
set_option linter.unusedSimpArgs false
set_option maxRecDepth 100000
def p_zr1_Cut (x0 : (List Int)) (x1 : Int) (x2 : Int) : Option ((List Int) × Bool) :=
(bif decide (x1 < 0) then (some true) else (some (decide (x2 < 0)))).bind fun b1 =>
(bif b1 then (some true) else (some (decide (x1 > ((x0.length : Int)))))).bind fun b5 =>
(bif b5 then (some true) else (some (decide (x2 > (IntKind.wrap .i64 (((x0.length : Int)) - x1)))))).bind fun b9 =>
bif b9 then (
some ((([] : List Int)),false))
else (
(sub x0 x1 (IntKind.wrap .i64 (x1 + x2))).bind fun a15 =>
(ap 1 (([] : List Int)) a15).bind fun a19 =>
some (a19,true))
theorem zr1_Cut_ok {h : H} {σ : Stamp} (x0 : List Int) {u0 : V} (hu0 : SlH h (dI .u8) x0 u0) (x1 : Int) (x2 : Int) : Sim (p_zr1_Cut x0 x1 x2) (ev G X0 91 σ [u0,(.p (.int .i64 x1)),(.p (.int .i64 x2))] h) (fun r s => ∃ (v0 : V),SlF (dI .u8) r.1 v0∧s = ([.v v0,.v (.p (.bool r.2))],h)):=by
  refine Sim.ev rfl (Sim.ext (zr1_Cut_entry _ _ _ _ _ _ _) ?_)
  rw [p_zr1_Cut]
  have S0 : Fm 36 h [] [] [] (List.replicate 36 []::h):=Fm.start0
  refine Sim.ch (P:=fun r y => r = y) ?_ (fun b1 y2 h3 h4 => ?_)
  · refine Sim.cq ?_ ?_
    · exact Sim.ret rfl rfl
    · exact Sim.ret rfl rfl
  subst h4
  refine Sim.ch (P:=fun r y => r = y) ?_ (fun b5 y6 h7 h8 => ?_)
  · refine Sim.cq ?_ ?_
    · exact Sim.ret rfl rfl
    · refine Sim.op ((S0.low hu0).len) ?_
      refine Sim.ci ?_
      exact Sim.ret rfl rfl
  subst h8
  refine Sim.ch (P:=fun r y => r = y) ?_ (fun b9 y10 h11 h12 => ?_)
  · refine Sim.cq ?_ ?_
    · exact Sim.ret rfl rfl
    · refine Sim.op ((S0.low hu0).len) ?_
      refine Sim.ci ?_
      exact Sim.ret rfl rfl
  subst h12
  refine Sim.cq ?_ ?_
  · exact Sim.fin (S0.finN (lC (SlF.nil (dI .u8)).still.lv (lC (sB _).lv lN))) ⟨(.p (.slice none 0 0)),(SlF.nil (dI .u8)),rfl⟩
  have h14 : SlF (dI .u8) ([] : List Int) (.fz [] 0 1 true):=SlF.lit (cs:=[]) RL.nil rfl rfl true
  refine Sim.op (bldS pN (by kernel_rfl : _ = some (vOf h14))) ?_
  refine Sim.bd fun a15 h16 => ?_
  refine Sim.op ((S0.low hu0).slS h16 rfl rfl rfl) ?_
  have S18:=S0.nil' (dI .u8) [] (e:=1) rfl
  refine Sim.bd fun a19 h20 => ?_
  obtain ⟨v21,H22,e23,S24⟩:=S18.app (i:=0) (d:=35) (e:=1) (own:=true) (σ:=(7::0::1::1::0::σ)) rfl ((S18.low hu0).sub h16 (e:=1) rfl).y h20 rfl (by decide) (by decide) rfl
  refine Sim.op (e23) ?_
  obtain ⟨v30,H25,e26,h28,S27⟩:=S24.expFrz (i:=0) (τ:=0::1::σ) rfl rfl
  exact Sim.fin (S27.finE (Ex.st e26 (Ex.pl (sB _).lv Ex.nil))) ⟨v30,h28,rfl⟩
end Go.Ev
namespace Go.Ev
open Go.Proofs
set_option linter.unusedVariables false
set_option linter.unusedSimpArgs false
set_option maxRecDepth 100000
noncomputable section
abbrev KT29:=Exit→Env→H→Option (List C × H)
variable (rec : CallF) (loop : LoopV) (σ : Stamp)
def zr1_Get_c0 : Code:=(codeAt (bodyOf Try.f90) [1,1,1,0,1,0,0])
def zr1_Get_l0 : Lv:=⟨256,192,[(0,256)]⟩
def zr1_Get_k0 : KT29:=(kBlock 0 (kSeq G rec loop (codeAt (bodyOf Try.f90) [1,1,1,1]) ⟨192,192,[]⟩ (1::1::1::0::σ) (finC G false Try.f90 (1::σ))))
theorem zr1_Get_entry (x0 : V) (x1 : Int) (x2 : Int) (h : H) : cvBody G rec loop 90 σ [x0,(.p (.int .i64 x1)),(.p (.int .i64 x2))] h =
(bif decide (x2 < 1) then (some true) else (some (decide (x2 > 8)))).bind fun b1 =>
(bif b1 then (some true) else (some (decide (x1 < 0)))).bind fun b2 =>
(bif b2 then (some true) else ((lenO x0).bind fun t3 =>
(castI .i64 t3).bind fun n4 =>
some (decide (x1 > n4)))).bind fun b5 =>
(bif b5 then (some true) else ((lenO x0).bind fun t6 =>
(castI .i64 t6).bind fun n7 =>
some (decide (x2 > (IntKind.wrap .i64 (n7 - x1)))))).bind fun b8 =>
bif b8 then (
fin false σ (List.replicate 50 []::h) [(.p (.int .u64 0)),(.p (.bool false))])
else (
(loop zr1_Get_c0 zr1_Get_l0 (1::0::1::1::1::0::σ) (envL [(0,x0),(1,(.p (.int .i64 x1))),(2,(.p (.int .i64 x2))),(8,(.p (.int .u64 0))),(9,(.p (.int .i64 0)))]) (List.replicate 50 []::h)).bind fun r9 => zr1_Get_k0 rec loop σ r9.1 r9.2.1 r9.2.2):=by kernel_rfl
theorem zr1_Get_r0 (x0 : V) (x1 : Int) (x2 : Int) (x8 : Int) (x9 : Int) (h : H) : cvRound G rec loop zr1_Get_c0 zr1_Get_l0 σ (envL [(0,x0),(1,(.p (.int .i64 x1))),(2,(.p (.int .i64 x2))),(8,(.p (.int .u64 x8))),(9,(.p (.int .i64 x9)))]) h =
bif decide (x9 < x2) then (
(iS 1 x0 (IntKind.wrap .i64 (x1 + x9))).bind fun t10 =>
(ldO false 1 h t10).bind fun t11 =>
(castI .u8 t11).bind fun n12 =>
loop zr1_Get_c0 zr1_Get_l0 (1::σ) (envL [(0,x0),(1,(.p (.int .i64 x1))),(2,(.p (.int .i64 x2))),(8,(.p (.int .u64 (intBits .or .u64 (IntKind.wrap .u64 (x8 * 2 ^ 8)) (IntKind.wrap .u64 n12))))),(9,(.p (.int .i64 (IntKind.wrap .i64 (x9 + 1)))))]) h)
else (
some ((.exit 0),(envL [(8,(.p (.int .u64 x8)))]),h)):=by kernel_rfl
theorem zr1_Get_a0_0 (x8 : Int) (h : H) : zr1_Get_k0 rec loop σ (.exit 0) (envL [(8,(.p (.int .u64 x8)))]) h =
fin false σ h [(.p (.int .u64 x8)),(.p (.bool true))]:=by kernel_rfl
end
end Go.Ev
namespace Go.Ev
open Go.Proofs
set_option linter.unusedVariables false
set_option linter.unusedSimpArgs false
set_option maxRecDepth 100000
def p_zr1_Get_l0 {β : Type} (k : Nat) (kE0 : Int→Option β) (x0 : (List Int)) (x1 : Int) (x2 : Int) (x8 : Int) (x9 : Int) : Option β:=match k with
| 0 => none
| k + 1 =>
bif decide (x9 < x2) then (
(ix x0 (IntKind.wrap .i64 (x1 + x9))).bind fun a23 =>
p_zr1_Get_l0 k kE0 x0 x1 x2 (intBits .or .u64 (IntKind.wrap .u64 (x8 * 2 ^ 8)) (IntKind.wrap .u64 a23)) (IntKind.wrap .i64 (x9 + 1)))
else (
kE0 x8)
def p_zr1_Get (k : Nat) (x0 : (List Int)) (x1 : Int) (x2 : Int) : Option (Int × Bool) :=
(bif decide (x2 < 1) then (some true) else (some (decide (x2 > 8)))).bind fun b1 =>
(bif b1 then (some true) else (some (decide (x1 < 0)))).bind fun b5 =>
(bif b5 then (some true) else (some (decide (x1 > ((x0.length : Int)))))).bind fun b9 =>
(bif b9 then (some true) else (some (decide (x2 > (IntKind.wrap .i64 (((x0.length : Int)) - x1)))))).bind fun b13 =>
bif b13 then (
some (0,false))
else (
p_zr1_Get_l0 k (fun r28_8 =>
some (r28_8,true)) x0 x1 x2 0 0)
theorem zr1_Get_l0_ok {h : H}  {β α : Type} {Q : β→α→Prop} {K : Exit × Env × H→Option α} {kE0 : Int→Option β} (hE0 : ∀ (q8 : Int) (H26 : Go.Ev.H) (_ : Fm 50 h [] [] [] H26),Sim (kE0 q8) (K ((.exit 0),(envL [(8,(.p (.int .u64 q8)))]),H26)) Q) (k : Nat) : ∀ (x0 : (List Int)) (x1 : Int) (x2 : Int) (x8 : Int) (x9 : Int) (v20 : V) (h21 : SlH h (dI .u8) x0 v20) (H18 : Go.Ev.H) (_ : Fm 50 h [] [] [] H18) {σ : Stamp},Sim (p_zr1_Get_l0 k kE0 x0 x1 x2 x8 x9) ((cvL G X0 zr1_Get_c0 zr1_Get_l0 σ (envL [(0,v20),(1,(.p (.int .i64 x1))),(2,(.p (.int .i64 x2))),(8,(.p (.int .u64 x8))),(9,(.p (.int .i64 x9)))]) H18).bind K) Q:=by
  induction k with
  | zero => intros; exact Sim.no
  | succ k ih =>
    intro x0 x1 x2 x8 x9 v20 h21 H18 S19 σ
    rw [p_zr1_Get_l0]
    refine Sim.round (Sim.ext (zr1_Get_r0 _ _ _ _ _ _ _ _ _) ?_)
    refine Sim.cq ?_ ?_
    · refine Sim.bd fun a23 h24 => ?_
      refine Sim.op ((S19.low h21).iS h24 rfl) ?_
      obtain ⟨_,rfl,hE25⟩:=(S19.low h21).el h24 rfl
      refine Sim.op (hE25.ld (j:=0) rfl) ?_
      refine Sim.ci ?_
      exact ih x0 x1 x2 (intBits .or .u64 (IntKind.wrap .u64 (x8 * 2 ^ 8)) (IntKind.wrap .u64 a23)) (IntKind.wrap .i64 (x9 + 1)) v20 h21 H18 (S19.wk2 aN aN)
    exact hE0 x8 H18 (S19.wk2 aN aN)
theorem zr1_Get_ok (k : Nat) {h : H} {σ : Stamp} (x0 : List Int) {u0 : V} (hu0 : SlH h (dI .u8) x0 u0) (x1 : Int) (x2 : Int) : Sim (p_zr1_Get k x0 x1 x2) (ev G X0 90 σ [u0,(.p (.int .i64 x1)),(.p (.int .i64 x2))] h) (fun r s => s = ([.v (.p (.int .u64 r.1)),.v (.p (.bool r.2))],h)):=by
  refine Sim.ev rfl (Sim.ext (zr1_Get_entry _ _ _ _ _ _ _) ?_)
  rw [p_zr1_Get]
  have S0 : Fm 50 h [] [] [] (List.replicate 50 []::h):=Fm.start0
  refine Sim.ch (P:=fun r y => r = y) ?_ (fun b1 y2 h3 h4 => ?_)
  · refine Sim.cq ?_ ?_
    · exact Sim.ret rfl rfl
    · exact Sim.ret rfl rfl
  subst h4
  refine Sim.ch (P:=fun r y => r = y) ?_ (fun b5 y6 h7 h8 => ?_)
  · refine Sim.cq ?_ ?_
    · exact Sim.ret rfl rfl
    · exact Sim.ret rfl rfl
  subst h8
  refine Sim.ch (P:=fun r y => r = y) ?_ (fun b9 y10 h11 h12 => ?_)
  · refine Sim.cq ?_ ?_
    · exact Sim.ret rfl rfl
    · refine Sim.op ((S0.low hu0).len) ?_
      refine Sim.ci ?_
      exact Sim.ret rfl rfl
  subst h12
  refine Sim.ch (P:=fun r y => r = y) ?_ (fun b13 y14 h15 h16 => ?_)
  · refine Sim.cq ?_ ?_
    · exact Sim.ret rfl rfl
    · refine Sim.op ((S0.low hu0).len) ?_
      refine Sim.ci ?_
      exact Sim.ret rfl rfl
  subst h16
  refine Sim.cq ?_ ?_
  · exact Sim.fin (S0.finN (lC (sI _ _).lv (lC (sB _).lv lN))) rfl
  refine Sim.as (zr1_Get_l0_ok ?_ k x0 x1 x2 0 0 u0 hu0 (List.replicate 50 []::h) (S0.wk2 aN aN))
  · intro r28_8 H29 S30
    refine Sim.ext (zr1_Get_a0_0 _ _ _ _ _) ?_
    exact Sim.fin (S30.finN (lC (sI _ _).lv (lC (sB _).lv lN))) rfl
end Go.Ev
namespace Go.Ev
open Go.Proofs
set_option linter.unusedVariables false
set_option linter.unusedSimpArgs false
set_option maxRecDepth 100000
noncomputable section
abbrev KT30:=Exit→Env→H→Option (List C × H)
variable (rec : CallF) (loop : LoopV) (σ : Stamp)
def zr6_Right_c0 : Code:=(codeAt (bodyOf Try.f47) [1,1,1,0,1,0,1,1,1,0,1,1,0,0])
def zr6_Right_l0 : Lv:=⟨10,4,[(1,10),(0,10)]⟩
def zr6_Right_k0 : KT30:=(kBlock 1 (kBlock 0 (kSeq G rec loop (codeAt (bodyOf Try.f47) [1,1,1,1]) ⟨4,4,[]⟩ (1::1::1::0::σ) (finC G false Try.f47 (1::σ)))))
theorem zr6_Right_entry (x0 : V) (h : H) : cvBody G rec loop 47 σ [x0] h =
(boxO false (0::0::0::σ) 1 (List.replicate 120 []::h) x0).bind fun q1 =>
(fA q1.1 0).bind fun t2 =>
(ldO false 1 q1.2 t2).bind fun t3 =>
(castI .i64 t3).bind fun n4 =>
(bif decide (n4 < 1) then (some true) else ((fA q1.1 0).bind fun t5 =>
(ldO false 1 q1.2 t5).bind fun t6 =>
(castI .i64 t6).bind fun n7 =>
some (decide (n7 > 6)))).bind fun b8 =>
bif b8 then (
fin false σ q1.2 [(.p (.int .i64 12))])
else (
(fA q1.1 0).bind fun t9 =>
(ldO false 1 q1.2 t9).bind fun t10 =>
(castI .i64 t10).bind fun n11 =>
bif n11 == 1 then (
bif n11 == 1 then (
(fA q1.1 3).bind fun t12 =>
(ldO false 1 q1.2 t12).bind fun t13 =>
(callO rec 85 (2::1::1::0::1::1::1::0::σ) [t13] q1.2 (some 21)).bind fun q14 =>
(asB q14.1).bind fun b15 =>
bif !b15 then (
fin false σ q14.2 [(.p (.int .i64 1))])
else (
(ldO true 10 q14.2 q1.1).bind fun t16 =>
(callO rec 87 (1::0::0::1::1::1::1::1::0::σ) [t16] q14.2 (some 118)).bind fun q17 =>
(asB q17.1).bind fun b18 =>
bif !b18 then (
fin false σ q17.2 [(.p (.int .i64 12))])
else (
fin false σ q17.2 [(.p (.int .i64 0))])))
else (
bif n11 == 4 then (
(fA q1.1 4).bind fun t19 =>
(ldO false 1 q1.2 t19).bind fun t20 =>
(lenO t20).bind fun t21 =>
(castI .i64 t21).bind fun n22 =>
(fA q1.1 5).bind fun t23 =>
(ldO false 1 q1.2 t23).bind fun t24 =>
(lenO t24).bind fun t25 =>
(castI .i64 t25).bind fun n26 =>
(bif n22 == n26 then ((fA q1.1 4).bind fun t27 =>
(ldO false 1 q1.2 t27).bind fun t28 =>
(lenO t28).bind fun t29 =>
(castI .i64 t29).bind fun n30 =>
some (decide (n30 ≥ 1))) else (some false)).bind fun b31 =>
(bif b31 then ((fA q1.1 4).bind fun t32 =>
(ldO false 1 q1.2 t32).bind fun t33 =>
(lenO t33).bind fun t34 =>
(castI .i64 t34).bind fun n35 =>
some (decide (n35 ≤ 16))) else (some false)).bind fun b36 =>
(fA q1.1 5).bind fun t37 =>
(ldO false 1 q1.2 t37).bind fun t38 =>
(lenO t38).bind fun t39 =>
(castI .i64 t39).bind fun n40 =>
(loop zr6_Right_c0 zr6_Right_l0 (1::1::1::1::1::0::1::1::1::0::σ) (envL [(1,q1.1),(3,(.p (.bool b36))),(44,t38),(45,(.p (.int .i64 n40))),(46,(.p (.int .i64 0)))]) q1.2).bind fun r41 => zr6_Right_k0 rec loop σ r41.1 r41.2.1 r41.2.2)
else (
bif n11 == 5 then (
(fA q1.1 4).bind fun t42 =>
(ldO false 1 q1.2 t42).bind fun t43 =>
(lenO t43).bind fun t44 =>
(castI .i64 t44).bind fun n45 =>
(bif decide (n45 ≤ 16) then ((fA q1.1 6).bind fun t46 =>
(ldO false 1 q1.2 t46).bind fun t47 =>
(castI .u64 t47).bind fun n48 =>
(fA q1.1 6).bind fun t49 =>
(ldO false 1 q1.2 t49).bind fun t50 =>
(castI .u64 t50).bind fun n51 =>
(callO rec 44 (7::1::1::1::1::0::1::1::1::0::σ) [(.p (.int .u64 n48)),(.p (.int .i64 18))] q1.2 (some 69)).bind fun q52 =>
(castI .u64 q52.1).bind fun n53 =>
need (ldO false 1 q52.2 t49 = some (.p (.int .u64 n51))) (
some ((.p (.bool (n53 == n51))),q52.2))) else (some ((.p (.bool false)),q1.2))).bind fun q54 =>
(asB q54.1).bind fun b55 =>
bif !b55 then (
fin false σ q54.2 [(.p (.int .i64 1))])
else (
(ldO true 10 q54.2 q1.1).bind fun t56 =>
(callO rec 87 (1::0::0::1::1::1::1::1::0::σ) [t56] q54.2 (some 118)).bind fun q57 =>
(asB q57.1).bind fun b58 =>
bif !b58 then (
fin false σ q57.2 [(.p (.int .i64 12))])
else (
fin false σ q57.2 [(.p (.int .i64 0))])))
else (
bif n11 == 6 then (
(fA q1.1 7).bind fun t59 =>
(ldO false 1 q1.2 t59).bind fun t60 =>
(castI .i64 t60).bind fun n61 =>
(bif decide (n61 ≥ 192) then ((fA q1.1 7).bind fun t62 =>
(ldO false 1 q1.2 t62).bind fun t63 =>
(castI .i64 t63).bind fun n64 =>
some (decide (n64 ≤ 223))) else (some false)).bind fun b65 =>
(bif b65 then ((fA q1.1 8).bind fun t66 =>
(ldO false 1 q1.2 t66).bind fun t67 =>
(castI .i64 t67).bind fun n68 =>
some (decide (n68 ≥ 0))) else (some false)).bind fun b69 =>
(bif b69 then ((fA q1.1 8).bind fun t70 =>
(ldO false 1 q1.2 t70).bind fun t71 =>
(castI .i64 t71).bind fun n72 =>
some (decide (n72 ≤ 31))) else (some false)).bind fun b73 =>
(bif b73 then ((fA q1.1 9).bind fun t74 =>
(ldO false 1 q1.2 t74).bind fun t75 =>
(lenO t75).bind fun t76 =>
(castI .i64 t76).bind fun n77 =>
some ((Int.tmod n77 4) == 0)) else (some false)).bind fun b78 =>
(bif b78 then ((fA q1.1 9).bind fun t79 =>
(ldO false 1 q1.2 t79).bind fun t80 =>
(lenO t80).bind fun t81 =>
(castI .i64 t81).bind fun n82 =>
some (decide (n82 ≤ 262140))) else (some false)).bind fun b83 =>
(bif b83 then ((fA q1.1 7).bind fun t84 =>
(ldO false 1 q1.2 t84).bind fun t85 =>
(castI .i64 t85).bind fun n86 =>
(fA q1.1 8).bind fun t87 =>
(ldO false 1 q1.2 t87).bind fun t88 =>
(castI .i64 t88).bind fun n89 =>
(callO rec 86 (36::1::1::1::1::1::0::1::1::1::0::σ) [(.p (.int .i64 n86)),(.p (.int .i64 n89))] q1.2 (some 112)).bind fun q90 =>
(asB q90.1).bind fun b91 =>
some ((.p (.bool (!b91))),q90.2)) else (some ((.p (.bool false)),q1.2))).bind fun q92 =>
(asB q92.1).bind fun b93 =>
bif !b93 then (
fin false σ q92.2 [(.p (.int .i64 1))])
else (
(ldO true 10 q92.2 q1.1).bind fun t94 =>
(callO rec 87 (1::0::0::1::1::1::1::1::0::σ) [t94] q92.2 (some 118)).bind fun q95 =>
(asB q95.1).bind fun b96 =>
bif !b96 then (
fin false σ q95.2 [(.p (.int .i64 12))])
else (
fin false σ q95.2 [(.p (.int .i64 0))])))
else (
bif !true then (
fin false σ q1.2 [(.p (.int .i64 1))])
else (
(ldO true 10 q1.2 q1.1).bind fun t97 =>
(callO rec 87 (1::0::0::1::1::1::1::1::0::σ) [t97] q1.2 (some 118)).bind fun q98 =>
(asB q98.1).bind fun b99 =>
bif !b99 then (
fin false σ q98.2 [(.p (.int .i64 12))])
else (
fin false σ q98.2 [(.p (.int .i64 0))])))))))
else (
bif n11 == 2 then (
(fA q1.1 3).bind fun t100 =>
(ldO false 1 q1.2 t100).bind fun t101 =>
(callO rec 85 (2::1::1::0::1::1::1::0::σ) [t101] q1.2 (some 21)).bind fun q102 =>
(asB q102.1).bind fun b103 =>
bif !b103 then (
fin false σ q102.2 [(.p (.int .i64 1))])
else (
(ldO true 10 q102.2 q1.1).bind fun t104 =>
(callO rec 87 (1::0::0::1::1::1::1::1::0::σ) [t104] q102.2 (some 118)).bind fun q105 =>
(asB q105.1).bind fun b106 =>
bif !b106 then (
fin false σ q105.2 [(.p (.int .i64 12))])
else (
fin false σ q105.2 [(.p (.int .i64 0))])))
else (
bif n11 == 4 then (
(fA q1.1 4).bind fun t107 =>
(ldO false 1 q1.2 t107).bind fun t108 =>
(lenO t108).bind fun t109 =>
(castI .i64 t109).bind fun n110 =>
(fA q1.1 5).bind fun t111 =>
(ldO false 1 q1.2 t111).bind fun t112 =>
(lenO t112).bind fun t113 =>
(castI .i64 t113).bind fun n114 =>
(bif n110 == n114 then ((fA q1.1 4).bind fun t115 =>
(ldO false 1 q1.2 t115).bind fun t116 =>
(lenO t116).bind fun t117 =>
(castI .i64 t117).bind fun n118 =>
some (decide (n118 ≥ 1))) else (some false)).bind fun b119 =>
(bif b119 then ((fA q1.1 4).bind fun t120 =>
(ldO false 1 q1.2 t120).bind fun t121 =>
(lenO t121).bind fun t122 =>
(castI .i64 t122).bind fun n123 =>
some (decide (n123 ≤ 16))) else (some false)).bind fun b124 =>
(fA q1.1 5).bind fun t125 =>
(ldO false 1 q1.2 t125).bind fun t126 =>
(lenO t126).bind fun t127 =>
(castI .i64 t127).bind fun n128 =>
(loop zr6_Right_c0 zr6_Right_l0 (1::1::1::1::1::0::1::1::1::0::σ) (envL [(1,q1.1),(3,(.p (.bool b124))),(44,t126),(45,(.p (.int .i64 n128))),(46,(.p (.int .i64 0)))]) q1.2).bind fun r129 => zr6_Right_k0 rec loop σ r129.1 r129.2.1 r129.2.2)
else (
bif n11 == 5 then (
(fA q1.1 4).bind fun t130 =>
(ldO false 1 q1.2 t130).bind fun t131 =>
(lenO t131).bind fun t132 =>
(castI .i64 t132).bind fun n133 =>
(bif decide (n133 ≤ 16) then ((fA q1.1 6).bind fun t134 =>
(ldO false 1 q1.2 t134).bind fun t135 =>
(castI .u64 t135).bind fun n136 =>
(fA q1.1 6).bind fun t137 =>
(ldO false 1 q1.2 t137).bind fun t138 =>
(castI .u64 t138).bind fun n139 =>
(callO rec 44 (7::1::1::1::1::0::1::1::1::0::σ) [(.p (.int .u64 n136)),(.p (.int .i64 18))] q1.2 (some 69)).bind fun q140 =>
(castI .u64 q140.1).bind fun n141 =>
need (ldO false 1 q140.2 t137 = some (.p (.int .u64 n139))) (
some ((.p (.bool (n141 == n139))),q140.2))) else (some ((.p (.bool false)),q1.2))).bind fun q142 =>
(asB q142.1).bind fun b143 =>
bif !b143 then (
fin false σ q142.2 [(.p (.int .i64 1))])
else (
(ldO true 10 q142.2 q1.1).bind fun t144 =>
(callO rec 87 (1::0::0::1::1::1::1::1::0::σ) [t144] q142.2 (some 118)).bind fun q145 =>
(asB q145.1).bind fun b146 =>
bif !b146 then (
fin false σ q145.2 [(.p (.int .i64 12))])
else (
fin false σ q145.2 [(.p (.int .i64 0))])))
else (
bif n11 == 6 then (
(fA q1.1 7).bind fun t147 =>
(ldO false 1 q1.2 t147).bind fun t148 =>
(castI .i64 t148).bind fun n149 =>
(bif decide (n149 ≥ 192) then ((fA q1.1 7).bind fun t150 =>
(ldO false 1 q1.2 t150).bind fun t151 =>
(castI .i64 t151).bind fun n152 =>
some (decide (n152 ≤ 223))) else (some false)).bind fun b153 =>
(bif b153 then ((fA q1.1 8).bind fun t154 =>
(ldO false 1 q1.2 t154).bind fun t155 =>
(castI .i64 t155).bind fun n156 =>
some (decide (n156 ≥ 0))) else (some false)).bind fun b157 =>
(bif b157 then ((fA q1.1 8).bind fun t158 =>
(ldO false 1 q1.2 t158).bind fun t159 =>
(castI .i64 t159).bind fun n160 =>
some (decide (n160 ≤ 31))) else (some false)).bind fun b161 =>
(bif b161 then ((fA q1.1 9).bind fun t162 =>
(ldO false 1 q1.2 t162).bind fun t163 =>
(lenO t163).bind fun t164 =>
(castI .i64 t164).bind fun n165 =>
some ((Int.tmod n165 4) == 0)) else (some false)).bind fun b166 =>
(bif b166 then ((fA q1.1 9).bind fun t167 =>
(ldO false 1 q1.2 t167).bind fun t168 =>
(lenO t168).bind fun t169 =>
(castI .i64 t169).bind fun n170 =>
some (decide (n170 ≤ 262140))) else (some false)).bind fun b171 =>
(bif b171 then ((fA q1.1 7).bind fun t172 =>
(ldO false 1 q1.2 t172).bind fun t173 =>
(castI .i64 t173).bind fun n174 =>
(fA q1.1 8).bind fun t175 =>
(ldO false 1 q1.2 t175).bind fun t176 =>
(castI .i64 t176).bind fun n177 =>
(callO rec 86 (36::1::1::1::1::1::0::1::1::1::0::σ) [(.p (.int .i64 n174)),(.p (.int .i64 n177))] q1.2 (some 112)).bind fun q178 =>
(asB q178.1).bind fun b179 =>
some ((.p (.bool (!b179))),q178.2)) else (some ((.p (.bool false)),q1.2))).bind fun q180 =>
(asB q180.1).bind fun b181 =>
bif !b181 then (
fin false σ q180.2 [(.p (.int .i64 1))])
else (
(ldO true 10 q180.2 q1.1).bind fun t182 =>
(callO rec 87 (1::0::0::1::1::1::1::1::0::σ) [t182] q180.2 (some 118)).bind fun q183 =>
(asB q183.1).bind fun b184 =>
bif !b184 then (
fin false σ q183.2 [(.p (.int .i64 12))])
else (
fin false σ q183.2 [(.p (.int .i64 0))])))
else (
bif !true then (
fin false σ q1.2 [(.p (.int .i64 1))])
else (
(ldO true 10 q1.2 q1.1).bind fun t185 =>
(callO rec 87 (1::0::0::1::1::1::1::1::0::σ) [t185] q1.2 (some 118)).bind fun q186 =>
(asB q186.1).bind fun b187 =>
bif !b187 then (
fin false σ q186.2 [(.p (.int .i64 12))])
else (
fin false σ q186.2 [(.p (.int .i64 0))])))))))):=by kernel_rfl
theorem zr6_Right_r0 (x1 : V) (x3 : Bool) (x44 : V) (x45 : Int) (x46 : Int) (h : H) : cvRound G rec loop zr6_Right_c0 zr6_Right_l0 σ (envL [(1,x1),(3,(.p (.bool x3))),(44,x44),(45,(.p (.int .i64 x45))),(46,(.p (.int .i64 x46)))]) h =
bif decide (x46 < x45) then (
(iS 1 x44 x46).bind fun t188 =>
(ldO false 1 h t188).bind fun t189 =>
(castI .i64 t189).bind fun n190 =>
(bif x3 then (some (decide (n190 ≥ 0))) else (some false)).bind fun b191 =>
(bif b191 then (some (decide (n190 ≤ 255))) else (some false)).bind fun b192 =>
loop zr6_Right_c0 zr6_Right_l0 (1::σ) (envL [(1,x1),(3,(.p (.bool b192))),(44,x44),(45,(.p (.int .i64 x45))),(46,(.p (.int .i64 (IntKind.wrap .i64 (x46 + 1)))))]) h)
else (
some ((.exit 1),(envL [(1,x1),(3,(.p (.bool x3)))]),h)):=by kernel_rfl
theorem zr6_Right_a0_1 (x1 : V) (x3 : Bool) (h : H) : zr6_Right_k0 rec loop σ (.exit 1) (envL [(1,x1),(3,(.p (.bool x3)))]) h =
bif !x3 then (
fin false σ h [(.p (.int .i64 1))])
else (
(ldO true 10 h x1).bind fun t193 =>
(callO rec 87 (1::0::0::1::1::1::1::1::0::σ) [t193] h (some 118)).bind fun q194 =>
(asB q194.1).bind fun b195 =>
bif !b195 then (
fin false σ q194.2 [(.p (.int .i64 12))])
else (
fin false σ q194.2 [(.p (.int .i64 0))])):=by kernel_rfl
theorem zr6_empty_entry (x0 : V) (h : H) : cvBody G rec loop 87 σ [x0] h =
(boxO false (0::0::0::σ) 1 (List.replicate 85 []::h) x0).bind fun q1 =>
(fA q1.1 0).bind fun t2 =>
(ldO false 1 q1.2 t2).bind fun t3 =>
(castI .i64 t3).bind fun n4 =>
(bif n4 == 6 then ((fA q1.1 1).bind fun t5 =>
(ldO false 1 q1.2 t5).bind fun t6 =>
(castI .u32 t6).bind fun n7 =>
some (n7 != 0)) else (some false)).bind fun b8 =>
(bif b8 then (some true) else ((bif n4 != 3 then ((fA q1.1 2).bind fun t9 =>
(ldO false 1 q1.2 t9).bind fun t10 =>
(castI .u32 t10).bind fun n11 =>
some (n11 != 0)) else (some false)).bind fun b12 =>
some b12)).bind fun b13 =>
(bif b13 then (some true) else ((bif n4 != 1 then (some (n4 != 2)) else (some false)).bind fun b14 =>
(bif b14 then ((fA q1.1 3).bind fun t15 =>
(ldO false 1 q1.2 t15).bind fun t16 =>
(lenO t16).bind fun t17 =>
(castI .i64 t17).bind fun n18 =>
some (decide (n18 > 0))) else (some false)).bind fun b19 =>
some b19)).bind fun b20 =>
bif b20 then (
fin false σ q1.2 [(.p (.bool false))])
else (
(bif n4 != 4 then (some (n4 != 5)) else (some false)).bind fun b21 =>
(bif b21 then ((fA q1.1 4).bind fun t22 =>
(ldO false 1 q1.2 t22).bind fun t23 =>
(lenO t23).bind fun t24 =>
(castI .i64 t24).bind fun n25 =>
some (decide (n25 > 0))) else (some false)).bind fun b26 =>
(bif b26 then (some true) else ((bif n4 != 4 then ((fA q1.1 5).bind fun t27 =>
(ldO false 1 q1.2 t27).bind fun t28 =>
(lenO t28).bind fun t29 =>
(castI .i64 t29).bind fun n30 =>
some (decide (n30 > 0))) else (some false)).bind fun b31 =>
some b31)).bind fun b32 =>
(bif b32 then (some true) else ((bif n4 != 5 then ((fA q1.1 6).bind fun t33 =>
(ldO false 1 q1.2 t33).bind fun t34 =>
(castI .u64 t34).bind fun n35 =>
some (n35 != 0)) else (some false)).bind fun b36 =>
some b36)).bind fun b37 =>
bif b37 then (
fin false σ q1.2 [(.p (.bool false))])
else (
(bif n4 == 6 then (some true) else ((fA q1.1 7).bind fun t38 =>
(ldO false 1 q1.2 t38).bind fun t39 =>
(castI .i64 t39).bind fun n40 =>
(bif n40 == 0 then ((fA q1.1 8).bind fun t41 =>
(ldO false 1 q1.2 t41).bind fun t42 =>
(castI .i64 t42).bind fun n43 =>
some (n43 == 0)) else (some false)).bind fun b44 =>
(bif b44 then ((fA q1.1 9).bind fun t45 =>
(ldO false 1 q1.2 t45).bind fun t46 =>
(lenO t46).bind fun t47 =>
(castI .i64 t47).bind fun n48 =>
some (n48 == 0)) else (some false)).bind fun b49 =>
some b49)).bind fun b50 =>
fin false σ q1.2 [(.p (.bool b50))])):=by kernel_rfl
end
end Go.Ev
namespace Go.Ev
open Go.Proofs
set_option linter.unusedVariables false
set_option linter.unusedSimpArgs false
set_option maxRecDepth 100000
def p_zr6_empty (x0 : TaiReport) : Option (Bool) :=
(bif x0.Kind == 6 then (some (x0.From != 0)) else (some false)).bind fun b13 =>
(bif b13 then (some true) else ((bif x0.Kind != 3 then (some (x0.About != 0)) else (some false)).bind fun b17 =>
some b17)).bind fun b21 =>
(bif b21 then (some true) else ((bif x0.Kind != 1 then (some (x0.Kind != 2)) else (some false)).bind fun b25 =>
(bif b25 then (some (decide (((x0.Tuples.length : Int)) > 0))) else (some false)).bind fun b29 =>
some b29)).bind fun b33 =>
bif b33 then (
some (false))
else (
(bif x0.Kind != 4 then (some (x0.Kind != 5)) else (some false)).bind fun b38 =>
(bif b38 then (some (decide (((x0.Abouts.length : Int)) > 0))) else (some false)).bind fun b42 =>
(bif b42 then (some true) else ((bif x0.Kind != 4 then (some (decide (((x0.Numbers.length : Int)) > 0))) else (some false)).bind fun b46 =>
some b46)).bind fun b50 =>
(bif b50 then (some true) else ((bif x0.Kind != 5 then (some (x0.Rate != 0)) else (some false)).bind fun b54 =>
some b54)).bind fun b58 =>
bif b58 then (
some (false))
else (
(bif x0.Kind == 6 then (some true) else ((bif x0.f_Type == 0 then (some (x0.Count == 0)) else (some false)).bind fun b63 =>
(bif b63 then (some (((x0.Body.length : Int)) == 0)) else (some false)).bind fun b67 =>
some b67)).bind fun b71 =>
some (b71)))
theorem zr6_empty_ok {h : H} {σ : Stamp} (x0 : TaiReport) {u0 : List V} (hu0 : dTaiReport.R x0 u0) : Sim (p_zr6_empty x0) (ev G X0 87 σ [(.agg u0)] h) (fun r s => s = ([.v (.p (.bool r))],h)):=by
  refine Sim.ev rfl (Sim.ext (zr6_empty_entry _ _ _ _ _) ?_)
  rw [p_zr6_empty]
  obtain ⟨v1,v3,v5,v7,rfl,h2,h4,h6,h8⟩:=dTaiReport.inv hu0
  have S0 : Fm 85 h [] [] [] (List.replicate 85 []::h):=Fm.start0
  obtain ⟨H9,e10,S11⟩:=S0.box (own:=false) (d:=1) (s:=(0::0::0::σ)) (xs:=[(.p (.int .i64 x0.Kind)),(.p (.int .u32 x0.From)),(.p (.int .u32 x0.About)),v1,v3,v5,(.p (.int .u64 x0.Rate)),(.p (.int .i64 x0.f_Type)),(.p (.int .i64 x0.Count)),v7]) (sC (sI _ _) (sC (sI _ _) (sC (sI _ _) (sC h2.still (sC h4.still (sC h6.still (sC (sI _ _) (sC (sI _ _) (sC (sI _ _) (sC h8.still sN)))))))))) (by decide) rfl
  refine Sim.op (e10) ?_
  refine Sim.fa ?_
  refine Sim.op ((S11.atG (i:=0) rfl).ld (j:=0) rfl) ?_
  refine Sim.ci ?_
  refine Sim.ch (P:=fun r y => r = y) ?_ (fun b13 y14 h15 h16 => ?_)
  · refine Sim.cq ?_ ?_
    · refine Sim.fa ?_
      refine Sim.op ((S11.atG (i:=0) rfl).ld (j:=1) rfl) ?_
      refine Sim.ci ?_
      exact Sim.ret rfl rfl
    · exact Sim.ret rfl rfl
  subst h16
  refine Sim.ch (P:=fun r y => r = y) ?_ (fun b21 y22 h23 h24 => ?_)
  · refine Sim.cq ?_ ?_
    · exact Sim.ret rfl rfl
    · refine Sim.ch (P:=fun r y => r = y) ?_ (fun b17 y18 h19 h20 => ?_)
      · refine Sim.cq ?_ ?_
        · refine Sim.fa ?_
          refine Sim.op ((S11.atG (i:=0) rfl).ld (j:=2) rfl) ?_
          refine Sim.ci ?_
          exact Sim.ret rfl rfl
        · exact Sim.ret rfl rfl
      subst h20
      exact Sim.ret rfl rfl
  subst h24
  refine Sim.ch (P:=fun r y => r = y) ?_ (fun b33 y34 h35 h36 => ?_)
  · refine Sim.cq ?_ ?_
    · exact Sim.ret rfl rfl
    · refine Sim.ch (P:=fun r y => r = y) ?_ (fun b25 y26 h27 h28 => ?_)
      · refine Sim.cq ?_ ?_
        · exact Sim.ret rfl rfl
        · exact Sim.ret rfl rfl
      subst h28
      refine Sim.ch (P:=fun r y => r = y) ?_ (fun b29 y30 h31 h32 => ?_)
      · refine Sim.cq ?_ ?_
        · refine Sim.fa ?_
          refine Sim.op ((S11.atG (i:=0) rfl).ld (j:=3) rfl) ?_
          refine Sim.op ((h2.h H9).len) ?_
          refine Sim.ci ?_
          exact Sim.ret rfl rfl
        · exact Sim.ret rfl rfl
      subst h32
      exact Sim.ret rfl rfl
  subst h36
  refine Sim.cq ?_ ?_
  · exact Sim.fin (S11.finN (lC (sB _).lv lN)) rfl
  refine Sim.ch (P:=fun r y => r = y) ?_ (fun b38 y39 h40 h41 => ?_)
  · refine Sim.cq ?_ ?_
    · exact Sim.ret rfl rfl
    · exact Sim.ret rfl rfl
  subst h41
  refine Sim.ch (P:=fun r y => r = y) ?_ (fun b42 y43 h44 h45 => ?_)
  · refine Sim.cq ?_ ?_
    · refine Sim.fa ?_
      refine Sim.op ((S11.atG (i:=0) rfl).ld (j:=4) rfl) ?_
      refine Sim.op ((h4.h H9).len) ?_
      refine Sim.ci ?_
      exact Sim.ret rfl rfl
    · exact Sim.ret rfl rfl
  subst h45
  refine Sim.ch (P:=fun r y => r = y) ?_ (fun b50 y51 h52 h53 => ?_)
  · refine Sim.cq ?_ ?_
    · exact Sim.ret rfl rfl
    · refine Sim.ch (P:=fun r y => r = y) ?_ (fun b46 y47 h48 h49 => ?_)
      · refine Sim.cq ?_ ?_
        · refine Sim.fa ?_
          refine Sim.op ((S11.atG (i:=0) rfl).ld (j:=5) rfl) ?_
          refine Sim.op ((h6.h H9).len) ?_
          refine Sim.ci ?_
          exact Sim.ret rfl rfl
        · exact Sim.ret rfl rfl
      subst h49
      exact Sim.ret rfl rfl
  subst h53
  refine Sim.ch (P:=fun r y => r = y) ?_ (fun b58 y59 h60 h61 => ?_)
  · refine Sim.cq ?_ ?_
    · exact Sim.ret rfl rfl
    · refine Sim.ch (P:=fun r y => r = y) ?_ (fun b54 y55 h56 h57 => ?_)
      · refine Sim.cq ?_ ?_
        · refine Sim.fa ?_
          refine Sim.op ((S11.atG (i:=0) rfl).ld (j:=6) rfl) ?_
          refine Sim.ci ?_
          exact Sim.ret rfl rfl
        · exact Sim.ret rfl rfl
      subst h57
      exact Sim.ret rfl rfl
  subst h61
  refine Sim.cq ?_ ?_
  · exact Sim.fin (S11.finN (lC (sB _).lv lN)) rfl
  refine Sim.ch (P:=fun r y => r = y) ?_ (fun b71 y72 h73 h74 => ?_)
  · refine Sim.cq ?_ ?_
    · exact Sim.ret rfl rfl
    · refine Sim.fa ?_
      refine Sim.op ((S11.atG (i:=0) rfl).ld (j:=7) rfl) ?_
      refine Sim.ci ?_
      refine Sim.ch (P:=fun r y => r = y) ?_ (fun b63 y64 h65 h66 => ?_)
      · refine Sim.cq ?_ ?_
        · refine Sim.fa ?_
          refine Sim.op ((S11.atG (i:=0) rfl).ld (j:=8) rfl) ?_
          refine Sim.ci ?_
          exact Sim.ret rfl rfl
        · exact Sim.ret rfl rfl
      subst h66
      refine Sim.ch (P:=fun r y => r = y) ?_ (fun b67 y68 h69 h70 => ?_)
      · refine Sim.cq ?_ ?_
        · refine Sim.fa ?_
          refine Sim.op ((S11.atG (i:=0) rfl).ld (j:=9) rfl) ?_
          refine Sim.op ((h8.h H9).len) ?_
          refine Sim.ci ?_
          exact Sim.ret rfl rfl
        · exact Sim.ret rfl rfl
      subst h70
      exact Sim.ret rfl rfl
  subst h74
  exact Sim.fin (S11.finN (lC (sB _).lv lN)) rfl
end Go.Ev
namespace Go.Ev
open Go.Proofs
set_option linter.unusedVariables false
set_option linter.unusedSimpArgs false
set_option maxRecDepth 100000
noncomputable section
abbrev KT31:=Exit→Env→H→Option (List C × H)
variable (rec : CallF) (loop : LoopV) (σ : Stamp)
theorem zr6_known_entry (x0 : Int) (x1 : Int) (h : H) : cvBody G rec loop 86 σ [(.p (.int .i64 x0)),(.p (.int .i64 x1))] h =
(bif x0 == 205 then ((bif x1 == 3 then (some true) else (some (x1 == 4))).bind fun b1 =>
some b1) else (some false)).bind fun b2 =>
(bif b2 then (some true) else ((bif x0 == 206 then ((bif x1 == 1 then (some true) else (some (x1 == 4))).bind fun b3 =>
(bif b3 then (some true) else (some (x1 == 15))).bind fun b4 =>
some b4) else (some false)).bind fun b5 =>
some b5)).bind fun b6 =>
fin false σ (List.replicate 31 []::h) [(.p (.bool b6))]:=by kernel_rfl
end
end Go.Ev
namespace Go.Ev
open Go.Proofs
set_option linter.unusedVariables false
set_option linter.unusedSimpArgs false
set_option maxRecDepth 100000
def p_zr6_known (x0 : Int) (x1 : Int) : Option (Bool) :=
(bif x0 == 205 then ((bif x1 == 3 then (some true) else (some (x1 == 4))).bind fun b1 =>
some b1) else (some false)).bind fun b5 =>
(bif b5 then (some true) else ((bif x0 == 206 then ((bif x1 == 1 then (some true) else (some (x1 == 4))).bind fun b9 =>
(bif b9 then (some true) else (some (x1 == 15))).bind fun b13 =>
some b13) else (some false)).bind fun b17 =>
some b17)).bind fun b21 =>
some (b21)
theorem zr6_known_ok {h : H} {σ : Stamp} (x0 : Int) (x1 : Int) : Sim (p_zr6_known x0 x1) (ev G X0 86 σ [(.p (.int .i64 x0)),(.p (.int .i64 x1))] h) (fun r s => s = ([.v (.p (.bool r))],h)):=by
  refine Sim.ev rfl (Sim.ext (zr6_known_entry _ _ _ _ _ _) ?_)
  rw [p_zr6_known]
  have S0 : Fm 31 h [] [] [] (List.replicate 31 []::h):=Fm.start0
  refine Sim.ch (P:=fun r y => r = y) ?_ (fun b5 y6 h7 h8 => ?_)
  · refine Sim.cq ?_ ?_
    · refine Sim.ch (P:=fun r y => r = y) ?_ (fun b1 y2 h3 h4 => ?_)
      · refine Sim.cq ?_ ?_
        · exact Sim.ret rfl rfl
        · exact Sim.ret rfl rfl
      subst h4
      exact Sim.ret rfl rfl
    · exact Sim.ret rfl rfl
  subst h8
  refine Sim.ch (P:=fun r y => r = y) ?_ (fun b21 y22 h23 h24 => ?_)
  · refine Sim.cq ?_ ?_
    · exact Sim.ret rfl rfl
    · refine Sim.ch (P:=fun r y => r = y) ?_ (fun b17 y18 h19 h20 => ?_)
      · refine Sim.cq ?_ ?_
        · refine Sim.ch (P:=fun r y => r = y) ?_ (fun b9 y10 h11 h12 => ?_)
          · refine Sim.cq ?_ ?_
            · exact Sim.ret rfl rfl
            · exact Sim.ret rfl rfl
          subst h12
          refine Sim.ch (P:=fun r y => r = y) ?_ (fun b13 y14 h15 h16 => ?_)
          · refine Sim.cq ?_ ?_
            · exact Sim.ret rfl rfl
            · exact Sim.ret rfl rfl
          subst h16
          exact Sim.ret rfl rfl
        · exact Sim.ret rfl rfl
      subst h20
      exact Sim.ret rfl rfl
  subst h24
  exact Sim.fin (S0.finN (lC (sB _).lv lN)) rfl
end Go.Ev
namespace Go.Ev
open Go.Proofs
set_option linter.unusedVariables false
set_option linter.unusedSimpArgs false
set_option maxRecDepth 100000
noncomputable section
abbrev KT32:=Exit→Env→H→Option (List C × H)
variable (rec : CallF) (loop : LoopV) (σ : Stamp)
def zr6_tuples_c0 : Code:=(codeAt (bodyOf Try.f85) [1,0,1,0,0])
def zr6_tuples_l0 : Lv:=⟨1,4,[(0,1)]⟩
def zr6_tuples_k0 : KT32:=(kBlock 0 (kSeq G rec loop (codeAt (bodyOf Try.f85) [1,1]) ⟨4,4,[]⟩ (1::0::σ) (finC G false Try.f85 (1::σ))))
theorem zr6_tuples_entry (x0 : V) (h : H) : cvBody G rec loop 85 σ [x0] h =
(lenO x0).bind fun t1 =>
(castI .i64 t1).bind fun n2 =>
(loop zr6_tuples_c0 zr6_tuples_l0 (1::0::1::0::σ) (envL [(0,x0),(5,x0),(6,(.p (.int .i64 n2))),(7,(.p (.int .i64 0)))]) (List.replicate 31 []::h)).bind fun r3 => zr6_tuples_k0 rec loop σ r3.1 r3.2.1 r3.2.2:=by kernel_rfl
theorem zr6_tuples_r0 (x0 : V) (x5 : V) (x6 : Int) (x7 : Int) (h : H) : cvRound G rec loop zr6_tuples_c0 zr6_tuples_l0 σ (envL [(0,x0),(5,x5),(6,(.p (.int .i64 x6))),(7,(.p (.int .i64 x7)))]) h =
bif decide (x7 < x6) then (
(iS 3 x5 x7).bind fun t4 =>
(ldO true 3 h t4).bind fun t5 =>
(some (alO [.p (.int .u32 0),.p (.int .u64 0),.p (.int .i64 0)] (2::0::0::1::1::0::σ) 4 h)).bind fun q6 =>
((stO false 3 (3::0::0::1::1::0::σ) q6.2 q6.1 t5).map fun h => (udf,h)).bind fun q7 =>
(fA q6.1 2).bind fun t8 =>
(ldO false 1 q7.2 t8).bind fun t9 =>
(castI .i64 t9).bind fun n10 =>
(bif decide (n10 < 0) then (some true) else ((fA q6.1 2).bind fun t11 =>
(ldO false 1 q7.2 t11).bind fun t12 =>
(castI .i64 t12).bind fun n13 =>
some (decide (n13 > 511)))).bind fun b14 =>
(bif b14 then (some ((.p (.bool true)),q7.2)) else ((fA q6.1 1).bind fun t15 =>
(ldO false 1 q7.2 t15).bind fun t16 =>
(castI .u64 t16).bind fun n17 =>
(fA q6.1 1).bind fun t18 =>
(ldO false 1 q7.2 t18).bind fun t19 =>
(castI .u64 t19).bind fun n20 =>
(callO rec 44 (11::0::1::0::1::1::0::σ) [(.p (.int .u64 n17)),(.p (.int .i64 17))] q7.2 (some 22)).bind fun q21 =>
(castI .u64 q21.1).bind fun n22 =>
need (ldO false 1 q21.2 t18 = some (.p (.int .u64 n20))) (
some ((.p (.bool (n22 != n20))),q21.2)))).bind fun q23 =>
(asB q23.1).bind fun b24 =>
bif b24 then (
some (.ret,(envL [(2,(.p (.bool false)))]),q23.2))
else (
loop zr6_tuples_c0 zr6_tuples_l0 (1::σ) (envL [(0,x0),(5,x5),(6,(.p (.int .i64 x6))),(7,(.p (.int .i64 (IntKind.wrap .i64 (x7 + 1)))))]) q23.2))
else (
some ((.exit 0),(envL [(0,x0)]),h)):=by kernel_rfl
theorem zr6_tuples_a0_0 (x0 : V) (h : H) : zr6_tuples_k0 rec loop σ (.exit 0) (envL [(0,x0)]) h =
(lenO x0).bind fun t25 =>
(castI .i64 t25).bind fun n26 =>
fin false σ h [(.p (.bool (decide (n26 ≤ 6))))]:=by kernel_rfl
theorem zr6_tuples_a0_ret (x2 : Bool) (h : H) : zr6_tuples_k0 rec loop σ .ret (envL [(2,(.p (.bool x2)))]) h =
fin false σ h [(.p (.bool x2))]:=by kernel_rfl
end
end Go.Ev
namespace Go.Ev
open Go.Proofs
set_option linter.unusedVariables false
set_option linter.unusedSimpArgs false
set_option maxRecDepth 100000
def p_zr6_tuples_l0 {β : Type} (k : Nat) (kE0 : (List TaiTuple)→Option β) (kE1 : Bool→Option β) (x0 : (List TaiTuple)) (x5 : (List TaiTuple)) (x6 : Int) (x7 : Int) : Option β:=match k with
| 0 => none
| k + 1 =>
bif decide (x7 < x6) then (
(ix x5 x7).bind fun a8 =>
(bif decide (a8.Over < 0) then (some true) else (some (decide (a8.Over > 511)))).bind fun b20 =>
(bif b20 then (some true) else ((p_zr1_Down k a8.Rate 17).bind fun r24 =>
some (r24 != a8.Rate))).bind fun b29 =>
bif b29 then (
kE1 false)
else (
p_zr6_tuples_l0 k kE0 kE1 x0 x5 x6 (IntKind.wrap .i64 (x7 + 1))))
else (
kE0 x0)
def p_zr6_tuples (k : Nat) (x0 : (List TaiTuple)) : Option (Bool) :=
p_zr6_tuples_l0 k (fun r40_0 =>
some ((decide (((r40_0.length : Int)) ≤ 6)))) (fun r45_2 =>
some (r45_2)) x0 x0 ((x0.length : Int)) 0
theorem zr6_tuples_l0_ok {h : H}  {β α : Type} {Q : β→α→Prop} {K : Exit × Env × H→Option α} {kE0 : (List TaiTuple)→Option β} {kE1 : Bool→Option β} (hE0 : ∀ (q0 : (List TaiTuple)) (v36 : V) (h37 : SlH h dTaiTuple q0 v36) (H34 : Go.Ev.H) (_ : Fm 31 h [] [] [] H34),Sim (kE0 q0) (K ((.exit 0),(envL [(0,v36)]),H34)) Q) (hE1 : ∀ (q2 : Bool) (H38 : Go.Ev.H) (_ : Fm 31 h [] [] [] H38),Sim (kE1 q2) (K (.ret,(envL [(2,(.p (.bool q2)))]),H38)) Q) (k : Nat) : ∀ (x0 : (List TaiTuple)) (x5 : (List TaiTuple)) (x6 : Int) (x7 : Int) (v3 : V) (h4 : SlH h dTaiTuple x0 v3) (v5 : V) (h6 : SlH h dTaiTuple x5 v5) (H1 : Go.Ev.H) (_ : Fm 31 h [] [] [] H1) {σ : Stamp},Sim (p_zr6_tuples_l0 k kE0 kE1 x0 x5 x6 x7) ((cvL G X0 zr6_tuples_c0 zr6_tuples_l0 σ (envL [(0,v3),(5,v5),(6,(.p (.int .i64 x6))),(7,(.p (.int .i64 x7)))]) H1).bind K) Q:=by
  induction k with
  | zero => intros; exact Sim.no
  | succ k ih =>
    intro x0 x5 x6 x7 v3 h4 v5 h6 H1 S2 σ
    rw [p_zr6_tuples_l0]
    refine Sim.round (Sim.ext (zr6_tuples_r0 _ _ _ _ _ _ _ _) ?_)
    refine Sim.cq ?_ ?_
    · refine Sim.bd fun a8 h9 => ?_
      refine Sim.op ((S2.low h6).iS h9 rfl) ?_
      obtain ⟨w11,h12,hE10⟩:=(S2.low h6).el h9 rfl
      obtain rfl:=dTaiTuple.inv h12
      refine Sim.op (hE10.all (by simp)) ?_
      obtain ⟨H13,e14,S15⟩:=S2.al (d:=4) (s:=(2::0::0::1::1::0::σ)) (z:=[(.p (.int .u32 0)),(.p (.int .u64 0)),(.p (.int .i64 0))]) (by decide) rfl
      refine Sim.op (congrArg some e14) ?_
      obtain ⟨H17,e18,S19⟩:=S15.stGv (i:=0) (j:=0) (own:=false) (σ:=(3::0::0::1::1::0::σ)) (xs:=[.p (.int .u32 a8.Owner),.p (.int .u64 a8.Rate),.p (.int .i64 a8.Over)]) rfl rfl (sC (sI _ _) (sC (sI _ _) (sC (sI _ _) sN))) rfl rfl
      refine Sim.op (sM e18) ?_
      refine Sim.fa ?_
      refine Sim.op ((S19.atG (i:=0) rfl).ld (j:=2) rfl) ?_
      refine Sim.ci ?_
      refine Sim.ch (P:=fun r y => r = y) ?_ (fun b20 y21 h22 h23 => ?_)
      · refine Sim.cq ?_ ?_
        · exact Sim.ret rfl rfl
        · refine Sim.fa ?_
          refine Sim.op ((S19.atG (i:=0) rfl).ld (j:=2) rfl) ?_
          refine Sim.ci ?_
          exact Sim.ret rfl rfl
      subst h23
      refine Sim.ch (P:=fun r y => (.p (.bool r),H17) = y) ?_ (fun b29 y30 h31 h32 => ?_)
      · refine Sim.cq ?_ ?_
        · exact Sim.ret rfl rfl
        · refine Sim.fa ?_
          refine Sim.op ((S19.atG (i:=0) rfl).ld (j:=1) rfl) ?_
          refine Sim.ci ?_
          refine Sim.fa ?_
          refine Sim.op ((S19.atG (i:=0) rfl).ld (j:=1) rfl) ?_
          refine Sim.ci ?_
          refine Sim.call (zr1_Down_ok k a8.Rate 17) fun r24 cs25 H26 h27 q28 => ?_
          cases q28
          refine Sim.ci ?_
          refine Sim.nd ((S19.atG (i:=0) rfl).ld (j:=1) rfl) ?_
          exact Sim.ret rfl rfl
      subst h32
      refine Sim.ab ?_
      refine Sim.cq ?_ ?_
      · exact hE1 false H17 (S19.wk2 aN aN)
      exact ih x0 x5 x6 (IntKind.wrap .i64 (x7 + 1)) v3 h4 v5 h6 H17 (S19.wk2 aN aN)
    exact hE0 x0 v3 h4 H1 (S2.wk2 aN aN)
theorem zr6_tuples_ok (k : Nat) {h : H} {σ : Stamp} (x0 : List TaiTuple) {u0 : V} (hu0 : SlH h dTaiTuple x0 u0) : Sim (p_zr6_tuples k x0) (ev G X0 85 σ [u0] h) (fun r s => s = ([.v (.p (.bool r))],h)):=by
  refine Sim.ev rfl (Sim.ext (zr6_tuples_entry _ _ _ _ _) ?_)
  rw [p_zr6_tuples]
  have S0 : Fm 31 h [] [] [] (List.replicate 31 []::h):=Fm.start0
  refine Sim.op ((S0.low hu0).len) ?_
  refine Sim.ci ?_
  refine Sim.as (zr6_tuples_l0_ok ?_ ?_ k x0 x0 ((x0.length : Int)) 0 u0 hu0 u0 hu0 (List.replicate 31 []::h) (S0.wk2 aN aN))
  · intro r40_0 v43 h44 H41 S42
    refine Sim.ext (zr6_tuples_a0_0 _ _ _ _ _) ?_
    refine Sim.op ((S42.low h44).len) ?_
    refine Sim.ci ?_
    exact Sim.fin (S42.finN (lC (sB _).lv lN)) rfl
  · intro r45_2 H46 S47
    refine Sim.ext (zr6_tuples_a0_ret _ _ _ _ _) ?_
    exact Sim.fin (S47.finN (lC (sB _).lv lN)) rfl
def p_zr6_Right_l0 {β : Type} (k : Nat) (kE0 : Bool→TaiReport→Option β) (x3 : Bool) (x44 : (List Int)) (x45 : Int) (x46 : Int) (yg12 : TaiReport) : Option β:=match k with
| 0 => none
| k + 1 =>
bif decide (x46 < x45) then (
(ix x44 x46).bind fun a68 =>
(bif x3 then (some (decide (a68 ≥ 0))) else (some false)).bind fun b71 =>
(bif b71 then (some (decide (a68 ≤ 255))) else (some false)).bind fun b75 =>
p_zr6_Right_l0 k kE0 b75 x44 x45 (IntKind.wrap .i64 (x46 + 1)) yg12)
else (
kE0 x3 yg12)
def p_zr6_Right (k : Nat) (x0 : TaiReport) : Option (Int) :=
(bif decide (x0.Kind < 1) then (some true) else (some (decide (x0.Kind > 6)))).bind fun b13 =>
bif b13 then (
some (12))
else (
bif x0.Kind == 1 then (
(p_zr6_tuples k x0.Tuples).bind fun r19 =>
bif !r19 then (
some (1))
else (
(p_zr6_empty x0).bind fun r25 =>
bif !r25 then (
some (12))
else (
some (0))))
else (
bif x0.Kind == 2 then (
(p_zr6_tuples k x0.Tuples).bind fun r32 =>
bif !r32 then (
some (1))
else (
(p_zr6_empty x0).bind fun r38 =>
bif !r38 then (
some (12))
else (
some (0))))
else (
bif x0.Kind == 4 then (
(bif ((x0.Abouts.length : Int)) == ((x0.Numbers.length : Int)) then (some (decide (((x0.Abouts.length : Int)) ≥ 1))) else (some false)).bind fun b45 =>
(bif b45 then (some (decide (((x0.Abouts.length : Int)) ≤ 16))) else (some false)).bind fun b49 =>
p_zr6_Right_l0 k (fun r91_3 yg66 =>
bif !r91_3 then (
some (1))
else (
(p_zr6_empty yg66).bind fun r105 =>
bif !r105 then (
some (12))
else (
some (0)))) b49 x0.Numbers ((x0.Numbers.length : Int)) 0 x0)
else (
bif x0.Kind == 5 then (
(bif decide (((x0.Abouts.length : Int)) ≤ 16) then ((p_zr1_Down k x0.Rate 18).bind fun r112 =>
some (r112 == x0.Rate)) else (some false)).bind fun b117 =>
bif !b117 then (
some (1))
else (
(p_zr6_empty x0).bind fun r122 =>
bif !r122 then (
some (12))
else (
some (0))))
else (
bif x0.Kind == 6 then (
(bif decide (x0.f_Type ≥ 192) then (some (decide (x0.f_Type ≤ 223))) else (some false)).bind fun b129 =>
(bif b129 then (some (decide (x0.Count ≥ 0))) else (some false)).bind fun b133 =>
(bif b133 then (some (decide (x0.Count ≤ 31))) else (some false)).bind fun b137 =>
(bif b137 then (some ((Int.tmod ((x0.Body.length : Int)) 4) == 0)) else (some false)).bind fun b141 =>
(bif b141 then (some (decide (((x0.Body.length : Int)) ≤ 262140))) else (some false)).bind fun b145 =>
(bif b145 then ((p_zr6_known x0.f_Type x0.Count).bind fun r149 =>
some (!r149)) else (some false)).bind fun b154 =>
bif !b154 then (
some (1))
else (
(p_zr6_empty x0).bind fun r159 =>
bif !r159 then (
some (12))
else (
some (0))))
else (
bif !true then (
some (1))
else (
(p_zr6_empty x0).bind fun r166 =>
bif !r166 then (
some (12))
else (
some (0)))))))))
theorem zr6_Right_l0_ok {h : H}  {β α : Type} {Q : β→α→Prop} {K : Exit × Env × H→Option α} {kE0 : Bool→TaiReport→Option β} (hE0 : ∀ (q3 : Bool) (yg66 : TaiReport) (v81 : V) (h82 : SlF dTaiTuple yg66.Tuples v81) (v83 : V) (h84 : SlF (dI .u32) yg66.Abouts v83) (v85 : V) (h86 : SlF (dI .i64) yg66.Numbers v85) (v87 : V) (h88 : SlF (dI .u8) yg66.Body v87) (s89 : Stamp) (H79 : Go.Ev.H) (_ : Fm 120 h [] [(1,s89,List.map C.v [(.p (.int .i64 yg66.Kind)),(.p (.int .u32 yg66.From)),(.p (.int .u32 yg66.About)),v81,v83,v85,(.p (.int .u64 yg66.Rate)),(.p (.int .i64 yg66.f_Type)),(.p (.int .i64 yg66.Count)),v87])] [] H79),Sim (kE0 q3 yg66) (K ((.exit 1),(envL [(1,(.ref ⟨h.length,1,0,s89,[]⟩ 0)),(3,(.p (.bool q3)))]),H79)) Q) (k : Nat) : ∀ (x3 : Bool) (x44 : (List Int)) (x45 : Int) (x46 : Int) (yg12 : TaiReport) (v55 : V) (h56 : SlF (dI .i64) x44 v55) (v57 : V) (h58 : SlF dTaiTuple yg12.Tuples v57) (v59 : V) (h60 : SlF (dI .u32) yg12.Abouts v59) (v61 : V) (h62 : SlF (dI .i64) yg12.Numbers v61) (v63 : V) (h64 : SlF (dI .u8) yg12.Body v63) (s65 : Stamp) (H53 : Go.Ev.H) (_ : Fm 120 h [] [(1,s65,List.map C.v [(.p (.int .i64 yg12.Kind)),(.p (.int .u32 yg12.From)),(.p (.int .u32 yg12.About)),v57,v59,v61,(.p (.int .u64 yg12.Rate)),(.p (.int .i64 yg12.f_Type)),(.p (.int .i64 yg12.Count)),v63])] [] H53) {σ : Stamp},Sim (p_zr6_Right_l0 k kE0 x3 x44 x45 x46 yg12) ((cvL G X0 zr6_Right_c0 zr6_Right_l0 σ (envL [(1,(.ref ⟨h.length,1,0,s65,[]⟩ 0)),(3,(.p (.bool x3))),(44,v55),(45,(.p (.int .i64 x45))),(46,(.p (.int .i64 x46)))]) H53).bind K) Q:=by
  induction k with
  | zero => intros; exact Sim.no
  | succ k ih =>
    intro x3 x44 x45 x46 yg12 v55 h56 v57 h58 v59 h60 v61 h62 v63 h64 s65 H53 S54 σ
    rw [p_zr6_Right_l0]
    refine Sim.round (Sim.ext (zr6_Right_r0 _ _ _ _ _ _ _ _ _) ?_)
    refine Sim.cq ?_ ?_
    · refine Sim.bd fun a68 h69 => ?_
      refine Sim.op ((h56.h H53).iS h69 rfl) ?_
      obtain ⟨_,rfl,hE70⟩:=(h56.h H53).el h69 rfl
      refine Sim.op (hE70.ld (j:=0) rfl) ?_
      refine Sim.ci ?_
      refine Sim.ch (P:=fun r y => r = y) ?_ (fun b71 y72 h73 h74 => ?_)
      · refine Sim.cq ?_ ?_
        · exact Sim.ret rfl rfl
        · exact Sim.ret rfl rfl
      subst h74
      refine Sim.ch (P:=fun r y => r = y) ?_ (fun b75 y76 h77 h78 => ?_)
      · refine Sim.cq ?_ ?_
        · exact Sim.ret rfl rfl
        · exact Sim.ret rfl rfl
      subst h78
      exact ih b75 x44 x45 (IntKind.wrap .i64 (x46 + 1)) yg12 v55 h56 v57 h58 v59 h60 v61 h62 v63 h64 s65 H53 (S54.wk2 (aC (aM 0 rfl) aN) aN)
    exact hE0 x3 yg12 v57 h58 v59 h60 v61 h62 v63 h64 s65 H53 (S54.wk2 (aC (aM 0 rfl) aN) aN)
theorem zr6_Right_ok (k : Nat) {h : H} {σ : Stamp} (x0 : TaiReport) {u0 : List V} (hu0 : dTaiReport.R x0 u0) : Sim (p_zr6_Right k x0) (ev G X0 47 σ [(.agg u0)] h) (fun r s => s = ([.v (.p (.int .i64 r))],h)):=by
  refine Sim.ev rfl (Sim.ext (zr6_Right_entry _ _ _ _ _) ?_)
  rw [p_zr6_Right]
  obtain ⟨v1,v3,v5,v7,rfl,h2,h4,h6,h8⟩:=dTaiReport.inv hu0
  have S0 : Fm 120 h [] [] [] (List.replicate 120 []::h):=Fm.start0
  obtain ⟨H9,e10,S11⟩:=S0.box (own:=false) (d:=1) (s:=(0::0::0::σ)) (xs:=[(.p (.int .i64 x0.Kind)),(.p (.int .u32 x0.From)),(.p (.int .u32 x0.About)),v1,v3,v5,(.p (.int .u64 x0.Rate)),(.p (.int .i64 x0.f_Type)),(.p (.int .i64 x0.Count)),v7]) (sC (sI _ _) (sC (sI _ _) (sC (sI _ _) (sC h2.still (sC h4.still (sC h6.still (sC (sI _ _) (sC (sI _ _) (sC (sI _ _) (sC h8.still sN)))))))))) (by decide) rfl
  refine Sim.op (e10) ?_
  refine Sim.fa ?_
  refine Sim.op ((S11.atG (i:=0) rfl).ld (j:=0) rfl) ?_
  refine Sim.ci ?_
  refine Sim.ch (P:=fun r y => r = y) ?_ (fun b13 y14 h15 h16 => ?_)
  · refine Sim.cq ?_ ?_
    · exact Sim.ret rfl rfl
    · refine Sim.fa ?_
      refine Sim.op ((S11.atG (i:=0) rfl).ld (j:=0) rfl) ?_
      refine Sim.ci ?_
      exact Sim.ret rfl rfl
  subst h16
  refine Sim.cq ?_ ?_
  · exact Sim.fin (S11.finN (lC (sI _ _).lv lN)) rfl
  refine Sim.fa ?_
  refine Sim.op ((S11.atG (i:=0) rfl).ld (j:=0) rfl) ?_
  refine Sim.ci ?_
  refine Sim.cd (fun hc18 => ?_) (fun hc18 => ?_)
  · refine Sim.cdt (eqT (beq_iff_eq.1 hc18)) ?_
    refine Sim.fa ?_
    refine Sim.op ((S11.atG (i:=0) rfl).ld (j:=3) rfl) ?_
    refine Sim.call (zr6_tuples_ok k x0.Tuples (h2.h H9)) fun r19 cs20 H21 h22 q23 => ?_
    cases q23
    refine Sim.ab ?_
    refine Sim.cq ?_ ?_
    · exact Sim.fin (S11.finN (lC (sI _ _).lv lN)) rfl
    refine Sim.op ((S11.atG (i:=0) rfl).ldVs (j:=0) (xs:=[(.p (.int .i64 x0.Kind)),(.p (.int .u32 x0.From)),(.p (.int .u32 x0.About)),v1,v3,v5,(.p (.int .u64 x0.Rate)),(.p (.int .i64 x0.f_Type)),(.p (.int .i64 x0.Count)),v7]) rfl rfl (by decide)) ?_
    refine Sim.call (zr6_empty_ok x0 hu0) fun r25 cs26 H27 h28 q29 => ?_
    cases q29
    refine Sim.ab ?_
    refine Sim.cq ?_ ?_
    · exact Sim.fin (S11.finN (lC (sI _ _).lv lN)) rfl
    exact Sim.fin (S11.finN (lC (sI _ _).lv lN)) rfl
  refine Sim.cq ?_ ?_
  · refine Sim.fa ?_
    refine Sim.op ((S11.atG (i:=0) rfl).ld (j:=3) rfl) ?_
    refine Sim.call (zr6_tuples_ok k x0.Tuples (h2.h H9)) fun r32 cs33 H34 h35 q36 => ?_
    cases q36
    refine Sim.ab ?_
    refine Sim.cq ?_ ?_
    · exact Sim.fin (S11.finN (lC (sI _ _).lv lN)) rfl
    refine Sim.op ((S11.atG (i:=0) rfl).ldVs (j:=0) (xs:=[(.p (.int .i64 x0.Kind)),(.p (.int .u32 x0.From)),(.p (.int .u32 x0.About)),v1,v3,v5,(.p (.int .u64 x0.Rate)),(.p (.int .i64 x0.f_Type)),(.p (.int .i64 x0.Count)),v7]) rfl rfl (by decide)) ?_
    refine Sim.call (zr6_empty_ok x0 hu0) fun r38 cs39 H40 h41 q42 => ?_
    cases q42
    refine Sim.ab ?_
    refine Sim.cq ?_ ?_
    · exact Sim.fin (S11.finN (lC (sI _ _).lv lN)) rfl
    exact Sim.fin (S11.finN (lC (sI _ _).lv lN)) rfl
  refine Sim.cq ?_ ?_
  · refine Sim.fa ?_
    refine Sim.op ((S11.atG (i:=0) rfl).ld (j:=4) rfl) ?_
    refine Sim.op ((h4.h H9).len) ?_
    refine Sim.ci ?_
    refine Sim.fa ?_
    refine Sim.op ((S11.atG (i:=0) rfl).ld (j:=5) rfl) ?_
    refine Sim.op ((h6.h H9).len) ?_
    refine Sim.ci ?_
    refine Sim.ch (P:=fun r y => r = y) ?_ (fun b45 y46 h47 h48 => ?_)
    · refine Sim.cq ?_ ?_
      · refine Sim.fa ?_
        refine Sim.op ((S11.atG (i:=0) rfl).ld (j:=4) rfl) ?_
        refine Sim.op ((h4.h H9).len) ?_
        refine Sim.ci ?_
        exact Sim.ret rfl rfl
      · exact Sim.ret rfl rfl
    subst h48
    refine Sim.ch (P:=fun r y => r = y) ?_ (fun b49 y50 h51 h52 => ?_)
    · refine Sim.cq ?_ ?_
      · refine Sim.fa ?_
        refine Sim.op ((S11.atG (i:=0) rfl).ld (j:=4) rfl) ?_
        refine Sim.op ((h4.h H9).len) ?_
        refine Sim.ci ?_
        exact Sim.ret rfl rfl
      · exact Sim.ret rfl rfl
    subst h52
    refine Sim.fa ?_
    refine Sim.op ((S11.atG (i:=0) rfl).ld (j:=5) rfl) ?_
    refine Sim.op ((h6.h H9).len) ?_
    refine Sim.ci ?_
    refine Sim.as (zr6_Right_l0_ok ?_ k b49 x0.Numbers ((x0.Numbers.length : Int)) 0 x0 v5 h6 v1 h2 v3 h4 v5 h6 v7 h8 (0::0::0::σ) H9 (S11.wk2 (aC (aM 0 rfl) aN) aN))
    · intro r91_3 yg66 v94 h95 v96 h97 v98 h99 v100 h101 s102 H92 S93
      refine Sim.ext (zr6_Right_a0_1 _ _ _ _ _ _) ?_
      refine Sim.cq ?_ ?_
      · exact Sim.fin (S93.finN (lC (sI _ _).lv lN)) rfl
      refine Sim.op ((S93.atG (i:=0) rfl).ldVs (j:=0) (xs:=[.p (.int .i64 yg66.Kind),.p (.int .u32 yg66.From),.p (.int .u32 yg66.About),v94,v96,v98,.p (.int .u64 yg66.Rate),.p (.int .i64 yg66.f_Type),.p (.int .i64 yg66.Count),v100]) rfl rfl (by decide)) ?_
      refine Sim.call (zr6_empty_ok yg66 (show dTaiReport.R yg66 [.p (.int .i64 yg66.Kind),.p (.int .u32 yg66.From),.p (.int .u32 yg66.About),v94,v96,v98,.p (.int .u64 yg66.Rate),.p (.int .i64 yg66.f_Type),.p (.int .i64 yg66.Count),v100] from (dTaiReport.mk h95 h97 h99 h101))) fun r105 cs106 H107 h108 q109 => ?_
      cases q109
      refine Sim.ab ?_
      refine Sim.cq ?_ ?_
      · exact Sim.fin (S93.finN (lC (sI _ _).lv lN)) rfl
      exact Sim.fin (S93.finN (lC (sI _ _).lv lN)) rfl
  refine Sim.cq ?_ ?_
  · refine Sim.fa ?_
    refine Sim.op ((S11.atG (i:=0) rfl).ld (j:=4) rfl) ?_
    refine Sim.op ((h4.h H9).len) ?_
    refine Sim.ci ?_
    refine Sim.ch (P:=fun r y => (.p (.bool r),H9) = y) ?_ (fun b117 y118 h119 h120 => ?_)
    · refine Sim.cq ?_ ?_
      · refine Sim.fa ?_
        refine Sim.op ((S11.atG (i:=0) rfl).ld (j:=6) rfl) ?_
        refine Sim.ci ?_
        refine Sim.fa ?_
        refine Sim.op ((S11.atG (i:=0) rfl).ld (j:=6) rfl) ?_
        refine Sim.ci ?_
        refine Sim.call (zr1_Down_ok k x0.Rate 18) fun r112 cs113 H114 h115 q116 => ?_
        cases q116
        refine Sim.ci ?_
        refine Sim.nd ((S11.atG (i:=0) rfl).ld (j:=6) rfl) ?_
        exact Sim.ret rfl rfl
      · exact Sim.ret rfl rfl
    subst h120
    refine Sim.ab ?_
    refine Sim.cq ?_ ?_
    · exact Sim.fin (S11.finN (lC (sI _ _).lv lN)) rfl
    refine Sim.op ((S11.atG (i:=0) rfl).ldVs (j:=0) (xs:=[(.p (.int .i64 x0.Kind)),(.p (.int .u32 x0.From)),(.p (.int .u32 x0.About)),v1,v3,v5,(.p (.int .u64 x0.Rate)),(.p (.int .i64 x0.f_Type)),(.p (.int .i64 x0.Count)),v7]) rfl rfl (by decide)) ?_
    refine Sim.call (zr6_empty_ok x0 hu0) fun r122 cs123 H124 h125 q126 => ?_
    cases q126
    refine Sim.ab ?_
    refine Sim.cq ?_ ?_
    · exact Sim.fin (S11.finN (lC (sI _ _).lv lN)) rfl
    exact Sim.fin (S11.finN (lC (sI _ _).lv lN)) rfl
  refine Sim.cq ?_ ?_
  · refine Sim.fa ?_
    refine Sim.op ((S11.atG (i:=0) rfl).ld (j:=7) rfl) ?_
    refine Sim.ci ?_
    refine Sim.ch (P:=fun r y => r = y) ?_ (fun b129 y130 h131 h132 => ?_)
    · refine Sim.cq ?_ ?_
      · refine Sim.fa ?_
        refine Sim.op ((S11.atG (i:=0) rfl).ld (j:=7) rfl) ?_
        refine Sim.ci ?_
        exact Sim.ret rfl rfl
      · exact Sim.ret rfl rfl
    subst h132
    refine Sim.ch (P:=fun r y => r = y) ?_ (fun b133 y134 h135 h136 => ?_)
    · refine Sim.cq ?_ ?_
      · refine Sim.fa ?_
        refine Sim.op ((S11.atG (i:=0) rfl).ld (j:=8) rfl) ?_
        refine Sim.ci ?_
        exact Sim.ret rfl rfl
      · exact Sim.ret rfl rfl
    subst h136
    refine Sim.ch (P:=fun r y => r = y) ?_ (fun b137 y138 h139 h140 => ?_)
    · refine Sim.cq ?_ ?_
      · refine Sim.fa ?_
        refine Sim.op ((S11.atG (i:=0) rfl).ld (j:=8) rfl) ?_
        refine Sim.ci ?_
        exact Sim.ret rfl rfl
      · exact Sim.ret rfl rfl
    subst h140
    refine Sim.ch (P:=fun r y => r = y) ?_ (fun b141 y142 h143 h144 => ?_)
    · refine Sim.cq ?_ ?_
      · refine Sim.fa ?_
        refine Sim.op ((S11.atG (i:=0) rfl).ld (j:=9) rfl) ?_
        refine Sim.op ((h8.h H9).len) ?_
        refine Sim.ci ?_
        exact Sim.ret rfl rfl
      · exact Sim.ret rfl rfl
    subst h144
    refine Sim.ch (P:=fun r y => r = y) ?_ (fun b145 y146 h147 h148 => ?_)
    · refine Sim.cq ?_ ?_
      · refine Sim.fa ?_
        refine Sim.op ((S11.atG (i:=0) rfl).ld (j:=9) rfl) ?_
        refine Sim.op ((h8.h H9).len) ?_
        refine Sim.ci ?_
        exact Sim.ret rfl rfl
      · exact Sim.ret rfl rfl
    subst h148
    refine Sim.ch (P:=fun r y => (.p (.bool r),H9) = y) ?_ (fun b154 y155 h156 h157 => ?_)
    · refine Sim.cq ?_ ?_
      · refine Sim.fa ?_
        refine Sim.op ((S11.atG (i:=0) rfl).ld (j:=7) rfl) ?_
        refine Sim.ci ?_
        refine Sim.fa ?_
        refine Sim.op ((S11.atG (i:=0) rfl).ld (j:=8) rfl) ?_
        refine Sim.ci ?_
        refine Sim.call (zr6_known_ok x0.f_Type x0.Count) fun r149 cs150 H151 h152 q153 => ?_
        cases q153
        refine Sim.ab ?_
        exact Sim.ret rfl rfl
      · exact Sim.ret rfl rfl
    subst h157
    refine Sim.ab ?_
    refine Sim.cq ?_ ?_
    · exact Sim.fin (S11.finN (lC (sI _ _).lv lN)) rfl
    refine Sim.op ((S11.atG (i:=0) rfl).ldVs (j:=0) (xs:=[(.p (.int .i64 x0.Kind)),(.p (.int .u32 x0.From)),(.p (.int .u32 x0.About)),v1,v3,v5,(.p (.int .u64 x0.Rate)),(.p (.int .i64 x0.f_Type)),(.p (.int .i64 x0.Count)),v7]) rfl rfl (by decide)) ?_
    refine Sim.call (zr6_empty_ok x0 hu0) fun r159 cs160 H161 h162 q163 => ?_
    cases q163
    refine Sim.ab ?_
    refine Sim.cq ?_ ?_
    · exact Sim.fin (S11.finN (lC (sI _ _).lv lN)) rfl
    exact Sim.fin (S11.finN (lC (sI _ _).lv lN)) rfl
  refine Sim.cq ?_ ?_
  · exact Sim.fin (S11.finN (lC (sI _ _).lv lN)) rfl
  refine Sim.op ((S11.atG (i:=0) rfl).ldVs (j:=0) (xs:=[(.p (.int .i64 x0.Kind)),(.p (.int .u32 x0.From)),(.p (.int .u32 x0.About)),v1,v3,v5,(.p (.int .u64 x0.Rate)),(.p (.int .i64 x0.f_Type)),(.p (.int .i64 x0.Count)),v7]) rfl rfl (by decide)) ?_
  refine Sim.call (zr6_empty_ok x0 hu0) fun r166 cs167 H168 h169 q170 => ?_
  cases q170
  refine Sim.ab ?_
  refine Sim.cq ?_ ?_
  · exact Sim.fin (S11.finN (lC (sI _ _).lv lN)) rfl
  exact Sim.fin (S11.finN (lC (sI _ _).lv lN)) rfl
end Go.Ev
namespace Go.Ev
open Go.Proofs
set_option linter.unusedVariables false
set_option linter.unusedSimpArgs false
set_option maxRecDepth 100000
noncomputable section
abbrev KT33:=Exit→Env→H→Option (List C × H)
variable (rec : CallF) (loop : LoopV) (σ : Stamp)
theorem zr6_one_entry (x0 : V) (h : H) : cvBody G rec loop 48 σ [x0] h =
(boxO false (0::0::0::σ) 1 (List.replicate 25 []::h) x0).bind fun q1 =>
(ldO true 10 q1.2 q1.1).bind fun t2 =>
(callO rec 88 (1::0::1::0::σ) [t2] q1.2 (some 8)).bind fun q3 =>
(extV q3.1 0).bind fun t4 =>
(castI .i64 t4).bind fun n5 =>
(extV q3.1 1).bind fun t6 =>
(castI .i64 t6).bind fun n7 =>
(extV q3.1 2).bind fun t8 =>
(bSV Try.prog 31 2 [(0,(.p (.int .u8 (IntKind.wrap .u8 (intBits .or .i64 128 n7))))),(1,(.p (.int .u8 (IntKind.wrap .u8 n5))))]).bind fun t9 =>
(lenO t8).bind fun t10 =>
(castI .i64 t10).bind fun n11 =>
(callO rec 89 (10::0::1::1::0::σ) [t9,(.p (.int .u64 (IntKind.wrap .u64 (IntKind.wrap .i64 (Int.tdiv n11 4))))),(.p (.int .i64 2))] q3.2 (some 22)).bind fun q12 =>
(apO true 1 1 (12::0::1::1::0::σ) 24 q12.2 q12.1 t8).bind fun q13 =>
fin false σ q13.2 [q13.1]:=by kernel_rfl
def zr1_Put_c0 : Code:=(codeAt (bodyOf Try.f89) [1,1,1,0,1,0,0])
def zr1_Put_l0 : Lv:=⟨128,64,[(0,128)]⟩
def zr1_Put_k0 : KT33:=(kBlock 0 (kSeq G rec loop (codeAt (bodyOf Try.f89) [1,1,1,1]) ⟨64,64,[]⟩ (1::1::1::0::σ) (finC G false Try.f89 (1::σ))))
theorem zr1_Put_entry (x0 : V) (x1 : Int) (x2 : Int) (h : H) : cvBody G rec loop 89 σ [x0,(.p (.int .u64 x1)),(.p (.int .i64 x2))] h =
(bSV Try.prog 31 0 []).bind fun t1 =>
(apO true 1 1 (2::0::1::0::σ) 11 (List.replicate 35 []::h) t1 x0).bind fun q2 =>
(bif decide (x2 < 1) then (some true) else (some (decide (x2 > 8)))).bind fun b3 =>
bif b3 then (
fin false σ q2.2 [q2.1])
else (
(loop zr1_Put_c0 zr1_Put_l0 (1::0::1::1::1::0::σ) (envL [(1,(.p (.int .u64 x1))),(7,q2.1),(8,(.p (.int .i64 (IntKind.wrap .i64 (x2 - 1)))))]) q2.2).bind fun r4 => zr1_Put_k0 rec loop σ r4.1 r4.2.1 r4.2.2):=by kernel_rfl
theorem zr1_Put_r0 (x1 : Int) (x7 : V) (x8 : Int) (h : H) : cvRound G rec loop zr1_Put_c0 zr1_Put_l0 σ (envL [(1,(.p (.int .u64 x1))),(7,x7),(8,(.p (.int .i64 x8)))]) h =
bif decide (x8 ≥ 0) then (
(shiftV .shr .u64 x1 (IntKind.wrap .u64 (IntKind.wrap .i64 (8 * x8)))).bind fun t5 =>
(castI .u64 t5).bind fun n6 =>
(bSV Try.prog 31 1 [(0,(.p (.int .u8 (IntKind.wrap .u8 n6))))]).bind fun t7 =>
(apO true 1 1 (8::0::1::0::σ) 33 h x7 t7).bind fun q8 =>
loop zr1_Put_c0 zr1_Put_l0 (1::σ) (envL [(1,(.p (.int .u64 x1))),(7,q8.1),(8,(.p (.int .i64 (IntKind.wrap .i64 (x8 - 1)))))]) q8.2)
else (
some ((.exit 0),(envL [(7,x7)]),h)):=by kernel_rfl
theorem zr1_Put_a0_0 (x7 : V) (h : H) : zr1_Put_k0 rec loop σ (.exit 0) (envL [(7,x7)]) h =
fin false σ h [x7]:=by kernel_rfl
end
end Go.Ev
namespace Go.Ev
open Go.Proofs
set_option linter.unusedVariables false
set_option linter.unusedSimpArgs false
set_option maxRecDepth 100000
def p_zr1_Put_l0 {β : Type} (k : Nat) (kE0 : (List Int)→Option β) (x1 : Int) (x7 : (List Int)) (x8 : Int) : Option β:=match k with
| 0 => none
| k + 1 =>
bif decide (x8 ≥ 0) then (
(shP .shr .u64 x1 (IntKind.wrap .u64 (IntKind.wrap .i64 (8 * x8)))).bind fun n27 =>
(ap 1 x7 ([(IntKind.wrap .u8 n27)])).bind fun a30 =>
p_zr1_Put_l0 k kE0 x1 a30 (IntKind.wrap .i64 (x8 - 1)))
else (
kE0 x7)
def p_zr1_Put (k : Nat) (x0 : (List Int)) (x1 : Int) (x2 : Int) : Option ((List Int)) :=
(ap 1 (([] : List Int)) x0).bind fun a4 =>
(bif decide (x2 < 1) then (some true) else (some (decide (x2 > 8)))).bind fun b10 =>
bif b10 then (
some (a4))
else (
p_zr1_Put_l0 k (fun r40_7 =>
some (r40_7)) x1 a4 (IntKind.wrap .i64 (x2 - 1)))
theorem zr1_Put_l0_ok {h : H}  {β α : Type} {Q : β→α→Prop} {K : Exit × Env × H→Option α} {kE0 : (List Int)→Option β} (hE0 : ∀ (q7 : (List Int)) (v38 : V) (H36 : Go.Ev.H) (_ : Fm 35 h [] [] [⟨[11,33],v38,(dI .u8),q7⟩] H36),Sim (kE0 q7) (K ((.exit 0),(envL [(7,v38)]),H36)) Q) (k : Nat) : ∀ (x1 : Int) (x7 : (List Int)) (x8 : Int) (v24 : V) (H22 : Go.Ev.H) (_ : Fm 35 h [] [] [⟨[11,33],v24,(dI .u8),x7⟩] H22) {σ : Stamp},Sim (p_zr1_Put_l0 k kE0 x1 x7 x8) ((cvL G X0 zr1_Put_c0 zr1_Put_l0 σ (envL [(1,(.p (.int .u64 x1))),(7,v24),(8,(.p (.int .i64 x8)))]) H22).bind K) Q:=by
  induction k with
  | zero => intros; exact Sim.no
  | succ k ih =>
    intro x1 x7 x8 v24 H22 S23 σ
    rw [p_zr1_Put_l0]
    refine Sim.round (Sim.ext (zr1_Put_r0 _ _ _ _ _ _ _) ?_)
    refine Sim.cq ?_ ?_
    · refine Sim.bd fun n27 h28 => ?_
      refine Sim.op (shP_ok h28) ?_
      refine Sim.ci ?_
      have h29:=SlF.int1 .u8 (IntKind.wrap .u8 n27)
      refine Sim.op (bldS (pC rfl pN) (by kernel_rfl : _ = some (vOf h29))) ?_
      refine Sim.bd fun a30 h31 => ?_
      obtain ⟨v32,H33,e34,S35⟩:=S23.app (i:=0) (d:=33) (e:=1) (own:=true) (σ:=(8::0::1::0::σ)) rfl (h29.h H22).y h31 rfl (by decide) (by decide) rfl
      refine Sim.op (e34) ?_
      exact ih x1 a30 (IntKind.wrap .i64 (x8 - 1)) v32 H33 (S35.wk2 aN (aC ⟨[33,11,33],by simp,aM 0 rfl⟩ aN))
    exact hE0 x7 v24 H22 (S23.wk2 aN (aC ⟨[11,33],by simp,aM 0 rfl⟩ aN))
theorem zr1_Put_ok (k : Nat) {h : H} {σ : Stamp} (x0 : List Int) {u0 : V} (hu0 : SlH h (dI .u8) x0 u0) (x1 : Int) (x2 : Int) : Sim (p_zr1_Put k x0 x1 x2) (ev G X0 89 σ [u0,(.p (.int .u64 x1)),(.p (.int .i64 x2))] h) (fun r s => ∃ (c0 : C),∃ (a0 : List V),OwnS c0 (dI .u8).sz r.length a0∧(dI .u8).L r a0∧s = ([c0],h)):=by
  refine Sim.ev rfl (Sim.ext (zr1_Put_entry _ _ _ _ _ _ _) ?_)
  rw [p_zr1_Put]
  have S0 : Fm 35 h [] [] [] (List.replicate 35 []::h):=Fm.start0
  have h1 : SlF (dI .u8) ([] : List Int) (.fz [] 0 1 true):=SlF.lit (cs:=[]) RL.nil rfl rfl true
  refine Sim.op (bldS pN (by kernel_rfl : _ = some (vOf h1))) ?_
  have S3:=S0.nil' (dI .u8) [] (e:=1) rfl
  refine Sim.bd fun a4 h5 => ?_
  obtain ⟨v6,H7,e8,S9⟩:=S3.app (i:=0) (d:=11) (e:=1) (own:=true) (σ:=(2::0::1::0::σ)) rfl (S3.low hu0).y h5 rfl (by decide) (by decide) rfl
  refine Sim.op (e8) ?_
  refine Sim.ch (P:=fun r y => r = y) ?_ (fun b10 y11 h12 h13 => ?_)
  · refine Sim.cq ?_ ?_
    · exact Sim.ret rfl rfl
    · exact Sim.ret rfl rfl
  subst h13
  refine Sim.cq ?_ ?_
  · obtain ⟨c20,cs21,H15,e16,h18,h19,S17⟩:=S9.expOwn (i:=0) (τ:=0::1::σ) rfl rfl rfl
    exact Sim.fin (S17.finE (Ex.st e16 Ex.nil)) ⟨c20,cs21,h18,h19,rfl⟩
  refine Sim.as (zr1_Put_l0_ok ?_ k x1 a4 (IntKind.wrap .i64 (x2 - 1)) v6 H7 (S9.wk2 aN (aC ⟨[11],by simp,aM 0 rfl⟩ aN)))
  · intro r40_7 v43 H41 S42
    refine Sim.ext (zr1_Put_a0_0 _ _ _ _ _) ?_
    obtain ⟨c50,cs51,H45,e46,h48,h49,S47⟩:=S42.expOwn (i:=0) (τ:=0::1::σ) rfl rfl rfl
    exact Sim.fin (S47.finE (Ex.st e46 Ex.nil)) ⟨c50,cs51,h48,h49,rfl⟩
end Go.Ev
namespace Go.Ev
open Go.Proofs
set_option linter.unusedVariables false
set_option linter.unusedSimpArgs false
set_option maxRecDepth 100000
noncomputable section
abbrev KT34:=Exit→Env→H→Option (List C × H)
variable (rec : CallF) (loop : LoopV) (σ : Stamp)
def zr6_body_c0 : Code:=(codeAt (bodyOf Try.f88) [1,0,1,0,1,0,1,0,1,0,0])
def zr6_body_l0 : Lv:=⟨34,28,[(1,34),(0,2)]⟩
def zr6_body_k0 : KT34:=(kBlock 1 (kSeq G rec loop (codeAt (bodyOf Try.f88) [1,0,1,0,1,0,1,1]) ⟨2,28,[(0,2)]⟩ (1::1::1::0::1::0::σ) (kBlock 0 (kSeq G rec loop (codeAt (bodyOf Try.f88) [1,1]) ⟨28,28,[]⟩ (1::0::σ) (finC G true Try.f88 (1::σ))))))
def zr6_body_c1 : Code:=(codeAt (bodyOf Try.f88) [1,0,1,0,1,1,1,1,1,0,1,0,1,0,0])
def zr6_body_l1 : Lv:=⟨1024,28,[(3,1024),(0,2)]⟩
def zr6_body_k1 : KT34:=(kBlock 3 (kSeq G rec loop (codeAt (bodyOf Try.f88) [1,0,1,0,1,1,1,1,1,0,1,1]) ⟨2,28,[(0,2)]⟩ (1::1::1::1::1::0::1::0::σ) (kBlock 0 (kSeq G rec loop (codeAt (bodyOf Try.f88) [1,1]) ⟨28,28,[]⟩ (1::0::σ) (finC G true Try.f88 (1::σ))))))
theorem zr6_body_entry (x0 : V) (h : H) : cvBody G rec loop 88 σ [x0] h =
(boxO false (0::0::0::σ) 1 (List.replicate 133 []::h) x0).bind fun q1 =>
(fA q1.1 0).bind fun t2 =>
(ldO false 1 q1.2 t2).bind fun t3 =>
(castI .i64 t3).bind fun n4 =>
bif n4 == 1 then (
bif n4 == 1 then (
(fA q1.1 1).bind fun t5 =>
(ldO false 1 q1.2 t5).bind fun t6 =>
(castI .u32 t6).bind fun n7 =>
(bSV Try.prog 29 2 [(0,(.p (.int .u32 n7))),(1,(.p (.int .u32 0)))]).bind fun t8 =>
(callO rec 126 (3::0::1::1::0::1::0::σ) [t8] q1.2 (some 23)).bind fun q9 =>
(fA q1.1 3).bind fun t10 =>
(ldO false 1 q9.2 t10).bind fun t11 =>
(lenO t11).bind fun t12 =>
(castI .i64 t12).bind fun n13 =>
(loop zr6_body_c0 zr6_body_l0 (1::0::1::1::1::0::1::0::σ) (envL [(1,q1.1),(5,q9.1),(25,t11),(26,(.p (.int .i64 n13))),(27,(.p (.int .i64 0)))]) q9.2).bind fun r14 => zr6_body_k0 rec loop σ r14.1 r14.2.1 r14.2.2)
else (
bif n4 == 3 then (
(fA q1.1 1).bind fun t15 =>
(ldO false 1 q1.2 t15).bind fun t16 =>
(castI .u32 t16).bind fun n17 =>
(fA q1.1 2).bind fun t18 =>
(ldO false 1 q1.2 t18).bind fun t19 =>
(castI .u32 t19).bind fun n20 =>
(bSV Try.prog 29 2 [(0,(.p (.int .u32 n17))),(1,(.p (.int .u32 n20)))]).bind fun t21 =>
(callO rec 126 (5::0::1::1::1::0::1::0::σ) [t21] q1.2 (some 65)).bind fun q22 =>
fin true σ q22.2 [(.p (.int .i64 206)),(.p (.int .i64 1)),q22.1])
else (
bif n4 == 4 then (
(fA q1.1 1).bind fun t23 =>
(ldO false 1 q1.2 t23).bind fun t24 =>
(castI .u32 t24).bind fun n25 =>
(bSV Try.prog 29 2 [(0,(.p (.int .u32 n25))),(1,(.p (.int .u32 0)))]).bind fun t26 =>
(callO rec 126 (3::0::1::1::1::1::0::1::0::σ) [t26] q1.2 (some 71)).bind fun q27 =>
(fA q1.1 4).bind fun t28 =>
(ldO false 1 q27.2 t28).bind fun t29 =>
(lenO t29).bind fun t30 =>
(castI .i64 t30).bind fun n31 =>
(loop zr6_body_c1 zr6_body_l1 (1::0::1::1::1::1::1::0::1::0::σ) (envL [(1,q1.1),(10,q27.1),(74,(.p (.int .i64 n31))),(75,(.p (.int .i64 0)))]) q27.2).bind fun r32 => zr6_body_k1 rec loop σ r32.1 r32.2.1 r32.2.2)
else (
bif n4 == 5 then (
(fA q1.1 6).bind fun t33 =>
(ldO false 1 q1.2 t33).bind fun t34 =>
(castI .u64 t34).bind fun n35 =>
(callO rec 84 (2::0::1::1::1::1::1::0::1::0::σ) [(.p (.int .u64 n35)),(.p (.int .i64 18))] q1.2 (some 101)).bind fun q36 =>
(extV q36.1 0).bind fun t37 =>
(castI .i64 t37).bind fun n38 =>
(extV q36.1 1).bind fun t39 =>
(castI .u32 t39).bind fun n40 =>
(fA q1.1 1).bind fun t41 =>
(ldO false 1 q36.2 t41).bind fun t42 =>
(castI .u32 t42).bind fun n43 =>
(bSV Try.prog 29 2 [(0,(.p (.int .u32 n43))),(1,(.p (.int .u32 0)))]).bind fun t44 =>
(callO rec 126 (3::0::1::1::1::1::1::1::0::1::0::σ) [t44] q36.2 (some 107)).bind fun q45 =>
(apO true 1 1 (4::0::1::1::1::1::1::1::0::1::0::σ) 108 q45.2 q45.1 (.p (.string ((⟨#[82,69,77,66]⟩ : ByteArray))))).bind fun q46 =>
(fA q1.1 4).bind fun t47 =>
(ldO false 1 q46.2 t47).bind fun t48 =>
(lenO t48).bind fun t49 =>
(castI .i64 t49).bind fun n50 =>
(bSV Try.prog 29 1 [(0,(.p (.int .u32 (intBits .or .u32 (intBits .or .u32 (IntKind.wrap .u32 ((IntKind.wrap .u32 n50) * 2 ^ 24)) (IntKind.wrap .u32 ((IntKind.wrap .u32 n38) * 2 ^ 18))) n40))))]).bind fun t51 =>
(fA q1.1 4).bind fun t52 =>
(ldO false 1 q46.2 t52).bind fun t53 =>
(apO true 1 4 (15::0::1::1::1::1::1::1::1::0::1::0::σ) 124 q46.2 t51 t53).bind fun q54 =>
(callO rec 126 (16::0::1::1::1::1::1::1::1::0::1::0::σ) [q54.1] q54.2 (some 125)).bind fun q55 =>
(apO true 1 1 (17::0::1::1::1::1::1::1::1::0::1::0::σ) 126 q55.2 q46.1 q55.1).bind fun q56 =>
fin true σ q56.2 [(.p (.int .i64 206)),(.p (.int .i64 15)),q56.1])
else (
(fA q1.1 7).bind fun t57 =>
(ldO false 1 q1.2 t57).bind fun t58 =>
(castI .i64 t58).bind fun n59 =>
(fA q1.1 8).bind fun t60 =>
(ldO false 1 q1.2 t60).bind fun t61 =>
(castI .i64 t61).bind fun n62 =>
(fA q1.1 9).bind fun t63 =>
(ldO false 1 q1.2 t63).bind fun t64 =>
fin true σ q1.2 [(.p (.int .i64 n59)),(.p (.int .i64 n62)),t64])))))
else (
bif n4 == 2 then (
(fA q1.1 1).bind fun t65 =>
(ldO false 1 q1.2 t65).bind fun t66 =>
(castI .u32 t66).bind fun n67 =>
(bSV Try.prog 29 2 [(0,(.p (.int .u32 n67))),(1,(.p (.int .u32 0)))]).bind fun t68 =>
(callO rec 126 (3::0::1::1::0::1::0::σ) [t68] q1.2 (some 23)).bind fun q69 =>
(fA q1.1 3).bind fun t70 =>
(ldO false 1 q69.2 t70).bind fun t71 =>
(lenO t71).bind fun t72 =>
(castI .i64 t72).bind fun n73 =>
(loop zr6_body_c0 zr6_body_l0 (1::0::1::1::1::0::1::0::σ) (envL [(1,q1.1),(5,q69.1),(25,t71),(26,(.p (.int .i64 n73))),(27,(.p (.int .i64 0)))]) q69.2).bind fun r74 => zr6_body_k0 rec loop σ r74.1 r74.2.1 r74.2.2)
else (
bif n4 == 3 then (
(fA q1.1 1).bind fun t75 =>
(ldO false 1 q1.2 t75).bind fun t76 =>
(castI .u32 t76).bind fun n77 =>
(fA q1.1 2).bind fun t78 =>
(ldO false 1 q1.2 t78).bind fun t79 =>
(castI .u32 t79).bind fun n80 =>
(bSV Try.prog 29 2 [(0,(.p (.int .u32 n77))),(1,(.p (.int .u32 n80)))]).bind fun t81 =>
(callO rec 126 (5::0::1::1::1::0::1::0::σ) [t81] q1.2 (some 65)).bind fun q82 =>
fin true σ q82.2 [(.p (.int .i64 206)),(.p (.int .i64 1)),q82.1])
else (
bif n4 == 4 then (
(fA q1.1 1).bind fun t83 =>
(ldO false 1 q1.2 t83).bind fun t84 =>
(castI .u32 t84).bind fun n85 =>
(bSV Try.prog 29 2 [(0,(.p (.int .u32 n85))),(1,(.p (.int .u32 0)))]).bind fun t86 =>
(callO rec 126 (3::0::1::1::1::1::0::1::0::σ) [t86] q1.2 (some 71)).bind fun q87 =>
(fA q1.1 4).bind fun t88 =>
(ldO false 1 q87.2 t88).bind fun t89 =>
(lenO t89).bind fun t90 =>
(castI .i64 t90).bind fun n91 =>
(loop zr6_body_c1 zr6_body_l1 (1::0::1::1::1::1::1::0::1::0::σ) (envL [(1,q1.1),(10,q87.1),(74,(.p (.int .i64 n91))),(75,(.p (.int .i64 0)))]) q87.2).bind fun r92 => zr6_body_k1 rec loop σ r92.1 r92.2.1 r92.2.2)
else (
bif n4 == 5 then (
(fA q1.1 6).bind fun t93 =>
(ldO false 1 q1.2 t93).bind fun t94 =>
(castI .u64 t94).bind fun n95 =>
(callO rec 84 (2::0::1::1::1::1::1::0::1::0::σ) [(.p (.int .u64 n95)),(.p (.int .i64 18))] q1.2 (some 101)).bind fun q96 =>
(extV q96.1 0).bind fun t97 =>
(castI .i64 t97).bind fun n98 =>
(extV q96.1 1).bind fun t99 =>
(castI .u32 t99).bind fun n100 =>
(fA q1.1 1).bind fun t101 =>
(ldO false 1 q96.2 t101).bind fun t102 =>
(castI .u32 t102).bind fun n103 =>
(bSV Try.prog 29 2 [(0,(.p (.int .u32 n103))),(1,(.p (.int .u32 0)))]).bind fun t104 =>
(callO rec 126 (3::0::1::1::1::1::1::1::0::1::0::σ) [t104] q96.2 (some 107)).bind fun q105 =>
(apO true 1 1 (4::0::1::1::1::1::1::1::0::1::0::σ) 108 q105.2 q105.1 (.p (.string ((⟨#[82,69,77,66]⟩ : ByteArray))))).bind fun q106 =>
(fA q1.1 4).bind fun t107 =>
(ldO false 1 q106.2 t107).bind fun t108 =>
(lenO t108).bind fun t109 =>
(castI .i64 t109).bind fun n110 =>
(bSV Try.prog 29 1 [(0,(.p (.int .u32 (intBits .or .u32 (intBits .or .u32 (IntKind.wrap .u32 ((IntKind.wrap .u32 n110) * 2 ^ 24)) (IntKind.wrap .u32 ((IntKind.wrap .u32 n98) * 2 ^ 18))) n100))))]).bind fun t111 =>
(fA q1.1 4).bind fun t112 =>
(ldO false 1 q106.2 t112).bind fun t113 =>
(apO true 1 4 (15::0::1::1::1::1::1::1::1::0::1::0::σ) 124 q106.2 t111 t113).bind fun q114 =>
(callO rec 126 (16::0::1::1::1::1::1::1::1::0::1::0::σ) [q114.1] q114.2 (some 125)).bind fun q115 =>
(apO true 1 1 (17::0::1::1::1::1::1::1::1::0::1::0::σ) 126 q115.2 q106.1 q115.1).bind fun q116 =>
fin true σ q116.2 [(.p (.int .i64 206)),(.p (.int .i64 15)),q116.1])
else (
(fA q1.1 7).bind fun t117 =>
(ldO false 1 q1.2 t117).bind fun t118 =>
(castI .i64 t118).bind fun n119 =>
(fA q1.1 8).bind fun t120 =>
(ldO false 1 q1.2 t120).bind fun t121 =>
(castI .i64 t121).bind fun n122 =>
(fA q1.1 9).bind fun t123 =>
(ldO false 1 q1.2 t123).bind fun t124 =>
fin true σ q1.2 [(.p (.int .i64 n119)),(.p (.int .i64 n122)),t124]))))):=by kernel_rfl
theorem zr6_body_r0 (x1 : V) (x5 : V) (x25 : V) (x26 : Int) (x27 : Int) (h : H) : cvRound G rec loop zr6_body_c0 zr6_body_l0 σ (envL [(1,x1),(5,x5),(25,x25),(26,(.p (.int .i64 x26))),(27,(.p (.int .i64 x27)))]) h =
bif decide (x27 < x26) then (
(iS 3 x25 x27).bind fun t125 =>
(ldO true 3 h t125).bind fun t126 =>
(some (alO [.p (.int .u32 0),.p (.int .u64 0),.p (.int .i64 0)] (2::0::0::1::1::0::σ) 7 h)).bind fun q127 =>
((stO false 3 (3::0::0::1::1::0::σ) q127.2 q127.1 t126).map fun h => (udf,h)).bind fun q128 =>
(fA q127.1 1).bind fun t129 =>
(ldO false 1 q128.2 t129).bind fun t130 =>
(castI .u64 t130).bind fun n131 =>
(callO rec 84 (2::0::1::0::1::1::0::σ) [(.p (.int .u64 n131)),(.p (.int .i64 17))] q128.2 (some 34)).bind fun q132 =>
(extV q132.1 0).bind fun t133 =>
(castI .i64 t133).bind fun n134 =>
(extV q132.1 1).bind fun t135 =>
(castI .u32 t135).bind fun n136 =>
(fA q127.1 0).bind fun t137 =>
(ldO false 1 q132.2 t137).bind fun t138 =>
(castI .u32 t138).bind fun n139 =>
(fA q127.1 2).bind fun t140 =>
(ldO false 1 q132.2 t140).bind fun t141 =>
(castI .i64 t141).bind fun n142 =>
(bSV Try.prog 29 2 [(0,(.p (.int .u32 n139))),(1,(.p (.int .u32 (intBits .or .u32 (intBits .or .u32 (IntKind.wrap .u32 ((IntKind.wrap .u32 n134) * 2 ^ 26)) (IntKind.wrap .u32 (n136 * 2 ^ 9))) (IntKind.wrap .u32 n142)))))]).bind fun t143 =>
(callO rec 126 (14::1::1::0::1::1::0::σ) [t143] q132.2 (some 51)).bind fun q144 =>
(apO true 1 1 (15::1::1::0::1::1::0::σ) 52 q144.2 x5 q144.1).bind fun q145 =>
loop zr6_body_c0 zr6_body_l0 (1::σ) (envL [(1,x1),(5,q145.1),(25,x25),(26,(.p (.int .i64 x26))),(27,(.p (.int .i64 (IntKind.wrap .i64 (x27 + 1)))))]) q145.2)
else (
some ((.exit 1),(envL [(1,x1),(5,x5)]),h)):=by kernel_rfl
theorem zr6_body_a0_1 (x1 : V) (x5 : V) (h : H) : zr6_body_k0 rec loop σ (.exit 1) (envL [(1,x1),(5,x5)]) h =
(fA x1 0).bind fun t146 =>
(ldO false 1 h t146).bind fun t147 =>
(castI .i64 t147).bind fun n148 =>
fin true σ h [(.p (.int .i64 205)),(.p (.int .i64 (IntKind.wrap .i64 (2 + n148)))),x5]:=by kernel_rfl
theorem zr6_body_r1 (x1 : V) (x10 : V) (x74 : Int) (x75 : Int) (h : H) : cvRound G rec loop zr6_body_c1 zr6_body_l1 σ (envL [(1,x1),(10,x10),(74,(.p (.int .i64 x74))),(75,(.p (.int .i64 x75)))]) h =
bif decide (x75 < x74) then (
(fA x1 4).bind fun t149 =>
(ldO false 1 h t149).bind fun t150 =>
(iS 1 t150 x75).bind fun t151 =>
(ldO false 1 h t151).bind fun t152 =>
(castI .u32 t152).bind fun n153 =>
(fA x1 5).bind fun t154 =>
(ldO false 1 h t154).bind fun t155 =>
(iS 1 t155 x75).bind fun t156 =>
(ldO false 1 h t156).bind fun t157 =>
(castI .i64 t157).bind fun n158 =>
(bSV Try.prog 29 2 [(0,(.p (.int .u32 n153))),(1,(.p (.int .u32 (IntKind.wrap .u32 ((IntKind.wrap .u32 n158) * 2 ^ 24)))))]).bind fun t159 =>
(callO rec 126 (14::1::0::1::1::0::σ) [t159] h (some 92)).bind fun q160 =>
(apO true 1 1 (15::1::0::1::1::0::σ) 93 q160.2 x10 q160.1).bind fun q161 =>
loop zr6_body_c1 zr6_body_l1 (1::σ) (envL [(1,x1),(10,q161.1),(74,(.p (.int .i64 x74))),(75,(.p (.int .i64 (IntKind.wrap .i64 (x75 + 1)))))]) q161.2)
else (
some ((.exit 3),(envL [(10,x10)]),h)):=by kernel_rfl
theorem zr6_body_a1_3 (x10 : V) (h : H) : zr6_body_k1 rec loop σ (.exit 3) (envL [(10,x10)]) h =
fin true σ h [(.p (.int .i64 206)),(.p (.int .i64 4)),x10]:=by kernel_rfl
def zr6_words_c0 : Code:=(codeAt (bodyOf Try.f126) [1,1,0,1,0,0])
def zr6_words_l0 : Lv:=⟨8,4,[(0,8)]⟩
def zr6_words_k0 : KT34:=(kBlock 0 (kSeq G rec loop (codeAt (bodyOf Try.f126) [1,1,1]) ⟨4,4,[]⟩ (1::1::0::σ) (finC G false Try.f126 (1::σ))))
theorem zr6_words_entry (x0 : V) (h : H) : cvBody G rec loop 126 σ [x0] h =
(lenO x0).bind fun t1 =>
(castI .i64 t1).bind fun n2 =>
(loop zr6_words_c0 zr6_words_l0 (1::0::1::1::0::σ) (envL [(3,(.p (.slice .none 0 0))),(6,x0),(7,(.p (.int .i64 n2))),(8,(.p (.int .i64 0)))]) (List.replicate 18 []::h)).bind fun r3 => zr6_words_k0 rec loop σ r3.1 r3.2.1 r3.2.2:=by kernel_rfl
theorem zr6_words_r0 (x3 : V) (x6 : V) (x7 : Int) (x8 : Int) (h : H) : cvRound G rec loop zr6_words_c0 zr6_words_l0 σ (envL [(3,x3),(6,x6),(7,(.p (.int .i64 x7))),(8,(.p (.int .i64 x8)))]) h =
bif decide (x8 < x7) then (
(iS 1 x6 x8).bind fun t4 =>
(ldO false 1 h t4).bind fun t5 =>
(castI .u32 t5).bind fun n6 =>
(callO rec 89 (3::1::0::1::1::0::σ) [x3,(.p (.int .u64 (IntKind.wrap .u64 n6))),(.p (.int .i64 4))] h (some 15)).bind fun q7 =>
loop zr6_words_c0 zr6_words_l0 (1::σ) (envL [(3,q7.1),(6,x6),(7,(.p (.int .i64 x7))),(8,(.p (.int .i64 (IntKind.wrap .i64 (x8 + 1)))))]) q7.2)
else (
some ((.exit 0),(envL [(3,x3)]),h)):=by kernel_rfl
theorem zr6_words_a0_0 (x3 : V) (h : H) : zr6_words_k0 rec loop σ (.exit 0) (envL [(3,x3)]) h =
fin false σ h [x3]:=by kernel_rfl
end
end Go.Ev
namespace Go.Ev
open Go.Proofs
set_option linter.unusedVariables false
set_option linter.unusedSimpArgs false
set_option maxRecDepth 100000
def p_zr6_words_l0 {β : Type} (k : Nat) (kE0 : (List Int)→Option β) (x3 : (List Int)) (x6 : (List Int)) (x7 : Int) (x8 : Int) : Option β:=match k with
| 0 => none
| k + 1 =>
bif decide (x8 < x7) then (
(ix x6 x8).bind fun a10 =>
(p_zr1_Put k x3 (IntKind.wrap .u64 a10) 4).bind fun r13 =>
p_zr6_words_l0 k kE0 r13 x6 x7 (IntKind.wrap .i64 (x8 + 1)))
else (
kE0 x3)
def p_zr6_words (k : Nat) (x0 : (List Int)) : Option ((List Int)) :=
p_zr6_words_l0 k (fun r34_3 =>
some (r34_3)) (([] : List Int)) x0 ((x0.length : Int)) 0
theorem zr6_words_l0_ok {h : H}  {β α : Type} {Q : β→α→Prop} {K : Exit × Env × H→Option α} {kE0 : (List Int)→Option β} (hE0 : ∀ (q3 : (List Int)) (v30 : V) (H28 : Go.Ev.H) (_ : Fm 18 h [] [] [⟨[15],v30,(dI .u8),q3⟩] H28),Sim (kE0 q3) (K ((.exit 0),(envL [(3,v30)]),H28)) Q) (k : Nat) : ∀ (x3 : (List Int)) (x6 : (List Int)) (x7 : Int) (x8 : Int) (v5 : V) (v7 : V) (h8 : SlH h (dI .u32) x6 v7) (H3 : Go.Ev.H) (_ : Fm 18 h [] [] [⟨[15],v5,(dI .u8),x3⟩] H3) {σ : Stamp},Sim (p_zr6_words_l0 k kE0 x3 x6 x7 x8) ((cvL G X0 zr6_words_c0 zr6_words_l0 σ (envL [(3,v5),(6,v7),(7,(.p (.int .i64 x7))),(8,(.p (.int .i64 x8)))]) H3).bind K) Q:=by
  induction k with
  | zero => intros; exact Sim.no
  | succ k ih =>
    intro x3 x6 x7 x8 v5 v7 h8 H3 S4 σ
    rw [p_zr6_words_l0]
    refine Sim.round (Sim.ext (zr6_words_r0 _ _ _ _ _ _ _ _) ?_)
    refine Sim.cq ?_ ?_
    · refine Sim.bd fun a10 h11 => ?_
      refine Sim.op ((S4.low h8).iS h11 rfl) ?_
      obtain ⟨_,rfl,hE12⟩:=(S4.low h8).el h11 rfl
      refine Sim.op (hE12.ld (j:=0) rfl) ?_
      refine Sim.ci ?_
      refine Sim.call (zr1_Put_ok k x3 (S4.sl (i:=0) rfl) (IntKind.wrap .u64 a10) 4) fun r13 cs14 H15 h16 q17 => ?_
      obtain ⟨c18,cs19,h20,h21,q17⟩:=q17
      cases q17
      have S22:=Fm.wk S4 aN aN
      obtain ⟨v23,H24,e25,S26⟩:=S22.land (dt:=(dI .u8)) (d:=15) (e:=0) (n:=0) h20 h21 (by decide) rfl
      erw [e25]
      exact ih r13 x6 x7 (IntKind.wrap .i64 (x8 + 1)) v23 v7 h8 H24 (S26.wk2 aN (aC ⟨[15],by simp,aM 0 rfl⟩ aN))
    exact hE0 x3 v5 H3 (S4.wk2 aN (aC ⟨[15],by simp,aM 0 rfl⟩ aN))
theorem zr6_words_ok (k : Nat) {h : H} {σ : Stamp} (x0 : List Int) {u0 : V} (hu0 : SlH h (dI .u32) x0 u0) : Sim (p_zr6_words k x0) (ev G X0 126 σ [u0] h) (fun r s => ∃ (c0 : C),∃ (a0 : List V),OwnS c0 (dI .u8).sz r.length a0∧(dI .u8).L r a0∧s = ([c0],h)):=by
  refine Sim.ev rfl (Sim.ext (zr6_words_entry _ _ _ _ _) ?_)
  rw [p_zr6_words]
  have S0 : Fm 18 h [] [] [] (List.replicate 18 []::h):=Fm.start0
  refine Sim.op ((S0.low hu0).len) ?_
  refine Sim.ci ?_
  have S33:=S0.nil (dI .u8) []
  refine Sim.as (zr6_words_l0_ok ?_ k (([] : List Int)) x0 ((x0.length : Int)) 0 (.p (.slice none 0 0)) u0 hu0 (List.replicate 18 []::h) (S33.wk2 aN (aC ⟨[],by simp,aM 0 rfl⟩ aN)))
  · intro r34_3 v37 H35 S36
    refine Sim.ext (zr6_words_a0_0 _ _ _ _ _) ?_
    obtain ⟨c44,cs45,H39,e40,h42,h43,S41⟩:=S36.expOwn (i:=0) (τ:=0::1::σ) rfl rfl rfl
    exact Sim.fin (S41.finE (Ex.st e40 Ex.nil)) ⟨c44,cs45,h42,h43,rfl⟩
def p_zr6_body_l0 {β : Type} (k : Nat) (kE0 : (List Int)→TaiReport→Option β) (x5 : (List Int)) (x25 : (List TaiTuple)) (x26 : Int) (x27 : Int) (yg12 : TaiReport) : Option β:=match k with
| 0 => none
| k + 1 =>
bif decide (x27 < x26) then (
(ix x25 x27).bind fun a46 =>
(p_zr1_Pack k a46.Rate 17).bind fun r58 =>
(p_zr6_words k ([a46.Owner,(intBits .or .u32 (intBits .or .u32 (IntKind.wrap .u32 ((IntKind.wrap .u32 r58.1) * 2 ^ 26)) (IntKind.wrap .u32 (r58.2 * 2 ^ 9))) (IntKind.wrap .u32 a46.Over))])).bind fun r64 =>
(ap 1 x5 r64).bind fun a78 =>
p_zr6_body_l0 k kE0 a78 x25 x26 (IntKind.wrap .i64 (x27 + 1)) yg12)
else (
kE0 x5 yg12)
def p_zr6_body_l1 {β : Type} (k : Nat) (kE0 : (List Int)→Option β) (x10 : (List Int)) (x74 : Int) (x75 : Int) (yg12 : TaiReport) : Option β:=match k with
| 0 => none
| k + 1 =>
bif decide (x75 < x74) then (
(ix yg12.Abouts x75).bind fun a209 =>
(ix yg12.Numbers x75).bind fun a212 =>
(p_zr6_words k ([a209,(IntKind.wrap .u32 ((IntKind.wrap .u32 a212) * 2 ^ 24))])).bind fun r216 =>
(ap 1 x10 r216).bind fun a230 =>
p_zr6_body_l1 k kE0 a230 x74 (IntKind.wrap .i64 (x75 + 1)) yg12)
else (
kE0 x10)
def p_zr6_body (k : Nat) (x0 : TaiReport) : Option (Int × Int × (List Int)) :=
bif x0.Kind == 1 then (
(p_zr6_words k ([x0.From,0])).bind fun r15 =>
p_zr6_body_l0 k (fun r98_5 yg44 =>
some (205,(IntKind.wrap .i64 (2 + yg44.Kind)),r98_5)) r15 x0.Tuples ((x0.Tuples.length : Int)) 0 x0)
else (
bif x0.Kind == 2 then (
(p_zr6_words k ([x0.From,0])).bind fun r121 =>
p_zr6_body_l0 k (fun r135_5 yg44 =>
some (205,(IntKind.wrap .i64 (2 + yg44.Kind)),r135_5)) r121 x0.Tuples ((x0.Tuples.length : Int)) 0 x0)
else (
bif x0.Kind == 3 then (
(p_zr6_words k ([x0.From,x0.About])).bind fun r158 =>
some (206,1,r158))
else (
bif x0.Kind == 4 then (
(p_zr6_words k ([x0.From,0])).bind fun r180 =>
p_zr6_body_l1 k (fun r240_10 =>
some (206,4,r240_10)) r180 ((x0.Abouts.length : Int)) 0 x0)
else (
bif x0.Kind == 5 then (
(p_zr1_Pack k x0.Rate 18).bind fun r252 =>
(p_zr6_words k ([x0.From,0])).bind fun r258 =>
(ap 1 r258 (bytesS ((⟨#[82,69,77,66]⟩ : ByteArray)))).bind fun a272 =>
(ap 4 ([(intBits .or .u32 (intBits .or .u32 (IntKind.wrap .u32 ((IntKind.wrap .u32 ((x0.Abouts.length : Int))) * 2 ^ 24)) (IntKind.wrap .u32 ((IntKind.wrap .u32 r252.1) * 2 ^ 18))) r252.2)]) x0.Abouts).bind fun a281 =>
(p_zr6_words k a281).bind fun r287 =>
(ap 1 a272 r287).bind fun a301 =>
some (206,15,a301))
else (
some (x0.f_Type,x0.Count,x0.Body))))))
theorem zr6_body_l0_ok {h : H}  {β α : Type} {Q : β→α→Prop} {K : Exit × Env × H→Option α} {kE0 : (List Int)→TaiReport→Option β} (hE0 : ∀ (q5 : (List Int)) (yg44 : TaiReport) (v86 : V) (v88 : V) (h89 : SlF dTaiTuple yg44.Tuples v88) (v90 : V) (h91 : SlF (dI .u32) yg44.Abouts v90) (v92 : V) (h93 : SlF (dI .i64) yg44.Numbers v92) (v94 : V) (h95 : SlF (dI .u8) yg44.Body v94) (s96 : Stamp) (H84 : Go.Ev.H) (_ : Fm 133 h [] [(1,s96,List.map C.v [(.p (.int .i64 yg44.Kind)),(.p (.int .u32 yg44.From)),(.p (.int .u32 yg44.About)),v88,v90,v92,(.p (.int .u64 yg44.Rate)),(.p (.int .i64 yg44.f_Type)),(.p (.int .i64 yg44.Count)),v94])] [⟨[23,52],v86,(dI .u8),q5⟩] H84),Sim (kE0 q5 yg44) (K ((.exit 1),(envL [(1,(.ref ⟨h.length,1,0,s96,[]⟩ 0)),(5,v86)]),H84)) Q) (k : Nat) : ∀ (x5 : (List Int)) (x25 : (List TaiTuple)) (x26 : Int) (x27 : Int) (yg12 : TaiReport) (v31 : V) (v33 : V) (h34 : SlF dTaiTuple x25 v33) (v35 : V) (h36 : SlF dTaiTuple yg12.Tuples v35) (v37 : V) (h38 : SlF (dI .u32) yg12.Abouts v37) (v39 : V) (h40 : SlF (dI .i64) yg12.Numbers v39) (v41 : V) (h42 : SlF (dI .u8) yg12.Body v41) (s43 : Stamp) (H29 : Go.Ev.H) (_ : Fm 133 h [] [(1,s43,List.map C.v [(.p (.int .i64 yg12.Kind)),(.p (.int .u32 yg12.From)),(.p (.int .u32 yg12.About)),v35,v37,v39,(.p (.int .u64 yg12.Rate)),(.p (.int .i64 yg12.f_Type)),(.p (.int .i64 yg12.Count)),v41])] [⟨[23,52],v31,(dI .u8),x5⟩] H29) {σ : Stamp},Sim (p_zr6_body_l0 k kE0 x5 x25 x26 x27 yg12) ((cvL G X0 zr6_body_c0 zr6_body_l0 σ (envL [(1,(.ref ⟨h.length,1,0,s43,[]⟩ 0)),(5,v31),(25,v33),(26,(.p (.int .i64 x26))),(27,(.p (.int .i64 x27)))]) H29).bind K) Q:=by
  induction k with
  | zero => intros; exact Sim.no
  | succ k ih =>
    intro x5 x25 x26 x27 yg12 v31 v33 h34 v35 h36 v37 h38 v39 h40 v41 h42 s43 H29 S30 σ
    rw [p_zr6_body_l0]
    refine Sim.round (Sim.ext (zr6_body_r0 _ _ _ _ _ _ _ _ _) ?_)
    refine Sim.cq ?_ ?_
    · refine Sim.bd fun a46 h47 => ?_
      refine Sim.op ((h34.h H29).iS h47 rfl) ?_
      obtain ⟨w49,h50,hE48⟩:=(h34.h H29).el h47 rfl
      obtain rfl:=dTaiTuple.inv h50
      refine Sim.op (hE48.all (by simp)) ?_
      obtain ⟨H51,e52,S53⟩:=S30.al (d:=7) (s:=(2::0::0::1::1::0::σ)) (z:=[(.p (.int .u32 0)),(.p (.int .u64 0)),(.p (.int .i64 0))]) (by decide) rfl
      refine Sim.op (congrArg some e52) ?_
      obtain ⟨H55,e56,S57⟩:=S53.stGv (i:=0) (j:=0) (own:=false) (σ:=(3::0::0::1::1::0::σ)) (xs:=[.p (.int .u32 a46.Owner),.p (.int .u64 a46.Rate),.p (.int .i64 a46.Over)]) rfl rfl (sC (sI _ _) (sC (sI _ _) (sC (sI _ _) sN))) rfl rfl
      refine Sim.op (sM e56) ?_
      refine Sim.fa ?_
      refine Sim.op ((S57.atG (i:=0) rfl).ld (j:=1) rfl) ?_
      refine Sim.ci ?_
      refine Sim.call (zr1_Pack_ok k a46.Rate 17) fun r58 cs59 H60 h61 q62 => ?_
      cases q62
      refine Sim.or ?_
      refine Sim.ci ?_
      refine Sim.or ?_
      refine Sim.ci ?_
      refine Sim.fa ?_
      refine Sim.op ((S57.atG (i:=0) rfl).ld (j:=0) rfl) ?_
      refine Sim.ci ?_
      refine Sim.fa ?_
      refine Sim.op ((S57.atG (i:=0) rfl).ld (j:=2) rfl) ?_
      refine Sim.ci ?_
      have h63 : SlF (dI .u32) [a46.Owner,(intBits .or .u32 (intBits .or .u32 (IntKind.wrap .u32 ((IntKind.wrap .u32 r58.1) * 2 ^ 26)) (IntKind.wrap .u32 (r58.2 * 2 ^ 9))) (IntKind.wrap .u32 a46.Over))] (.fz [(.p (.int .u32 a46.Owner)),(.p (.int .u32 (intBits .or .u32 (intBits .or .u32 (IntKind.wrap .u32 ((IntKind.wrap .u32 r58.1) * 2 ^ 26)) (IntKind.wrap .u32 (r58.2 * 2 ^ 9))) (IntKind.wrap .u32 a46.Over))))] 2 1 true):=SlF.lit (cs:=[(.p (.int .u32 a46.Owner)),(.p (.int .u32 (intBits .or .u32 (intBits .or .u32 (IntKind.wrap .u32 ((IntKind.wrap .u32 r58.1) * 2 ^ 26)) (IntKind.wrap .u32 (r58.2 * 2 ^ 9))) (IntKind.wrap .u32 a46.Over))))]) (RL.cons (show (dI .u32).R a46.Owner [(.p (.int .u32 a46.Owner))] from rfl) (RL.cons (show (dI .u32).R (intBits .or .u32 (intBits .or .u32 (IntKind.wrap .u32 ((IntKind.wrap .u32 r58.1) * 2 ^ 26)) (IntKind.wrap .u32 (r58.2 * 2 ^ 9))) (IntKind.wrap .u32 a46.Over)) [(.p (.int .u32 (intBits .or .u32 (intBits .or .u32 (IntKind.wrap .u32 ((IntKind.wrap .u32 r58.1) * 2 ^ 26)) (IntKind.wrap .u32 (r58.2 * 2 ^ 9))) (IntKind.wrap .u32 a46.Over))))] from rfl) RL.nil)) rfl rfl true
      refine Sim.op (bldS (pC rfl (pC rfl pN)) (by kernel_rfl : _ = some (vOf h63))) ?_
      refine Sim.call (zr6_words_ok k ([a46.Owner,(intBits .or .u32 (intBits .or .u32 (IntKind.wrap .u32 ((IntKind.wrap .u32 r58.1) * 2 ^ 26)) (IntKind.wrap .u32 (r58.2 * 2 ^ 9))) (IntKind.wrap .u32 a46.Over))]) (h63.h H55)) fun r64 cs65 H66 h67 q68 => ?_
      obtain ⟨c69,cs70,h71,h72,q68⟩:=q68
      cases q68
      obtain ⟨v73,H74,e75,S76⟩:=S57.land (dt:=(dI .u8)) (d:=51) (e:=0) (n:=0) h71 h72 (by decide) rfl
      erw [e75]
      refine Sim.bd fun a78 h79 => ?_
      obtain ⟨v80,H81,e82,S83⟩:=S76.app (i:=1) (d:=52) (e:=1) (own:=true) (σ:=(15::1::1::0::1::1::0::σ)) rfl (S76.sl (i:=0) rfl).y h79 rfl (by decide) (by decide) rfl
      refine Sim.op (e82) ?_
      exact ih a78 x25 x26 (IntKind.wrap .i64 (x27 + 1)) yg12 v80 v33 h34 v35 h36 v37 h38 v39 h40 v41 h42 s43 H81 (S83.wk2 (aC (aM 1 rfl) aN) (aC ⟨[52,23,52],by simp,aM 1 rfl⟩ aN))
    exact hE0 x5 yg12 v31 v35 h36 v37 h38 v39 h40 v41 h42 s43 H29 (S30.wk2 (aC (aM 0 rfl) aN) (aC ⟨[23,52],by simp,aM 0 rfl⟩ aN))
theorem zr6_body_l1_ok {h : H}  {β α : Type} {Q : β→α→Prop} {K : Exit × Env × H→Option α} {kE0 : (List Int)→Option β} (hE0 : ∀ (q10 : (List Int)) (v238 : V) (H236 : Go.Ev.H) (_ : Fm 133 h [] [] [⟨[71,93],v238,(dI .u8),q10⟩] H236),Sim (kE0 q10) (K ((.exit 3),(envL [(10,v238)]),H236)) Q) (k : Nat) : ∀ (x10 : (List Int)) (x74 : Int) (x75 : Int) (yg12 : TaiReport) (v196 : V) (v198 : V) (h199 : SlF dTaiTuple yg12.Tuples v198) (v200 : V) (h201 : SlF (dI .u32) yg12.Abouts v200) (v202 : V) (h203 : SlF (dI .i64) yg12.Numbers v202) (v204 : V) (h205 : SlF (dI .u8) yg12.Body v204) (s206 : Stamp) (H194 : Go.Ev.H) (_ : Fm 133 h [] [(1,s206,List.map C.v [(.p (.int .i64 yg12.Kind)),(.p (.int .u32 yg12.From)),(.p (.int .u32 yg12.About)),v198,v200,v202,(.p (.int .u64 yg12.Rate)),(.p (.int .i64 yg12.f_Type)),(.p (.int .i64 yg12.Count)),v204])] [⟨[71,93],v196,(dI .u8),x10⟩] H194) {σ : Stamp},Sim (p_zr6_body_l1 k kE0 x10 x74 x75 yg12) ((cvL G X0 zr6_body_c1 zr6_body_l1 σ (envL [(1,(.ref ⟨h.length,1,0,s206,[]⟩ 0)),(10,v196),(74,(.p (.int .i64 x74))),(75,(.p (.int .i64 x75)))]) H194).bind K) Q:=by
  induction k with
  | zero => intros; exact Sim.no
  | succ k ih =>
    intro x10 x74 x75 yg12 v196 v198 h199 v200 h201 v202 h203 v204 h205 s206 H194 S195 σ
    rw [p_zr6_body_l1]
    refine Sim.round (Sim.ext (zr6_body_r1 _ _ _ _ _ _ _ _) ?_)
    refine Sim.cq ?_ ?_
    · refine Sim.fa ?_
      refine Sim.op ((S195.atG (i:=0) rfl).ld (j:=4) rfl) ?_
      refine Sim.bd fun a209 h210 => ?_
      refine Sim.op ((h201.h H194).iS h210 rfl) ?_
      obtain ⟨_,rfl,hE211⟩:=(h201.h H194).el h210 rfl
      refine Sim.op (hE211.ld (j:=0) rfl) ?_
      refine Sim.ci ?_
      refine Sim.fa ?_
      refine Sim.op ((S195.atG (i:=0) rfl).ld (j:=5) rfl) ?_
      refine Sim.bd fun a212 h213 => ?_
      refine Sim.op ((h203.h H194).iS h213 rfl) ?_
      obtain ⟨_,rfl,hE214⟩:=(h203.h H194).el h213 rfl
      refine Sim.op (hE214.ld (j:=0) rfl) ?_
      refine Sim.ci ?_
      have h215 : SlF (dI .u32) [a209,(IntKind.wrap .u32 ((IntKind.wrap .u32 a212) * 2 ^ 24))] (.fz [(.p (.int .u32 a209)),(.p (.int .u32 (IntKind.wrap .u32 ((IntKind.wrap .u32 a212) * 2 ^ 24))))] 2 1 true):=SlF.lit (cs:=[(.p (.int .u32 a209)),(.p (.int .u32 (IntKind.wrap .u32 ((IntKind.wrap .u32 a212) * 2 ^ 24))))]) (RL.cons (show (dI .u32).R a209 [(.p (.int .u32 a209))] from rfl) (RL.cons (show (dI .u32).R (IntKind.wrap .u32 ((IntKind.wrap .u32 a212) * 2 ^ 24)) [(.p (.int .u32 (IntKind.wrap .u32 ((IntKind.wrap .u32 a212) * 2 ^ 24))))] from rfl) RL.nil)) rfl rfl true
      refine Sim.op (bldS (pC rfl (pC rfl pN)) (by kernel_rfl : _ = some (vOf h215))) ?_
      refine Sim.call (zr6_words_ok k ([a209,(IntKind.wrap .u32 ((IntKind.wrap .u32 a212) * 2 ^ 24))]) (h215.h H194)) fun r216 cs217 H218 h219 q220 => ?_
      obtain ⟨c221,cs222,h223,h224,q220⟩:=q220
      cases q220
      obtain ⟨v225,H226,e227,S228⟩:=S195.land (dt:=(dI .u8)) (d:=92) (e:=0) (n:=0) h223 h224 (by decide) rfl
      erw [e227]
      refine Sim.bd fun a230 h231 => ?_
      obtain ⟨v232,H233,e234,S235⟩:=S228.app (i:=1) (d:=93) (e:=1) (own:=true) (σ:=(15::1::0::1::1::0::σ)) rfl (S228.sl (i:=0) rfl).y h231 rfl (by decide) (by decide) rfl
      refine Sim.op (e234) ?_
      exact ih a230 x74 (IntKind.wrap .i64 (x75 + 1)) yg12 v232 v198 h199 v200 h201 v202 h203 v204 h205 s206 H233 (S235.wk2 (aC (aM 0 rfl) aN) (aC ⟨[93,71,93],by simp,aM 1 rfl⟩ aN))
    exact hE0 x10 v196 H194 (S195.wk2 aN (aC ⟨[71,93],by simp,aM 0 rfl⟩ aN))
theorem zr6_body_ok (k : Nat) {h : H} {σ : Stamp} (x0 : TaiReport) {u0 : List V} (hu0 : dTaiReport.R x0 u0) : Sim (p_zr6_body k x0) (ev G X0 88 σ [(.agg u0)] h) (fun r s => ∃ (v2 : V),SlF (dI .u8) r.2.2 v2∧s = ([.v (.p (.int .i64 r.1)),.v (.p (.int .i64 r.2.1)),.v v2],h)):=by
  refine Sim.ev rfl (Sim.ext (zr6_body_entry _ _ _ _ _) ?_)
  rw [p_zr6_body]
  obtain ⟨v1,v3,v5,v7,rfl,h2,h4,h6,h8⟩:=dTaiReport.inv hu0
  have S0 : Fm 133 h [] [] [] (List.replicate 133 []::h):=Fm.start0
  obtain ⟨H9,e10,S11⟩:=S0.box (own:=false) (d:=1) (s:=(0::0::0::σ)) (xs:=[(.p (.int .i64 x0.Kind)),(.p (.int .u32 x0.From)),(.p (.int .u32 x0.About)),v1,v3,v5,(.p (.int .u64 x0.Rate)),(.p (.int .i64 x0.f_Type)),(.p (.int .i64 x0.Count)),v7]) (sC (sI _ _) (sC (sI _ _) (sC (sI _ _) (sC h2.still (sC h4.still (sC h6.still (sC (sI _ _) (sC (sI _ _) (sC (sI _ _) (sC h8.still sN)))))))))) (by decide) rfl
  refine Sim.op (e10) ?_
  refine Sim.fa ?_
  refine Sim.op ((S11.atG (i:=0) rfl).ld (j:=0) rfl) ?_
  refine Sim.ci ?_
  refine Sim.cd (fun hc13 => ?_) (fun hc13 => ?_)
  · refine Sim.cdt (eqT (beq_iff_eq.1 hc13)) ?_
    refine Sim.fa ?_
    refine Sim.op ((S11.atG (i:=0) rfl).ld (j:=1) rfl) ?_
    refine Sim.ci ?_
    have h14 : SlF (dI .u32) [x0.From,0] (.fz [(.p (.int .u32 x0.From)),(.p (.int .u32 0))] 2 1 true):=SlF.lit (cs:=[(.p (.int .u32 x0.From)),(.p (.int .u32 0))]) (RL.cons (show (dI .u32).R x0.From [(.p (.int .u32 x0.From))] from rfl) (RL.cons (show (dI .u32).R 0 [(.p (.int .u32 0))] from rfl) RL.nil)) rfl rfl true
    refine Sim.op (bldS (pC rfl (pC rfl pN)) (by kernel_rfl : _ = some (vOf h14))) ?_
    refine Sim.call (zr6_words_ok k ([x0.From,0]) (h14.h H9)) fun r15 cs16 H17 h18 q19 => ?_
    obtain ⟨c20,cs21,h22,h23,q19⟩:=q19
    cases q19
    obtain ⟨v24,H25,e26,S27⟩:=S11.land (dt:=(dI .u8)) (d:=23) (e:=0) (n:=0) h22 h23 (by decide) rfl
    erw [e26]
    refine Sim.fa ?_
    refine Sim.op ((S27.atG (i:=0) rfl).ld (j:=3) rfl) ?_
    refine Sim.op ((h2.h H25).len) ?_
    refine Sim.ci ?_
    refine Sim.as (zr6_body_l0_ok ?_ k r15 x0.Tuples ((x0.Tuples.length : Int)) 0 x0 v24 v1 h2 v1 h2 v3 h4 v5 h6 v7 h8 (0::0::0::σ) H25 (S27.wk2 (aC (aM 0 rfl) aN) (aC ⟨[23],by simp,aM 0 rfl⟩ aN)))
    · intro r98_5 yg44 v101 v103 h104 v105 h106 v107 h108 v109 h110 s111 H99 S100
      refine Sim.ext (zr6_body_a0_1 _ _ _ _ _ _) ?_
      refine Sim.fa ?_
      refine Sim.op ((S100.atG (i:=0) rfl).ld (j:=0) rfl) ?_
      refine Sim.ci ?_
      obtain ⟨v118,H113,e114,h116,S115⟩:=S100.expFrz (i:=0) (τ:=2::1::σ) rfl rfl
      exact Sim.fin (S115.finE (Ex.pl (sI _ _).lv (Ex.pl (sI _ _).lv (Ex.st e114 Ex.nil)))) ⟨v118,h116,rfl⟩
  refine Sim.cq ?_ ?_
  · refine Sim.fa ?_
    refine Sim.op ((S11.atG (i:=0) rfl).ld (j:=1) rfl) ?_
    refine Sim.ci ?_
    have h120 : SlF (dI .u32) [x0.From,0] (.fz [(.p (.int .u32 x0.From)),(.p (.int .u32 0))] 2 1 true):=SlF.lit (cs:=[(.p (.int .u32 x0.From)),(.p (.int .u32 0))]) (RL.cons (show (dI .u32).R x0.From [(.p (.int .u32 x0.From))] from rfl) (RL.cons (show (dI .u32).R 0 [(.p (.int .u32 0))] from rfl) RL.nil)) rfl rfl true
    refine Sim.op (bldS (pC rfl (pC rfl pN)) (by kernel_rfl : _ = some (vOf h120))) ?_
    refine Sim.call (zr6_words_ok k ([x0.From,0]) (h120.h H9)) fun r121 cs122 H123 h124 q125 => ?_
    obtain ⟨c126,cs127,h128,h129,q125⟩:=q125
    cases q125
    obtain ⟨v130,H131,e132,S133⟩:=S11.land (dt:=(dI .u8)) (d:=23) (e:=0) (n:=0) h128 h129 (by decide) rfl
    erw [e132]
    refine Sim.fa ?_
    refine Sim.op ((S133.atG (i:=0) rfl).ld (j:=3) rfl) ?_
    refine Sim.op ((h2.h H131).len) ?_
    refine Sim.ci ?_
    refine Sim.as (zr6_body_l0_ok ?_ k r121 x0.Tuples ((x0.Tuples.length : Int)) 0 x0 v130 v1 h2 v1 h2 v3 h4 v5 h6 v7 h8 (0::0::0::σ) H131 (S133.wk2 (aC (aM 0 rfl) aN) (aC ⟨[23],by simp,aM 0 rfl⟩ aN)))
    · intro r135_5 yg44 v138 v140 h141 v142 h143 v144 h145 v146 h147 s148 H136 S137
      refine Sim.ext (zr6_body_a0_1 _ _ _ _ _ _) ?_
      refine Sim.fa ?_
      refine Sim.op ((S137.atG (i:=0) rfl).ld (j:=0) rfl) ?_
      refine Sim.ci ?_
      obtain ⟨v155,H150,e151,h153,S152⟩:=S137.expFrz (i:=0) (τ:=2::1::σ) rfl rfl
      exact Sim.fin (S152.finE (Ex.pl (sI _ _).lv (Ex.pl (sI _ _).lv (Ex.st e151 Ex.nil)))) ⟨v155,h153,rfl⟩
  refine Sim.cq ?_ ?_
  · refine Sim.fa ?_
    refine Sim.op ((S11.atG (i:=0) rfl).ld (j:=1) rfl) ?_
    refine Sim.ci ?_
    refine Sim.fa ?_
    refine Sim.op ((S11.atG (i:=0) rfl).ld (j:=2) rfl) ?_
    refine Sim.ci ?_
    have h157 : SlF (dI .u32) [x0.From,x0.About] (.fz [(.p (.int .u32 x0.From)),(.p (.int .u32 x0.About))] 2 1 true):=SlF.lit (cs:=[(.p (.int .u32 x0.From)),(.p (.int .u32 x0.About))]) (RL.cons (show (dI .u32).R x0.From [(.p (.int .u32 x0.From))] from rfl) (RL.cons (show (dI .u32).R x0.About [(.p (.int .u32 x0.About))] from rfl) RL.nil)) rfl rfl true
    refine Sim.op (bldS (pC rfl (pC rfl pN)) (by kernel_rfl : _ = some (vOf h157))) ?_
    refine Sim.call (zr6_words_ok k ([x0.From,x0.About]) (h157.h H9)) fun r158 cs159 H160 h161 q162 => ?_
    obtain ⟨c163,cs164,h165,h166,q162⟩:=q162
    cases q162
    obtain ⟨v167,H168,e169,S170⟩:=S11.land (dt:=(dI .u8)) (d:=65) (e:=0) (n:=0) h165 h166 (by decide) rfl
    erw [e169]
    obtain ⟨v177,H172,e173,h175,S174⟩:=S170.expFrz (i:=0) (τ:=2::1::σ) rfl rfl
    exact Sim.fin (S174.finE (Ex.pl (sI _ _).lv (Ex.pl (sI _ _).lv (Ex.st e173 Ex.nil)))) ⟨v177,h175,rfl⟩
  refine Sim.cq ?_ ?_
  · refine Sim.fa ?_
    refine Sim.op ((S11.atG (i:=0) rfl).ld (j:=1) rfl) ?_
    refine Sim.ci ?_
    have h179 : SlF (dI .u32) [x0.From,0] (.fz [(.p (.int .u32 x0.From)),(.p (.int .u32 0))] 2 1 true):=SlF.lit (cs:=[(.p (.int .u32 x0.From)),(.p (.int .u32 0))]) (RL.cons (show (dI .u32).R x0.From [(.p (.int .u32 x0.From))] from rfl) (RL.cons (show (dI .u32).R 0 [(.p (.int .u32 0))] from rfl) RL.nil)) rfl rfl true
    refine Sim.op (bldS (pC rfl (pC rfl pN)) (by kernel_rfl : _ = some (vOf h179))) ?_
    refine Sim.call (zr6_words_ok k ([x0.From,0]) (h179.h H9)) fun r180 cs181 H182 h183 q184 => ?_
    obtain ⟨c185,cs186,h187,h188,q184⟩:=q184
    cases q184
    obtain ⟨v189,H190,e191,S192⟩:=S11.land (dt:=(dI .u8)) (d:=71) (e:=0) (n:=0) h187 h188 (by decide) rfl
    erw [e191]
    refine Sim.fa ?_
    refine Sim.op ((S192.atG (i:=0) rfl).ld (j:=4) rfl) ?_
    refine Sim.op ((h4.h H190).len) ?_
    refine Sim.ci ?_
    refine Sim.as (zr6_body_l1_ok ?_ k r180 ((x0.Abouts.length : Int)) 0 x0 v189 v1 h2 v3 h4 v5 h6 v7 h8 (0::0::0::σ) H190 (S192.wk2 (aC (aM 0 rfl) aN) (aC ⟨[71],by simp,aM 0 rfl⟩ aN)))
    · intro r240_10 v243 H241 S242
      refine Sim.ext (zr6_body_a1_3 _ _ _ _ _) ?_
      obtain ⟨v250,H245,e246,h248,S247⟩:=S242.expFrz (i:=0) (τ:=2::1::σ) rfl rfl
      exact Sim.fin (S247.finE (Ex.pl (sI _ _).lv (Ex.pl (sI _ _).lv (Ex.st e246 Ex.nil)))) ⟨v250,h248,rfl⟩
  refine Sim.cq ?_ ?_
  · refine Sim.fa ?_
    refine Sim.op ((S11.atG (i:=0) rfl).ld (j:=6) rfl) ?_
    refine Sim.ci ?_
    refine Sim.call (zr1_Pack_ok k x0.Rate 18) fun r252 cs253 H254 h255 q256 => ?_
    cases q256
    refine Sim.or ?_
    refine Sim.ci ?_
    refine Sim.or ?_
    refine Sim.ci ?_
    refine Sim.fa ?_
    refine Sim.op ((S11.atG (i:=0) rfl).ld (j:=1) rfl) ?_
    refine Sim.ci ?_
    have h257 : SlF (dI .u32) [x0.From,0] (.fz [(.p (.int .u32 x0.From)),(.p (.int .u32 0))] 2 1 true):=SlF.lit (cs:=[(.p (.int .u32 x0.From)),(.p (.int .u32 0))]) (RL.cons (show (dI .u32).R x0.From [(.p (.int .u32 x0.From))] from rfl) (RL.cons (show (dI .u32).R 0 [(.p (.int .u32 0))] from rfl) RL.nil)) rfl rfl true
    refine Sim.op (bldS (pC rfl (pC rfl pN)) (by kernel_rfl : _ = some (vOf h257))) ?_
    refine Sim.call (zr6_words_ok k ([x0.From,0]) (h257.h H9)) fun r258 cs259 H260 h261 q262 => ?_
    obtain ⟨c263,cs264,h265,h266,q262⟩:=q262
    cases q262
    obtain ⟨v267,H268,e269,S270⟩:=S11.land (dt:=(dI .u8)) (d:=107) (e:=0) (n:=0) h265 h266 (by decide) rfl
    erw [e269]
    refine Sim.bd fun a272 h273 => ?_
    obtain ⟨v274,H275,e276,S277⟩:=S270.app (i:=0) (d:=108) (e:=1) (own:=true) (σ:=(4::0::1::1::1::1::1::1::0::1::0::σ)) rfl (ysS H268 ((⟨#[82,69,77,66]⟩ : ByteArray))) h273 rfl (by decide) (by decide) rfl
    refine Sim.op (e276) ?_
    refine Sim.fa ?_
    refine Sim.op ((S277.atG (i:=0) rfl).ld (j:=4) rfl) ?_
    refine Sim.op ((h4.h H275).len) ?_
    refine Sim.ci ?_
    have h278:=SlF.int1 .u32 (intBits .or .u32 (intBits .or .u32 (IntKind.wrap .u32 ((IntKind.wrap .u32 ((x0.Abouts.length : Int))) * 2 ^ 24)) (IntKind.wrap .u32 ((IntKind.wrap .u32 r252.1) * 2 ^ 18))) r252.2)
    refine Sim.op (bldS (pC rfl pN) (by kernel_rfl : _ = some (vOf h278))) ?_
    refine Sim.fa ?_
    refine Sim.op ((S277.atG (i:=0) rfl).ld (j:=4) rfl) ?_
    have S280:=S277.lit (d:=(dI .u32)) (xs:=[(intBits .or .u32 (intBits .or .u32 (IntKind.wrap .u32 ((IntKind.wrap .u32 ((x0.Abouts.length : Int))) * 2 ^ 24)) (IntKind.wrap .u32 ((IntKind.wrap .u32 r252.1) * 2 ^ 18))) r252.2)]) (cs:=[(.p (.int .u32 (intBits .or .u32 (intBits .or .u32 (IntKind.wrap .u32 ((IntKind.wrap .u32 ((x0.Abouts.length : Int))) * 2 ^ 24)) (IntKind.wrap .u32 ((IntKind.wrap .u32 r252.1) * 2 ^ 18))) r252.2)))]) (n:=1) (e:=1) (m:=1000001) (RL.cons (show (dI .u32).R (intBits .or .u32 (intBits .or .u32 (IntKind.wrap .u32 ((IntKind.wrap .u32 ((x0.Abouts.length : Int))) * 2 ^ 24)) (IntKind.wrap .u32 ((IntKind.wrap .u32 r252.1) * 2 ^ 18))) r252.2) [(.p (.int .u32 (intBits .or .u32 (intBits .or .u32 (IntKind.wrap .u32 ((IntKind.wrap .u32 ((x0.Abouts.length : Int))) * 2 ^ 24)) (IntKind.wrap .u32 ((IntKind.wrap .u32 r252.1) * 2 ^ 18))) r252.2)))] from rfl) RL.nil) rfl rfl (by decide)
    refine Sim.bd fun a281 h282 => ?_
    obtain ⟨v283,H284,e285,S286⟩:=S280.app (i:=0) (d:=124) (e:=1) (own:=true) (σ:=(15::0::1::1::1::1::1::1::1::0::1::0::σ)) rfl (h4.h H275).y h282 rfl (by decide) (by decide) rfl
    refine Sim.op (e285) ?_
    refine Sim.call (zr6_words_ok k a281 (S286.sl (i:=0) rfl)) fun r287 cs288 H289 h290 q291 => ?_
    obtain ⟨c292,cs293,h294,h295,q291⟩:=q291
    cases q291
    obtain ⟨v296,H297,e298,S299⟩:=S286.land (dt:=(dI .u8)) (d:=125) (e:=0) (n:=0) h294 h295 (by decide) rfl
    erw [e298]
    refine Sim.bd fun a301 h302 => ?_
    obtain ⟨v303,H304,e305,S306⟩:=S299.app (i:=2) (d:=126) (e:=1) (own:=true) (σ:=(17::0::1::1::1::1::1::1::1::0::1::0::σ)) rfl (S299.sl (i:=0) rfl).y h302 rfl (by decide) (by decide) rfl
    refine Sim.op (e305) ?_
    obtain ⟨v312,H307,e308,h310,S309⟩:=S306.expFrz (i:=2) (τ:=2::1::σ) rfl rfl
    exact Sim.fin (S309.finE (Ex.pl (sI _ _).lv (Ex.pl (sI _ _).lv (Ex.st e308 Ex.nil)))) ⟨v312,h310,rfl⟩
  refine Sim.fa ?_
  refine Sim.op ((S11.atG (i:=0) rfl).ld (j:=7) rfl) ?_
  refine Sim.ci ?_
  refine Sim.fa ?_
  refine Sim.op ((S11.atG (i:=0) rfl).ld (j:=8) rfl) ?_
  refine Sim.ci ?_
  refine Sim.fa ?_
  refine Sim.op ((S11.atG (i:=0) rfl).ld (j:=9) rfl) ?_
  exact Sim.fin (S11.finN (lC (sI _ _).lv (lC (sI _ _).lv (lC h8.still.lv lN)))) ⟨v7,h8,rfl⟩
def p_zr6_one (k : Nat) (x0 : TaiReport) : Option ((List Int)) :=
(p_zr6_body k x0).bind fun r13 =>
(p_zr1_Put k ([(IntKind.wrap .u8 (intBits .or .i64 128 r13.2.1)),(IntKind.wrap .u8 r13.1)]) (IntKind.wrap .u64 (IntKind.wrap .i64 (Int.tdiv ((r13.2.2.length : Int)) 4))) 2).bind fun r21 =>
(ap 1 r21 r13.2.2).bind fun a35 =>
some (a35)
theorem zr6_one_ok (k : Nat) {h : H} {σ : Stamp} (x0 : TaiReport) {u0 : List V} (hu0 : dTaiReport.R x0 u0) : Sim (p_zr6_one k x0) (ev G X0 48 σ [(.agg u0)] h) (fun r s => ∃ (c0 : C),∃ (a0 : List V),OwnS c0 (dI .u8).sz r.length a0∧(dI .u8).L r a0∧s = ([c0],h)):=by
  refine Sim.ev rfl (Sim.ext (zr6_one_entry _ _ _ _ _) ?_)
  rw [p_zr6_one]
  obtain ⟨v1,v3,v5,v7,rfl,h2,h4,h6,h8⟩:=dTaiReport.inv hu0
  have S0 : Fm 25 h [] [] [] (List.replicate 25 []::h):=Fm.start0
  obtain ⟨H9,e10,S11⟩:=S0.box (own:=false) (d:=1) (s:=(0::0::0::σ)) (xs:=[(.p (.int .i64 x0.Kind)),(.p (.int .u32 x0.From)),(.p (.int .u32 x0.About)),v1,v3,v5,(.p (.int .u64 x0.Rate)),(.p (.int .i64 x0.f_Type)),(.p (.int .i64 x0.Count)),v7]) (sC (sI _ _) (sC (sI _ _) (sC (sI _ _) (sC h2.still (sC h4.still (sC h6.still (sC (sI _ _) (sC (sI _ _) (sC (sI _ _) (sC h8.still sN)))))))))) (by decide) rfl
  refine Sim.op (e10) ?_
  refine Sim.op ((S11.atG (i:=0) rfl).ldVs (j:=0) (xs:=[(.p (.int .i64 x0.Kind)),(.p (.int .u32 x0.From)),(.p (.int .u32 x0.About)),v1,v3,v5,(.p (.int .u64 x0.Rate)),(.p (.int .i64 x0.f_Type)),(.p (.int .i64 x0.Count)),v7]) rfl rfl (by decide)) ?_
  refine Sim.call (zr6_body_ok k x0 hu0) fun r13 cs14 H15 h16 q17 => ?_
  obtain ⟨v18,h19,q17⟩:=q17
  cases q17
  refine Sim.or ?_
  refine Sim.ci ?_
  refine Sim.or ?_
  refine Sim.ci ?_
  refine Sim.or ?_
  have h20 : SlF (dI .u8) [(IntKind.wrap .u8 (intBits .or .i64 128 r13.2.1)),(IntKind.wrap .u8 r13.1)] (.fz [(.p (.int .u8 (IntKind.wrap .u8 (intBits .or .i64 128 r13.2.1)))),(.p (.int .u8 (IntKind.wrap .u8 r13.1)))] 2 1 true):=SlF.lit (cs:=[(.p (.int .u8 (IntKind.wrap .u8 (intBits .or .i64 128 r13.2.1)))),(.p (.int .u8 (IntKind.wrap .u8 r13.1)))]) (RL.cons (show (dI .u8).R (IntKind.wrap .u8 (intBits .or .i64 128 r13.2.1)) [(.p (.int .u8 (IntKind.wrap .u8 (intBits .or .i64 128 r13.2.1))))] from rfl) (RL.cons (show (dI .u8).R (IntKind.wrap .u8 r13.1) [(.p (.int .u8 (IntKind.wrap .u8 r13.1)))] from rfl) RL.nil)) rfl rfl true
  refine Sim.op (bldS (pC rfl (pC rfl pN)) (by kernel_rfl : _ = some (vOf h20))) ?_
  refine Sim.op ((h19.h H9).len) ?_
  refine Sim.ci ?_
  refine Sim.call (zr1_Put_ok k ([(IntKind.wrap .u8 (intBits .or .i64 128 r13.2.1)),(IntKind.wrap .u8 r13.1)]) (h20.h H9) (IntKind.wrap .u64 (IntKind.wrap .i64 (Int.tdiv ((r13.2.2.length : Int)) 4))) 2) fun r21 cs22 H23 h24 q25 => ?_
  obtain ⟨c26,cs27,h28,h29,q25⟩:=q25
  cases q25
  obtain ⟨v30,H31,e32,S33⟩:=S11.land (dt:=(dI .u8)) (d:=22) (e:=0) (n:=0) h28 h29 (by decide) rfl
  erw [e32]
  refine Sim.bd fun a35 h36 => ?_
  obtain ⟨v37,H38,e39,S40⟩:=S33.app (i:=0) (d:=24) (e:=1) (own:=true) (σ:=(12::0::1::1::0::σ)) rfl (h19.h H31).y h36 rfl (by decide) (by decide) rfl
  refine Sim.op (e39) ?_
  obtain ⟨c46,cs47,H41,e42,h44,h45,S43⟩:=S40.expOwn (i:=0) (τ:=0::1::σ) rfl rfl rfl
  exact Sim.fin (S43.finE (Ex.st e42 Ex.nil)) ⟨c46,cs47,h44,h45,rfl⟩
end Go.Ev
namespace Go.Ev
open Go.Proofs
set_option linter.unusedVariables false
set_option linter.unusedSimpArgs false
set_option maxRecDepth 100000
noncomputable section
abbrev KT35:=Exit→Env→H→Option (List C × H)
variable (rec : CallF) (loop : LoopV) (σ : Stamp)
def zr6_parse_c0 : Code:=(codeAt (bodyOf Try.f92) [1,1,1,0,0,1,1,1,0,1,1,0,0])
def zr6_parse_l0 : Lv:=⟨320,64,[(3,320),(0,320)]⟩
def zr6_parse_k0 : KT35:=(kBlock 3 (kBlock 0 (kSeq G rec loop (codeAt (bodyOf Try.f92) [1,1,1,1]) ⟨64,64,[]⟩ (1::1::1::0::σ) (finC G false Try.f92 (1::σ)))))
def zr6_parse_c1 : Code:=(codeAt (bodyOf Try.f92) [1,1,1,0,0,1,1,1,1,1,1,1,0,1,1,0,0])
def zr6_parse_l1 : Lv:=⟨320,64,[(5,320),(0,320)]⟩
def zr6_parse_k1 : KT35:=(kBlock 5 (kBlock 0 (kSeq G rec loop (codeAt (bodyOf Try.f92) [1,1,1,1]) ⟨64,64,[]⟩ (1::1::1::0::σ) (finC G false Try.f92 (1::σ)))))
def zr6_parse_c2 : Code:=(codeAt (bodyOf Try.f92) [1,1,1,0,0,1,1,1,1,1,1,1,1,1,1,1,1,0,0])
def zr6_parse_l2 : Lv:=⟨320,64,[(1,320),(0,320)]⟩
def zr6_parse_k2 : KT35:=(kBlock 1 (kBlock 0 (kSeq G rec loop (codeAt (bodyOf Try.f92) [1,1,1,1]) ⟨64,64,[]⟩ (1::1::1::0::σ) (finC G false Try.f92 (1::σ)))))
theorem zr6_parse_entry (x0 : Int) (x1 : Int) (x2 : V) (h : H) : cvBody G rec loop 92 σ [(.p (.int .i64 x0)),(.p (.int .i64 x1)),x2] h =
(some (alO [.p (.int .i64 0),.p (.int .u32 0),.p (.int .u32 0),.p (.slice none 0 0),.p (.slice none 0 0),.p (.slice none 0 0),.p (.int .u64 0),.p (.int .i64 0),.p (.int .i64 0),.p (.slice none 0 0)] (0::0::0::σ) 6 (List.replicate 127 []::h))).bind fun q1 =>
(lenO x2).bind fun t2 =>
(castI .i64 t2).bind fun n3 =>
(callO rec 127 (1::0::1::1::0::σ) [x2,(.p (.int .i64 0))] q1.2 (some 18)).bind fun q4 =>
(castI .u32 q4.1).bind fun n5 =>
(buildV Try.prog 33 [(1,(.p (.int .u32 n5)))]).bind fun t6 =>
(some (alO [.p (.int .i64 0),.p (.int .u32 0),.p (.int .u32 0),.p (.slice none 0 0),.p (.slice none 0 0),.p (.slice none 0 0),.p (.int .u64 0),.p (.int .i64 0),.p (.int .i64 0),.p (.slice none 0 0)] (3::0::1::1::0::σ) 8 q4.2)).bind fun q7 =>
((stO false 10 (4::0::1::1::0::σ) q7.2 q7.1 t6).map fun h => (udf,h)).bind fun q8 =>
(callO rec 86 (2::0::0::1::1::1::0::σ) [(.p (.int .i64 x0)),(.p (.int .i64 x1))] q8.2 (some 47)).bind fun q9 =>
(asB q9.1).bind fun b10 =>
bif !b10 then (
(bSV Try.prog 31 0 []).bind fun t11 =>
(apO true 1 1 (4::0::1::0::1::1::1::0::σ) 53 q9.2 t11 x2).bind fun q12 =>
(buildV Try.prog 33 [(0,(.p (.int .i64 6))),(7,(.p (.int .i64 x0))),(8,(.p (.int .i64 x1))),(9,q12.1)]).bind fun t13 =>
((stO false 10 (6::0::1::0::1::1::1::0::σ) q12.2 q1.1 t13).map fun h => (udf,h)).bind fun q14 =>
((ldO true 10 q14.2 q1.1).bind fun t15 => (some []).map (t15::·)).bind fun t16 => fin false σ q14.2 t16)
else (
bif x0 == 205 then (
(fA q7.1 0).bind fun t17 =>
((stO true 1 (3::0::1::1::0::1::1::1::0::σ) q9.2 t17 (.p (.int .i64 (IntKind.wrap .i64 (x1 - 2))))).map fun h => (udf,h)).bind fun q18 =>
(loop zr6_parse_c0 zr6_parse_l0 (1::1::1::1::0::1::1::1::0::σ) (envL [(2,x2),(6,q1.1),(7,(.p (.int .i64 (IntKind.wrap .i64 (Int.tdiv n3 4))))),(8,q7.1),(9,(.p (.int .i64 2)))]) q18.2).bind fun r19 => zr6_parse_k0 rec loop σ r19.1 r19.2.1 r19.2.2)
else (
bif x1 == 1 then (
(callO rec 127 (1::1::1::1::0::1::1::1::0::σ) [x2,(.p (.int .i64 1))] q9.2 (some 94)).bind fun q20 =>
(castI .u32 q20.1).bind fun n21 =>
(fA q7.1 0).bind fun t22 =>
((stO true 1 (3::1::1::1::0::1::1::1::0::σ) q20.2 t22 (.p (.int .i64 3))).map fun h => (udf,h)).bind fun q23 =>
(fA q7.1 2).bind fun t24 =>
((stO true 1 (5::1::1::1::0::1::1::1::0::σ) q23.2 t24 (.p (.int .u32 n21))).map fun h => (udf,h)).bind fun q25 =>
(ldO true 10 q25.2 q7.1).bind fun t26 =>
((stO false 10 (1::0::1::1::1::1::0::σ) q25.2 q1.1 t26).map fun h => (udf,h)).bind fun q27 =>
((ldO true 10 q27.2 q1.1).bind fun t28 => (some []).map (t28::·)).bind fun t29 => fin false σ q27.2 t29)
else (
bif x1 == 4 then (
(fA q7.1 0).bind fun t30 =>
((stO true 1 (1::0::1::1::1::1::0::1::1::1::0::σ) q9.2 t30 (.p (.int .i64 4))).map fun h => (udf,h)).bind fun q31 =>
(loop zr6_parse_c1 zr6_parse_l1 (1::1::1::1::1::1::0::1::1::1::0::σ) (envL [(2,x2),(6,q1.1),(7,(.p (.int .i64 (IntKind.wrap .i64 (Int.tdiv n3 4))))),(8,q7.1),(11,(.p (.int .i64 2)))]) q31.2).bind fun r32 => zr6_parse_k1 rec loop σ r32.1 r32.2.1 r32.2.2)
else (
(fA q7.1 0).bind fun t33 =>
((stO true 1 (1::0::1::1::1::1::0::1::1::1::0::σ) q9.2 t33 (.p (.int .i64 5))).map fun h => (udf,h)).bind fun q34 =>
(callO rec 127 (1::0::1::1::1::1::1::0::1::1::1::0::σ) [x2,(.p (.int .i64 3))] q34.2 (some 22)).bind fun q35 =>
(castI .u32 q35.1).bind fun n36 =>
(callO rec 27 (6::0::1::1::1::1::1::1::0::1::1::1::0::σ) [(.p (.int .i64 (IntKind.wrap .i64 (intBits .and .u32 (Int.fdiv n36 (2 ^ 18)) 63)))),(.p (.int .u32 (intBits .and .u32 n36 262143))),(.p (.int .i64 18))] q35.2 (some 29)).bind fun q37 =>
(castI .u64 q37.1).bind fun n38 =>
(fA q7.1 6).bind fun t39 =>
((stO true 1 (8::0::1::1::1::1::1::1::0::1::1::1::0::σ) q37.2 t39 (.p (.int .u64 n38))).map fun h => (udf,h)).bind fun q40 =>
(loop zr6_parse_c2 zr6_parse_l2 (1::1::1::1::1::1::1::1::0::1::1::1::0::σ) (envL [(2,x2),(6,q1.1),(7,(.p (.int .i64 (IntKind.wrap .i64 (Int.tdiv n3 4))))),(8,q7.1),(13,(.p (.int .i64 4)))]) q40.2).bind fun r41 => zr6_parse_k2 rec loop σ r41.1 r41.2.1 r41.2.2)))):=by kernel_rfl
theorem zr6_parse_r0 (x2 : V) (x6 : V) (x7 : Int) (x8 : V) (x9 : Int) (h : H) : cvRound G rec loop zr6_parse_c0 zr6_parse_l0 σ (envL [(2,x2),(6,x6),(7,(.p (.int .i64 x7))),(8,x8),(9,(.p (.int .i64 x9)))]) h =
bif decide ((IntKind.wrap .i64 (x9 + 1)) < x7) then (
(callO rec 127 (3::0::0::1::0::σ) [x2,(.p (.int .i64 (IntKind.wrap .i64 (x9 + 1))))] h (some 70)).bind fun q42 =>
(castI .u32 q42.1).bind fun n43 =>
(fA x8 3).bind fun t44 =>
(ldO false 1 q42.2 t44).bind fun t45 =>
(callO rec 127 (4::1::0::1::0::σ) [x2,(.p (.int .i64 x9))] q42.2 (some 75)).bind fun q46 =>
(castI .u32 q46.1).bind fun n47 =>
need ((some (.p (.int .i64 (IntKind.wrap .i64 (intBits .and .u32 n43 511)))) : Option V) = some (.p (.int .i64 (IntKind.wrap .i64 (intBits .and .u32 n43 511))))) (
need ((some (.p (.int .i64 (IntKind.wrap .i64 (Int.fdiv n43 (2 ^ 26))))) : Option V) = some (.p (.int .i64 (IntKind.wrap .i64 (Int.fdiv n43 (2 ^ 26)))))) (
need (ldO false 1 q46.2 t44 = some t45) (
(callO rec 27 (11::1::0::1::0::σ) [(.p (.int .i64 (IntKind.wrap .i64 (Int.fdiv n43 (2 ^ 26))))),(.p (.int .u32 (intBits .and .u32 (Int.fdiv n43 (2 ^ 9)) 131071))),(.p (.int .i64 17))] q46.2 (some 82)).bind fun q48 =>
(castI .u64 q48.1).bind fun n49 =>
need ((some (.p (.int .i64 (IntKind.wrap .i64 (intBits .and .u32 n43 511)))) : Option V) = some (.p (.int .i64 (IntKind.wrap .i64 (intBits .and .u32 n43 511))))) (
need (ldO false 1 q48.2 t44 = some t45) (
(buildV Try.prog 57 [(0,(.p (.int .u32 n47))),(1,(.p (.int .u64 n49))),(2,(.p (.int .i64 (IntKind.wrap .i64 (intBits .and .u32 n43 511)))))]).bind fun t50 =>
(bSV Try.prog 28 1 [(0,t50)]).bind fun t51 =>
(apO false 3 24 (17::1::0::1::0::σ) 88 q48.2 t45 t51).bind fun q52 =>
(fA x8 3).bind fun t53 =>
((stO true 1 (19::1::0::1::0::σ) q52.2 t53 q52.1).map fun h => (udf,h)).bind fun q54 =>
loop zr6_parse_c0 zr6_parse_l0 (1::σ) (envL [(2,x2),(6,x6),(7,(.p (.int .i64 x7))),(8,x8),(9,(.p (.int .i64 (IntKind.wrap .i64 (x9 + 2)))))]) q54.2))))))
else (
some ((.exit 3),(envL [(6,x6),(8,x8)]),h)):=by kernel_rfl
theorem zr6_parse_a0_3 (x6 : V) (x8 : V) (h : H) : zr6_parse_k0 rec loop σ (.exit 3) (envL [(6,x6),(8,x8)]) h =
(ldO true 10 h x8).bind fun t55 =>
((stO false 10 (1::0::1::1::1::1::0::σ) h x6 t55).map fun h => (udf,h)).bind fun q56 =>
((ldO true 10 q56.2 x6).bind fun t57 => (some []).map (t57::·)).bind fun t58 => fin false σ q56.2 t58:=by kernel_rfl
theorem zr6_parse_r1 (x2 : V) (x6 : V) (x7 : Int) (x8 : V) (x11 : Int) (h : H) : cvRound G rec loop zr6_parse_c1 zr6_parse_l1 σ (envL [(2,x2),(6,x6),(7,(.p (.int .i64 x7))),(8,x8),(11,(.p (.int .i64 x11)))]) h =
bif decide ((IntKind.wrap .i64 (x11 + 1)) < x7) then (
(fA x8 4).bind fun t59 =>
(ldO false 1 h t59).bind fun t60 =>
(fA x8 5).bind fun t61 =>
(ldO false 1 h t61).bind fun t62 =>
(callO rec 127 (4::0::1::0::σ) [x2,(.p (.int .i64 x11))] h (some 111)).bind fun q63 =>
(castI .u32 q63.1).bind fun n64 =>
need (ldO false 1 q63.2 t61 = some t62) (
need (ldO false 1 q63.2 t59 = some t60) (
(bSV Try.prog 29 1 [(0,(.p (.int .u32 n64)))]).bind fun t65 =>
(apO true 1 4 (6::0::1::0::σ) 113 q63.2 t60 t65).bind fun q66 =>
need (ldO false 1 q66.2 t61 = some t62) (
(fA x8 4).bind fun t67 =>
(callO rec 127 (12::0::1::0::σ) [x2,(.p (.int .i64 (IntKind.wrap .i64 (x11 + 1))))] q66.2 (some 119)).bind fun q68 =>
(castI .u32 q68.1).bind fun n69 =>
need (ldO false 1 q68.2 t61 = some t62) (
(bSV Try.prog 23 1 [(0,(.p (.int .i64 (IntKind.wrap .i64 (Int.fdiv n69 (2 ^ 24))))))]).bind fun t70 =>
(apO true 1 8 (16::0::1::0::σ) 123 q68.2 t62 t70).bind fun q71 =>
((stO true 1 (18::0::1::0::σ) q71.2 t67 q66.1).map fun h => (udf,h)).bind fun q72 =>
(fA x8 5).bind fun t73 =>
((stO true 1 (20::0::1::0::σ) q72.2 t73 q71.1).map fun h => (udf,h)).bind fun q74 =>
loop zr6_parse_c1 zr6_parse_l1 (1::σ) (envL [(2,x2),(6,x6),(7,(.p (.int .i64 x7))),(8,x8),(11,(.p (.int .i64 (IntKind.wrap .i64 (x11 + 2)))))]) q74.2)))))
else (
some ((.exit 5),(envL [(6,x6),(8,x8)]),h)):=by kernel_rfl
theorem zr6_parse_a1_5 (x6 : V) (x8 : V) (h : H) : zr6_parse_k1 rec loop σ (.exit 5) (envL [(6,x6),(8,x8)]) h =
(ldO true 10 h x8).bind fun t75 =>
((stO false 10 (1::0::1::1::1::1::0::σ) h x6 t75).map fun h => (udf,h)).bind fun q76 =>
((ldO true 10 q76.2 x6).bind fun t77 => (some []).map (t77::·)).bind fun t78 => fin false σ q76.2 t78:=by kernel_rfl
theorem zr6_parse_r2 (x2 : V) (x6 : V) (x7 : Int) (x8 : V) (x13 : Int) (h : H) : cvRound G rec loop zr6_parse_c2 zr6_parse_l2 σ (envL [(2,x2),(6,x6),(7,(.p (.int .i64 x7))),(8,x8),(13,(.p (.int .i64 x13)))]) h =
bif decide (x13 < x7) then (
(fA x8 4).bind fun t79 =>
(ldO false 1 h t79).bind fun t80 =>
(callO rec 127 (4::0::1::0::σ) [x2,(.p (.int .i64 x13))] h (some 40)).bind fun q81 =>
(castI .u32 q81.1).bind fun n82 =>
need (ldO false 1 q81.2 t79 = some t80) (
(bSV Try.prog 29 1 [(0,(.p (.int .u32 n82)))]).bind fun t83 =>
(apO true 1 4 (6::0::1::0::σ) 42 q81.2 t80 t83).bind fun q84 =>
(fA x8 4).bind fun t85 =>
((stO true 1 (8::0::1::0::σ) q84.2 t85 q84.1).map fun h => (udf,h)).bind fun q86 =>
loop zr6_parse_c2 zr6_parse_l2 (1::σ) (envL [(2,x2),(6,x6),(7,(.p (.int .i64 x7))),(8,x8),(13,(.p (.int .i64 (IntKind.wrap .i64 (x13 + 1)))))]) q86.2))
else (
some ((.exit 1),(envL [(6,x6),(8,x8)]),h)):=by kernel_rfl
theorem zr6_parse_a2_1 (x6 : V) (x8 : V) (h : H) : zr6_parse_k2 rec loop σ (.exit 1) (envL [(6,x6),(8,x8)]) h =
(ldO true 10 h x8).bind fun t87 =>
((stO false 10 (1::0::1::1::1::1::0::σ) h x6 t87).map fun h => (udf,h)).bind fun q88 =>
((ldO true 10 q88.2 x6).bind fun t89 => (some []).map (t89::·)).bind fun t90 => fin false σ q88.2 t90:=by kernel_rfl
theorem zr6_word_entry (x0 : V) (x1 : Int) (h : H) : cvBody G rec loop 127 σ [x0,(.p (.int .i64 x1))] h =
(callO rec 90 (3::0::1::0::σ) [x0,(.p (.int .i64 (IntKind.wrap .i64 (4 * x1)))),(.p (.int .i64 4))] (List.replicate 16 []::h) (some 11)).bind fun q1 =>
(extV q1.1 0).bind fun t2 =>
(castI .u64 t2).bind fun n3 =>
(extV q1.1 1).bind fun t4 =>
(asB t4).bind fun b5 =>
fin false σ q1.2 [(.p (.int .u32 (IntKind.wrap .u32 n3)))]:=by kernel_rfl
end
end Go.Ev
namespace Go.Ev
open Go.Proofs
set_option linter.unusedVariables false
set_option linter.unusedSimpArgs false
set_option maxRecDepth 100000
def p_zr6_word (k : Nat) (x0 : (List Int)) (x1 : Int) : Option (Int) :=
(p_zr1_Get k x0 (IntKind.wrap .i64 (4 * x1)) 4).bind fun r1 =>
some ((IntKind.wrap .u32 r1.1))
theorem zr6_word_ok (k : Nat) {h : H} {σ : Stamp} (x0 : List Int) {u0 : V} (hu0 : SlH h (dI .u8) x0 u0) (x1 : Int) : Sim (p_zr6_word k x0 x1) (ev G X0 127 σ [u0,(.p (.int .i64 x1))] h) (fun r s => s = ([.v (.p (.int .u32 r))],h)):=by
  refine Sim.ev rfl (Sim.ext (zr6_word_entry _ _ _ _ _ _) ?_)
  rw [p_zr6_word]
  have S0 : Fm 16 h [] [] [] (List.replicate 16 []::h):=Fm.start0
  refine Sim.call (zr1_Get_ok k x0 (S0.low hu0) (IntKind.wrap .i64 (4 * x1)) 4) fun r1 cs2 H3 h4 q5 => ?_
  cases q5
  refine Sim.or ?_
  refine Sim.ci ?_
  refine Sim.or ?_
  refine Sim.ab ?_
  exact Sim.fin (S0.finN (lC (sI _ _).lv lN)) rfl
def p_zr6_parse_l0 {β : Type} (k : Nat) (kE0 : TaiReport→TaiReport→Option β) (x2 : (List Int)) (x7 : Int) (x9 : Int) (yg4 : TaiReport) (yg13 : TaiReport) : Option β:=match k with
| 0 => none
| k + 1 =>
bif decide ((IntKind.wrap .i64 (x9 + 1)) < x7) then (
(p_zr6_word k x2 (IntKind.wrap .i64 (x9 + 1))).bind fun r72 =>
(p_zr6_word k x2 x9).bind fun r77 =>
(p_zr1_Open (IntKind.wrap .i64 (Int.fdiv r72 (2 ^ 26))) (intBits .and .u32 (Int.fdiv r72 (2 ^ 9)) 131071) 17).bind fun r82 =>
(ap 24 yg13.Tuples ([((⟨r77,r82,(IntKind.wrap .i64 (intBits .and .u32 r72 511))⟩ : TaiTuple))])).bind fun a88 =>
p_zr6_parse_l0 k kE0 x2 x7 (IntKind.wrap .i64 (x9 + 2)) yg4 ((⟨yg13.Kind,yg13.From,yg13.About,a88,yg13.Abouts,yg13.Numbers,yg13.Rate,yg13.f_Type,yg13.Count,yg13.Body⟩ : TaiReport)))
else (
kE0 yg4 yg13)
def p_zr6_parse_l1 {β : Type} (k : Nat) (kE0 : TaiReport→TaiReport→Option β) (x2 : (List Int)) (x7 : Int) (x11 : Int) (yg4 : TaiReport) (yg13 : TaiReport) : Option β:=match k with
| 0 => none
| k + 1 =>
bif decide ((IntKind.wrap .i64 (x11 + 1)) < x7) then (
(p_zr6_word k x2 x11).bind fun r210 =>
(ap 4 yg13.Abouts ([r210])).bind fun a216 =>
(p_zr6_word k x2 (IntKind.wrap .i64 (x11 + 1))).bind fun r224 =>
(ap 8 yg13.Numbers ([(IntKind.wrap .i64 (Int.fdiv r224 (2 ^ 24)))])).bind fun a230 =>
p_zr6_parse_l1 k kE0 x2 x7 (IntKind.wrap .i64 (x11 + 2)) yg4 ((⟨yg13.Kind,yg13.From,yg13.About,yg13.Tuples,a216,a230,yg13.Rate,yg13.f_Type,yg13.Count,yg13.Body⟩ : TaiReport)))
else (
kE0 yg4 yg13)
def p_zr6_parse_l2 {β : Type} (k : Nat) (kE0 : TaiReport→TaiReport→Option β) (x2 : (List Int)) (x7 : Int) (x13 : Int) (yg4 : TaiReport) (yg13 : TaiReport) : Option β:=match k with
| 0 => none
| k + 1 =>
bif decide (x13 < x7) then (
(p_zr6_word k x2 x13).bind fun r358 =>
(ap 4 yg13.Abouts ([r358])).bind fun a364 =>
p_zr6_parse_l2 k kE0 x2 x7 (IntKind.wrap .i64 (x13 + 1)) yg4 ((⟨yg13.Kind,yg13.From,yg13.About,yg13.Tuples,a364,yg13.Numbers,yg13.Rate,yg13.f_Type,yg13.Count,yg13.Body⟩ : TaiReport)))
else (
kE0 yg4 yg13)
def p_zr6_parse (k : Nat) (x0 : Int) (x1 : Int) (x2 : (List Int)) : Option (TaiReport) :=
(p_zr6_word k x2 0).bind fun r5 =>
(p_zr6_known x0 x1).bind fun r17 =>
bif !r17 then (
(ap 1 (([] : List Int)) x2).bind fun a26 =>
some (((⟨6,0,0,(([] : List TaiTuple)),(([] : List Int)),(([] : List Int)),0,x0,x1,a26⟩ : TaiReport))))
else (
bif x0 == 205 then (
p_zr6_parse_l0 k (fun yg59 yg70 =>
some (yg70)) x2 (IntKind.wrap .i64 (Int.tdiv ((x2.length : Int)) 4)) 2 ((⟨0,0,0,(([] : List TaiTuple)),(([] : List Int)),(([] : List Int)),0,0,0,(([] : List Int))⟩ : TaiReport)) ((⟨(IntKind.wrap .i64 (x1 - 2)),r5,0,(([] : List TaiTuple)),(([] : List Int)),(([] : List Int)),0,0,0,(([] : List Int))⟩ : TaiReport)))
else (
bif x1 == 1 then (
(p_zr6_word k x2 1).bind fun r164 =>
some (((⟨3,r5,r164,(([] : List TaiTuple)),(([] : List Int)),(([] : List Int)),0,0,0,(([] : List Int))⟩ : TaiReport))))
else (
bif x1 == 4 then (
p_zr6_parse_l1 k (fun yg196 yg208 =>
some (yg208)) x2 (IntKind.wrap .i64 (Int.tdiv ((x2.length : Int)) 4)) 2 ((⟨0,0,0,(([] : List TaiTuple)),(([] : List Int)),(([] : List Int)),0,0,0,(([] : List Int))⟩ : TaiReport)) ((⟨4,r5,0,(([] : List TaiTuple)),(([] : List Int)),(([] : List Int)),0,0,0,(([] : List Int))⟩ : TaiReport)))
else (
(p_zr6_word k x2 3).bind fun r319 =>
(p_zr1_Open (IntKind.wrap .i64 (intBits .and .u32 (Int.fdiv r319 (2 ^ 18)) 63)) (intBits .and .u32 r319 262143) 18).bind fun r324 =>
p_zr6_parse_l2 k (fun yg345 yg356 =>
some (yg356)) x2 (IntKind.wrap .i64 (Int.tdiv ((x2.length : Int)) 4)) 4 ((⟨0,0,0,(([] : List TaiTuple)),(([] : List Int)),(([] : List Int)),0,0,0,(([] : List Int))⟩ : TaiReport)) ((⟨5,r5,0,(([] : List TaiTuple)),(([] : List Int)),(([] : List Int)),r324,0,0,(([] : List Int))⟩ : TaiReport))))))
theorem zr6_parse_l0_ok {h : H}  {β α : Type} {Q : β→α→Prop} {K : Exit × Env × H→Option α} {kE0 : TaiReport→TaiReport→Option β} (hE0 : ∀ (yg59 : TaiReport) (yg70 : TaiReport) (v104 : V) (h105 : SlF dTaiTuple yg59.Tuples v104) (v106 : V) (h107 : SlF (dI .u32) yg59.Abouts v106) (v108 : V) (h109 : SlF (dI .i64) yg59.Numbers v108) (v110 : V) (h111 : SlF (dI .u8) yg59.Body v110) (s112 : Stamp) (c114 : C) (h115 : SoC dTaiTuple yg70.Tuples c114) (h116 : ∀ v,c114 = .v v→v = .p (.slice none 0 0) ∨ v = .fz [] 0 3 true) (v117 : V) (h118 : SlF (dI .u32) yg70.Abouts v117) (v119 : V) (h120 : SlF (dI .i64) yg70.Numbers v119) (v121 : V) (h122 : SlF (dI .u8) yg70.Body v121) (s123 : Stamp) (H102 : Go.Ev.H) (_ : Fm 127 h [] [(6,s112,List.map C.v [(.p (.int .i64 yg59.Kind)),(.p (.int .u32 yg59.From)),(.p (.int .u32 yg59.About)),v104,v106,v108,(.p (.int .u64 yg59.Rate)),(.p (.int .i64 yg59.f_Type)),(.p (.int .i64 yg59.Count)),v110]),(8,s123,[.v (.p (.int .i64 yg70.Kind)),.v (.p (.int .u32 yg70.From)),.v (.p (.int .u32 yg70.About)),c114,.v v117,.v v119,.v (.p (.int .u64 yg70.Rate)),.v (.p (.int .i64 yg70.f_Type)),.v (.p (.int .i64 yg70.Count)),.v v121])] [] H102),Sim (kE0 yg59 yg70) (K ((.exit 3),(envL [(6,(.ref ⟨h.length,6,0,s112,[]⟩ 0)),(8,(.ref ⟨h.length,8,0,s123,[]⟩ 0))]),H102)) Q) (k : Nat) : ∀ (x2 : (List Int)) (x7 : Int) (x9 : Int) (yg4 : TaiReport) (yg13 : TaiReport) (v48 : V) (h49 : SlH h (dI .u8) x2 v48) (v50 : V) (h51 : SlF dTaiTuple yg4.Tuples v50) (v52 : V) (h53 : SlF (dI .u32) yg4.Abouts v52) (v54 : V) (h55 : SlF (dI .i64) yg4.Numbers v54) (v56 : V) (h57 : SlF (dI .u8) yg4.Body v56) (s58 : Stamp) (c60 : C) (h61 : SoC dTaiTuple yg13.Tuples c60) (h62 : ∀ v,c60 = .v v→v = .p (.slice none 0 0) ∨ v = .fz [] 0 3 true) (v63 : V) (h64 : SlF (dI .u32) yg13.Abouts v63) (v65 : V) (h66 : SlF (dI .i64) yg13.Numbers v65) (v67 : V) (h68 : SlF (dI .u8) yg13.Body v67) (s69 : Stamp) (H46 : Go.Ev.H) (_ : Fm 127 h [] [(6,s58,List.map C.v [(.p (.int .i64 yg4.Kind)),(.p (.int .u32 yg4.From)),(.p (.int .u32 yg4.About)),v50,v52,v54,(.p (.int .u64 yg4.Rate)),(.p (.int .i64 yg4.f_Type)),(.p (.int .i64 yg4.Count)),v56]),(8,s69,[.v (.p (.int .i64 yg13.Kind)),.v (.p (.int .u32 yg13.From)),.v (.p (.int .u32 yg13.About)),c60,.v v63,.v v65,.v (.p (.int .u64 yg13.Rate)),.v (.p (.int .i64 yg13.f_Type)),.v (.p (.int .i64 yg13.Count)),.v v67])] [] H46) {σ : Stamp},Sim (p_zr6_parse_l0 k kE0 x2 x7 x9 yg4 yg13) ((cvL G X0 zr6_parse_c0 zr6_parse_l0 σ (envL [(2,v48),(6,(.ref ⟨h.length,6,0,s58,[]⟩ 0)),(7,(.p (.int .i64 x7))),(8,(.ref ⟨h.length,8,0,s69,[]⟩ 0)),(9,(.p (.int .i64 x9)))]) H46).bind K) Q:=by
  induction k with
  | zero => intros; exact Sim.no
  | succ k ih =>
    intro x2 x7 x9 yg4 yg13 v48 h49 v50 h51 v52 h53 v54 h55 v56 h57 s58 c60 h61 h62 v63 h64 v65 h66 v67 h68 s69 H46 S47 σ
    rw [p_zr6_parse_l0]
    refine Sim.round (Sim.ext (zr6_parse_r0 _ _ _ _ _ _ _ _ _) ?_)
    refine Sim.cq ?_ ?_
    · refine Sim.call (zr6_word_ok k x2 (S47.low h49) (IntKind.wrap .i64 (x9 + 1))) fun r72 cs73 H74 h75 q76 => ?_
      cases q76
      refine Sim.ci ?_
      refine Sim.fa ?_
      refine Sim.op (h61.ld (S47.atG (i:=1) rfl) (j:=3) rfl) ?_
      refine Sim.call (zr6_word_ok k x2 (S47.low h49) x9) fun r77 cs78 H79 h80 q81 => ?_
      cases q81
      refine Sim.ci ?_
      refine Sim.nd (rfl) ?_
      refine Sim.nd (rfl) ?_
      refine Sim.nd (h61.ld (S47.atG (i:=1) rfl) (j:=3) rfl) ?_
      refine Sim.call (zr1_Open_ok (IntKind.wrap .i64 (Int.fdiv r72 (2 ^ 26))) (intBits .and .u32 (Int.fdiv r72 (2 ^ 9)) 131071) 17) fun r82 cs83 H84 h85 q86 => ?_
      cases q86
      refine Sim.ci ?_
      refine Sim.nd (rfl) ?_
      refine Sim.nd (h61.ld (S47.atG (i:=1) rfl) (j:=3) rfl) ?_
      refine Sim.op (bldV (pC rfl (pC rfl (pC rfl pN))) (by kernel_rfl : _ = some (.agg [.p (.int .u32 r77),.p (.int .u64 r82),.p (.int .i64 (IntKind.wrap .i64 (intBits .and .u32 r72 511)))]))) ?_
      have h87 : SlF dTaiTuple [((⟨r77,r82,(IntKind.wrap .i64 (intBits .and .u32 r72 511))⟩ : TaiTuple))] (.fz [(.p (.int .u32 r77)),(.p (.int .u64 r82)),(.p (.int .i64 (IntKind.wrap .i64 (intBits .and .u32 r72 511))))] 1 3 true):=SlF.lit (cs:=[(.p (.int .u32 r77)),(.p (.int .u64 r82)),(.p (.int .i64 (IntKind.wrap .i64 (intBits .and .u32 r72 511))))]) (RL.cons (show dTaiTuple.R ((⟨r77,r82,(IntKind.wrap .i64 (intBits .and .u32 r72 511))⟩ : TaiTuple)) [.p (.int .u32 r77),.p (.int .u64 r82),.p (.int .i64 (IntKind.wrap .i64 (intBits .and .u32 r72 511)))] from (dTaiTuple.mk)) RL.nil) rfl rfl true
      refine Sim.op (bldS (pC (c:=[.p (.int .u32 r77),.p (.int .u64 r82),.p (.int .i64 (IntKind.wrap .i64 (intBits .and .u32 r72 511)))]) rfl pN) (by kernel_rfl : _ = some (vOf h87))) ?_
      refine Sim.bd fun a88 h89 => ?_
      obtain ⟨v90,c91,H92,e93,S94⟩:=S47.appG (i:=1) (j:=3) (d:=88) (e:=3) (own:=false) (σ:=(17::1::0::1::0::σ)) rfl rfl h61 h62 (h87.h H46).y h89 (by simp) rfl (by decide) (by decide) rfl rfl
      refine Sim.op (e93) ?_
      refine Sim.fa ?_
      obtain ⟨c99,H96,e97,h100,h101,S98⟩:=S94.mvG (i:=1) (j:=3) (k:=0) (σ:=(19::1::0::1::0::σ)) rfl rfl rfl rfl rfl rfl
      refine Sim.op (sM e97) ?_
      exact ih x2 x7 (IntKind.wrap .i64 (x9 + 2)) yg4 ((⟨yg13.Kind,yg13.From,yg13.About,a88,yg13.Abouts,yg13.Numbers,yg13.Rate,yg13.f_Type,yg13.Count,yg13.Body⟩ : TaiReport)) v48 h49 v50 h51 v52 h53 v54 h55 v56 h57 s58 c99 h100 h101 v63 h64 v65 h66 v67 h68 s69 H96 (S98.wk2 (aC (aM 0 rfl) (aC (aM 1 rfl) aN)) aN)
    exact hE0 yg4 yg13 v50 h51 v52 h53 v54 h55 v56 h57 s58 c60 h61 h62 v63 h64 v65 h66 v67 h68 s69 H46 (S47.wk2 (aC (aM 0 rfl) (aC (aM 1 rfl) aN)) aN)
theorem zr6_parse_l1_ok {h : H}  {β α : Type} {Q : β→α→Prop} {K : Exit × Env × H→Option α} {kE0 : TaiReport→TaiReport→Option β} (hE0 : ∀ (yg196 : TaiReport) (yg208 : TaiReport) (v252 : V) (h253 : SlF dTaiTuple yg196.Tuples v252) (v254 : V) (h255 : SlF (dI .u32) yg196.Abouts v254) (v256 : V) (h257 : SlF (dI .i64) yg196.Numbers v256) (v258 : V) (h259 : SlF (dI .u8) yg196.Body v258) (s260 : Stamp) (v262 : V) (h263 : SlF dTaiTuple yg208.Tuples v262) (c264 : C) (h265 : SoC (dI .u32) yg208.Abouts c264) (h266 : ∀ v,c264 = .v v→v = .p (.slice none 0 0) ∨ v = .fz [] 0 1 true) (c267 : C) (h268 : SoC (dI .i64) yg208.Numbers c267) (h269 : ∀ v,c267 = .v v→v = .p (.slice none 0 0) ∨ v = .fz [] 0 1 true) (v270 : V) (h271 : SlF (dI .u8) yg208.Body v270) (s272 : Stamp) (H250 : Go.Ev.H) (_ : Fm 127 h [] [(6,s260,List.map C.v [(.p (.int .i64 yg196.Kind)),(.p (.int .u32 yg196.From)),(.p (.int .u32 yg196.About)),v252,v254,v256,(.p (.int .u64 yg196.Rate)),(.p (.int .i64 yg196.f_Type)),(.p (.int .i64 yg196.Count)),v258]),(8,s272,[.v (.p (.int .i64 yg208.Kind)),.v (.p (.int .u32 yg208.From)),.v (.p (.int .u32 yg208.About)),.v v262,c264,c267,.v (.p (.int .u64 yg208.Rate)),.v (.p (.int .i64 yg208.f_Type)),.v (.p (.int .i64 yg208.Count)),.v v270])] [] H250),Sim (kE0 yg196 yg208) (K ((.exit 5),(envL [(6,(.ref ⟨h.length,6,0,s260,[]⟩ 0)),(8,(.ref ⟨h.length,8,0,s272,[]⟩ 0))]),H250)) Q) (k : Nat) : ∀ (x2 : (List Int)) (x7 : Int) (x11 : Int) (yg4 : TaiReport) (yg13 : TaiReport) (v185 : V) (h186 : SlH h (dI .u8) x2 v185) (v187 : V) (h188 : SlF dTaiTuple yg4.Tuples v187) (v189 : V) (h190 : SlF (dI .u32) yg4.Abouts v189) (v191 : V) (h192 : SlF (dI .i64) yg4.Numbers v191) (v193 : V) (h194 : SlF (dI .u8) yg4.Body v193) (s195 : Stamp) (v197 : V) (h198 : SlF dTaiTuple yg13.Tuples v197) (c199 : C) (h200 : SoC (dI .u32) yg13.Abouts c199) (h201 : ∀ v,c199 = .v v→v = .p (.slice none 0 0) ∨ v = .fz [] 0 1 true) (c202 : C) (h203 : SoC (dI .i64) yg13.Numbers c202) (h204 : ∀ v,c202 = .v v→v = .p (.slice none 0 0) ∨ v = .fz [] 0 1 true) (v205 : V) (h206 : SlF (dI .u8) yg13.Body v205) (s207 : Stamp) (H183 : Go.Ev.H) (_ : Fm 127 h [] [(6,s195,List.map C.v [(.p (.int .i64 yg4.Kind)),(.p (.int .u32 yg4.From)),(.p (.int .u32 yg4.About)),v187,v189,v191,(.p (.int .u64 yg4.Rate)),(.p (.int .i64 yg4.f_Type)),(.p (.int .i64 yg4.Count)),v193]),(8,s207,[.v (.p (.int .i64 yg13.Kind)),.v (.p (.int .u32 yg13.From)),.v (.p (.int .u32 yg13.About)),.v v197,c199,c202,.v (.p (.int .u64 yg13.Rate)),.v (.p (.int .i64 yg13.f_Type)),.v (.p (.int .i64 yg13.Count)),.v v205])] [] H183) {σ : Stamp},Sim (p_zr6_parse_l1 k kE0 x2 x7 x11 yg4 yg13) ((cvL G X0 zr6_parse_c1 zr6_parse_l1 σ (envL [(2,v185),(6,(.ref ⟨h.length,6,0,s195,[]⟩ 0)),(7,(.p (.int .i64 x7))),(8,(.ref ⟨h.length,8,0,s207,[]⟩ 0)),(11,(.p (.int .i64 x11)))]) H183).bind K) Q:=by
  induction k with
  | zero => intros; exact Sim.no
  | succ k ih =>
    intro x2 x7 x11 yg4 yg13 v185 h186 v187 h188 v189 h190 v191 h192 v193 h194 s195 v197 h198 c199 h200 h201 c202 h203 h204 v205 h206 s207 H183 S184 σ
    rw [p_zr6_parse_l1]
    refine Sim.round (Sim.ext (zr6_parse_r1 _ _ _ _ _ _ _ _ _) ?_)
    refine Sim.cq ?_ ?_
    · refine Sim.fa ?_
      refine Sim.op (h200.ld (S184.atG (i:=1) rfl) (j:=4) rfl) ?_
      refine Sim.fa ?_
      refine Sim.op (h203.ld (S184.atG (i:=1) rfl) (j:=5) rfl) ?_
      refine Sim.call (zr6_word_ok k x2 (S184.low h186) x11) fun r210 cs211 H212 h213 q214 => ?_
      cases q214
      refine Sim.ci ?_
      refine Sim.nd (h203.ld (S184.atG (i:=1) rfl) (j:=5) rfl) ?_
      refine Sim.nd (h200.ld (S184.atG (i:=1) rfl) (j:=4) rfl) ?_
      have h215:=SlF.int1 .u32 r210
      refine Sim.op (bldS (pC rfl pN) (by kernel_rfl : _ = some (vOf h215))) ?_
      refine Sim.bd fun a216 h217 => ?_
      obtain ⟨v218,c219,H220,e221,S222⟩:=S184.appG (i:=1) (j:=4) (d:=113) (e:=1) (own:=true) (σ:=(6::0::1::0::σ)) rfl rfl h200 h201 (h215.h H183).y h217 (by simp) rfl (by decide) (by decide) rfl rfl
      refine Sim.op (e221) ?_
      refine Sim.nd (h203.ld (S222.atG (i:=1) rfl) (j:=5) rfl) ?_
      refine Sim.fa ?_
      refine Sim.call (zr6_word_ok k x2 (S222.low h186) (IntKind.wrap .i64 (x11 + 1))) fun r224 cs225 H226 h227 q228 => ?_
      cases q228
      refine Sim.ci ?_
      refine Sim.nd (h203.ld (S222.atG (i:=1) rfl) (j:=5) rfl) ?_
      have h229:=SlF.int1 .i64 (IntKind.wrap .i64 (Int.fdiv r224 (2 ^ 24)))
      refine Sim.op (bldS (pC rfl pN) (by kernel_rfl : _ = some (vOf h229))) ?_
      refine Sim.bd fun a230 h231 => ?_
      obtain ⟨v232,c233,H234,e235,S236⟩:=S222.appG (i:=1) (j:=5) (d:=123) (e:=1) (own:=true) (σ:=(16::0::1::0::σ)) rfl rfl h203 h204 (h229.h H220).y h231 (by simp) rfl (by decide) (by decide) rfl rfl
      refine Sim.op (e235) ?_
      obtain ⟨c241,H238,e239,h242,h243,S240⟩:=S236.mvG (i:=1) (j:=4) (k:=1) (σ:=(18::0::1::0::σ)) rfl rfl rfl rfl rfl rfl
      refine Sim.op (sM e239) ?_
      refine Sim.fa ?_
      obtain ⟨c247,H244,e245,h248,h249,S246⟩:=S240.mvG (i:=1) (j:=5) (k:=0) (σ:=(20::0::1::0::σ)) rfl rfl rfl rfl rfl rfl
      refine Sim.op (sM e245) ?_
      exact ih x2 x7 (IntKind.wrap .i64 (x11 + 2)) yg4 ((⟨yg13.Kind,yg13.From,yg13.About,yg13.Tuples,a216,a230,yg13.Rate,yg13.f_Type,yg13.Count,yg13.Body⟩ : TaiReport)) v185 h186 v187 h188 v189 h190 v191 h192 v193 h194 s195 v197 h198 c241 h242 h243 c247 h248 h249 v205 h206 s207 H244 (S246.wk2 (aC (aM 0 rfl) (aC (aM 1 rfl) aN)) aN)
    exact hE0 yg4 yg13 v187 h188 v189 h190 v191 h192 v193 h194 s195 v197 h198 c199 h200 h201 c202 h203 h204 v205 h206 s207 H183 (S184.wk2 (aC (aM 0 rfl) (aC (aM 1 rfl) aN)) aN)
theorem zr6_parse_l2_ok {h : H}  {β α : Type} {Q : β→α→Prop} {K : Exit × Env × H→Option α} {kE0 : TaiReport→TaiReport→Option β} (hE0 : ∀ (yg345 : TaiReport) (yg356 : TaiReport) (v380 : V) (h381 : SlF dTaiTuple yg345.Tuples v380) (v382 : V) (h383 : SlF (dI .u32) yg345.Abouts v382) (v384 : V) (h385 : SlF (dI .i64) yg345.Numbers v384) (v386 : V) (h387 : SlF (dI .u8) yg345.Body v386) (s388 : Stamp) (v390 : V) (h391 : SlF dTaiTuple yg356.Tuples v390) (c392 : C) (h393 : SoC (dI .u32) yg356.Abouts c392) (h394 : ∀ v,c392 = .v v→v = .p (.slice none 0 0) ∨ v = .fz [] 0 1 true) (v395 : V) (h396 : SlF (dI .i64) yg356.Numbers v395) (v397 : V) (h398 : SlF (dI .u8) yg356.Body v397) (s399 : Stamp) (H378 : Go.Ev.H) (_ : Fm 127 h [] [(6,s388,List.map C.v [(.p (.int .i64 yg345.Kind)),(.p (.int .u32 yg345.From)),(.p (.int .u32 yg345.About)),v380,v382,v384,(.p (.int .u64 yg345.Rate)),(.p (.int .i64 yg345.f_Type)),(.p (.int .i64 yg345.Count)),v386]),(8,s399,[.v (.p (.int .i64 yg356.Kind)),.v (.p (.int .u32 yg356.From)),.v (.p (.int .u32 yg356.About)),.v v390,c392,.v v395,.v (.p (.int .u64 yg356.Rate)),.v (.p (.int .i64 yg356.f_Type)),.v (.p (.int .i64 yg356.Count)),.v v397])] [] H378),Sim (kE0 yg345 yg356) (K ((.exit 1),(envL [(6,(.ref ⟨h.length,6,0,s388,[]⟩ 0)),(8,(.ref ⟨h.length,8,0,s399,[]⟩ 0))]),H378)) Q) (k : Nat) : ∀ (x2 : (List Int)) (x7 : Int) (x13 : Int) (yg4 : TaiReport) (yg13 : TaiReport) (v334 : V) (h335 : SlH h (dI .u8) x2 v334) (v336 : V) (h337 : SlF dTaiTuple yg4.Tuples v336) (v338 : V) (h339 : SlF (dI .u32) yg4.Abouts v338) (v340 : V) (h341 : SlF (dI .i64) yg4.Numbers v340) (v342 : V) (h343 : SlF (dI .u8) yg4.Body v342) (s344 : Stamp) (v346 : V) (h347 : SlF dTaiTuple yg13.Tuples v346) (c348 : C) (h349 : SoC (dI .u32) yg13.Abouts c348) (h350 : ∀ v,c348 = .v v→v = .p (.slice none 0 0) ∨ v = .fz [] 0 1 true) (v351 : V) (h352 : SlF (dI .i64) yg13.Numbers v351) (v353 : V) (h354 : SlF (dI .u8) yg13.Body v353) (s355 : Stamp) (H332 : Go.Ev.H) (_ : Fm 127 h [] [(6,s344,List.map C.v [(.p (.int .i64 yg4.Kind)),(.p (.int .u32 yg4.From)),(.p (.int .u32 yg4.About)),v336,v338,v340,(.p (.int .u64 yg4.Rate)),(.p (.int .i64 yg4.f_Type)),(.p (.int .i64 yg4.Count)),v342]),(8,s355,[.v (.p (.int .i64 yg13.Kind)),.v (.p (.int .u32 yg13.From)),.v (.p (.int .u32 yg13.About)),.v v346,c348,.v v351,.v (.p (.int .u64 yg13.Rate)),.v (.p (.int .i64 yg13.f_Type)),.v (.p (.int .i64 yg13.Count)),.v v353])] [] H332) {σ : Stamp},Sim (p_zr6_parse_l2 k kE0 x2 x7 x13 yg4 yg13) ((cvL G X0 zr6_parse_c2 zr6_parse_l2 σ (envL [(2,v334),(6,(.ref ⟨h.length,6,0,s344,[]⟩ 0)),(7,(.p (.int .i64 x7))),(8,(.ref ⟨h.length,8,0,s355,[]⟩ 0)),(13,(.p (.int .i64 x13)))]) H332).bind K) Q:=by
  induction k with
  | zero => intros; exact Sim.no
  | succ k ih =>
    intro x2 x7 x13 yg4 yg13 v334 h335 v336 h337 v338 h339 v340 h341 v342 h343 s344 v346 h347 c348 h349 h350 v351 h352 v353 h354 s355 H332 S333 σ
    rw [p_zr6_parse_l2]
    refine Sim.round (Sim.ext (zr6_parse_r2 _ _ _ _ _ _ _ _ _) ?_)
    refine Sim.cq ?_ ?_
    · refine Sim.fa ?_
      refine Sim.op (h349.ld (S333.atG (i:=1) rfl) (j:=4) rfl) ?_
      refine Sim.call (zr6_word_ok k x2 (S333.low h335) x13) fun r358 cs359 H360 h361 q362 => ?_
      cases q362
      refine Sim.ci ?_
      refine Sim.nd (h349.ld (S333.atG (i:=1) rfl) (j:=4) rfl) ?_
      have h363:=SlF.int1 .u32 r358
      refine Sim.op (bldS (pC rfl pN) (by kernel_rfl : _ = some (vOf h363))) ?_
      refine Sim.bd fun a364 h365 => ?_
      obtain ⟨v366,c367,H368,e369,S370⟩:=S333.appG (i:=1) (j:=4) (d:=42) (e:=1) (own:=true) (σ:=(6::0::1::0::σ)) rfl rfl h349 h350 (h363.h H332).y h365 (by simp) rfl (by decide) (by decide) rfl rfl
      refine Sim.op (e369) ?_
      refine Sim.fa ?_
      obtain ⟨c375,H372,e373,h376,h377,S374⟩:=S370.mvG (i:=1) (j:=4) (k:=0) (σ:=(8::0::1::0::σ)) rfl rfl rfl rfl rfl rfl
      refine Sim.op (sM e373) ?_
      exact ih x2 x7 (IntKind.wrap .i64 (x13 + 1)) yg4 ((⟨yg13.Kind,yg13.From,yg13.About,yg13.Tuples,a364,yg13.Numbers,yg13.Rate,yg13.f_Type,yg13.Count,yg13.Body⟩ : TaiReport)) v334 h335 v336 h337 v338 h339 v340 h341 v342 h343 s344 v346 h347 c375 h376 h377 v351 h352 v353 h354 s355 H372 (S374.wk2 (aC (aM 0 rfl) (aC (aM 1 rfl) aN)) aN)
    exact hE0 yg4 yg13 v336 h337 v338 h339 v340 h341 v342 h343 s344 v346 h347 c348 h349 h350 v351 h352 v353 h354 s355 H332 (S333.wk2 (aC (aM 0 rfl) (aC (aM 1 rfl) aN)) aN)
theorem zr6_parse_ok (k : Nat) {h : H} {σ : Stamp} (x0 : Int) (x1 : Int) (x2 : List Int) {u2 : V} (hu2 : SlH h (dI .u8) x2 u2) : Sim (p_zr6_parse k x0 x1 x2) (ev G X0 92 σ [(.p (.int .i64 x0)),(.p (.int .i64 x1)),u2] h) (fun r s => ∃ (w0 : List V),dTaiReport.R r w0∧s = ([.v (.agg w0)],h)):=by
  refine Sim.ev rfl (Sim.ext (zr6_parse_entry _ _ _ _ _ _ _) ?_)
  rw [p_zr6_parse]
  have S0 : Fm 127 h [] [] [] (List.replicate 127 []::h):=Fm.start0
  obtain ⟨H1,e2,S3⟩:=S0.al (d:=6) (s:=(0::0::0::σ)) (z:=[(.p (.int .i64 0)),(.p (.int .u32 0)),(.p (.int .u32 0)),(.p (.slice none 0 0)),(.p (.slice none 0 0)),(.p (.slice none 0 0)),(.p (.int .u64 0)),(.p (.int .i64 0)),(.p (.int .i64 0)),(.p (.slice none 0 0))]) (by decide) rfl
  refine Sim.op (congrArg some e2) ?_
  refine Sim.op ((S3.low hu2).len) ?_
  refine Sim.ci ?_
  refine Sim.call (zr6_word_ok k x2 (S3.low hu2) 0) fun r5 cs6 H7 h8 q9 => ?_
  cases q9
  refine Sim.ci ?_
  refine Sim.op (bldV (pC rfl pN) (by kernel_rfl : _ = some (.agg [.p (.int .i64 0),.p (.int .u32 r5),.p (.int .u32 0),.p (.slice none 0 0),.p (.slice none 0 0),.p (.slice none 0 0),.p (.int .u64 0),.p (.int .i64 0),.p (.int .i64 0),.p (.slice none 0 0)]))) ?_
  obtain ⟨H10,e11,S12⟩:=S3.al (d:=8) (s:=(3::0::1::1::0::σ)) (z:=[(.p (.int .i64 0)),(.p (.int .u32 0)),(.p (.int .u32 0)),(.p (.slice none 0 0)),(.p (.slice none 0 0)),(.p (.slice none 0 0)),(.p (.int .u64 0)),(.p (.int .i64 0)),(.p (.int .i64 0)),(.p (.slice none 0 0))]) (by decide) rfl
  refine Sim.op (congrArg some e11) ?_
  obtain ⟨H14,e15,S16⟩:=S12.stGv (i:=0) (j:=0) (own:=false) (σ:=(4::0::1::1::0::σ)) (xs:=[.p (.int .i64 0),.p (.int .u32 r5),.p (.int .u32 0),.p (.slice none 0 0),.p (.slice none 0 0),.p (.slice none 0 0),.p (.int .u64 0),.p (.int .i64 0),.p (.int .i64 0),.p (.slice none 0 0)]) rfl rfl (sC (sI _ _) (sC (sI _ _) (sC (sI _ _) (sC (SlF.nil dTaiTuple).still (sC (SlF.nil (dI .u32)).still (sC (SlF.nil (dI .i64)).still (sC (sI _ _) (sC (sI _ _) (sC (sI _ _) (sC (SlF.nil (dI .u8)).still sN)))))))))) rfl rfl
  refine Sim.op (sM e15) ?_
  refine Sim.call (zr6_known_ok x0 x1) fun r17 cs18 H19 h20 q21 => ?_
  cases q21
  refine Sim.ab ?_
  refine Sim.cq ?_ ?_
  · have h23 : SlF (dI .u8) ([] : List Int) (.fz [] 0 1 true):=SlF.lit (cs:=[]) RL.nil rfl rfl true
    refine Sim.op (bldS pN (by kernel_rfl : _ = some (vOf h23))) ?_
    have S25:=S16.nil' (dI .u8) [] (e:=1) rfl
    refine Sim.bd fun a26 h27 => ?_
    obtain ⟨v28,H29,e30,S31⟩:=S25.app (i:=0) (d:=53) (e:=1) (own:=true) (σ:=(4::0::1::0::1::1::1::0::σ)) rfl (S25.low hu2).y h27 rfl (by decide) (by decide) rfl
    refine Sim.op (e30) ?_
    obtain ⟨v32,H33,e34,h35,S36⟩:=S31.layD (i:=0) rfl rfl
    have e37 : layCs false H29 [(.p (.int .i64 6)),(.p (.int .u32 0)),(.p (.int .u32 0)),(.p (.slice none 0 0)),(.p (.slice none 0 0)),(.p (.slice none 0 0)),(.p (.int .u64 0)),(.p (.int .i64 x0)),(.p (.int .i64 x1)),v28] = some (List.map C.v [.p (.int .i64 6),.p (.int .u32 0),.p (.int .u32 0),.p (.slice none 0 0),.p (.slice none 0 0),.p (.slice none 0 0),.p (.int .u64 0),.p (.int .i64 x0),.p (.int .i64 x1),v32],H33):=(lc_pl (sI _ _) (lc_pl (sI _ _) (lc_pl (sI _ _) (lc_pl (SlF.nil dTaiTuple).still (lc_pl (SlF.nil (dI .u32)).still (lc_pl (SlF.nil (dI .i64)).still (lc_pl (sI _ _) (lc_pl (sI _ _) (lc_pl (sI _ _) (lc_st e34 lc_nil))))))))))
    refine Sim.op (bldV (pC rfl (pC rfl (pC rfl (pC (S31.cellsD (i:=0) rfl) pN)))) (by kernel_rfl : _ = some (.agg [(.p (.int .i64 6)),(.p (.int .u32 0)),(.p (.int .u32 0)),(.p (.slice none 0 0)),(.p (.slice none 0 0)),(.p (.slice none 0 0)),(.p (.int .u64 0)),(.p (.int .i64 x0)),(.p (.int .i64 x1)),v28]))) ?_
    obtain ⟨H38,e39,S40⟩:=Fm.stFrz (S0:=S31) (i0:=1) (i:=1) (j:=0) (n:=10) (σ:=(6::0::1::0::1::1::1::0::σ)) S36 rfl e37 rfl rfl (show List.length [(.p (.int .i64 6)),(.p (.int .u32 0)),(.p (.int .u32 0)),(.p (.slice none 0 0)),(.p (.slice none 0 0)),(.p (.slice none 0 0)),(.p (.int .u64 0)),(.p (.int .i64 x0)),(.p (.int .i64 x1)),v28] = List.length [.p (.int .i64 6),.p (.int .u32 0),.p (.int .u32 0),.p (.slice none 0 0),.p (.slice none 0 0),.p (.slice none 0 0),.p (.int .u64 0),.p (.int .i64 x0),.p (.int .i64 x1),v32] from rfl) rfl rfl
    refine Sim.op (sM e39) ?_
    have e41 : ldO true 10 H38 (.ref ⟨h.length,6,0,(0::0::0::σ),[]⟩ 0) = some (.agg [.p (.int .i64 6),.p (.int .u32 0),.p (.int .u32 0),.p (.slice none 0 0),.p (.slice none 0 0),.p (.slice none 0 0),.p (.int .u64 0),.p (.int .i64 x0),.p (.int .i64 x1),v32]):=(S40.atG (i:=1) rfl).ldVs (j:=0) rfl rfl (by decide)
    refine Sim.op (congrArg (Option.bind · _) e41) ?_
    exact Sim.fin (S40.finN (lC (Stills.lv (dTaiReport.still (dTaiReport.mk (SlF.nil dTaiTuple) (SlF.nil (dI .u32)) (SlF.nil (dI .i64)) h35))) lN)) ⟨_,(dTaiReport.mk (SlF.nil dTaiTuple) (SlF.nil (dI .u32)) (SlF.nil (dI .i64)) h35),rfl⟩
  refine Sim.cq ?_ ?_
  · refine Sim.fa ?_
    obtain ⟨H43,e44,S45⟩:=S16.stG (i:=0) (j:=0) (own:=true) (σ:=(3::0::1::1::0::1::1::1::0::σ)) (x:=(.p (.int .i64 (IntKind.wrap .i64 (x1 - 2))))) rfl rfl (sI _ _) rfl
    refine Sim.op (sM e44) ?_
    refine Sim.as (zr6_parse_l0_ok ?_ k x2 (IntKind.wrap .i64 (Int.tdiv ((x2.length : Int)) 4)) 2 ((⟨0,0,0,(([] : List TaiTuple)),(([] : List Int)),(([] : List Int)),0,0,0,(([] : List Int))⟩ : TaiReport)) ((⟨(IntKind.wrap .i64 (x1 - 2)),r5,0,(([] : List TaiTuple)),(([] : List Int)),(([] : List Int)),0,0,0,(([] : List Int))⟩ : TaiReport)) u2 hu2 (.p (.slice none 0 0)) (SlF.nil dTaiTuple) (.p (.slice none 0 0)) (SlF.nil (dI .u32)) (.p (.slice none 0 0)) (SlF.nil (dI .i64)) (.p (.slice none 0 0)) (SlF.nil (dI .u8)) (0::0::0::σ) (.v (.p (.slice none 0 0))) (SoC.frz (SlF.nil dTaiTuple)) (fun v h => by cases h; simp) (.p (.slice none 0 0)) (SlF.nil (dI .u32)) (.p (.slice none 0 0)) (SlF.nil (dI .i64)) (.p (.slice none 0 0)) (SlF.nil (dI .u8)) (3::0::1::1::0::σ) H43 (S45.wk2 (aC (aM 1 rfl) (aC (aM 0 rfl) aN)) aN))
    · intro yg59 yg70 v128 h129 v130 h131 v132 h133 v134 h135 s136 c138 h139 h140 v141 h142 v143 h144 v145 h146 s147 H126 S127
      refine Sim.ext (zr6_parse_a0_3 _ _ _ _ _ _) ?_
      obtain ⟨v149,h150,h151⟩:=h139.fr
      obtain ⟨w152,H153,h158,e154,e155,e156,S157⟩:=S127.frzV (i:=1) (n:=10) (ys:=[(.p (.int .i64 yg70.Kind)),(.p (.int .u32 yg70.From)),(.p (.int .u32 yg70.About)),v149,v141,v143,(.p (.int .u64 yg70.Rate)),(.p (.int .i64 yg70.f_Type)),(.p (.int .i64 yg70.Count)),v145]) rfl rfl ⟨(FrC.v (sI _ _)),⟨(FrC.v (sI _ _)),⟨(FrC.v (sI _ _)),⟨h150,⟨(FrC.v h142.still),⟨(FrC.v h144.still),⟨(FrC.v (sI _ _)),⟨(FrC.v (sI _ _)),⟨(FrC.v (sI _ _)),⟨(FrC.v h146.still),trivial⟩⟩⟩⟩⟩⟩⟩⟩⟩⟩ rfl (by decide)
      refine Sim.op (e154) ?_
      obtain ⟨H159,e160,S161⟩:=Fm.stFrz (S0:=S127) (i0:=0) (i:=0) (j:=0) (n:=10) (σ:=(1::0::1::1::1::1::0::σ)) S157 rfl e156 rfl rfl h158 rfl rfl
      refine Sim.op (sM e160) ?_
      have e162 : ldO true 10 H159 (.ref ⟨h.length,6,0,s136,[]⟩ 0) = some (.agg [.p (.int .i64 yg70.Kind),.p (.int .u32 yg70.From),.p (.int .u32 yg70.About),v149,v141,v143,.p (.int .u64 yg70.Rate),.p (.int .i64 yg70.f_Type),.p (.int .i64 yg70.Count),v145]):=(S161.atG (i:=0) rfl).ldVs (j:=0) rfl rfl (by decide)
      refine Sim.op (congrArg (Option.bind · _) e162) ?_
      exact Sim.fin (S161.finN (lC (Stills.lv (dTaiReport.still (dTaiReport.mk h151 h142 h144 h146))) lN)) ⟨_,(dTaiReport.mk h151 h142 h144 h146),rfl⟩
  refine Sim.cq ?_ ?_
  · refine Sim.call (zr6_word_ok k x2 (S16.low hu2) 1) fun r164 cs165 H166 h167 q168 => ?_
    cases q168
    refine Sim.ci ?_
    refine Sim.fa ?_
    obtain ⟨H169,e170,S171⟩:=S16.stG (i:=0) (j:=0) (own:=true) (σ:=(3::1::1::1::0::1::1::1::0::σ)) (x:=(.p (.int .i64 3))) rfl rfl (sI _ _) rfl
    refine Sim.op (sM e170) ?_
    refine Sim.fa ?_
    obtain ⟨H172,e173,S174⟩:=S171.stG (i:=0) (j:=2) (own:=true) (σ:=(5::1::1::1::0::1::1::1::0::σ)) (x:=(.p (.int .u32 r164))) rfl rfl (sI _ _) rfl
    refine Sim.op (sM e173) ?_
    refine Sim.op ((S174.atG (i:=0) rfl).ldVs (j:=0) (xs:=[.p (.int .i64 3),.p (.int .u32 r5),.p (.int .u32 r164),.p (.slice none 0 0),.p (.slice none 0 0),.p (.slice none 0 0),.p (.int .u64 0),.p (.int .i64 0),.p (.int .i64 0),.p (.slice none 0 0)]) rfl rfl (by decide)) ?_
    obtain ⟨H175,e176,S177⟩:=S174.stGv (i:=1) (j:=0) (own:=false) (σ:=(1::0::1::1::1::1::0::σ)) (xs:=[.p (.int .i64 3),.p (.int .u32 r5),.p (.int .u32 r164),.p (.slice none 0 0),.p (.slice none 0 0),.p (.slice none 0 0),.p (.int .u64 0),.p (.int .i64 0),.p (.int .i64 0),.p (.slice none 0 0)]) rfl rfl (sC (sI _ _) (sC (sI _ _) (sC (sI _ _) (sC (SlF.nil dTaiTuple).still (sC (SlF.nil (dI .u32)).still (sC (SlF.nil (dI .i64)).still (sC (sI _ _) (sC (sI _ _) (sC (sI _ _) (sC (SlF.nil (dI .u8)).still sN)))))))))) rfl rfl
    refine Sim.op (sM e176) ?_
    have e178 : ldO true 10 H175 (.ref ⟨h.length,6,0,(0::0::0::σ),[]⟩ 0) = some (.agg [.p (.int .i64 3),.p (.int .u32 r5),.p (.int .u32 r164),.p (.slice none 0 0),.p (.slice none 0 0),.p (.slice none 0 0),.p (.int .u64 0),.p (.int .i64 0),.p (.int .i64 0),.p (.slice none 0 0)]):=(S177.atG (i:=1) rfl).ldVs (j:=0) rfl rfl (by decide)
    refine Sim.op (congrArg (Option.bind · _) e178) ?_
    exact Sim.fin (S177.finN (lC (Stills.lv (dTaiReport.still (dTaiReport.mk (SlF.nil dTaiTuple) (SlF.nil (dI .u32)) (SlF.nil (dI .i64)) (SlF.nil (dI .u8))))) lN)) ⟨_,(dTaiReport.mk (SlF.nil dTaiTuple) (SlF.nil (dI .u32)) (SlF.nil (dI .i64)) (SlF.nil (dI .u8))),rfl⟩
  refine Sim.cq ?_ ?_
  · refine Sim.fa ?_
    obtain ⟨H180,e181,S182⟩:=S16.stG (i:=0) (j:=0) (own:=true) (σ:=(1::0::1::1::1::1::0::1::1::1::0::σ)) (x:=(.p (.int .i64 4))) rfl rfl (sI _ _) rfl
    refine Sim.op (sM e181) ?_
    refine Sim.as (zr6_parse_l1_ok ?_ k x2 (IntKind.wrap .i64 (Int.tdiv ((x2.length : Int)) 4)) 2 ((⟨0,0,0,(([] : List TaiTuple)),(([] : List Int)),(([] : List Int)),0,0,0,(([] : List Int))⟩ : TaiReport)) ((⟨4,r5,0,(([] : List TaiTuple)),(([] : List Int)),(([] : List Int)),0,0,0,(([] : List Int))⟩ : TaiReport)) u2 hu2 (.p (.slice none 0 0)) (SlF.nil dTaiTuple) (.p (.slice none 0 0)) (SlF.nil (dI .u32)) (.p (.slice none 0 0)) (SlF.nil (dI .i64)) (.p (.slice none 0 0)) (SlF.nil (dI .u8)) (0::0::0::σ) (.p (.slice none 0 0)) (SlF.nil dTaiTuple) (.v (.p (.slice none 0 0))) (SoC.frz (SlF.nil (dI .u32))) (fun v h => by cases h; simp) (.v (.p (.slice none 0 0))) (SoC.frz (SlF.nil (dI .i64))) (fun v h => by cases h; simp) (.p (.slice none 0 0)) (SlF.nil (dI .u8)) (3::0::1::1::0::σ) H180 (S182.wk2 (aC (aM 1 rfl) (aC (aM 0 rfl) aN)) aN))
    · intro yg196 yg208 v277 h278 v279 h280 v281 h282 v283 h284 s285 v287 h288 c289 h290 h291 c292 h293 h294 v295 h296 s297 H275 S276
      refine Sim.ext (zr6_parse_a1_5 _ _ _ _ _ _) ?_
      obtain ⟨v299,h300,h301⟩:=h290.fr
      obtain ⟨v302,h303,h304⟩:=h293.fr
      obtain ⟨w305,H306,h311,e307,e308,e309,S310⟩:=S276.frzV (i:=1) (n:=10) (ys:=[(.p (.int .i64 yg208.Kind)),(.p (.int .u32 yg208.From)),(.p (.int .u32 yg208.About)),v287,v299,v302,(.p (.int .u64 yg208.Rate)),(.p (.int .i64 yg208.f_Type)),(.p (.int .i64 yg208.Count)),v295]) rfl rfl ⟨(FrC.v (sI _ _)),⟨(FrC.v (sI _ _)),⟨(FrC.v (sI _ _)),⟨(FrC.v h288.still),⟨h300,⟨h303,⟨(FrC.v (sI _ _)),⟨(FrC.v (sI _ _)),⟨(FrC.v (sI _ _)),⟨(FrC.v h296.still),trivial⟩⟩⟩⟩⟩⟩⟩⟩⟩⟩ rfl (by decide)
      refine Sim.op (e307) ?_
      obtain ⟨H312,e313,S314⟩:=Fm.stFrz (S0:=S276) (i0:=0) (i:=0) (j:=0) (n:=10) (σ:=(1::0::1::1::1::1::0::σ)) S310 rfl e309 rfl rfl h311 rfl rfl
      refine Sim.op (sM e313) ?_
      have e315 : ldO true 10 H312 (.ref ⟨h.length,6,0,s285,[]⟩ 0) = some (.agg [.p (.int .i64 yg208.Kind),.p (.int .u32 yg208.From),.p (.int .u32 yg208.About),v287,v299,v302,.p (.int .u64 yg208.Rate),.p (.int .i64 yg208.f_Type),.p (.int .i64 yg208.Count),v295]):=(S314.atG (i:=0) rfl).ldVs (j:=0) rfl rfl (by decide)
      refine Sim.op (congrArg (Option.bind · _) e315) ?_
      exact Sim.fin (S314.finN (lC (Stills.lv (dTaiReport.still (dTaiReport.mk h288 h301 h304 h296))) lN)) ⟨_,(dTaiReport.mk h288 h301 h304 h296),rfl⟩
  refine Sim.fa ?_
  obtain ⟨H316,e317,S318⟩:=S16.stG (i:=0) (j:=0) (own:=true) (σ:=(1::0::1::1::1::1::0::1::1::1::0::σ)) (x:=(.p (.int .i64 5))) rfl rfl (sI _ _) rfl
  refine Sim.op (sM e317) ?_
  refine Sim.call (zr6_word_ok k x2 (S318.low hu2) 3) fun r319 cs320 H321 h322 q323 => ?_
  cases q323
  refine Sim.ci ?_
  refine Sim.call (zr1_Open_ok (IntKind.wrap .i64 (intBits .and .u32 (Int.fdiv r319 (2 ^ 18)) 63)) (intBits .and .u32 r319 262143) 18) fun r324 cs325 H326 h327 q328 => ?_
  cases q328
  refine Sim.ci ?_
  refine Sim.fa ?_
  obtain ⟨H329,e330,S331⟩:=S318.stG (i:=0) (j:=6) (own:=true) (σ:=(8::0::1::1::1::1::1::1::0::1::1::1::0::σ)) (x:=(.p (.int .u64 r324))) rfl rfl (sI _ _) rfl
  refine Sim.op (sM e330) ?_
  refine Sim.as (zr6_parse_l2_ok ?_ k x2 (IntKind.wrap .i64 (Int.tdiv ((x2.length : Int)) 4)) 4 ((⟨0,0,0,(([] : List TaiTuple)),(([] : List Int)),(([] : List Int)),0,0,0,(([] : List Int))⟩ : TaiReport)) ((⟨5,r5,0,(([] : List TaiTuple)),(([] : List Int)),(([] : List Int)),r324,0,0,(([] : List Int))⟩ : TaiReport)) u2 hu2 (.p (.slice none 0 0)) (SlF.nil dTaiTuple) (.p (.slice none 0 0)) (SlF.nil (dI .u32)) (.p (.slice none 0 0)) (SlF.nil (dI .i64)) (.p (.slice none 0 0)) (SlF.nil (dI .u8)) (0::0::0::σ) (.p (.slice none 0 0)) (SlF.nil dTaiTuple) (.v (.p (.slice none 0 0))) (SoC.frz (SlF.nil (dI .u32))) (fun v h => by cases h; simp) (.p (.slice none 0 0)) (SlF.nil (dI .i64)) (.p (.slice none 0 0)) (SlF.nil (dI .u8)) (3::0::1::1::0::σ) H329 (S331.wk2 (aC (aM 1 rfl) (aC (aM 0 rfl) aN)) aN))
  · intro yg345 yg356 v404 h405 v406 h407 v408 h409 v410 h411 s412 v414 h415 c416 h417 h418 v419 h420 v421 h422 s423 H402 S403
    refine Sim.ext (zr6_parse_a2_1 _ _ _ _ _ _) ?_
    obtain ⟨v425,h426,h427⟩:=h417.fr
    obtain ⟨w428,H429,h434,e430,e431,e432,S433⟩:=S403.frzV (i:=1) (n:=10) (ys:=[(.p (.int .i64 yg356.Kind)),(.p (.int .u32 yg356.From)),(.p (.int .u32 yg356.About)),v414,v425,v419,(.p (.int .u64 yg356.Rate)),(.p (.int .i64 yg356.f_Type)),(.p (.int .i64 yg356.Count)),v421]) rfl rfl ⟨(FrC.v (sI _ _)),⟨(FrC.v (sI _ _)),⟨(FrC.v (sI _ _)),⟨(FrC.v h415.still),⟨h426,⟨(FrC.v h420.still),⟨(FrC.v (sI _ _)),⟨(FrC.v (sI _ _)),⟨(FrC.v (sI _ _)),⟨(FrC.v h422.still),trivial⟩⟩⟩⟩⟩⟩⟩⟩⟩⟩ rfl (by decide)
    refine Sim.op (e430) ?_
    obtain ⟨H435,e436,S437⟩:=Fm.stFrz (S0:=S403) (i0:=0) (i:=0) (j:=0) (n:=10) (σ:=(1::0::1::1::1::1::0::σ)) S433 rfl e432 rfl rfl h434 rfl rfl
    refine Sim.op (sM e436) ?_
    have e438 : ldO true 10 H435 (.ref ⟨h.length,6,0,s412,[]⟩ 0) = some (.agg [.p (.int .i64 yg356.Kind),.p (.int .u32 yg356.From),.p (.int .u32 yg356.About),v414,v425,v419,.p (.int .u64 yg356.Rate),.p (.int .i64 yg356.f_Type),.p (.int .i64 yg356.Count),v421]):=(S437.atG (i:=0) rfl).ldVs (j:=0) rfl rfl (by decide)
    refine Sim.op (congrArg (Option.bind · _) e438) ?_
    exact Sim.fin (S437.finN (lC (Stills.lv (dTaiReport.still (dTaiReport.mk h415 h427 h420 h422))) lN)) ⟨_,(dTaiReport.mk h415 h427 h420 h422),rfl⟩
end Go.Ev
namespace Go.Ev
open Go.Proofs
set_option linter.unusedVariables false
set_option linter.unusedSimpArgs false
set_option maxRecDepth 100000
noncomputable section
abbrev KT36:=Exit→Env→H→Option (List C × H)
variable (rec : CallF) (loop : LoopV) (σ : Stamp)
def zr6_short_c0 : Code:=(codeAt (bodyOf Try.f93) [1,1,1,0,1,0,0])
def zr6_short_l0 : Lv:=⟨32,16,[(0,32)]⟩
def zr6_short_k0 : KT36:=(kBlock 0 (kSeq G rec loop (codeAt (bodyOf Try.f93) [1,1,1,1]) ⟨16,16,[]⟩ (1::1::1::0::σ) (finC G false Try.f93 (1::σ))))
theorem zr6_short_entry (x0 : V) (x1 : V) (h : H) : cvBody G rec loop 93 σ [x0,x1] h =
(boxO false (0::0::0::σ) 3 (List.replicate 79 []::h) x1).bind fun q1 =>
(bSV Try.prog 31 0 []).bind fun t2 =>
(apO true 1 1 (2::0::1::0::σ) 14 q1.2 t2 x0).bind fun q3 =>
(fA q1.1 0).bind fun t4 =>
(ldO false 1 q3.2 t4).bind fun t5 =>
(castI .i64 t5).bind fun n6 =>
(bif n6 == 5 then ((lenO x0).bind fun t7 =>
(castI .i64 t7).bind fun n8 =>
some (decide (n8 ≥ 20))) else (some false)).bind fun b9 =>
bif b9 then (
(fA q1.1 6).bind fun t10 =>
(ldO false 1 q3.2 t10).bind fun t11 =>
(castI .u64 t11).bind fun n12 =>
(callO rec 84 (2::0::1::0::1::1::0::σ) [(.p (.int .u64 n12)),(.p (.int .i64 18))] q3.2 (some 26)).bind fun q13 =>
(extV q13.1 0).bind fun t14 =>
(castI .i64 t14).bind fun n15 =>
(extV q13.1 1).bind fun t16 =>
(castI .u32 t16).bind fun n17 =>
(slS 1 q3.1 (some 16) none none).bind fun t18 =>
(iS 1 x0 16).bind fun t19 =>
(ldO false 1 q13.2 t19).bind fun t20 =>
(castI .u8 t20).bind fun n21 =>
(bSV Try.prog 29 1 [(0,(.p (.int .u32 (intBits .or .u32 (intBits .or .u32 (IntKind.wrap .u32 ((IntKind.wrap .u32 n21) * 2 ^ 24)) (IntKind.wrap .u32 ((IntKind.wrap .u32 n15) * 2 ^ 18))) n17))))]).bind fun t22 =>
(callO rec 126 (14::1::1::0::1::1::0::σ) [t22] q13.2 (some 43)).bind fun q23 =>
need (slS 1 q3.1 (some 16) none none = some t18) (
(cpO 1 q23.2 t18 q23.1).bind fun q24 =>
(castI .i64 q24.1).bind fun n25 =>
(fA q1.1 3).bind fun t26 =>
(ldO false 1 q24.2 t26).bind fun t27 =>
(lenO t27).bind fun t28 =>
(castI .i64 t28).bind fun n29 =>
(loop zr6_short_c0 zr6_short_l0 (1::0::1::1::1::0::σ) (envL [(5,q3.1),(46,t27),(47,(.p (.int .i64 n29))),(48,(.p (.int .i64 0)))]) q24.2).bind fun r30 => zr6_short_k0 rec loop σ r30.1 r30.2.1 r30.2.2))
else (
(fA q1.1 3).bind fun t31 =>
(ldO false 1 q3.2 t31).bind fun t32 =>
(lenO t32).bind fun t33 =>
(castI .i64 t33).bind fun n34 =>
(loop zr6_short_c0 zr6_short_l0 (1::0::1::1::1::0::σ) (envL [(5,q3.1),(46,t32),(47,(.p (.int .i64 n34))),(48,(.p (.int .i64 0)))]) q3.2).bind fun r35 => zr6_short_k0 rec loop σ r35.1 r35.2.1 r35.2.2):=by kernel_rfl
theorem zr6_short_r0 (x5 : V) (x46 : V) (x47 : Int) (x48 : Int) (h : H) : cvRound G rec loop zr6_short_c0 zr6_short_l0 σ (envL [(5,x5),(46,x46),(47,(.p (.int .i64 x47))),(48,(.p (.int .i64 x48)))]) h =
bif decide (x48 < x47) then (
(iS 3 x46 x48).bind fun t36 =>
(ldO true 3 h t36).bind fun t37 =>
(some (alO [.p (.int .u32 0),.p (.int .u64 0),.p (.int .i64 0)] (3::0::0::1::1::0::σ) 9 h)).bind fun q38 =>
((stO false 3 (5::0::0::1::1::0::σ) q38.2 q38.1 t37).map fun h => (udf,h)).bind fun q39 =>
(fA q38.1 1).bind fun t40 =>
(ldO false 1 q39.2 t40).bind fun t41 =>
(castI .u64 t41).bind fun n42 =>
(callO rec 84 (2::0::1::0::1::1::0::σ) [(.p (.int .u64 n42)),(.p (.int .i64 17))] q39.2 (some 56)).bind fun q43 =>
(extV q43.1 0).bind fun t44 =>
(castI .i64 t44).bind fun n45 =>
(extV q43.1 1).bind fun t46 =>
(castI .u32 t46).bind fun n47 =>
(slS 1 x5 (some (IntKind.wrap .i64 (16 + (IntKind.wrap .i64 (8 * x48))))) none none).bind fun t48 =>
(fA q38.1 2).bind fun t49 =>
(ldO false 1 q43.2 t49).bind fun t50 =>
(castI .i64 t50).bind fun n51 =>
(bSV Try.prog 29 1 [(0,(.p (.int .u32 (intBits .or .u32 (intBits .or .u32 (IntKind.wrap .u32 ((IntKind.wrap .u32 n45) * 2 ^ 26)) (IntKind.wrap .u32 (n47 * 2 ^ 9))) (IntKind.wrap .u32 n51)))))]).bind fun t52 =>
(callO rec 126 (16::1::1::0::1::1::0::σ) [t52] q43.2 (some 75)).bind fun q53 =>
need (slS 1 x5 (some (IntKind.wrap .i64 (16 + (IntKind.wrap .i64 (8 * x48))))) none none = some t48) (
(cpO 1 q53.2 t48 q53.1).bind fun q54 =>
(castI .i64 q54.1).bind fun n55 =>
loop zr6_short_c0 zr6_short_l0 (1::σ) (envL [(5,x5),(46,x46),(47,(.p (.int .i64 x47))),(48,(.p (.int .i64 (IntKind.wrap .i64 (x48 + 1)))))]) q54.2))
else (
some ((.exit 0),(envL [(5,x5)]),h)):=by kernel_rfl
theorem zr6_short_a0_0 (x5 : V) (h : H) : zr6_short_k0 rec loop σ (.exit 0) (envL [(5,x5)]) h =
fin false σ h [x5]:=by kernel_rfl
end
end Go.Ev
namespace Go.Ev
open Go.Proofs
set_option linter.unusedVariables false
set_option linter.unusedSimpArgs false
set_option maxRecDepth 100000
def p_zr6_short_l0 {β : Type} (k : Nat) (kE0 : (List Int)→Option β) (x5 : (List Int)) (x46 : (List TaiTuple)) (x47 : Int) (x48 : Int) : Option β:=match k with
| 0 => none
| k + 1 =>
bif decide (x48 < x47) then (
(ix x46 x48).bind fun a64 =>
(p_zr1_Pack k a64.Rate 17).bind fun r76 =>
(sub x5 (IntKind.wrap .i64 (16 + (IntKind.wrap .i64 (8 * x48)))) ((x5.length : Int))).bind fun a81 =>
(p_zr6_words k ([(intBits .or .u32 (intBits .or .u32 (IntKind.wrap .u32 ((IntKind.wrap .u32 r76.1) * 2 ^ 26)) (IntKind.wrap .u32 (r76.2 * 2 ^ 9))) (IntKind.wrap .u32 a64.Over))])).bind fun r84 =>
(cpS x5 (IntKind.wrap .i64 (16 + (IntKind.wrap .i64 (8 * x48)))) a81 r84).bind fun a98 =>
p_zr6_short_l0 k kE0 a98 x46 x47 (IntKind.wrap .i64 (x48 + 1)))
else (
kE0 x5)
def p_zr6_short (k : Nat) (x0 : (List Int)) (x1 : TaiReport) : Option ((List Int)) :=
(ap 1 (([] : List Int)) x0).bind fun a16 =>
(bif x1.Kind == 5 then (some (decide (((x0.length : Int)) ≥ 20))) else (some false)).bind fun b22 =>
bif b22 then (
(p_zr1_Pack k x1.Rate 18).bind fun r27 =>
(sub a16 16 ((a16.length : Int))).bind fun a32 =>
(ix x0 16).bind fun a34 =>
(p_zr6_words k ([(intBits .or .u32 (intBits .or .u32 (IntKind.wrap .u32 ((IntKind.wrap .u32 a34) * 2 ^ 24)) (IntKind.wrap .u32 ((IntKind.wrap .u32 r27.1) * 2 ^ 18))) r27.2)])).bind fun r38 =>
(cpS a16 16 a32 r38).bind fun a52 =>
p_zr6_short_l0 k (fun r107_5 =>
some (r107_5)) a52 x1.Tuples ((x1.Tuples.length : Int)) 0)
else (
p_zr6_short_l0 k (fun r119_5 =>
some (r119_5)) a16 x1.Tuples ((x1.Tuples.length : Int)) 0)
theorem zr6_short_l0_ok {h : H}  {β α : Type} {Q : β→α→Prop} {K : Exit × Env × H→Option α} {kE0 : (List Int)→Option β} (hE0 : ∀ (q5 : (List Int)) (v105 : V) (H103 : Go.Ev.H) (_ : Fm 79 h [] [] [⟨[14],v105,(dI .u8),q5⟩] H103),Sim (kE0 q5) (K ((.exit 0),(envL [(5,v105)]),H103)) Q) (k : Nat) : ∀ (x5 : (List Int)) (x46 : (List TaiTuple)) (x47 : Int) (x48 : Int) (v59 : V) (v61 : V) (h62 : SlF dTaiTuple x46 v61) (H57 : Go.Ev.H) (_ : Fm 79 h [] [] [⟨[14],v59,(dI .u8),x5⟩] H57) {σ : Stamp},Sim (p_zr6_short_l0 k kE0 x5 x46 x47 x48) ((cvL G X0 zr6_short_c0 zr6_short_l0 σ (envL [(5,v59),(46,v61),(47,(.p (.int .i64 x47))),(48,(.p (.int .i64 x48)))]) H57).bind K) Q:=by
  induction k with
  | zero => intros; exact Sim.no
  | succ k ih =>
    intro x5 x46 x47 x48 v59 v61 h62 H57 S58 σ
    rw [p_zr6_short_l0]
    refine Sim.round (Sim.ext (zr6_short_r0 _ _ _ _ _ _ _ _) ?_)
    refine Sim.cq ?_ ?_
    · refine Sim.bd fun a64 h65 => ?_
      refine Sim.op ((h62.h H57).iS h65 rfl) ?_
      obtain ⟨w67,h68,hE66⟩:=(h62.h H57).el h65 rfl
      obtain rfl:=dTaiTuple.inv h68
      refine Sim.op (hE66.all (by simp)) ?_
      obtain ⟨H69,e70,S71⟩:=S58.al (d:=9) (s:=(3::0::0::1::1::0::σ)) (z:=[(.p (.int .u32 0)),(.p (.int .u64 0)),(.p (.int .i64 0))]) (by decide) rfl
      refine Sim.op (congrArg some e70) ?_
      obtain ⟨H73,e74,S75⟩:=S71.stGv (i:=0) (j:=0) (own:=false) (σ:=(5::0::0::1::1::0::σ)) (xs:=[.p (.int .u32 a64.Owner),.p (.int .u64 a64.Rate),.p (.int .i64 a64.Over)]) rfl rfl (sC (sI _ _) (sC (sI _ _) (sC (sI _ _) sN))) rfl rfl
      refine Sim.op (sM e74) ?_
      refine Sim.fa ?_
      refine Sim.op ((S75.atG (i:=0) rfl).ld (j:=1) rfl) ?_
      refine Sim.ci ?_
      refine Sim.call (zr1_Pack_ok k a64.Rate 17) fun r76 cs77 H78 h79 q80 => ?_
      cases q80
      refine Sim.or ?_
      refine Sim.ci ?_
      refine Sim.or ?_
      refine Sim.ci ?_
      refine Sim.bd fun a81 h82 => ?_
      refine Sim.op ((S75.sl (i:=0) rfl).slS h82 rfl rfl rfl) ?_
      refine Sim.fa ?_
      refine Sim.op ((S75.atG (i:=0) rfl).ld (j:=2) rfl) ?_
      refine Sim.ci ?_
      have h83:=SlF.int1 .u32 (intBits .or .u32 (intBits .or .u32 (IntKind.wrap .u32 ((IntKind.wrap .u32 r76.1) * 2 ^ 26)) (IntKind.wrap .u32 (r76.2 * 2 ^ 9))) (IntKind.wrap .u32 a64.Over))
      refine Sim.op (bldS (pC rfl pN) (by kernel_rfl : _ = some (vOf h83))) ?_
      refine Sim.call (zr6_words_ok k ([(intBits .or .u32 (intBits .or .u32 (IntKind.wrap .u32 ((IntKind.wrap .u32 r76.1) * 2 ^ 26)) (IntKind.wrap .u32 (r76.2 * 2 ^ 9))) (IntKind.wrap .u32 a64.Over))]) (h83.h H73)) fun r84 cs85 H86 h87 q88 => ?_
      obtain ⟨c89,cs90,h91,h92,q88⟩:=q88
      cases q88
      obtain ⟨v93,H94,e95,S96⟩:=S75.land (dt:=(dI .u8)) (d:=75) (e:=0) (n:=0) h91 h92 (by decide) rfl
      erw [e95]
      refine Sim.nd ((S96.sl (i:=1) rfl).slS h82 rfl rfl rfl) ?_
      refine Sim.bd fun a98 h99 => ?_
      obtain ⟨H100,e101,S102⟩:=S96.copyD (i:=1) (e:=1) rfl h82 h99 (S96.sl (i:=0) rfl) rfl rfl rfl
      refine Sim.op (e101) ?_
      refine Sim.ci ?_
      exact ih a98 x46 x47 (IntKind.wrap .i64 (x48 + 1)) v59 v61 h62 H100 (S102.wk2 aN (aC ⟨[14],by simp,aM 1 rfl⟩ aN))
    exact hE0 x5 v59 H57 (S58.wk2 aN (aC ⟨[14],by simp,aM 0 rfl⟩ aN))
theorem zr6_short_ok (k : Nat) {h : H} {σ : Stamp} (x0 : List Int) {u0 : V} (hu0 : SlH h (dI .u8) x0 u0) (x1 : TaiReport) {u1 : List V} (hu1 : dTaiReport.R x1 u1) : Sim (p_zr6_short k x0 x1) (ev G X0 93 σ [u0,(.agg u1)] h) (fun r s => ∃ (c0 : C),∃ (a0 : List V),OwnS c0 (dI .u8).sz r.length a0∧(dI .u8).L r a0∧s = ([c0],h)):=by
  refine Sim.ev rfl (Sim.ext (zr6_short_entry _ _ _ _ _ _) ?_)
  rw [p_zr6_short]
  obtain ⟨v1,v3,v5,v7,rfl,h2,h4,h6,h8⟩:=dTaiReport.inv hu1
  have S0 : Fm 79 h [] [] [] (List.replicate 79 []::h):=Fm.start0
  obtain ⟨H9,e10,S11⟩:=S0.box (own:=false) (d:=3) (s:=(0::0::0::σ)) (xs:=[(.p (.int .i64 x1.Kind)),(.p (.int .u32 x1.From)),(.p (.int .u32 x1.About)),v1,v3,v5,(.p (.int .u64 x1.Rate)),(.p (.int .i64 x1.f_Type)),(.p (.int .i64 x1.Count)),v7]) (sC (sI _ _) (sC (sI _ _) (sC (sI _ _) (sC h2.still (sC h4.still (sC h6.still (sC (sI _ _) (sC (sI _ _) (sC (sI _ _) (sC h8.still sN)))))))))) (by decide) rfl
  refine Sim.op (e10) ?_
  have h13 : SlF (dI .u8) ([] : List Int) (.fz [] 0 1 true):=SlF.lit (cs:=[]) RL.nil rfl rfl true
  refine Sim.op (bldS pN (by kernel_rfl : _ = some (vOf h13))) ?_
  have S15:=S11.nil' (dI .u8) [] (e:=1) rfl
  refine Sim.bd fun a16 h17 => ?_
  obtain ⟨v18,H19,e20,S21⟩:=S15.app (i:=0) (d:=14) (e:=1) (own:=true) (σ:=(2::0::1::0::σ)) rfl (S15.low hu0).y h17 rfl (by decide) (by decide) rfl
  refine Sim.op (e20) ?_
  refine Sim.fa ?_
  refine Sim.op ((S21.atG (i:=0) rfl).ld (j:=0) rfl) ?_
  refine Sim.ci ?_
  refine Sim.ch (P:=fun r y => r = y) ?_ (fun b22 y23 h24 h25 => ?_)
  · refine Sim.cq ?_ ?_
    · refine Sim.op ((S21.low hu0).len) ?_
      refine Sim.ci ?_
      exact Sim.ret rfl rfl
    · exact Sim.ret rfl rfl
  subst h25
  refine Sim.cq ?_ ?_
  · refine Sim.fa ?_
    refine Sim.op ((S21.atG (i:=0) rfl).ld (j:=6) rfl) ?_
    refine Sim.ci ?_
    refine Sim.call (zr1_Pack_ok k x1.Rate 18) fun r27 cs28 H29 h30 q31 => ?_
    cases q31
    refine Sim.or ?_
    refine Sim.ci ?_
    refine Sim.or ?_
    refine Sim.ci ?_
    refine Sim.bd fun a32 h33 => ?_
    refine Sim.op ((S21.sl (i:=0) rfl).slS h33 rfl rfl rfl) ?_
    refine Sim.bd fun a34 h35 => ?_
    refine Sim.op ((S21.low hu0).iS h35 rfl) ?_
    obtain ⟨_,rfl,hE36⟩:=(S21.low hu0).el h35 rfl
    refine Sim.op (hE36.ld (j:=0) rfl) ?_
    refine Sim.ci ?_
    have h37:=SlF.int1 .u32 (intBits .or .u32 (intBits .or .u32 (IntKind.wrap .u32 ((IntKind.wrap .u32 a34) * 2 ^ 24)) (IntKind.wrap .u32 ((IntKind.wrap .u32 r27.1) * 2 ^ 18))) r27.2)
    refine Sim.op (bldS (pC rfl pN) (by kernel_rfl : _ = some (vOf h37))) ?_
    refine Sim.call (zr6_words_ok k ([(intBits .or .u32 (intBits .or .u32 (IntKind.wrap .u32 ((IntKind.wrap .u32 a34) * 2 ^ 24)) (IntKind.wrap .u32 ((IntKind.wrap .u32 r27.1) * 2 ^ 18))) r27.2)]) (h37.h H19)) fun r38 cs39 H40 h41 q42 => ?_
    obtain ⟨c43,cs44,h45,h46,q42⟩:=q42
    cases q42
    obtain ⟨v47,H48,e49,S50⟩:=S21.land (dt:=(dI .u8)) (d:=43) (e:=0) (n:=0) h45 h46 (by decide) rfl
    erw [e49]
    refine Sim.nd ((S50.sl (i:=1) rfl).slS h33 rfl rfl rfl) ?_
    refine Sim.bd fun a52 h53 => ?_
    obtain ⟨H54,e55,S56⟩:=S50.copyD (i:=1) (e:=1) rfl h33 h53 (S50.sl (i:=0) rfl) rfl rfl rfl
    refine Sim.op (e55) ?_
    refine Sim.ci ?_
    refine Sim.fa ?_
    refine Sim.op ((S56.atG (i:=0) rfl).ld (j:=3) rfl) ?_
    refine Sim.op ((h2.h H54).len) ?_
    refine Sim.ci ?_
    refine Sim.as (zr6_short_l0_ok ?_ k a52 x1.Tuples ((x1.Tuples.length : Int)) 0 v18 v1 h2 H54 (S56.wk2 aN (aC ⟨[14],by simp,aM 1 rfl⟩ aN)))
    · intro r107_5 v110 H108 S109
      refine Sim.ext (zr6_short_a0_0 _ _ _ _ _) ?_
      obtain ⟨c117,cs118,H112,e113,h115,h116,S114⟩:=S109.expOwn (i:=0) (τ:=0::1::σ) rfl rfl rfl
      exact Sim.fin (S114.finE (Ex.st e113 Ex.nil)) ⟨c117,cs118,h115,h116,rfl⟩
  refine Sim.fa ?_
  refine Sim.op ((S21.atG (i:=0) rfl).ld (j:=3) rfl) ?_
  refine Sim.op ((h2.h H19).len) ?_
  refine Sim.ci ?_
  refine Sim.as (zr6_short_l0_ok ?_ k a16 x1.Tuples ((x1.Tuples.length : Int)) 0 v18 v1 h2 H19 (S21.wk2 aN (aC ⟨[14],by simp,aM 0 rfl⟩ aN)))
  · intro r119_5 v122 H120 S121
    refine Sim.ext (zr6_short_a0_0 _ _ _ _ _) ?_
    obtain ⟨c129,cs130,H124,e125,h127,h128,S126⟩:=S121.expOwn (i:=0) (τ:=0::1::σ) rfl rfl rfl
    exact Sim.fin (S126.finE (Ex.st e125 Ex.nil)) ⟨c129,cs130,h127,h128,rfl⟩
def p_zr6_Read_l0 {β : Type} (k : Nat) (kE0 : (List TaiReport)→Option β) (kE1 : Int→Option β) (x0 : (List Int)) (x4 : (List TaiReport)) (x5 : Int) : Option β:=match k with
| 0 => none
| k + 1 =>
bif decide (x5 < ((x0.length : Int))) then (
(p_zr1_Get k x0 (IntKind.wrap .i64 (x5 + 2)) 2).bind fun r12 =>
(p_zr1_Cut x0 x5 (IntKind.wrap .i64 (4 + (IntKind.wrap .i64 (4 * (IntKind.wrap .i64 r12.1)))))).bind fun r17 =>
(bif !r12.2 then (some true) else (some (!r17.2))).bind fun b24 =>
bif b24 then (
kE1 13)
else (
(ix r17.1 0).bind fun a29 =>
(bif (Int.fdiv a29 (2 ^ 5)) != 4 then (some true) else ((ix r17.1 1).bind fun a32 =>
some (decide (a32 < 192)))).bind fun b35 =>
(bif b35 then (some true) else ((ix r17.1 1).bind fun a39 =>
some (decide (a39 > 223)))).bind fun b42 =>
bif b42 then (
kE1 12)
else (
(ix r17.1 1).bind fun a49 =>
(ix r17.1 0).bind fun a52 =>
(sub r17.1 4 ((r17.1.length : Int))).bind fun a55 =>
(p_zr6_parse k (IntKind.wrap .i64 a49) (IntKind.wrap .i64 (intBits .and .u8 a52 31)) a55).bind fun r57 =>
(p_zr6_Right k r57).bind fun r75 =>
bif r75 != 0 then (bif true then (
kE1 12)
else (
(ap 136 x4 ([r57])).bind fun a118 =>
p_zr6_Read_l0 k kE0 kE1 x0 a118 (IntKind.wrap .i64 (x5 + ((r17.1.length : Int)))))) else ((p_zr6_one k r57).bind fun r80 =>
(p_zr6_short k r17.1 r57).bind fun r94 =>
bif !((strB r80).toList == (strB r94).toList) then (
kE1 12)
else (
(ap 136 x4 ([r57])).bind fun a110 =>
p_zr6_Read_l0 k kE0 kE1 x0 a110 (IntKind.wrap .i64 (x5 + ((r17.1.length : Int)))))))))
else (
kE0 x4)
def p_zr6_Read (k : Nat) (x0 : (List Int)) : Option ((List TaiReport) × Int) :=
bif decide (((x0.length : Int)) > 1500) then (
some ((([] : List TaiReport)),3))
else (
bif ((x0.length : Int)) == 0 then (
some ((([] : List TaiReport)),13))
else (
p_zr6_Read_l0 k (fun r132_4 =>
some (r132_4,0)) (fun r143_3 =>
some ((([] : List TaiReport)),r143_3)) x0 (([] : List TaiReport)) 0))
theorem zr6_Read_l0_ok {h : H}  {β α : Type} {Q : β→α→Prop} {K : Exit × Env × H→Option α} {kE0 : (List TaiReport)→Option β} {kE1 : Int→Option β} (hE0 : ∀ (q4 : (List TaiReport)) (v126 : V) (H124 : Go.Ev.H) (_ : Fm 95 h [] [] [⟨[89],v126,dTaiReport,q4⟩] H124),Sim (kE0 q4) (K ((.exit 0),(envL [(4,v126)]),H124)) Q) (hE1 : ∀ (q3 : Int) (H128 : Go.Ev.H) (_ : Fm 95 h [] [] [] H128),Sim (kE1 q3) (K (.ret,(envL [(2,(.p (.slice none 0 0))),(3,(.p (.int .i64 q3)))]),H128)) Q) (k : Nat) : ∀ (x0 : (List Int)) (x4 : (List TaiReport)) (x5 : Int) (v7 : V) (h8 : SlH h (dI .u8) x0 v7) (v9 : V) (H5 : Go.Ev.H) (_ : Fm 95 h [] [] [⟨[89],v9,dTaiReport,x4⟩] H5) {σ : Stamp},Sim (p_zr6_Read_l0 k kE0 kE1 x0 x4 x5) ((cvL G X0 zr6_Read_c0 zr6_Read_l0 σ (envL [(0,v7),(4,v9),(5,(.p (.int .i64 x5)))]) H5).bind K) Q:=by
  induction k with
  | zero => intros; exact Sim.no
  | succ k ih =>
    intro x0 x4 x5 v7 h8 v9 H5 S6 σ
    rw [p_zr6_Read_l0]
    refine Sim.round (Sim.ext (zr6_Read_r0 _ _ _ _ _ _ _) ?_)
    refine Sim.op ((S6.low h8).len) ?_
    refine Sim.ci ?_
    refine Sim.cq ?_ ?_
    · refine Sim.call (zr1_Get_ok k x0 (S6.low h8) (IntKind.wrap .i64 (x5 + 2)) 2) fun r12 cs13 H14 h15 q16 => ?_
      cases q16
      refine Sim.or ?_
      refine Sim.ci ?_
      refine Sim.or ?_
      refine Sim.ab ?_
      refine Sim.call (zr1_Cut_ok x0 (S6.low h8) x5 (IntKind.wrap .i64 (4 + (IntKind.wrap .i64 (4 * (IntKind.wrap .i64 r12.1)))))) fun r17 cs18 H19 h20 q21 => ?_
      obtain ⟨v22,h23,q21⟩:=q21
      cases q21
      refine Sim.or ?_
      refine Sim.or ?_
      refine Sim.ab ?_
      refine Sim.ch (P:=fun r y => r = y) ?_ (fun b24 y25 h26 h27 => ?_)
      · refine Sim.cq ?_ ?_
        · exact Sim.ret rfl rfl
        · exact Sim.ret rfl rfl
      subst h27
      refine Sim.cq ?_ ?_
      · exact hE1 13 H5 (S6.wk2 aN aN)
      refine Sim.bd fun a29 h30 => ?_
      refine Sim.op ((h23.h H5).iS h30 rfl) ?_
      obtain ⟨_,rfl,hE31⟩:=(h23.h H5).el h30 rfl
      refine Sim.op (hE31.ld (j:=0) rfl) ?_
      refine Sim.ci ?_
      refine Sim.ch (P:=fun r y => r = y) ?_ (fun b35 y36 h37 h38 => ?_)
      · refine Sim.cq ?_ ?_
        · exact Sim.ret rfl rfl
        · refine Sim.bd fun a32 h33 => ?_
          refine Sim.op ((h23.h H5).iS h33 rfl) ?_
          obtain ⟨_,rfl,hE34⟩:=(h23.h H5).el h33 rfl
          refine Sim.op (hE34.ld (j:=0) rfl) ?_
          refine Sim.ci ?_
          exact Sim.ret rfl rfl
      subst h38
      refine Sim.ch (P:=fun r y => r = y) ?_ (fun b42 y43 h44 h45 => ?_)
      · refine Sim.cq ?_ ?_
        · exact Sim.ret rfl rfl
        · refine Sim.bd fun a39 h40 => ?_
          refine Sim.op ((h23.h H5).iS h40 rfl) ?_
          obtain ⟨_,rfl,hE41⟩:=(h23.h H5).el h40 rfl
          refine Sim.op (hE41.ld (j:=0) rfl) ?_
          refine Sim.ci ?_
          exact Sim.ret rfl rfl
      subst h45
      refine Sim.cq ?_ ?_
      · exact hE1 12 H5 (S6.wk2 aN aN)
      have S47:=S6.add (d:=10) (s:=(12::0::1::1::1::1::1::0::σ)) (cs:=List.map C.v [(.p (.int .i64 0)),(.p (.int .u32 0)),(.p (.int .u32 0)),(.p (.slice none 0 0)),(.p (.slice none 0 0)),(.p (.slice none 0 0)),(.p (.int .u64 0)),(.p (.int .i64 0)),(.p (.int .i64 0)),(.p (.slice none 0 0))]) (by decide) rfl
      have S47 : Fm _ _ _ _ _ (alO [(.p (.int .i64 0)),(.p (.int .u32 0)),(.p (.int .u32 0)),(.p (.slice none 0 0)),(.p (.slice none 0 0)),(.p (.slice none 0 0)),(.p (.int .u64 0)),(.p (.int .i64 0)),(.p (.int .i64 0)),(.p (.slice none 0 0))] (12::0::1::1::1::1::1::0::σ) 10 H5).2:=S47
      first | rw [S47.newLoc 10 (12::0::1::1::1::1::1::0::σ)] | erw [S47.newLoc 10 (12::0::1::1::1::1::1::0::σ)]
      refine Sim.nd (⟨_,(by kernel_rfl),S47.slot (i:=0) rfl⟩) ?_
      refine Sim.bd fun a49 h50 => ?_
      refine Sim.op ((h23.h (alO [(.p (.int .i64 0)),(.p (.int .u32 0)),(.p (.int .u32 0)),(.p (.slice none 0 0)),(.p (.slice none 0 0)),(.p (.slice none 0 0)),(.p (.int .u64 0)),(.p (.int .i64 0)),(.p (.int .i64 0)),(.p (.slice none 0 0))] (12::0::1::1::1::1::1::0::σ) 10 H5).2).iS h50 rfl) ?_
      obtain ⟨_,rfl,hE51⟩:=(h23.h (alO [(.p (.int .i64 0)),(.p (.int .u32 0)),(.p (.int .u32 0)),(.p (.slice none 0 0)),(.p (.slice none 0 0)),(.p (.slice none 0 0)),(.p (.int .u64 0)),(.p (.int .i64 0)),(.p (.int .i64 0)),(.p (.slice none 0 0))] (12::0::1::1::1::1::1::0::σ) 10 H5).2).el h50 rfl
      refine Sim.op (hE51.ld (j:=0) rfl) ?_
      refine Sim.ci ?_
      refine Sim.bd fun a52 h53 => ?_
      refine Sim.op ((h23.h (alO [(.p (.int .i64 0)),(.p (.int .u32 0)),(.p (.int .u32 0)),(.p (.slice none 0 0)),(.p (.slice none 0 0)),(.p (.slice none 0 0)),(.p (.int .u64 0)),(.p (.int .i64 0)),(.p (.int .i64 0)),(.p (.slice none 0 0))] (12::0::1::1::1::1::1::0::σ) 10 H5).2).iS h53 rfl) ?_
      obtain ⟨_,rfl,hE54⟩:=(h23.h (alO [(.p (.int .i64 0)),(.p (.int .u32 0)),(.p (.int .u32 0)),(.p (.slice none 0 0)),(.p (.slice none 0 0)),(.p (.slice none 0 0)),(.p (.int .u64 0)),(.p (.int .i64 0)),(.p (.int .i64 0)),(.p (.slice none 0 0))] (12::0::1::1::1::1::1::0::σ) 10 H5).2).el h53 rfl
      refine Sim.op (hE54.ld (j:=0) rfl) ?_
      refine Sim.ci ?_
      refine Sim.bd fun a55 h56 => ?_
      refine Sim.op ((h23.h (alO [(.p (.int .i64 0)),(.p (.int .u32 0)),(.p (.int .u32 0)),(.p (.slice none 0 0)),(.p (.slice none 0 0)),(.p (.slice none 0 0)),(.p (.int .u64 0)),(.p (.int .i64 0)),(.p (.int .i64 0)),(.p (.slice none 0 0))] (12::0::1::1::1::1::1::0::σ) 10 H5).2).slS h56 rfl rfl rfl) ?_
      refine Sim.call (zr6_parse_ok k (IntKind.wrap .i64 a49) (IntKind.wrap .i64 (intBits .and .u8 a52 31)) a55 ((h23.h (alO [(.p (.int .i64 0)),(.p (.int .u32 0)),(.p (.int .u32 0)),(.p (.slice none 0 0)),(.p (.slice none 0 0)),(.p (.slice none 0 0)),(.p (.int .u64 0)),(.p (.int .i64 0)),(.p (.int .i64 0)),(.p (.slice none 0 0))] (12::0::1::1::1::1::1::0::σ) 10 H5).2).sub h56 (e:=1) rfl)) fun r57 cs58 H59 h60 q61 => ?_
      obtain ⟨w62,h63,q61⟩:=q61
      cases q61
      obtain ⟨v64,v66,v68,v70,rfl,h65,h67,h69,h71⟩:=dTaiReport.inv h63
      refine Sim.nd (⟨_,(by kernel_rfl),S47.slot (i:=0) rfl⟩) ?_
      obtain ⟨H72,e73,S74⟩:=S47.stGv (i:=0) (j:=0) (own:=false) (σ:=(13::0::1::1::1::1::1::0::σ)) (xs:=[(.p (.int .i64 r57.Kind)),(.p (.int .u32 r57.From)),(.p (.int .u32 r57.About)),v64,v66,v68,(.p (.int .u64 r57.Rate)),(.p (.int .i64 r57.f_Type)),(.p (.int .i64 r57.Count)),v70]) rfl rfl (sC (sI _ _) (sC (sI _ _) (sC (sI _ _) (sC h65.still (sC h67.still (sC h69.still (sC (sI _ _) (sC (sI _ _) (sC (sI _ _) (sC h71.still sN)))))))))) rfl rfl
      refine Sim.op (sM e73) ?_
      refine Sim.op ((S74.atG (i:=0) rfl).ldVs (j:=0) (xs:=[(.p (.int .i64 r57.Kind)),(.p (.int .u32 r57.From)),(.p (.int .u32 r57.About)),v64,v66,v68,(.p (.int .u64 r57.Rate)),(.p (.int .i64 r57.f_Type)),(.p (.int .i64 r57.Count)),v70]) rfl rfl (by decide)) ?_
      refine Sim.call (zr6_Right_ok k r57 h63) fun r75 cs76 H77 h78 q79 => ?_
      cases q79
      refine Sim.ci ?_
      refine Sim.cqk ?_ ?_
      · refine Sim.as ?_
        refine Sim.pure ?_
        refine Sim.ab ?_
        refine Sim.cq ?_ ?_
        · exact hE1 12 H72 (S74.wk2 aN aN)
        refine Sim.op ((S74.atG (i:=0) rfl).ldVs (j:=0) (xs:=[(.p (.int .i64 r57.Kind)),(.p (.int .u32 r57.From)),(.p (.int .u32 r57.About)),v64,v66,v68,(.p (.int .u64 r57.Rate)),(.p (.int .i64 r57.f_Type)),(.p (.int .i64 r57.Count)),v70]) rfl rfl (by decide)) ?_
        have h117 : SlF dTaiReport [r57] (.fz [(.p (.int .i64 r57.Kind)),(.p (.int .u32 r57.From)),(.p (.int .u32 r57.About)),v64,v66,v68,(.p (.int .u64 r57.Rate)),(.p (.int .i64 r57.f_Type)),(.p (.int .i64 r57.Count)),v70] 1 10 true):=SlF.lit (cs:=[(.p (.int .i64 r57.Kind)),(.p (.int .u32 r57.From)),(.p (.int .u32 r57.About)),v64,v66,v68,(.p (.int .u64 r57.Rate)),(.p (.int .i64 r57.f_Type)),(.p (.int .i64 r57.Count)),v70]) (RL.cons h63 RL.nil) rfl rfl true
        refine Sim.op (bldS (pC (c:=[(.p (.int .i64 r57.Kind)),(.p (.int .u32 r57.From)),(.p (.int .u32 r57.About)),v64,v66,v68,(.p (.int .u64 r57.Rate)),(.p (.int .i64 r57.f_Type)),(.p (.int .i64 r57.Count)),v70]) rfl pN) (by kernel_rfl : _ = some (vOf h117))) ?_
        refine Sim.bd fun a118 h119 => ?_
        obtain ⟨v120,H121,e122,S123⟩:=S74.app (i:=0) (d:=89) (e:=10) (own:=false) (σ:=(3::0::1::1::1::1::1::1::1::0::σ)) rfl (h117.h H72).y h119 rfl (by decide) (by decide) rfl
        refine Sim.op (e122) ?_
        refine Sim.op ((h23.h H121).len) ?_
        refine Sim.ci ?_
        exact ih x0 a118 (IntKind.wrap .i64 (x5 + ((r17.1.length : Int)))) v7 h8 v120 H121 (S123.wk2 aN (aC ⟨[89,89],by simp,aM 0 rfl⟩ aN))
      · refine Sim.as ?_
        refine Sim.op ((S74.atG (i:=0) rfl).ldVs (j:=0) (xs:=[(.p (.int .i64 r57.Kind)),(.p (.int .u32 r57.From)),(.p (.int .u32 r57.About)),v64,v66,v68,(.p (.int .u64 r57.Rate)),(.p (.int .i64 r57.f_Type)),(.p (.int .i64 r57.Count)),v70]) rfl rfl (by decide)) ?_
        refine Sim.op ((S74.atG (i:=0) rfl).ldVs (j:=0) (xs:=[(.p (.int .i64 r57.Kind)),(.p (.int .u32 r57.From)),(.p (.int .u32 r57.About)),v64,v66,v68,(.p (.int .u64 r57.Rate)),(.p (.int .i64 r57.f_Type)),(.p (.int .i64 r57.Count)),v70]) rfl rfl (by decide)) ?_
        refine Sim.call (zr6_one_ok k r57 h63) fun r80 cs81 H82 h83 q84 => ?_
        obtain ⟨c85,cs86,h87,h88,q84⟩:=q84
        cases q84
        obtain ⟨v89,H90,e91,S92⟩:=S74.land (dt:=(dI .u8)) (d:=78) (e:=0) (n:=0) h87 h88 (by decide) rfl
        erw [e91]
        refine Sim.nd ((S92.atG (i:=0) rfl).ldVs (j:=0) (xs:=[(.p (.int .i64 r57.Kind)),(.p (.int .u32 r57.From)),(.p (.int .u32 r57.About)),v64,v66,v68,(.p (.int .u64 r57.Rate)),(.p (.int .i64 r57.f_Type)),(.p (.int .i64 r57.Count)),v70]) rfl rfl (by decide)) ?_
        refine Sim.op ((S92.sl (i:=0) rfl).str) ?_
        refine Sim.op (castS_p _) ?_
        refine Sim.call (zr6_short_ok k r17.1 (h23.h H90) r57 h63) fun r94 cs95 H96 h97 q98 => ?_
        obtain ⟨c99,cs100,h101,h102,q98⟩:=q98
        cases q98
        obtain ⟨v103,H104,e105,S106⟩:=S92.land (dt:=(dI .u8)) (d:=82) (e:=0) (n:=0) h101 h102 (by decide) rfl
        erw [e105]
        refine Sim.nd ((S106.sl (i:=1) rfl).str) ?_
        refine Sim.op ((S106.sl (i:=0) rfl).str) ?_
        refine Sim.op (castS_p _) ?_
        refine Sim.pure ?_
        refine Sim.ab ?_
        refine Sim.cq ?_ ?_
        · exact hE1 12 H104 (S106.wk2 aN aN)
        refine Sim.op ((S106.atG (i:=0) rfl).ldVs (j:=0) (xs:=[(.p (.int .i64 r57.Kind)),(.p (.int .u32 r57.From)),(.p (.int .u32 r57.About)),v64,v66,v68,(.p (.int .u64 r57.Rate)),(.p (.int .i64 r57.f_Type)),(.p (.int .i64 r57.Count)),v70]) rfl rfl (by decide)) ?_
        have h109 : SlF dTaiReport [r57] (.fz [(.p (.int .i64 r57.Kind)),(.p (.int .u32 r57.From)),(.p (.int .u32 r57.About)),v64,v66,v68,(.p (.int .u64 r57.Rate)),(.p (.int .i64 r57.f_Type)),(.p (.int .i64 r57.Count)),v70] 1 10 true):=SlF.lit (cs:=[(.p (.int .i64 r57.Kind)),(.p (.int .u32 r57.From)),(.p (.int .u32 r57.About)),v64,v66,v68,(.p (.int .u64 r57.Rate)),(.p (.int .i64 r57.f_Type)),(.p (.int .i64 r57.Count)),v70]) (RL.cons h63 RL.nil) rfl rfl true
        refine Sim.op (bldS (pC (c:=[(.p (.int .i64 r57.Kind)),(.p (.int .u32 r57.From)),(.p (.int .u32 r57.About)),v64,v66,v68,(.p (.int .u64 r57.Rate)),(.p (.int .i64 r57.f_Type)),(.p (.int .i64 r57.Count)),v70]) rfl pN) (by kernel_rfl : _ = some (vOf h109))) ?_
        refine Sim.bd fun a110 h111 => ?_
        obtain ⟨v112,H113,e114,S115⟩:=S106.app (i:=2) (d:=89) (e:=10) (own:=false) (σ:=(3::0::1::1::1::1::1::1::1::0::σ)) rfl (h109.h H104).y h111 rfl (by decide) (by decide) rfl
        refine Sim.op (e114) ?_
        refine Sim.op ((h23.h H113).len) ?_
        refine Sim.ci ?_
        exact ih x0 a110 (IntKind.wrap .i64 (x5 + ((r17.1.length : Int)))) v7 h8 v112 H113 (S115.wk2 aN (aC ⟨[89,89],by simp,aM 2 rfl⟩ aN))
    exact hE0 x4 v9 H5 (S6.wk2 aN (aC ⟨[89],by simp,aM 0 rfl⟩ aN))
theorem zr6_Read_ok (k : Nat) {h : H} {σ : Stamp} (x0 : List Int) {u0 : V} (hu0 : SlH h (dI .u8) x0 u0) : Sim (p_zr6_Read k x0) (ev G X0 49 σ [u0] h) (fun r s => ∃ (v0 : V),SlF dTaiReport r.1 v0∧s = ([.v v0,.v (.p (.int .i64 r.2))],h)):=by
  refine Sim.ev rfl (Sim.ext (zr6_Read_entry _ _ _ _ _) ?_)
  rw [p_zr6_Read]
  have S0 : Fm 95 h [] [] [] (List.replicate 95 []::h):=Fm.start0
  refine Sim.op ((S0.low hu0).len) ?_
  refine Sim.ci ?_
  refine Sim.cq ?_ ?_
  · exact Sim.fin (S0.finN (lC (SlF.nil dTaiReport).still.lv (lC (sI _ _).lv lN))) ⟨(.p (.slice none 0 0)),(SlF.nil dTaiReport),rfl⟩
  refine Sim.op ((S0.low hu0).len) ?_
  refine Sim.ci ?_
  refine Sim.cq ?_ ?_
  · exact Sim.fin (S0.finN (lC (SlF.nil dTaiReport).still.lv (lC (sI _ _).lv lN))) ⟨(.p (.slice none 0 0)),(SlF.nil dTaiReport),rfl⟩
  have S131:=S0.nil dTaiReport []
  refine Sim.as (zr6_Read_l0_ok ?_ ?_ k x0 (([] : List TaiReport)) 0 u0 hu0 (.p (.slice none 0 0)) (List.replicate 95 []::h) (S131.wk2 aN (aC ⟨[],by simp,aM 0 rfl⟩ aN)))
  · intro r132_4 v135 H133 S134
    refine Sim.ext (zr6_Read_a0_0 _ _ _ _ _) ?_
    obtain ⟨v142,H137,e138,h140,S139⟩:=S134.expFrz (i:=0) (τ:=0::1::σ) rfl rfl
    exact Sim.fin (S139.finE (Ex.st e138 (Ex.pl (sI _ _).lv Ex.nil))) ⟨v142,h140,rfl⟩
  · intro r143_3 H144 S145
    refine Sim.ext (zr6_Read_a0_ret _ _ _ _ _ _) ?_
    exact Sim.fin (S145.finN (lC (SlF.nil dTaiReport).still.lv (lC (sI _ _).lv lN))) ⟨(.p (.slice none 0 0)),(SlF.nil dTaiReport),rfl⟩
def p_zl6_reads (k : Nat) (x0 : (List Int)) : Option (Bool) :=
(p_rtcp_Read k x0).bind fun r1 =>
(p_zr6_Read k x0).bind fun r8 =>
(bif r1.2 == r8.2 then ((p_zr6_All k r1.1 r8.1).bind fun r15 =>
some r15) else (some false)).bind fun b20 =>
(bif b20 then ((p_rtcp_Is x0).bind fun r24 =>
(p_zr6_Is x0).bind fun r29 =>
some (r24 == r29)) else (some false)).bind fun b34 =>
some (b34)
theorem zl6_reads_ok (k : Nat) {h : H} {σ : Stamp} (x0 : List Int) {u0 : V} (hu0 : SlF (dI .u8) x0 u0) : Sim (p_zl6_reads k x0) (ev G X0 19 σ [u0] h) (fun r s => s = ([.v (.p (.bool r))],h)):=by
  refine Sim.ev rfl (Sim.ext (zl6_reads_entry _ _ _ _ _) ?_)
  rw [p_zl6_reads]
  have S0 : Fm 32 h [] [] [] (List.replicate 32 []::h):=Fm.start0
  erw [callFO_eq (frzAs_cons (frzA_F hu0) frzAs_nil)]
  refine Sim.call (rtcp_Read_ok k x0 hu0) fun r1 cs2 H3 h4 q5 => ?_
  obtain ⟨v6,h7,q5⟩:=q5
  cases q5
  refine Sim.or ?_
  refine Sim.or ?_
  refine Sim.ci ?_
  refine Sim.call (zr6_Read_ok k x0 (hu0.h (List.replicate 32 []::h))) fun r8 cs9 H10 h11 q12 => ?_
  obtain ⟨v13,h14,q12⟩:=q12
  cases q12
  refine Sim.or ?_
  refine Sim.or ?_
  refine Sim.ci ?_
  refine Sim.ch (P:=fun r y => (.p (.bool r),(List.replicate 32 []::h)) = y) ?_ (fun b20 y21 h22 h23 => ?_)
  · refine Sim.cq ?_ ?_
    · refine Sim.call (zr6_All_ok k r1.1 (h7.h (List.replicate 32 []::h)) r8.1 (h14.h (List.replicate 32 []::h))) fun r15 cs16 H17 h18 q19 => ?_
      cases q19
      refine Sim.ab ?_
      exact Sim.ret rfl rfl
    · exact Sim.ret rfl rfl
  subst h23
  refine Sim.ab ?_
  refine Sim.ch (P:=fun r y => (.p (.bool r),(List.replicate 32 []::h)) = y) ?_ (fun b34 y35 h36 h37 => ?_)
  · refine Sim.cq ?_ ?_
    · refine Sim.call (rtcp_Is_ok x0 (hu0.h (List.replicate 32 []::h))) fun r24 cs25 H26 h27 q28 => ?_
      cases q28
      refine Sim.ab ?_
      refine Sim.call (zr6_Is_ok x0 (hu0.h (List.replicate 32 []::h))) fun r29 cs30 H31 h32 q33 => ?_
      cases q33
      refine Sim.ab ?_
      exact Sim.ret rfl rfl
    · exact Sim.ret rfl rfl
  subst h37
  refine Sim.ab ?_
  exact Sim.fin (S0.finN (lC (sB _).lv lN)) rfl
end Go.Ev
namespace Go.Ev
open Go.Proofs
set_option linter.unusedVariables false
set_option linter.unusedSimpArgs false
set_option maxRecDepth 100000
noncomputable section
abbrev KT37:=Exit→Env→H→Option (List C × H)
variable (rec : CallF) (loop : LoopV) (σ : Stamp)
def zl6_same_c0 : Code:=(codeAt (bodyOf Try.f16) [1,1,1,0,1,0,0])
def zl6_same_l0 : Lv:=⟨120,4,[(0,120)]⟩
def zl6_same_k0 : KT37:=(kBlock 0 (kSeq G rec loop (codeAt (bodyOf Try.f16) [1,1,1,1]) ⟨4,4,[]⟩ (1::1::1::0::σ) (finC G false Try.f16 (1::σ))))
theorem zl6_same_entry (x0 : V) (h : H) : cvBody G rec loop 16 σ [x0] h =
(callFO rec 24 (1::0::1::0::σ) [x0] (List.replicate 55 []::h) (some 11)).bind fun q1 =>
(extV q1.1 0).bind fun t2 =>
(extV q1.1 1).bind fun t3 =>
(castI .i64 t3).bind fun n4 =>
(callO rec 18 (1::0::1::1::0::σ) [x0] q1.2 (some 16)).bind fun q5 =>
(extV q5.1 0).bind fun t6 =>
(extV q5.1 1).bind fun t7 =>
(castI .i64 t7).bind fun n8 =>
(lenO x0).bind fun t9 =>
(castI .i64 t9).bind fun n10 =>
(loop zl6_same_c0 zl6_same_l0 (1::0::1::1::1::0::σ) (envL [(3,t2),(4,(.p (.int .i64 n4))),(5,t6),(6,(.p (.int .i64 n8))),(19,x0),(20,(.p (.int .i64 n10))),(21,(.p (.int .i64 0)))]) q5.2).bind fun r11 => zl6_same_k0 rec loop σ r11.1 r11.2.1 r11.2.2:=by kernel_rfl
theorem zl6_same_r0 (x3 : V) (x4 : Int) (x5 : V) (x6 : Int) (x19 : V) (x20 : Int) (x21 : Int) (h : H) : cvRound G rec loop zl6_same_c0 zl6_same_l0 σ (envL [(3,x3),(4,(.p (.int .i64 x4))),(5,x5),(6,(.p (.int .i64 x6))),(19,x19),(20,(.p (.int .i64 x20))),(21,(.p (.int .i64 x21)))]) h =
bif decide (x21 < x20) then (
(iS 10 x19 x21).bind fun t12 =>
(ldO true 10 h t12).bind fun t13 =>
(some (alO [.p (.int .i64 0),.p (.int .u32 0),.p (.int .u32 0),.p (.slice none 0 0),.p (.slice none 0 0),.p (.slice none 0 0),.p (.int .u64 0),.p (.int .i64 0),.p (.int .i64 0),.p (.slice none 0 0)] (2::0::0::1::1::0::σ) 8 h)).bind fun q14 =>
((stO false 10 (3::0::0::1::1::0::σ) q14.2 q14.1 t13).map fun h => (udf,h)).bind fun q15 =>
(ldO true 10 q15.2 q14.1).bind fun t16 =>
(ldO true 10 q15.2 q14.1).bind fun t17 =>
(callO rec 28 (1::0::1::0::1::1::0::σ) [t16] q15.2 (some 26)).bind fun q18 =>
(castI .i64 q18.1).bind fun n19 =>
need (ldO true 10 q18.2 q14.1 = some t17) (
(callO rec 47 (3::0::1::0::1::1::0::σ) [t17] q18.2 (some 28)).bind fun q20 =>
(castI .i64 q20.1).bind fun n21 =>
(bif n19 != n21 then (some ((.p (.bool true)),q20.2)) else ((ldO true 10 q20.2 q14.1).bind fun t22 =>
(ldO true 10 q20.2 q14.1).bind fun t23 =>
(callO rec 22 (8::0::1::0::1::1::0::σ) [t22,t23] q20.2 (some 33)).bind fun q24 =>
(asB q24.1).bind fun b25 =>
some ((.p (.bool (!b25))),q24.2))).bind fun q26 =>
(asB q26.1).bind fun b27 =>
bif b27 then (
some (.ret,(envL [(2,(.p (.bool false)))]),q26.2))
else (
loop zl6_same_c0 zl6_same_l0 (1::σ) (envL [(3,x3),(4,(.p (.int .i64 x4))),(5,x5),(6,(.p (.int .i64 x6))),(19,x19),(20,(.p (.int .i64 x20))),(21,(.p (.int .i64 (IntKind.wrap .i64 (x21 + 1)))))]) q26.2)))
else (
some ((.exit 0),(envL [(3,x3),(4,(.p (.int .i64 x4))),(5,x5),(6,(.p (.int .i64 x6)))]),h)):=by kernel_rfl
theorem zl6_same_a0_0 (x3 : V) (x4 : Int) (x5 : V) (x6 : Int) (h : H) : zl6_same_k0 rec loop σ (.exit 0) (envL [(3,x3),(4,(.p (.int .i64 x4))),(5,x5),(6,(.p (.int .i64 x6)))]) h =
(bif x4 == x6 then ((strO h x3).bind fun t28 =>
(castS t28).bind fun s29 =>
(strO h x5).bind fun t30 =>
(castS t30).bind fun s31 =>
some (s29.toList == s31.toList)) else (some false)).bind fun b32 =>
(bif b32 then ((bif x6 != 0 then (some ((.p (.bool true)),h)) else ((callFO rec 19 (15::0::1::1::1::1::0::σ) [x5] h (some 52)).bind fun q33 =>
(asB q33.1).bind fun b34 =>
some ((.p (.bool b34)),q33.2))).bind fun q35 =>
(asB q35.1).bind fun b36 =>
some ((.p (.bool b36)),q35.2)) else (some ((.p (.bool false)),h))).bind fun q37 =>
(asB q37.1).bind fun b38 =>
fin false σ q37.2 [(.p (.bool b38))]:=by kernel_rfl
theorem zl6_same_a0_ret (x2 : Bool) (h : H) : zl6_same_k0 rec loop σ .ret (envL [(2,(.p (.bool x2)))]) h =
fin false σ h [(.p (.bool x2))]:=by kernel_rfl
def zr6_Bytes_c0 : Code:=(codeAt (bodyOf Try.f18) [1,1,1,0,1,0,0])
def zr6_Bytes_l0 : Lv:=⟨17,12,[(0,17)]⟩
def zr6_Bytes_k0 : KT37:=(kBlock 0 (kSeq G rec loop (codeAt (bodyOf Try.f18) [1,1,1,1]) ⟨12,12,[]⟩ (1::1::1::0::σ) (finC G true Try.f18 (1::σ))))
def zr6_Bytes_c1 : Code:=(codeAt (bodyOf Try.f18) [1,1,1,1,0,1,0,0])
def zr6_Bytes_l1 : Lv:=⟨16,12,[(2,16)]⟩
def zr6_Bytes_k1 : KT37:=(kBlock 2 (kSeq G rec loop (codeAt (bodyOf Try.f18) [1,1,1,1,1]) ⟨12,12,[]⟩ (1::1::1::1::0::σ) (finC G true Try.f18 (1::σ))))
theorem zr6_Bytes_entry (x0 : V) (h : H) : cvBody G rec loop 18 σ [x0] h =
(lenO x0).bind fun t1 =>
(castI .i64 t1).bind fun n2 =>
bif n2 == 0 then (
fin true σ (List.replicate 40 []::h) [(.p (.slice .none 0 0)),(.p (.int .i64 1))])
else (
(lenO x0).bind fun t3 =>
(castI .i64 t3).bind fun n4 =>
(loop zr6_Bytes_c0 zr6_Bytes_l0 (1::0::1::1::1::0::σ) (envL [(0,x0),(4,(.p (.slice .none 0 0))),(13,x0),(14,(.p (.int .i64 n4))),(15,(.p (.int .i64 0)))]) (List.replicate 40 []::h)).bind fun r5 => zr6_Bytes_k0 rec loop σ r5.1 r5.2.1 r5.2.2):=by kernel_rfl
theorem zr6_Bytes_r0 (x0 : V) (x4 : V) (x13 : V) (x14 : Int) (x15 : Int) (h : H) : cvRound G rec loop zr6_Bytes_c0 zr6_Bytes_l0 σ (envL [(0,x0),(4,x4),(13,x13),(14,(.p (.int .i64 x14))),(15,(.p (.int .i64 x15)))]) h =
bif decide (x15 < x14) then (
(iS 10 x13 x15).bind fun t6 =>
(ldO true 10 h t6).bind fun t7 =>
(some (alO [.p (.int .i64 0),.p (.int .u32 0),.p (.int .u32 0),.p (.slice none 0 0),.p (.slice none 0 0),.p (.slice none 0 0),.p (.int .u64 0),.p (.int .i64 0),.p (.int .i64 0),.p (.slice none 0 0)] (2::0::0::1::1::0::σ) 6 h)).bind fun q8 =>
((stO false 10 (3::0::0::1::1::0::σ) q8.2 q8.1 t7).map fun h => (udf,h)).bind fun q9 =>
(ldO true 10 q9.2 q8.1).bind fun t10 =>
(callO rec 47 (1::0::1::0::1::1::0::σ) [t10] q9.2 (some 20)).bind fun q11 =>
(castI .i64 q11.1).bind fun n12 =>
bif n12 != 0 then (
some (.ret,(envL [(2,(.p (.slice .none 0 0))),(3,(.p (.int .i64 n12)))]),q11.2))
else (
loop zr6_Bytes_c0 zr6_Bytes_l0 (1::σ) (envL [(0,x0),(4,x4),(13,x13),(14,(.p (.int .i64 x14))),(15,(.p (.int .i64 (IntKind.wrap .i64 (x15 + 1)))))]) q11.2))
else (
some ((.exit 0),(envL [(0,x0),(4,x4)]),h)):=by kernel_rfl
theorem zr6_Bytes_a0_0 (x0 : V) (x4 : V) (h : H) : zr6_Bytes_k0 rec loop σ (.exit 0) (envL [(0,x0),(4,x4)]) h =
(lenO x0).bind fun t13 =>
(castI .i64 t13).bind fun n14 =>
(loop zr6_Bytes_c1 zr6_Bytes_l1 (1::0::1::1::1::1::0::σ) (envL [(4,x4),(25,x0),(26,(.p (.int .i64 n14))),(27,(.p (.int .i64 0)))]) h).bind fun r15 => zr6_Bytes_k1 rec loop σ r15.1 r15.2.1 r15.2.2:=by kernel_rfl
theorem zr6_Bytes_a0_ret (x2 : V) (x3 : Int) (h : H) : zr6_Bytes_k0 rec loop σ .ret (envL [(2,x2),(3,(.p (.int .i64 x3)))]) h =
fin true σ h [x2,(.p (.int .i64 x3))]:=by kernel_rfl
theorem zr6_Bytes_r1 (x4 : V) (x25 : V) (x26 : Int) (x27 : Int) (h : H) : cvRound G rec loop zr6_Bytes_c1 zr6_Bytes_l1 σ (envL [(4,x4),(25,x25),(26,(.p (.int .i64 x26))),(27,(.p (.int .i64 x27)))]) h =
bif decide (x27 < x26) then (
(iS 10 x25 x27).bind fun t16 =>
(ldO true 10 h t16).bind fun t17 =>
(some (alO [.p (.int .i64 0),.p (.int .u32 0),.p (.int .u32 0),.p (.slice none 0 0),.p (.slice none 0 0),.p (.slice none 0 0),.p (.int .u64 0),.p (.int .i64 0),.p (.int .i64 0),.p (.slice none 0 0)] (2::0::0::1::1::0::σ) 9 h)).bind fun q18 =>
((stO false 10 (3::0::0::1::1::0::σ) q18.2 q18.1 t17).map fun h => (udf,h)).bind fun q19 =>
(ldO true 10 q19.2 q18.1).bind fun t20 =>
(callO rec 48 (2::1::0::1::1::0::σ) [t20] q19.2 (some 33)).bind fun q21 =>
(apO true 1 1 (3::1::0::1::1::0::σ) 34 q21.2 x4 q21.1).bind fun q22 =>
loop zr6_Bytes_c1 zr6_Bytes_l1 (1::σ) (envL [(4,q22.1),(25,x25),(26,(.p (.int .i64 x26))),(27,(.p (.int .i64 (IntKind.wrap .i64 (x27 + 1)))))]) q22.2)
else (
some ((.exit 2),(envL [(4,x4)]),h)):=by kernel_rfl
theorem zr6_Bytes_a1_2 (x4 : V) (h : H) : zr6_Bytes_k1 rec loop σ (.exit 2) (envL [(4,x4)]) h =
(lenO x4).bind fun t23 =>
(castI .i64 t23).bind fun n24 =>
bif decide (n24 > 1500) then (
fin true σ h [(.p (.slice .none 0 0)),(.p (.int .i64 3))])
else (
fin true σ h [x4,(.p (.int .i64 0))]):=by kernel_rfl
end
end Go.Ev
namespace Go.Ev
open Go.Proofs
set_option linter.unusedVariables false
set_option linter.unusedSimpArgs false
set_option maxRecDepth 100000
def p_zr6_Bytes_l0 {β : Type} (k : Nat) (kE0 : (List TaiReport)→Option β) (kE1 : Int→Option β) (x0 : (List TaiReport)) (x13 : (List TaiReport)) (x14 : Int) (x15 : Int) : Option β:=match k with
| 0 => none
| k + 1 =>
bif decide (x15 < x14) then (
(ix x13 x15).bind fun a9 =>
(p_zr6_Right k a9).bind fun r29 =>
bif r29 != 0 then (
kE1 r29)
else (
p_zr6_Bytes_l0 k kE0 kE1 x0 x13 x14 (IntKind.wrap .i64 (x15 + 1))))
else (
kE0 x0)
def p_zr6_Bytes_l1 {β : Type} (k : Nat) (kE0 : (List Int)→Option β) (x4 : (List Int)) (x25 : (List TaiReport)) (x26 : Int) (x27 : Int) : Option β:=match k with
| 0 => none
| k + 1 =>
bif decide (x27 < x26) then (
(ix x25 x27).bind fun a55 =>
(p_zr6_one k a55).bind fun r75 =>
(ap 1 x4 r75).bind fun a89 =>
p_zr6_Bytes_l1 k kE0 a89 x25 x26 (IntKind.wrap .i64 (x27 + 1)))
else (
kE0 x4)
def p_zr6_Bytes (k : Nat) (x0 : (List TaiReport)) : Option ((List Int) × Int) :=
bif ((x0.length : Int)) == 0 then (
some ((([] : List Int)),1))
else (
p_zr6_Bytes_l0 k (fun r41_0 =>
p_zr6_Bytes_l1 k (fun r101_4 =>
bif decide (((r101_4.length : Int)) > 1500) then (
some ((([] : List Int)),3))
else (
some (r101_4,0))) (([] : List Int)) r41_0 ((r41_0.length : Int)) 0) (fun r113_3 =>
some ((([] : List Int)),r113_3)) x0 x0 ((x0.length : Int)) 0)
theorem zr6_Bytes_l0_ok {h : H}  {β α : Type} {Q : β→α→Prop} {K : Exit × Env × H→Option α} {kE0 : (List TaiReport)→Option β} {kE1 : Int→Option β} (hE0 : ∀ (q0 : (List TaiReport)) (v37 : V) (h38 : SlH h dTaiReport q0 v37) (H35 : Go.Ev.H) (_ : Fm 40 h [] [] [] H35),Sim (kE0 q0) (K ((.exit 0),(envL [(0,v37),(4,(.p (.slice none 0 0)))]),H35)) Q) (hE1 : ∀ (q3 : Int) (H39 : Go.Ev.H) (_ : Fm 40 h [] [] [] H39),Sim (kE1 q3) (K (.ret,(envL [(2,(.p (.slice none 0 0))),(3,(.p (.int .i64 q3)))]),H39)) Q) (k : Nat) : ∀ (x0 : (List TaiReport)) (x13 : (List TaiReport)) (x14 : Int) (x15 : Int) (v4 : V) (h5 : SlH h dTaiReport x0 v4) (v6 : V) (h7 : SlH h dTaiReport x13 v6) (H2 : Go.Ev.H) (_ : Fm 40 h [] [] [] H2) {σ : Stamp},Sim (p_zr6_Bytes_l0 k kE0 kE1 x0 x13 x14 x15) ((cvL G X0 zr6_Bytes_c0 zr6_Bytes_l0 σ (envL [(0,v4),(4,(.p (.slice none 0 0))),(13,v6),(14,(.p (.int .i64 x14))),(15,(.p (.int .i64 x15)))]) H2).bind K) Q:=by
  induction k with
  | zero => intros; exact Sim.no
  | succ k ih =>
    intro x0 x13 x14 x15 v4 h5 v6 h7 H2 S3 σ
    rw [p_zr6_Bytes_l0]
    refine Sim.round (Sim.ext (zr6_Bytes_r0 _ _ _ _ _ _ _ _ _) ?_)
    refine Sim.cq ?_ ?_
    · refine Sim.bd fun a9 h10 => ?_
      refine Sim.op ((S3.low h7).iS h10 rfl) ?_
      obtain ⟨w12,h13,hE11⟩:=(S3.low h7).el h10 rfl
      obtain ⟨v14,v16,v18,v20,rfl,h15,h17,h19,h21⟩:=dTaiReport.inv h13
      refine Sim.op (hE11.all (by simp)) ?_
      obtain ⟨H22,e23,S24⟩:=S3.al (d:=6) (s:=(2::0::0::1::1::0::σ)) (z:=[(.p (.int .i64 0)),(.p (.int .u32 0)),(.p (.int .u32 0)),(.p (.slice none 0 0)),(.p (.slice none 0 0)),(.p (.slice none 0 0)),(.p (.int .u64 0)),(.p (.int .i64 0)),(.p (.int .i64 0)),(.p (.slice none 0 0))]) (by decide) rfl
      refine Sim.op (congrArg some e23) ?_
      obtain ⟨H26,e27,S28⟩:=S24.stGv (i:=0) (j:=0) (own:=false) (σ:=(3::0::0::1::1::0::σ)) (xs:=[.p (.int .i64 a9.Kind),.p (.int .u32 a9.From),.p (.int .u32 a9.About),v14,v16,v18,.p (.int .u64 a9.Rate),.p (.int .i64 a9.f_Type),.p (.int .i64 a9.Count),v20]) rfl rfl (sC (sI _ _) (sC (sI _ _) (sC (sI _ _) (sC h15.still (sC h17.still (sC h19.still (sC (sI _ _) (sC (sI _ _) (sC (sI _ _) (sC h21.still sN)))))))))) rfl rfl
      refine Sim.op (sM e27) ?_
      refine Sim.op ((S28.atG (i:=0) rfl).ldVs (j:=0) (xs:=[.p (.int .i64 a9.Kind),.p (.int .u32 a9.From),.p (.int .u32 a9.About),v14,v16,v18,.p (.int .u64 a9.Rate),.p (.int .i64 a9.f_Type),.p (.int .i64 a9.Count),v20]) rfl rfl (by decide)) ?_
      refine Sim.call (zr6_Right_ok k a9 (show dTaiReport.R a9 [.p (.int .i64 a9.Kind),.p (.int .u32 a9.From),.p (.int .u32 a9.About),v14,v16,v18,.p (.int .u64 a9.Rate),.p (.int .i64 a9.f_Type),.p (.int .i64 a9.Count),v20] from (dTaiReport.mk h15 h17 h19 h21))) fun r29 cs30 H31 h32 q33 => ?_
      cases q33
      refine Sim.ci ?_
      refine Sim.cq ?_ ?_
      · exact hE1 r29 H26 (S28.wk2 aN aN)
      exact ih x0 x13 x14 (IntKind.wrap .i64 (x15 + 1)) v4 h5 v6 h7 H26 (S28.wk2 aN aN)
    exact hE0 x0 v4 h5 H2 (S3.wk2 aN aN)
theorem zr6_Bytes_l1_ok {h : H}  {β α : Type} {Q : β→α→Prop} {K : Exit × Env × H→Option α} {kE0 : (List Int)→Option β} (hE0 : ∀ (q4 : (List Int)) (v97 : V) (H95 : Go.Ev.H) (_ : Fm 40 h [] [] [⟨[34],v97,(dI .u8),q4⟩] H95),Sim (kE0 q4) (K ((.exit 2),(envL [(4,v97)]),H95)) Q) (k : Nat) : ∀ (x4 : (List Int)) (x25 : (List TaiReport)) (x26 : Int) (x27 : Int) (v50 : V) (v52 : V) (h53 : SlH h dTaiReport x25 v52) (H48 : Go.Ev.H) (_ : Fm 40 h [] [] [⟨[34],v50,(dI .u8),x4⟩] H48) {σ : Stamp},Sim (p_zr6_Bytes_l1 k kE0 x4 x25 x26 x27) ((cvL G X0 zr6_Bytes_c1 zr6_Bytes_l1 σ (envL [(4,v50),(25,v52),(26,(.p (.int .i64 x26))),(27,(.p (.int .i64 x27)))]) H48).bind K) Q:=by
  induction k with
  | zero => intros; exact Sim.no
  | succ k ih =>
    intro x4 x25 x26 x27 v50 v52 h53 H48 S49 σ
    rw [p_zr6_Bytes_l1]
    refine Sim.round (Sim.ext (zr6_Bytes_r1 _ _ _ _ _ _ _ _) ?_)
    refine Sim.cq ?_ ?_
    · refine Sim.bd fun a55 h56 => ?_
      refine Sim.op ((S49.low h53).iS h56 rfl) ?_
      obtain ⟨w58,h59,hE57⟩:=(S49.low h53).el h56 rfl
      obtain ⟨v60,v62,v64,v66,rfl,h61,h63,h65,h67⟩:=dTaiReport.inv h59
      refine Sim.op (hE57.all (by simp)) ?_
      obtain ⟨H68,e69,S70⟩:=S49.al (d:=9) (s:=(2::0::0::1::1::0::σ)) (z:=[(.p (.int .i64 0)),(.p (.int .u32 0)),(.p (.int .u32 0)),(.p (.slice none 0 0)),(.p (.slice none 0 0)),(.p (.slice none 0 0)),(.p (.int .u64 0)),(.p (.int .i64 0)),(.p (.int .i64 0)),(.p (.slice none 0 0))]) (by decide) rfl
      refine Sim.op (congrArg some e69) ?_
      obtain ⟨H72,e73,S74⟩:=S70.stGv (i:=0) (j:=0) (own:=false) (σ:=(3::0::0::1::1::0::σ)) (xs:=[.p (.int .i64 a55.Kind),.p (.int .u32 a55.From),.p (.int .u32 a55.About),v60,v62,v64,.p (.int .u64 a55.Rate),.p (.int .i64 a55.f_Type),.p (.int .i64 a55.Count),v66]) rfl rfl (sC (sI _ _) (sC (sI _ _) (sC (sI _ _) (sC h61.still (sC h63.still (sC h65.still (sC (sI _ _) (sC (sI _ _) (sC (sI _ _) (sC h67.still sN)))))))))) rfl rfl
      refine Sim.op (sM e73) ?_
      refine Sim.op ((S74.atG (i:=0) rfl).ldVs (j:=0) (xs:=[.p (.int .i64 a55.Kind),.p (.int .u32 a55.From),.p (.int .u32 a55.About),v60,v62,v64,.p (.int .u64 a55.Rate),.p (.int .i64 a55.f_Type),.p (.int .i64 a55.Count),v66]) rfl rfl (by decide)) ?_
      refine Sim.call (zr6_one_ok k a55 (show dTaiReport.R a55 [.p (.int .i64 a55.Kind),.p (.int .u32 a55.From),.p (.int .u32 a55.About),v60,v62,v64,.p (.int .u64 a55.Rate),.p (.int .i64 a55.f_Type),.p (.int .i64 a55.Count),v66] from (dTaiReport.mk h61 h63 h65 h67))) fun r75 cs76 H77 h78 q79 => ?_
      obtain ⟨c80,cs81,h82,h83,q79⟩:=q79
      cases q79
      obtain ⟨v84,H85,e86,S87⟩:=S74.land (dt:=(dI .u8)) (d:=33) (e:=0) (n:=0) h82 h83 (by decide) rfl
      erw [e86]
      refine Sim.bd fun a89 h90 => ?_
      obtain ⟨v91,H92,e93,S94⟩:=S87.app (i:=1) (d:=34) (e:=1) (own:=true) (σ:=(3::1::0::1::1::0::σ)) rfl (S87.sl (i:=0) rfl).y h90 rfl (by decide) (by decide) rfl
      refine Sim.op (e93) ?_
      exact ih a89 x25 x26 (IntKind.wrap .i64 (x27 + 1)) v91 v52 h53 H92 (S94.wk2 aN (aC ⟨[34,34],by simp,aM 1 rfl⟩ aN))
    exact hE0 x4 v50 H48 (S49.wk2 aN (aC ⟨[34],by simp,aM 0 rfl⟩ aN))
theorem zr6_Bytes_ok (k : Nat) {h : H} {σ : Stamp} (x0 : List TaiReport) {u0 : V} (hu0 : SlH h dTaiReport x0 u0) : Sim (p_zr6_Bytes k x0) (ev G X0 18 σ [u0] h) (fun r s => ∃ (v0 : V),SlF (dI .u8) r.1 v0∧s = ([.v v0,.v (.p (.int .i64 r.2))],h)):=by
  refine Sim.ev rfl (Sim.ext (zr6_Bytes_entry _ _ _ _ _) ?_)
  rw [p_zr6_Bytes]
  have S0 : Fm 40 h [] [] [] (List.replicate 40 []::h):=Fm.start0
  refine Sim.op ((S0.low hu0).len) ?_
  refine Sim.ci ?_
  refine Sim.cq ?_ ?_
  · exact Sim.fin (S0.finN (lC (SlF.nil (dI .u8)).still.lv (lC (sI _ _).lv lN))) ⟨(.p (.slice none 0 0)),(SlF.nil (dI .u8)),rfl⟩
  refine Sim.op ((S0.low hu0).len) ?_
  refine Sim.ci ?_
  refine Sim.as (zr6_Bytes_l0_ok ?_ ?_ k x0 x0 ((x0.length : Int)) 0 u0 hu0 u0 hu0 (List.replicate 40 []::h) (S0.wk2 aN aN))
  · intro r41_0 v44 h45 H42 S43
    refine Sim.ext (zr6_Bytes_a0_0 _ _ _ _ _ _) ?_
    refine Sim.op ((S43.low h45).len) ?_
    refine Sim.ci ?_
    have S100:=S43.nil (dI .u8) []
    refine Sim.as (zr6_Bytes_l1_ok ?_ k (([] : List Int)) r41_0 ((r41_0.length : Int)) 0 (.p (.slice none 0 0)) v44 h45 H42 (S100.wk2 aN (aC ⟨[],by simp,aM 0 rfl⟩ aN)))
    · intro r101_4 v104 H102 S103
      refine Sim.ext (zr6_Bytes_a1_2 _ _ _ _ _) ?_
      refine Sim.op ((S103.sl (i:=0) rfl).len) ?_
      refine Sim.ci ?_
      refine Sim.cq ?_ ?_
      · exact Sim.fin (S103.finN (lC (SlF.nil (dI .u8)).still.lv (lC (sI _ _).lv lN))) ⟨(.p (.slice none 0 0)),(SlF.nil (dI .u8)),rfl⟩
      obtain ⟨v112,H107,e108,h110,S109⟩:=S103.expFrz (i:=0) (τ:=0::1::σ) rfl rfl
      exact Sim.fin (S109.finE (Ex.st e108 (Ex.pl (sI _ _).lv Ex.nil))) ⟨v112,h110,rfl⟩
  · intro r113_3 H114 S115
    refine Sim.ext (zr6_Bytes_a0_ret _ _ _ _ _ _) ?_
    exact Sim.fin (S115.finN (lC (SlF.nil (dI .u8)).still.lv (lC (sI _ _).lv lN))) ⟨(.p (.slice none 0 0)),(SlF.nil (dI .u8)),rfl⟩
def p_zl6_same_l0 {β : Type} (k : Nat) (kE0 : (List Int)→Int→(List Int)→Int→Option β) (kE1 : Bool→Option β) (x3 : (List Int)) (x4 : Int) (x5 : (List Int)) (x6 : Int) (x19 : (List TaiReport)) (x20 : Int) (x21 : Int) : Option β:=match k with
| 0 => none
| k + 1 =>
bif decide (x21 < x20) then (
(ix x19 x21).bind fun a24 =>
(p_rtcp_Right k a24).bind fun r44 =>
(p_zr6_Right k a24).bind fun r49 =>
(bif r44 != r49 then (some true) else ((p_rtcp_Same k a24 a24).bind fun r54 =>
some (!r54))).bind fun b59 =>
bif b59 then (
kE1 false)
else (
p_zl6_same_l0 k kE0 kE1 x3 x4 x5 x6 x19 x20 (IntKind.wrap .i64 (x21 + 1))))
else (
kE0 x3 x4 x5 x6)
def p_zl6_same (k : Nat) (x0 : (List TaiReport)) : Option (Bool) :=
(p_rtcp_Bytes k x0).bind fun r1 =>
(p_zr6_Bytes k x0).bind fun r8 =>
p_zl6_same_l0 k (fun r72_3 r72_4 r72_5 r72_6 =>
(bif r72_4 == r72_6 then (some ((strB r72_3).toList == (strB r72_5).toList)) else (some false)).bind fun b79 =>
(bif b79 then ((bif r72_6 != 0 then (some true) else ((p_zl6_reads k r72_5).bind fun r83 =>
some r83)).bind fun b88 =>
some b88) else (some false)).bind fun b92 =>
some (b92)) (fun r96_2 =>
some (r96_2)) r1.1 r1.2 r8.1 r8.2 x0 ((x0.length : Int)) 0
theorem zl6_same_l0_ok {h : H}  {β α : Type} {Q : β→α→Prop} {K : Exit × Env × H→Option α} {kE0 : (List Int)→Int→(List Int)→Int→Option β} {kE1 : Bool→Option β} (hE0 : ∀ (q3 : (List Int)) (q4 : Int) (q5 : (List Int)) (q6 : Int) (v66 : V) (h67 : SlF (dI .u8) q3 v66) (v68 : V) (h69 : SlF (dI .u8) q5 v68) (H64 : Go.Ev.H) (_ : Fm 55 h [] [] [] H64),Sim (kE0 q3 q4 q5 q6) (K ((.exit 0),(envL [(3,v66),(4,(.p (.int .i64 q4))),(5,v68),(6,(.p (.int .i64 q6)))]),H64)) Q) (hE1 : ∀ (q2 : Bool) (H70 : Go.Ev.H) (_ : Fm 55 h [] [] [] H70),Sim (kE1 q2) (K (.ret,(envL [(2,(.p (.bool q2)))]),H70)) Q) (k : Nat) : ∀ (x3 : (List Int)) (x4 : Int) (x5 : (List Int)) (x6 : Int) (x19 : (List TaiReport)) (x20 : Int) (x21 : Int) (v17 : V) (h18 : SlF (dI .u8) x3 v17) (v19 : V) (h20 : SlF (dI .u8) x5 v19) (v21 : V) (h22 : SlF dTaiReport x19 v21) (H15 : Go.Ev.H) (_ : Fm 55 h [] [] [] H15) {σ : Stamp},Sim (p_zl6_same_l0 k kE0 kE1 x3 x4 x5 x6 x19 x20 x21) ((cvL G X0 zl6_same_c0 zl6_same_l0 σ (envL [(3,v17),(4,(.p (.int .i64 x4))),(5,v19),(6,(.p (.int .i64 x6))),(19,v21),(20,(.p (.int .i64 x20))),(21,(.p (.int .i64 x21)))]) H15).bind K) Q:=by
  induction k with
  | zero => intros; exact Sim.no
  | succ k ih =>
    intro x3 x4 x5 x6 x19 x20 x21 v17 h18 v19 h20 v21 h22 H15 S16 σ
    rw [p_zl6_same_l0]
    refine Sim.round (Sim.ext (zl6_same_r0 _ _ _ _ _ _ _ _ _ _ _) ?_)
    refine Sim.cq ?_ ?_
    · refine Sim.bd fun a24 h25 => ?_
      refine Sim.op ((h22.h H15).iS h25 rfl) ?_
      obtain ⟨w27,h28,hE26⟩:=(h22.h H15).el h25 rfl
      obtain ⟨v29,v31,v33,v35,rfl,h30,h32,h34,h36⟩:=dTaiReport.inv h28
      refine Sim.op (hE26.all (by simp)) ?_
      obtain ⟨H37,e38,S39⟩:=S16.al (d:=8) (s:=(2::0::0::1::1::0::σ)) (z:=[(.p (.int .i64 0)),(.p (.int .u32 0)),(.p (.int .u32 0)),(.p (.slice none 0 0)),(.p (.slice none 0 0)),(.p (.slice none 0 0)),(.p (.int .u64 0)),(.p (.int .i64 0)),(.p (.int .i64 0)),(.p (.slice none 0 0))]) (by decide) rfl
      refine Sim.op (congrArg some e38) ?_
      obtain ⟨H41,e42,S43⟩:=S39.stGv (i:=0) (j:=0) (own:=false) (σ:=(3::0::0::1::1::0::σ)) (xs:=[.p (.int .i64 a24.Kind),.p (.int .u32 a24.From),.p (.int .u32 a24.About),v29,v31,v33,.p (.int .u64 a24.Rate),.p (.int .i64 a24.f_Type),.p (.int .i64 a24.Count),v35]) rfl rfl (sC (sI _ _) (sC (sI _ _) (sC (sI _ _) (sC h30.still (sC h32.still (sC h34.still (sC (sI _ _) (sC (sI _ _) (sC (sI _ _) (sC h36.still sN)))))))))) rfl rfl
      refine Sim.op (sM e42) ?_
      refine Sim.op ((S43.atG (i:=0) rfl).ldVs (j:=0) (xs:=[.p (.int .i64 a24.Kind),.p (.int .u32 a24.From),.p (.int .u32 a24.About),v29,v31,v33,.p (.int .u64 a24.Rate),.p (.int .i64 a24.f_Type),.p (.int .i64 a24.Count),v35]) rfl rfl (by decide)) ?_
      refine Sim.op ((S43.atG (i:=0) rfl).ldVs (j:=0) (xs:=[.p (.int .i64 a24.Kind),.p (.int .u32 a24.From),.p (.int .u32 a24.About),v29,v31,v33,.p (.int .u64 a24.Rate),.p (.int .i64 a24.f_Type),.p (.int .i64 a24.Count),v35]) rfl rfl (by decide)) ?_
      refine Sim.call (rtcp_Right_ok k a24 (show dTaiReport.R a24 [.p (.int .i64 a24.Kind),.p (.int .u32 a24.From),.p (.int .u32 a24.About),v29,v31,v33,.p (.int .u64 a24.Rate),.p (.int .i64 a24.f_Type),.p (.int .i64 a24.Count),v35] from (dTaiReport.mk h30 h32 h34 h36))) fun r44 cs45 H46 h47 q48 => ?_
      cases q48
      refine Sim.ci ?_
      refine Sim.nd ((S43.atG (i:=0) rfl).ldVs (j:=0) (xs:=[.p (.int .i64 a24.Kind),.p (.int .u32 a24.From),.p (.int .u32 a24.About),v29,v31,v33,.p (.int .u64 a24.Rate),.p (.int .i64 a24.f_Type),.p (.int .i64 a24.Count),v35]) rfl rfl (by decide)) ?_
      refine Sim.call (zr6_Right_ok k a24 (show dTaiReport.R a24 [.p (.int .i64 a24.Kind),.p (.int .u32 a24.From),.p (.int .u32 a24.About),v29,v31,v33,.p (.int .u64 a24.Rate),.p (.int .i64 a24.f_Type),.p (.int .i64 a24.Count),v35] from (dTaiReport.mk h30 h32 h34 h36))) fun r49 cs50 H51 h52 q53 => ?_
      cases q53
      refine Sim.ci ?_
      refine Sim.ch (P:=fun r y => (.p (.bool r),H41) = y) ?_ (fun b59 y60 h61 h62 => ?_)
      · refine Sim.cq ?_ ?_
        · exact Sim.ret rfl rfl
        · refine Sim.op ((S43.atG (i:=0) rfl).ldVs (j:=0) (xs:=[.p (.int .i64 a24.Kind),.p (.int .u32 a24.From),.p (.int .u32 a24.About),v29,v31,v33,.p (.int .u64 a24.Rate),.p (.int .i64 a24.f_Type),.p (.int .i64 a24.Count),v35]) rfl rfl (by decide)) ?_
          refine Sim.op ((S43.atG (i:=0) rfl).ldVs (j:=0) (xs:=[.p (.int .i64 a24.Kind),.p (.int .u32 a24.From),.p (.int .u32 a24.About),v29,v31,v33,.p (.int .u64 a24.Rate),.p (.int .i64 a24.f_Type),.p (.int .i64 a24.Count),v35]) rfl rfl (by decide)) ?_
          refine Sim.call (rtcp_Same_ok k a24 (show dTaiReport.R a24 [.p (.int .i64 a24.Kind),.p (.int .u32 a24.From),.p (.int .u32 a24.About),v29,v31,v33,.p (.int .u64 a24.Rate),.p (.int .i64 a24.f_Type),.p (.int .i64 a24.Count),v35] from (dTaiReport.mk h30 h32 h34 h36)) a24 (show dTaiReport.R a24 [.p (.int .i64 a24.Kind),.p (.int .u32 a24.From),.p (.int .u32 a24.About),v29,v31,v33,.p (.int .u64 a24.Rate),.p (.int .i64 a24.f_Type),.p (.int .i64 a24.Count),v35] from (dTaiReport.mk h30 h32 h34 h36))) fun r54 cs55 H56 h57 q58 => ?_
          cases q58
          refine Sim.ab ?_
          exact Sim.ret rfl rfl
      subst h62
      refine Sim.ab ?_
      refine Sim.cq ?_ ?_
      · exact hE1 false H41 (S43.wk2 aN aN)
      exact ih x3 x4 x5 x6 x19 x20 (IntKind.wrap .i64 (x21 + 1)) v17 h18 v19 h20 v21 h22 H41 (S43.wk2 aN aN)
    exact hE0 x3 x4 x5 x6 v17 h18 v19 h20 H15 (S16.wk2 aN aN)
theorem zl6_same_ok (k : Nat) {h : H} {σ : Stamp} (x0 : List TaiReport) {u0 : V} (hu0 : SlF dTaiReport x0 u0) : Sim (p_zl6_same k x0) (ev G X0 16 σ [u0] h) (fun r s => s = ([.v (.p (.bool r))],h)):=by
  refine Sim.ev rfl (Sim.ext (zl6_same_entry _ _ _ _ _) ?_)
  rw [p_zl6_same]
  have S0 : Fm 55 h [] [] [] (List.replicate 55 []::h):=Fm.start0
  erw [callFO_eq (frzAs_cons (frzA_F hu0) frzAs_nil)]
  refine Sim.call (rtcp_Bytes_ok k x0 (hu0.h (List.replicate 55 []::h))) fun r1 cs2 H3 h4 q5 => ?_
  obtain ⟨v6,h7,q5⟩:=q5
  cases q5
  refine Sim.or ?_
  refine Sim.or ?_
  refine Sim.ci ?_
  refine Sim.call (zr6_Bytes_ok k x0 (hu0.h (List.replicate 55 []::h))) fun r8 cs9 H10 h11 q12 => ?_
  obtain ⟨v13,h14,q12⟩:=q12
  cases q12
  refine Sim.or ?_
  refine Sim.or ?_
  refine Sim.ci ?_
  refine Sim.op ((hu0.h (List.replicate 55 []::h)).len) ?_
  refine Sim.ci ?_
  refine Sim.as (zl6_same_l0_ok ?_ ?_ k r1.1 r1.2 r8.1 r8.2 x0 ((x0.length : Int)) 0 v6 h7 v13 h14 u0 hu0 (List.replicate 55 []::h) (S0.wk2 aN aN))
  · intro r72_3 r72_4 r72_5 r72_6 v75 h76 v77 h78 H73 S74
    refine Sim.ext (zl6_same_a0_0 _ _ _ _ _ _ _ _) ?_
    refine Sim.ch (P:=fun r y => r = y) ?_ (fun b79 y80 h81 h82 => ?_)
    · refine Sim.cq ?_ ?_
      · refine Sim.op ((h76.h H73).str) ?_
        refine Sim.op (castS_p _) ?_
        refine Sim.op ((h78.h H73).str) ?_
        refine Sim.op (castS_p _) ?_
        exact Sim.ret rfl rfl
      · exact Sim.ret rfl rfl
    subst h82
    refine Sim.ch (P:=fun r y => (.p (.bool r),H73) = y) ?_ (fun b92 y93 h94 h95 => ?_)
    · refine Sim.cq ?_ ?_
      · refine Sim.ch (P:=fun r y => (.p (.bool r),H73) = y) ?_ (fun b88 y89 h90 h91 => ?_)
        · refine Sim.cq ?_ ?_
          · exact Sim.ret rfl rfl
          · erw [callFO_eq (frzAs_cons (frzA_F h78) frzAs_nil)]
            refine Sim.call (zl6_reads_ok k r72_5 h78) fun r83 cs84 H85 h86 q87 => ?_
            cases q87
            refine Sim.ab ?_
            exact Sim.ret rfl rfl
        subst h91
        refine Sim.ab ?_
        exact Sim.ret rfl rfl
      · exact Sim.ret rfl rfl
    subst h95
    refine Sim.ab ?_
    exact Sim.fin (S74.finN (lC (sB _).lv lN)) rfl
  · intro r96_2 H97 S98
    refine Sim.ext (zl6_same_a0_ret _ _ _ _ _) ?_
    exact Sim.fin (S98.finN (lC (sB _).lv lN)) rfl
end Go.Ev
namespace Go.Ev
open Go.Proofs
set_option linter.unusedVariables false
set_option linter.unusedSimpArgs false
set_option maxRecDepth 100000
noncomputable section
abbrev KT38:=Exit→Env→H→Option (List C × H)
variable (rec : CallF) (loop : LoopV) (σ : Stamp)
def zl6_tape_c0 : Code:=(codeAt (bodyOf Try.f14) [1,1,0,1,0,0])
def zl6_tape_l0 : Lv:=⟨8,4,[(0,8)]⟩
def zl6_tape_k0 : KT38:=(kBlock 0 (kSeq G rec loop (codeAt (bodyOf Try.f14) [1,1,1]) ⟨4,4,[]⟩ (1::1::0::σ) (finC G true Try.f14 (1::σ))))
theorem zl6_tape_entry (x0 : Int) (h : H) : cvBody G rec loop 14 σ [(.p (.int .i64 x0))] h =
(loop zl6_tape_c0 zl6_tape_l0 (1::0::1::1::0::σ) (envL [(0,(.p (.int .i64 x0))),(3,(.p (.slice .none 0 0))),(4,(.p (.int .i64 0)))]) (List.replicate 25 []::h)).bind fun r1 => zl6_tape_k0 rec loop σ r1.1 r1.2.1 r1.2.2:=by kernel_rfl
theorem zl6_tape_r0 (x0 : Int) (x3 : V) (x4 : Int) (h : H) : cvRound G rec loop zl6_tape_c0 zl6_tape_l0 σ (envL [(0,(.p (.int .i64 x0))),(3,x3),(4,(.p (.int .i64 x4)))]) h =
bif decide (x4 < 400) then (
(bSV Try.prog 23 1 [(0,(.p (.int .i64 (Int.tmod (IntKind.wrap .i64 ((IntKind.wrap .i64 ((IntKind.wrap .i64 ((IntKind.wrap .i64 (x4 * x4)) * 7)) + (IntKind.wrap .i64 (x0 * 31)))) + (IntKind.wrap .i64 (x4 * x0)))) 211))))]).bind fun t2 =>
(apO true 1 8 (14::0::1::0::σ) 23 h x3 t2).bind fun q3 =>
loop zl6_tape_c0 zl6_tape_l0 (1::σ) (envL [(0,(.p (.int .i64 x0))),(3,q3.1),(4,(.p (.int .i64 (IntKind.wrap .i64 (x4 + 1)))))]) q3.2)
else (
some ((.exit 0),(envL [(3,x3)]),h)):=by kernel_rfl
theorem zl6_tape_a0_0 (x3 : V) (h : H) : zl6_tape_k0 rec loop σ (.exit 0) (envL [(3,x3)]) h =
fin true σ h [x3]:=by kernel_rfl
end
end Go.Ev
namespace Go.Ev
open Go.Proofs
set_option linter.unusedVariables false
set_option linter.unusedSimpArgs false
set_option maxRecDepth 100000
def p_zl6_tape_l0 {β : Type} (k : Nat) (kE0 : (List Int)→Option β) (x0 : Int) (x3 : (List Int)) (x4 : Int) : Option β:=match k with
| 0 => none
| k + 1 =>
bif decide (x4 < 400) then (
(ap 8 x3 ([(Int.tmod (IntKind.wrap .i64 ((IntKind.wrap .i64 ((IntKind.wrap .i64 ((IntKind.wrap .i64 (x4 * x4)) * 7)) + (IntKind.wrap .i64 (x0 * 31)))) + (IntKind.wrap .i64 (x4 * x0)))) 211)])).bind fun a9 =>
p_zl6_tape_l0 k kE0 x0 a9 (IntKind.wrap .i64 (x4 + 1)))
else (
kE0 x3)
def p_zl6_tape (k : Nat) (x0 : Int) : Option ((List Int)) :=
p_zl6_tape_l0 k (fun r21_3 =>
some (r21_3)) x0 (([] : List Int)) 0
theorem zl6_tape_l0_ok {h : H}  {β α : Type} {Q : β→α→Prop} {K : Exit × Env × H→Option α} {kE0 : (List Int)→Option β} (hE0 : ∀ (q3 : (List Int)) (v17 : V) (H15 : Go.Ev.H) (_ : Fm 25 h [] [] [⟨[23],v17,(dI .i64),q3⟩] H15),Sim (kE0 q3) (K ((.exit 0),(envL [(3,v17)]),H15)) Q) (k : Nat) : ∀ (x0 : Int) (x3 : (List Int)) (x4 : Int) (v5 : V) (H3 : Go.Ev.H) (_ : Fm 25 h [] [] [⟨[23],v5,(dI .i64),x3⟩] H3) {σ : Stamp},Sim (p_zl6_tape_l0 k kE0 x0 x3 x4) ((cvL G X0 zl6_tape_c0 zl6_tape_l0 σ (envL [(0,(.p (.int .i64 x0))),(3,v5),(4,(.p (.int .i64 x4)))]) H3).bind K) Q:=by
  induction k with
  | zero => intros; exact Sim.no
  | succ k ih =>
    intro x0 x3 x4 v5 H3 S4 σ
    rw [p_zl6_tape_l0]
    refine Sim.round (Sim.ext (zl6_tape_r0 _ _ _ _ _ _ _) ?_)
    refine Sim.cq ?_ ?_
    · have h8:=SlF.int1 .i64 (Int.tmod (IntKind.wrap .i64 ((IntKind.wrap .i64 ((IntKind.wrap .i64 ((IntKind.wrap .i64 (x4 * x4)) * 7)) + (IntKind.wrap .i64 (x0 * 31)))) + (IntKind.wrap .i64 (x4 * x0)))) 211)
      refine Sim.op (bldS (pC rfl pN) (by kernel_rfl : _ = some (vOf h8))) ?_
      refine Sim.bd fun a9 h10 => ?_
      obtain ⟨v11,H12,e13,S14⟩:=S4.app (i:=0) (d:=23) (e:=1) (own:=true) (σ:=(14::0::1::0::σ)) rfl (h8.h H3).y h10 rfl (by decide) (by decide) rfl
      refine Sim.op (e13) ?_
      exact ih x0 a9 (IntKind.wrap .i64 (x4 + 1)) v11 H12 (S14.wk2 aN (aC ⟨[23,23],by simp,aM 0 rfl⟩ aN))
    exact hE0 x3 v5 H3 (S4.wk2 aN (aC ⟨[23],by simp,aM 0 rfl⟩ aN))
theorem zl6_tape_ok (k : Nat) {h : H} {σ : Stamp} (x0 : Int) : Sim (p_zl6_tape k x0) (ev G X0 14 σ [(.p (.int .i64 x0))] h) (fun r s => ∃ (v0 : V),SlF (dI .i64) r v0∧s = ([.v v0],h)):=by
  refine Sim.ev rfl (Sim.ext (zl6_tape_entry _ _ _ _ _) ?_)
  rw [p_zl6_tape]
  have S0 : Fm 25 h [] [] [] (List.replicate 25 []::h):=Fm.start0
  have S20:=S0.nil (dI .i64) []
  refine Sim.as (zl6_tape_l0_ok ?_ k x0 (([] : List Int)) 0 (.p (.slice none 0 0)) (List.replicate 25 []::h) (S20.wk2 aN (aC ⟨[],by simp,aM 0 rfl⟩ aN)))
  · intro r21_3 v24 H22 S23
    refine Sim.ext (zl6_tape_a0_0 _ _ _ _ _) ?_
    obtain ⟨v31,H26,e27,h29,S28⟩:=S23.expFrz (i:=0) (τ:=0::1::σ) rfl rfl
    exact Sim.fin (S28.finE (Ex.st e27 Ex.nil)) ⟨v31,h29,rfl⟩
end Go.Ev
