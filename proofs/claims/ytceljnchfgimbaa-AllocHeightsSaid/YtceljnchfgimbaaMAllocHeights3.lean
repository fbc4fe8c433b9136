/- A part of the proof that follows: of the layers of a publisher those may be chosen that are not higher than asked -/
import Derived.Test.YtceljnchfgimbaaMAllocHeights2
import Derived.KernelRfl
namespace Go.Ev
open Go.Proofs
set_option linter.unusedVariables false
set_option linter.unusedSimpArgs false
set_option maxRecDepth 100000
section
variable {β α : Type} {Q : β→α→Prop} {K : Exit × Env × H→Option α}
def z4g {β:Type} (k:Nat) (kE0:(List Int)→Int→TaiRtp→TaiRtp→Option β) (x0:(List Int)) (x4:Int) (x6:Int) (yg4:TaiRtp) (yg32:TaiRtp):Option β:=match k with
| 0=>none
| k+1 =>
bif decide (x6<x4) then (
(z13 k x0 x6 4).bind fun r87 =>
(ap 4 yg32.Csrc ([(IntKind.wrap .u32 r87)])).bind fun a93 =>
z4g k kE0 x0 x4 (IntKind.wrap .i64 (x6+4)) yg4 ((⟨yg32.Marker,yg32.f_Type,yg32.Seq,yg32.Time,yg32.Ssrc,a93,yg32.Profile,yg32.Ext,yg32.Payload⟩:TaiRtp)))
else (
kE0 x0 x4 yg4 yg32)
def z6m (k:Nat) (x0:(List Int)):Option (TaiRtp×Int) :=
bif decide (((x0.length:Int))>1500) then (
some (((⟨false,0,0,0,0,(([]:List Int)),0,(([]:List Int)),(([]:List Int))⟩:TaiRtp)),3))
else (
bif ((x0.length:Int))==0 then (
some (((⟨false,0,0,0,0,(([]:List Int)),0,(([]:List Int)),(([]:List Int))⟩:TaiRtp)),13))
else (
(ix x0 0).bind fun a15 =>
bif (Int.fdiv a15 (2^6)) != 2 then (
some (((⟨false,0,0,0,0,(([]:List Int)),0,(([]:List Int)),(([]:List Int))⟩:TaiRtp)),12))
else (
(ix x0 0).bind fun a23 =>
bif decide (((x0.length:Int))<(IntKind.wrap .i64 (12+(IntKind.wrap .i64 (4*(IntKind.wrap .i64 (intBits .and .u8 a23 15))))))) then (
some (((⟨false,0,0,0,0,(([]:List Int)),0,(([]:List Int)),(([]:List Int))⟩:TaiRtp)),13))
else (
(ix x0 1).bind fun a33 =>
(ix x0 1).bind fun a36 =>
(z13 k x0 2 2).bind fun r39 =>
(z13 k x0 4 4).bind fun r46 =>
(z13 k x0 8 4).bind fun r53 =>
z4g k (fun r130_0 r130_4 yg70 yg79 =>
(ix r130_0 0).bind fun a154 =>
bif (intBits .and .u8 a154 16) != 0 then (
(z13 k r130_0 (IntKind.wrap .i64 (r130_4+2)) 2).bind fun r158 =>
(z7n r130_0 (IntKind.wrap .i64 (r130_4+4)) (IntKind.wrap .i64 (4*(IntKind.wrap .i64 r158)))).bind fun r163 =>
bif !r163.2 then (
some (((⟨false,0,0,0,0,(([]:List Int)),0,(([]:List Int)),(([]:List Int))⟩:TaiRtp)),13))
else (
(z13 k r130_0 r130_4 2).bind fun r175 =>
(ix r130_0 0).bind fun a186 =>
bif (intBits .and .u8 a186 32) != 0 then (
(ix r130_0 (IntKind.wrap .i64 (((r130_0.length:Int))-1))).bind fun a190 =>
(bif (IntKind.wrap .i64 a190)==0 then (some true) else (some (decide ((IntKind.wrap .i64 a190)>(IntKind.wrap .i64 (((r130_0.length:Int))-(IntKind.wrap .i64 ((IntKind.wrap .i64 (r130_4+4))+(IntKind.wrap .i64 (4*(IntKind.wrap .i64 r158))))))))))).bind fun b193 =>
bif b193 then (
some (((⟨false,0,0,0,0,(([]:List Int)),0,(([]:List Int)),(([]:List Int))⟩:TaiRtp)),13))
else (
(ix r130_0 0).bind fun a202 =>
(bif (intBits .and .u8 a202 16) != 0 then (some ((IntKind.wrap .u16 r175)==0)) else (some false)).bind fun b205 =>
bif b205 then (
some (((⟨false,0,0,0,0,(([]:List Int)),0,(([]:List Int)),(([]:List Int))⟩:TaiRtp)),12))
else (
(sub r130_0 (IntKind.wrap .i64 ((IntKind.wrap .i64 (r130_4+4))+(IntKind.wrap .i64 (4*(IntKind.wrap .i64 r158))))) (IntKind.wrap .i64 (((r130_0.length:Int))-(IntKind.wrap .i64 a190)))).bind fun a215 =>
(ap 1 (([]:List Int)) a215).bind fun a219 =>
some (((⟨yg79.Marker,yg79.f_Type,yg79.Seq,yg79.Time,yg79.Ssrc,yg79.Csrc,(IntKind.wrap .u16 r175),r163.1,a219⟩:TaiRtp)),0))))
else (
(ix r130_0 0).bind fun a254 =>
(bif (intBits .and .u8 a254 16) != 0 then (some ((IntKind.wrap .u16 r175)==0)) else (some false)).bind fun b257 =>
bif b257 then (
some (((⟨false,0,0,0,0,(([]:List Int)),0,(([]:List Int)),(([]:List Int))⟩:TaiRtp)),12))
else (
(sub r130_0 (IntKind.wrap .i64 ((IntKind.wrap .i64 (r130_4+4))+(IntKind.wrap .i64 (4*(IntKind.wrap .i64 r158))))) ((r130_0.length:Int))).bind fun a267 =>
(ap 1 (([]:List Int)) a267).bind fun a271 =>
some (((⟨yg79.Marker,yg79.f_Type,yg79.Seq,yg79.Time,yg79.Ssrc,yg79.Csrc,(IntKind.wrap .u16 r175),r163.1,a271⟩:TaiRtp)),0)))))
else (
(ix r130_0 0).bind fun a306 =>
bif (intBits .and .u8 a306 32) != 0 then (
(ix r130_0 (IntKind.wrap .i64 (((r130_0.length:Int))-1))).bind fun a310 =>
(bif (IntKind.wrap .i64 a310)==0 then (some true) else (some (decide ((IntKind.wrap .i64 a310)>(IntKind.wrap .i64 (((r130_0.length:Int))-r130_4)))))).bind fun b313 =>
bif b313 then (
some (((⟨false,0,0,0,0,(([]:List Int)),0,(([]:List Int)),(([]:List Int))⟩:TaiRtp)),13))
else (
(ix r130_0 0).bind fun a322 =>
(bif (intBits .and .u8 a322 16) != 0 then (some (yg79.Profile==0)) else (some false)).bind fun b325 =>
bif b325 then (
some (((⟨false,0,0,0,0,(([]:List Int)),0,(([]:List Int)),(([]:List Int))⟩:TaiRtp)),12))
else (
(sub r130_0 r130_4 (IntKind.wrap .i64 (((r130_0.length:Int))-(IntKind.wrap .i64 a310)))).bind fun a335 =>
(ap 1 (([]:List Int)) a335).bind fun a339 =>
some (((⟨yg79.Marker,yg79.f_Type,yg79.Seq,yg79.Time,yg79.Ssrc,yg79.Csrc,yg79.Profile,yg79.Ext,a339⟩:TaiRtp)),0))))
else (
(ix r130_0 0).bind fun a374 =>
(bif (intBits .and .u8 a374 16) != 0 then (some (yg79.Profile==0)) else (some false)).bind fun b377 =>
bif b377 then (
some (((⟨false,0,0,0,0,(([]:List Int)),0,(([]:List Int)),(([]:List Int))⟩:TaiRtp)),12))
else (
(sub r130_0 r130_4 ((r130_0.length:Int))).bind fun a387 =>
(ap 1 (([]:List Int)) a387).bind fun a391 =>
some (((⟨yg79.Marker,yg79.f_Type,yg79.Seq,yg79.Time,yg79.Ssrc,yg79.Csrc,yg79.Profile,yg79.Ext,a391⟩:TaiRtp)),0))))) x0 (IntKind.wrap .i64 (12+(IntKind.wrap .i64 (4*(IntKind.wrap .i64 (intBits .and .u8 a23 15)))))) 12 ((⟨false,0,0,0,0,(([]:List Int)),0,(([]:List Int)),(([]:List Int))⟩:TaiRtp)) ((⟨((Int.fdiv a33 (2^7))==1),(IntKind.wrap .i64 (intBits .and .u8 a36 127)),(IntKind.wrap .u16 r39),(IntKind.wrap .u32 r46),(IntKind.wrap .u32 r53),(([]:List Int)),0,(([]:List Int)),(([]:List Int))⟩:TaiRtp))))))
theorem zgi {h:H}  {kE0:(List Int)→Int→TaiRtp→TaiRtp→Option β} (hE0:∀ (q0:(List Int)) (q4:Int) (yg70:TaiRtp) (yg79:TaiRtp) (v109:V) (h110:SlH h (dI .u8) q0 v109) (w111:List V) (h112:z9.R yg70 w111) (s113:Stamp) (c115:C) (h116:SoC (dI .u32) yg79.Csrc c115) (h117:Nn c115 1) (v118:V) (h119:SlF (dI .u8) yg79.Ext v118) (v120:V) (h121:SlF (dI .u8) yg79.Payload v120) (s122:Stamp) (H107:Go.Ev.H) (_:Fm 150 h [] [(2,s113,List.map C.v w111),(5,s122,[.v (.p (.bool yg79.Marker)),.v (.p (.int .i64 yg79.f_Type)),.v (.p (.int .u16 yg79.Seq)),.v (.p (.int .u32 yg79.Time)),.v (.p (.int .u32 yg79.Ssrc)),c115,.v (.p (.int .u16 yg79.Profile)),.v v118,.v v120])] [] H107),Sim (kE0 q0 q4 yg70 yg79) (K ((.exit 0),(envL [(0,v109),(2,(.ref ⟨h.length,2,0,s113,[]⟩ 0)),(4,(.p (.int .i64 q4))),(5,(.ref ⟨h.length,5,0,s122,[]⟩ 0))]),H107)) Q) (k:Nat):∀ (x0:(List Int)) (x4:Int) (x6:Int) (yg4:TaiRtp) (yg32:TaiRtp) (v65:V) (h66:SlH h (dI .u8) x0 v65) (w67:List V) (h68:z9.R yg4 w67) (s69:Stamp) (c71:C) (h72:SoC (dI .u32) yg32.Csrc c71) (h73:Nn c71 1) (v74:V) (h75:SlF (dI .u8) yg32.Ext v74) (v76:V) (h77:SlF (dI .u8) yg32.Payload v76) (s78:Stamp) (H63:Go.Ev.H) (_:Fm 150 h [] [(2,s69,List.map C.v w67),(5,s78,[.v (.p (.bool yg32.Marker)),.v (.p (.int .i64 yg32.f_Type)),.v (.p (.int .u16 yg32.Seq)),.v (.p (.int .u32 yg32.Time)),.v (.p (.int .u32 yg32.Ssrc)),c71,.v (.p (.int .u16 yg32.Profile)),.v v74,.v v76])] [] H63) {σ:Stamp},Sim (z4g k kE0 x0 x4 x6 yg4 yg32) ((cvL G X0 z7f z7c σ (envL [(0,v65),(2,(.ref ⟨h.length,2,0,s69,[]⟩ 0)),(4,(.p (.int .i64 x4))),(5,(.ref ⟨h.length,5,0,s78,[]⟩ 0)),(6,(.p (.int .i64 x6)))]) H63).bind K) Q:=by
 induction k with
 | zero=>intros;exact .no
 | succ k ih =>
  intro x0 x4 x6 yg4 yg32 v65 h66 w67 h68 s69 c71 h72 h73 v74 h75 v76 h77 s78 H63 S64 σ
  rw [z4g]
  refine .round (Sim.ext (zkd _ _ _ _ _ _ _ _ _) ?_)
  obtain ⟨v80,v82,v84,rfl,h81,h83,h85⟩:=z9.inv h68
  refine .cq ?_ ?_
  ·refine .fa ?_
   refine .op (h72.ld (S64.atG (i:=1) rfl) (j:=5) rfl) ?_
   refine .call (z5k k x0 (S64.low h66) x6 4) fun r87 cs88 H89 h90 q91=>?_
   cases q91
   refine .ci ?_
   refine .nd (h72.ld (S64.atG (i:=1) rfl) (j:=5) rfl) ?_
   have h92:=SlF.int1 .u32 (IntKind.wrap .u32 r87)
   refine .op (bldS (pC rfl pN) (by kernel_rfl:_=some (vOf h92))) ?_
   refine .bd fun a93 h94=>?_
   obtain ⟨v95,c96,H97,e98,S99⟩:=S64.appG (i:=1) (j:=5) (d:=70) (e:=1) (own:=true) (σ:=(7::0::1::0::σ)) rfl rfl h72 h73 (h92.h H63).y h94 (by simp) rfl (by decide) (by decide) rfl rfl
   refine .op (e98) ?_
   refine .fa ?_
   obtain ⟨c104,H101,e102,h105,h106,S103⟩:=S99.mvG (i:=1) (j:=5) (k:=0) (σ:=(9::0::1::0::σ)) rfl rfl rfl rfl rfl rfl
   refine .op (sM e102) ?_
   exact ih x0 x4 (IntKind.wrap .i64 (x6+4)) yg4 ((⟨yg32.Marker,yg32.f_Type,yg32.Seq,yg32.Time,yg32.Ssrc,a93,yg32.Profile,yg32.Ext,yg32.Payload⟩:TaiRtp)) v65 h66 _ h68 s69 c104 h105 h106 v74 h75 v76 h77 s78 H101 (S103.wk2 (aC (aM 0 rfl) (aC (aM 1 rfl) aN)) aN)
  exact hE0 x0 x4 yg4 yg32 v65 h66 _ h68 s69 c71 h72 h73 v74 h75 v76 h77 s78 H63 (S64.wk2 (aC (aM 0 rfl) (aC (aM 1 rfl) aN)) aN)
theorem zkf (k:Nat) {h:H} {σ:Stamp} (x0:List Int) {u0:V} (hu0:SlH h (dI .u8) x0 u0):Sim (z6m k x0) (ev G X0 42 σ [u0] h) (fun r s=>∃ (w0:List V),z9.R r.1 w0∧s=([.v (.agg w0),.v (.p (.int .i64 r.2))],h)):=by
 refine .ev rfl (Sim.ext (zge _ _ _ _ _) ?_)
 rw [z6m]
 have S0:Fm 150 h [] [] [] (List.replicate 150 []::h):=Fm.start0
 obtain ⟨H1,e2,S3⟩:=S0.al (d:=2) (s:=(0::0::0::σ)) (z:=[(.p (.bool false)),(.p (.int .i64 0)),(.p (.int .u16 0)),(.p (.int .u32 0)),(.p (.int .u32 0)),(.p (.slice none 0 0)),(.p (.int .u16 0)),(.p (.slice none 0 0)),(.p (.slice none 0 0))]) (by decide) rfl
 refine .op (congrArg some e2) ?_
 refine .op ((S3.low hu0).len) ?_
 refine .ci ?_
 refine .cq ?_ ?_
 ·refine .op (bldV pN (by kernel_rfl:_=some (.agg [.p (.bool false),.p (.int .i64 0),.p (.int .u16 0),.p (.int .u32 0),.p (.int .u32 0),.p (.slice none 0 0),.p (.int .u16 0),.p (.slice none 0 0),.p (.slice none 0 0)]))) ?_
  obtain ⟨H6,e7,S8⟩:=S3.stGv (i:=0) (j:=0) (own:=true) (σ:=(1::0::1::0::1::0::σ)) (xs:=[.p (.bool false),.p (.int .i64 0),.p (.int .u16 0),.p (.int .u32 0),.p (.int .u32 0),.p (.slice none 0 0),.p (.int .u16 0),.p (.slice none 0 0),.p (.slice none 0 0)]) rfl rfl (sC (sB _) (sC (sI _ _) (sC (sI _ _) (sC (sI _ _) (sC (sI _ _) (sC (SlF.nil (dI .u32)).still (sC (sI _ _) (sC (SlF.nil (dI .u8)).still (sC (SlF.nil (dI .u8)).still sN))))))))) rfl rfl
  refine .op (sM e7) ?_
  have e9:ldO true 9 H6 (.ref ⟨h.length,2,0,(0::0::0::σ),[]⟩ 0)=some (.agg [.p (.bool false),.p (.int .i64 0),.p (.int .u16 0),.p (.int .u32 0),.p (.int .u32 0),.p (.slice none 0 0),.p (.int .u16 0),.p (.slice none 0 0),.p (.slice none 0 0)]):=(S8.atG (i:=0) rfl).ldVs (j:=0) rfl rfl (by decide)
  refine .op (congrArg (Option.bind · _) e9) ?_
  exact .fin (S8.finN (lC (Stills.lv (z9.still (z9.mk (SlF.nil (dI .u32)) (SlF.nil (dI .u8)) (SlF.nil (dI .u8))))) (lC (sI _ _).lv lN))) ⟨_,(z9.mk (SlF.nil (dI .u32)) (SlF.nil (dI .u8)) (SlF.nil (dI .u8))),rfl⟩
 refine .op ((S3.low hu0).len) ?_
 refine .ci ?_
 refine .cq ?_ ?_
 ·refine .op (bldV pN (by kernel_rfl:_=some (.agg [.p (.bool false),.p (.int .i64 0),.p (.int .u16 0),.p (.int .u32 0),.p (.int .u32 0),.p (.slice none 0 0),.p (.int .u16 0),.p (.slice none 0 0),.p (.slice none 0 0)]))) ?_
  obtain ⟨H11,e12,S13⟩:=S3.stGv (i:=0) (j:=0) (own:=true) (σ:=(1::0::1::0::1::1::0::σ)) (xs:=[.p (.bool false),.p (.int .i64 0),.p (.int .u16 0),.p (.int .u32 0),.p (.int .u32 0),.p (.slice none 0 0),.p (.int .u16 0),.p (.slice none 0 0),.p (.slice none 0 0)]) rfl rfl (sC (sB _) (sC (sI _ _) (sC (sI _ _) (sC (sI _ _) (sC (sI _ _) (sC (SlF.nil (dI .u32)).still (sC (sI _ _) (sC (SlF.nil (dI .u8)).still (sC (SlF.nil (dI .u8)).still sN))))))))) rfl rfl
  refine .op (sM e12) ?_
  have e14:ldO true 9 H11 (.ref ⟨h.length,2,0,(0::0::0::σ),[]⟩ 0)=some (.agg [.p (.bool false),.p (.int .i64 0),.p (.int .u16 0),.p (.int .u32 0),.p (.int .u32 0),.p (.slice none 0 0),.p (.int .u16 0),.p (.slice none 0 0),.p (.slice none 0 0)]):=(S13.atG (i:=0) rfl).ldVs (j:=0) rfl rfl (by decide)
  refine .op (congrArg (Option.bind · _) e14) ?_
  exact .fin (S13.finN (lC (Stills.lv (z9.still (z9.mk (SlF.nil (dI .u32)) (SlF.nil (dI .u8)) (SlF.nil (dI .u8))))) (lC (sI _ _).lv lN))) ⟨_,(z9.mk (SlF.nil (dI .u32)) (SlF.nil (dI .u8)) (SlF.nil (dI .u8))),rfl⟩
 refine .bd fun a15 h16=>?_
 refine .op ((S3.low hu0).iS h16 rfl) ?_
 obtain ⟨_,rfl,hE17⟩:=(S3.low hu0).el h16 rfl
 refine .op (hE17.ld (j:=0) rfl) ?_
 refine .ci ?_
 refine .cq ?_ ?_
 ·refine .op (bldV pN (by kernel_rfl:_=some (.agg [.p (.bool false),.p (.int .i64 0),.p (.int .u16 0),.p (.int .u32 0),.p (.int .u32 0),.p (.slice none 0 0),.p (.int .u16 0),.p (.slice none 0 0),.p (.slice none 0 0)]))) ?_
  obtain ⟨H19,e20,S21⟩:=S3.stGv (i:=0) (j:=0) (own:=true) (σ:=(1::0::1::0::1::1::1::0::σ)) (xs:=[.p (.bool false),.p (.int .i64 0),.p (.int .u16 0),.p (.int .u32 0),.p (.int .u32 0),.p (.slice none 0 0),.p (.int .u16 0),.p (.slice none 0 0),.p (.slice none 0 0)]) rfl rfl (sC (sB _) (sC (sI _ _) (sC (sI _ _) (sC (sI _ _) (sC (sI _ _) (sC (SlF.nil (dI .u32)).still (sC (sI _ _) (sC (SlF.nil (dI .u8)).still (sC (SlF.nil (dI .u8)).still sN))))))))) rfl rfl
  refine .op (sM e20) ?_
  have e22:ldO true 9 H19 (.ref ⟨h.length,2,0,(0::0::0::σ),[]⟩ 0)=some (.agg [.p (.bool false),.p (.int .i64 0),.p (.int .u16 0),.p (.int .u32 0),.p (.int .u32 0),.p (.slice none 0 0),.p (.int .u16 0),.p (.slice none 0 0),.p (.slice none 0 0)]):=(S21.atG (i:=0) rfl).ldVs (j:=0) rfl rfl (by decide)
  refine .op (congrArg (Option.bind · _) e22) ?_
  exact .fin (S21.finN (lC (Stills.lv (z9.still (z9.mk (SlF.nil (dI .u32)) (SlF.nil (dI .u8)) (SlF.nil (dI .u8))))) (lC (sI _ _).lv lN))) ⟨_,(z9.mk (SlF.nil (dI .u32)) (SlF.nil (dI .u8)) (SlF.nil (dI .u8))),rfl⟩
 refine .bd fun a23 h24=>?_
 refine .op ((S3.low hu0).iS h24 rfl) ?_
 obtain ⟨_,rfl,hE25⟩:=(S3.low hu0).el h24 rfl
 refine .op (hE25.ld (j:=0) rfl) ?_
 refine .ci ?_
 refine .op ((S3.low hu0).len) ?_
 refine .ci ?_
 refine .cq ?_ ?_
 ·refine .op (bldV pN (by kernel_rfl:_=some (.agg [.p (.bool false),.p (.int .i64 0),.p (.int .u16 0),.p (.int .u32 0),.p (.int .u32 0),.p (.slice none 0 0),.p (.int .u16 0),.p (.slice none 0 0),.p (.slice none 0 0)]))) ?_
  obtain ⟨H27,e28,S29⟩:=S3.stGv (i:=0) (j:=0) (own:=true) (σ:=(1::0::1::0::1::1::1::1::1::0::σ)) (xs:=[.p (.bool false),.p (.int .i64 0),.p (.int .u16 0),.p (.int .u32 0),.p (.int .u32 0),.p (.slice none 0 0),.p (.int .u16 0),.p (.slice none 0 0),.p (.slice none 0 0)]) rfl rfl (sC (sB _) (sC (sI _ _) (sC (sI _ _) (sC (sI _ _) (sC (sI _ _) (sC (SlF.nil (dI .u32)).still (sC (sI _ _) (sC (SlF.nil (dI .u8)).still (sC (SlF.nil (dI .u8)).still sN))))))))) rfl rfl
  refine .op (sM e28) ?_
  have e30:ldO true 9 H27 (.ref ⟨h.length,2,0,(0::0::0::σ),[]⟩ 0)=some (.agg [.p (.bool false),.p (.int .i64 0),.p (.int .u16 0),.p (.int .u32 0),.p (.int .u32 0),.p (.slice none 0 0),.p (.int .u16 0),.p (.slice none 0 0),.p (.slice none 0 0)]):=(S29.atG (i:=0) rfl).ldVs (j:=0) rfl rfl (by decide)
  refine .op (congrArg (Option.bind · _) e30) ?_
  exact .fin (S29.finN (lC (Stills.lv (z9.still (z9.mk (SlF.nil (dI .u32)) (SlF.nil (dI .u8)) (SlF.nil (dI .u8))))) (lC (sI _ _).lv lN))) ⟨_,(z9.mk (SlF.nil (dI .u32)) (SlF.nil (dI .u8)) (SlF.nil (dI .u8))),rfl⟩
 have S31:=S3.add (d:=5) (s:=(20::0::1::1::1::1::1::1::0::σ)) (cs:=List.map C.v [(.p (.bool false)),(.p (.int .i64 0)),(.p (.int .u16 0)),(.p (.int .u32 0)),(.p (.int .u32 0)),(.p (.slice none 0 0)),(.p (.int .u16 0)),(.p (.slice none 0 0)),(.p (.slice none 0 0))]) (by decide) rfl
 have S31:Fm _ _ _ _ _ (alO [(.p (.bool false)),(.p (.int .i64 0)),(.p (.int .u16 0)),(.p (.int .u32 0)),(.p (.int .u32 0)),(.p (.slice none 0 0)),(.p (.int .u16 0)),(.p (.slice none 0 0)),(.p (.slice none 0 0))] (20::0::1::1::1::1::1::1::0::σ) 5 H1).2:=S31
 first | rw [S31.newLoc 5 (20::0::1::1::1::1::1::1::0::σ)] | erw [S31.newLoc 5 (20::0::1::1::1::1::1::1::0::σ)]
 refine .nd (⟨_,(by kernel_rfl),S31.slot (i:=0) rfl⟩) ?_
 refine .bd fun a33 h34=>?_
 refine .op ((S31.low hu0).iS h34 rfl) ?_
 obtain ⟨_,rfl,hE35⟩:=(S31.low hu0).el h34 rfl
 refine .op (hE35.ld (j:=0) rfl) ?_
 refine .ci ?_
 refine .bd fun a36 h37=>?_
 refine .op ((S31.low hu0).iS h37 rfl) ?_
 obtain ⟨_,rfl,hE38⟩:=(S31.low hu0).el h37 rfl
 refine .op (hE38.ld (j:=0) rfl) ?_
 refine .ci ?_
 refine .call (z5k k x0 (S31.low hu0) 2 2) fun r39 cs40 H41 h42 q43=>?_
 cases q43
 refine .ci ?_
 refine .nd (rfl) ?_
 obtain ⟨_,rfl,hE44⟩:=(S31.low hu0).el h37 rfl
 refine .nd (hE44.ld (j:=0) rfl) ?_
 refine .nd (rfl) ?_
 obtain ⟨_,rfl,hE45⟩:=(S31.low hu0).el h34 rfl
 refine .nd (hE45.ld (j:=0) rfl) ?_
 refine .nd (⟨_,(by kernel_rfl),S31.slot (i:=0) rfl⟩) ?_
 refine .call (z5k k x0 (S31.low hu0) 4 4) fun r46 cs47 H48 h49 q50=>?_
 cases q50
 refine .ci ?_
 refine .nd (rfl) ?_
 refine .nd (rfl) ?_
 obtain ⟨_,rfl,hE51⟩:=(S31.low hu0).el h37 rfl
 refine .nd (hE51.ld (j:=0) rfl) ?_
 refine .nd (rfl) ?_
 obtain ⟨_,rfl,hE52⟩:=(S31.low hu0).el h34 rfl
 refine .nd (hE52.ld (j:=0) rfl) ?_
 refine .nd (⟨_,(by kernel_rfl),S31.slot (i:=0) rfl⟩) ?_
 refine .call (z5k k x0 (S31.low hu0) 8 4) fun r53 cs54 H55 h56 q57=>?_
 cases q57
 refine .ci ?_
 refine .nd (rfl) ?_
 refine .nd (rfl) ?_
 refine .nd (rfl) ?_
 obtain ⟨_,rfl,hE58⟩:=(S31.low hu0).el h37 rfl
 refine .nd (hE58.ld (j:=0) rfl) ?_
 refine .nd (rfl) ?_
 obtain ⟨_,rfl,hE59⟩:=(S31.low hu0).el h34 rfl
 refine .nd (hE59.ld (j:=0) rfl) ?_
 refine .nd (⟨_,(by kernel_rfl),S31.slot (i:=0) rfl⟩) ?_
 refine .op (bldV (pC rfl (pC rfl (pC rfl (pC rfl (pC rfl pN))))) (by kernel_rfl:_=some (.agg [.p (.bool ((Int.fdiv a33 (2^7))==1)),.p (.int .i64 (IntKind.wrap .i64 (intBits .and .u8 a36 127))),.p (.int .u16 (IntKind.wrap .u16 r39)),.p (.int .u32 (IntKind.wrap .u32 r46)),.p (.int .u32 (IntKind.wrap .u32 r53)),.p (.slice none 0 0),.p (.int .u16 0),.p (.slice none 0 0),.p (.slice none 0 0)]))) ?_
 obtain ⟨H60,e61,S62⟩:=S31.stGv (i:=0) (j:=0) (own:=true) (σ:=(21::0::1::1::1::1::1::1::0::σ)) (xs:=[.p (.bool ((Int.fdiv a33 (2^7))==1)),.p (.int .i64 (IntKind.wrap .i64 (intBits .and .u8 a36 127))),.p (.int .u16 (IntKind.wrap .u16 r39)),.p (.int .u32 (IntKind.wrap .u32 r46)),.p (.int .u32 (IntKind.wrap .u32 r53)),.p (.slice none 0 0),.p (.int .u16 0),.p (.slice none 0 0),.p (.slice none 0 0)]) rfl rfl (sC (sB _) (sC (sI _ _) (sC (sI _ _) (sC (sI _ _) (sC (sI _ _) (sC (SlF.nil (dI .u32)).still (sC (sI _ _) (sC (SlF.nil (dI .u8)).still (sC (SlF.nil (dI .u8)).still sN))))))))) rfl rfl
 refine .op (sM e61) ?_
 refine .as (zgi ?_ k x0 (IntKind.wrap .i64 (12+(IntKind.wrap .i64 (4*(IntKind.wrap .i64 (intBits .and .u8 a23 15)))))) 12 ((⟨false,0,0,0,0,(([]:List Int)),0,(([]:List Int)),(([]:List Int))⟩:TaiRtp)) ((⟨((Int.fdiv a33 (2^7))==1),(IntKind.wrap .i64 (intBits .and .u8 a36 127)),(IntKind.wrap .u16 r39),(IntKind.wrap .u32 r46),(IntKind.wrap .u32 r53),(([]:List Int)),0,(([]:List Int)),(([]:List Int))⟩:TaiRtp)) u0 hu0 _ (z9.mk (SlF.nil (dI .u32)) (SlF.nil (dI .u8)) (SlF.nil (dI .u8))) (0::0::0::σ) (.v (.p (.slice none 0 0))) (SoC.frz (SlF.nil (dI .u32))) (fun v h=>by cases h;simp) (.p (.slice none 0 0)) (SlF.nil (dI .u8)) (.p (.slice none 0 0)) (SlF.nil (dI .u8)) (20::0::1::1::1::1::1::1::0::σ) H60 (S62.wk2 (aC (aM 1 rfl) (aC (aM 0 rfl) aN)) aN))
 ·intro r130_0 r130_4 yg70 yg79 v133 h134 w135 h136 s137 c139 h140 h141 v142 h143 v144 h145 s146 H131 S132
  refine .ext (zig _ _ _ _ _ _ _ _) ?_
  obtain ⟨v148,v150,v152,rfl,h149,h151,h153⟩:=z9.inv h136
  refine .bd fun a154 h155=>?_
  refine .op ((S132.low h134).iS h155 rfl) ?_
  obtain ⟨_,rfl,hE156⟩:=(S132.low h134).el h155 rfl
  refine .op (hE156.ld (j:=0) rfl) ?_
  refine .ci ?_
  refine .cq ?_ ?_
  ·refine .call (z5k k r130_0 (S132.low h134) (IntKind.wrap .i64 (r130_4+2)) 2) fun r158 cs159 H160 h161 q162=>?_
   cases q162
   refine .ci ?_
   refine .call (zll r130_0 (S132.low h134) (IntKind.wrap .i64 (r130_4+4)) (IntKind.wrap .i64 (4*(IntKind.wrap .i64 r158)))) fun r163 cs164 H165 h166 q167=>?_
   obtain ⟨v168,h169,q167⟩:=q167
   cases q167
   refine .or ?_
   refine .or ?_
   refine .ab ?_
   refine .cq ?_ ?_
   ·refine .op (bldV pN (by kernel_rfl:_=some (.agg [.p (.bool false),.p (.int .i64 0),.p (.int .u16 0),.p (.int .u32 0),.p (.int .u32 0),.p (.slice none 0 0),.p (.int .u16 0),.p (.slice none 0 0),.p (.slice none 0 0)]))) ?_
    obtain ⟨H171,e172,S173⟩:=S132.stGv (i:=0) (j:=0) (own:=true) (σ:=(1::0::1::0::1::1::1::0::1::1::1::1::1::1::1::1::0::σ)) (xs:=[.p (.bool false),.p (.int .i64 0),.p (.int .u16 0),.p (.int .u32 0),.p (.int .u32 0),.p (.slice none 0 0),.p (.int .u16 0),.p (.slice none 0 0),.p (.slice none 0 0)]) rfl rfl (sC (sB _) (sC (sI _ _) (sC (sI _ _) (sC (sI _ _) (sC (sI _ _) (sC (SlF.nil (dI .u32)).still (sC (sI _ _) (sC (SlF.nil (dI .u8)).still (sC (SlF.nil (dI .u8)).still sN))))))))) rfl rfl
    refine .op (sM e172) ?_
    have e174:ldO true 9 H171 (.ref ⟨h.length,2,0,s137,[]⟩ 0)=some (.agg [.p (.bool false),.p (.int .i64 0),.p (.int .u16 0),.p (.int .u32 0),.p (.int .u32 0),.p (.slice none 0 0),.p (.int .u16 0),.p (.slice none 0 0),.p (.slice none 0 0)]):=(S173.atG (i:=0) rfl).ldVs (j:=0) rfl rfl (by decide)
    refine .op (congrArg (Option.bind · _) e174) ?_
    exact .fin (S173.finN (lC (Stills.lv (z9.still (z9.mk (SlF.nil (dI .u32)) (SlF.nil (dI .u8)) (SlF.nil (dI .u8))))) (lC (sI _ _).lv lN))) ⟨_,(z9.mk (SlF.nil (dI .u32)) (SlF.nil (dI .u8)) (SlF.nil (dI .u8))),rfl⟩
   refine .call (z5k k r130_0 (S132.low h134) r130_4 2) fun r175 cs176 H177 h178 q179=>?_
   cases q179
   refine .ci ?_
   refine .fa ?_
   obtain ⟨H180,e181,S182⟩:=S132.stG (i:=1) (j:=6) (own:=true) (σ:=(6::0::1::1::1::1::0::1::1::1::1::1::1::1::1::0::σ)) (x:=(.p (.int .u16 (IntKind.wrap .u16 r175)))) rfl rfl (sI _ _) rfl
   refine .op (sM e181) ?_
   refine .fa ?_
   obtain ⟨H183,e184,S185⟩:=S182.stG (i:=1) (j:=7) (own:=true) (σ:=(8::0::1::1::1::1::0::1::1::1::1::1::1::1::1::0::σ)) (x:=v168) rfl rfl h169.still rfl
   refine .op (sM e184) ?_
   refine .op ((S185.low h134).len) ?_
   refine .ci ?_
   refine .bd fun a186 h187=>?_
   refine .op ((S185.low h134).iS h187 rfl) ?_
   obtain ⟨_,rfl,hE188⟩:=(S185.low h134).el h187 rfl
   refine .op (hE188.ld (j:=0) rfl) ?_
   refine .ci ?_
   refine .cq ?_ ?_
   ·refine .bd fun a190 h191=>?_
    refine .op ((S185.low h134).iS h191 rfl) ?_
    obtain ⟨_,rfl,hE192⟩:=(S185.low h134).el h191 rfl
    refine .op (hE192.ld (j:=0) rfl) ?_
    refine .ci ?_
    refine .ch (P:=fun r y=>r=y) ?_ (fun b193 y194 h195 h196=>?_)
    ·refine .cq ?_ ?_
     ·exact .ret rfl rfl
     ·exact .ret rfl rfl
    subst h196
    refine .cq ?_ ?_
    ·refine .op (bldV pN (by kernel_rfl:_=some (.agg [.p (.bool false),.p (.int .i64 0),.p (.int .u16 0),.p (.int .u32 0),.p (.int .u32 0),.p (.slice none 0 0),.p (.int .u16 0),.p (.slice none 0 0),.p (.slice none 0 0)]))) ?_
     obtain ⟨H198,e199,S200⟩:=S185.stGv (i:=0) (j:=0) (own:=true) (σ:=(1::0::1::0::1::1::0::1::1::1::1::1::1::1::1::1::1::0::σ)) (xs:=[.p (.bool false),.p (.int .i64 0),.p (.int .u16 0),.p (.int .u32 0),.p (.int .u32 0),.p (.slice none 0 0),.p (.int .u16 0),.p (.slice none 0 0),.p (.slice none 0 0)]) rfl rfl (sC (sB _) (sC (sI _ _) (sC (sI _ _) (sC (sI _ _) (sC (sI _ _) (sC (SlF.nil (dI .u32)).still (sC (sI _ _) (sC (SlF.nil (dI .u8)).still (sC (SlF.nil (dI .u8)).still sN))))))))) rfl rfl
     refine .op (sM e199) ?_
     have e201:ldO true 9 H198 (.ref ⟨h.length,2,0,s137,[]⟩ 0)=some (.agg [.p (.bool false),.p (.int .i64 0),.p (.int .u16 0),.p (.int .u32 0),.p (.int .u32 0),.p (.slice none 0 0),.p (.int .u16 0),.p (.slice none 0 0),.p (.slice none 0 0)]):=(S200.atG (i:=0) rfl).ldVs (j:=0) rfl rfl (by decide)
     refine .op (congrArg (Option.bind · _) e201) ?_
     exact .fin (S200.finN (lC (Stills.lv (z9.still (z9.mk (SlF.nil (dI .u32)) (SlF.nil (dI .u8)) (SlF.nil (dI .u8))))) (lC (sI _ _).lv lN))) ⟨_,(z9.mk (SlF.nil (dI .u32)) (SlF.nil (dI .u8)) (SlF.nil (dI .u8))),rfl⟩
    refine .bd fun a202 h203=>?_
    refine .op ((S185.low h134).iS h203 rfl) ?_
    obtain ⟨_,rfl,hE204⟩:=(S185.low h134).el h203 rfl
    refine .op (hE204.ld (j:=0) rfl) ?_
    refine .ci ?_
    refine .ch (P:=fun r y=>r=y) ?_ (fun b205 y206 h207 h208=>?_)
    ·refine .cq ?_ ?_
     ·refine .fa ?_
      refine .op ((S185.atG (i:=1) rfl).ld (j:=6) rfl) ?_
      refine .ci ?_
      exact .ret rfl rfl
     ·exact .ret rfl rfl
    subst h208
    refine .cq ?_ ?_
    ·refine .op (bldV pN (by kernel_rfl:_=some (.agg [.p (.bool false),.p (.int .i64 0),.p (.int .u16 0),.p (.int .u32 0),.p (.int .u32 0),.p (.slice none 0 0),.p (.int .u16 0),.p (.slice none 0 0),.p (.slice none 0 0)]))) ?_
     obtain ⟨H210,e211,S212⟩:=S185.stGv (i:=0) (j:=0) (own:=true) (σ:=(1::0::1::0::1::1::1::1::1::1::1::1::1::1::1::0::σ)) (xs:=[.p (.bool false),.p (.int .i64 0),.p (.int .u16 0),.p (.int .u32 0),.p (.int .u32 0),.p (.slice none 0 0),.p (.int .u16 0),.p (.slice none 0 0),.p (.slice none 0 0)]) rfl rfl (sC (sB _) (sC (sI _ _) (sC (sI _ _) (sC (sI _ _) (sC (sI _ _) (sC (SlF.nil (dI .u32)).still (sC (sI _ _) (sC (SlF.nil (dI .u8)).still (sC (SlF.nil (dI .u8)).still sN))))))))) rfl rfl
     refine .op (sM e211) ?_
     have e213:ldO true 9 H210 (.ref ⟨h.length,2,0,s137,[]⟩ 0)=some (.agg [.p (.bool false),.p (.int .i64 0),.p (.int .u16 0),.p (.int .u32 0),.p (.int .u32 0),.p (.slice none 0 0),.p (.int .u16 0),.p (.slice none 0 0),.p (.slice none 0 0)]):=(S212.atG (i:=0) rfl).ldVs (j:=0) rfl rfl (by decide)
     refine .op (congrArg (Option.bind · _) e213) ?_
     exact .fin (S212.finN (lC (Stills.lv (z9.still (z9.mk (SlF.nil (dI .u32)) (SlF.nil (dI .u8)) (SlF.nil (dI .u8))))) (lC (sI _ _).lv lN))) ⟨_,(z9.mk (SlF.nil (dI .u32)) (SlF.nil (dI .u8)) (SlF.nil (dI .u8))),rfl⟩
    have h214:SlF (dI .u8) ([]:List Int) (.fz [] 0 1 true):=SlF.lit (cs:=[]) RL.nil rfl rfl true
    refine .op (bldS pN (by kernel_rfl:_=some (vOf h214))) ?_
    refine .bd fun a215 h216=>?_
    refine .op ((S185.low h134).slS h216 rfl rfl rfl) ?_
    have S218:=S185.nil' (dI .u8) [] (e:=1) rfl
    refine .bd fun a219 h220=>?_
    obtain ⟨v221,H222,e223,S224⟩:=S218.app (i:=0) (d:=147) (e:=1) (own:=true) (σ:=(5::0::1::1::1::1::1::1::1::1::1::1::1::1::0::σ)) rfl ((S218.low h134).sub h216 (e:=1) rfl).y h220 rfl (by decide) (by decide) rfl
    refine .op (e223) ?_
    refine .fa ?_
    obtain ⟨c228,H225,e226,h229,h230,S227⟩:=S224.mvG (i:=1) (j:=8) (k:=0) (σ:=(7::0::1::1::1::1::1::1::1::1::1::1::1::1::0::σ)) rfl rfl rfl rfl rfl rfl
    refine .op (sM e226) ?_
    obtain ⟨v231,h232,h233⟩:=h140.fr
    obtain ⟨v234,h235,h236⟩:=h229.fr
    obtain ⟨w237,h244,h243,e239,e245⟩:=S227.cpV (i:=1) (n:=9) (ys:=[(.p (.bool yg79.Marker)),(.p (.int .i64 yg79.f_Type)),(.p (.int .u16 yg79.Seq)),(.p (.int .u32 yg79.Time)),(.p (.int .u32 yg79.Ssrc)),v231,(.p (.int .u16 (IntKind.wrap .u16 r175))),v168,v234]) rfl ⟨(FrC.v (sB _)),⟨(FrC.v (sI _ _)),⟨(FrC.v (sI _ _)),⟨(FrC.v (sI _ _)),⟨(FrC.v (sI _ _)),⟨h232,⟨(FrC.v (sI _ _)),⟨(FrC.v h169.still),⟨h235,trivial⟩⟩⟩⟩⟩⟩⟩⟩⟩ rfl
    obtain ⟨H238,e240,e241,S242⟩:=S227.frzX (i:=1) (ys:=[(.p (.bool yg79.Marker)),(.p (.int .i64 yg79.f_Type)),(.p (.int .u16 yg79.Seq)),(.p (.int .u32 yg79.Time)),(.p (.int .u32 yg79.Ssrc)),v231,(.p (.int .u16 (IntKind.wrap .u16 r175))),v168,v234]) rfl rfl ⟨(FrC.v (sB _)),⟨(FrC.v (sI _ _)),⟨(FrC.v (sI _ _)),⟨(FrC.v (sI _ _)),⟨(FrC.v (sI _ _)),⟨h232,⟨(FrC.v (sI _ _)),⟨(FrC.v h169.still),⟨h235,trivial⟩⟩⟩⟩⟩⟩⟩⟩⟩ h244
    refine .op (e239) ?_
    obtain ⟨H246,e247,S248⟩:=S227.stX (i:=0) (n:=9) (σ:=(1::0::1::1::1::1::1::1::1::1::1::1::1::1::1::0::σ)) rfl rfl e245 h243 rfl
    refine .op (sM e247) ?_
    obtain ⟨H249,e250,e251,S252⟩:=S248.frzX (i:=1) (ys:=[(.p (.bool yg79.Marker)),(.p (.int .i64 yg79.f_Type)),(.p (.int .u16 yg79.Seq)),(.p (.int .u32 yg79.Time)),(.p (.int .u32 yg79.Ssrc)),v231,(.p (.int .u16 (IntKind.wrap .u16 r175))),v168,v234]) rfl rfl ⟨(FrC.v (sB _)),⟨(FrC.v (sI _ _)),⟨(FrC.v (sI _ _)),⟨(FrC.v (sI _ _)),⟨(FrC.v (sI _ _)),⟨h232,⟨(FrC.v (sI _ _)),⟨(FrC.v h169.still),⟨h235,trivial⟩⟩⟩⟩⟩⟩⟩⟩⟩ h244
    have e253:ldO true 9 H246 (.ref ⟨h.length,2,0,s137,[]⟩ 0)=some (.agg w237):=AtC.ldX (S248.atG (i:=0) rfl) h243 (by decide)
    refine .op (congrArg (Option.bind · _) e253) ?_
    exact .fin (S252.finE (Ex.st (e250 _ _) (Ex.pl (sI _ _).lv Ex.nil))) ⟨_,(z9.mk h233 h169 h236),rfl⟩
   refine .bd fun a254 h255=>?_
   refine .op ((S185.low h134).iS h255 rfl) ?_
   obtain ⟨_,rfl,hE256⟩:=(S185.low h134).el h255 rfl
   refine .op (hE256.ld (j:=0) rfl) ?_
   refine .ci ?_
   refine .ch (P:=fun r y=>r=y) ?_ (fun b257 y258 h259 h260=>?_)
   ·refine .cq ?_ ?_
    ·refine .fa ?_
     refine .op ((S185.atG (i:=1) rfl).ld (j:=6) rfl) ?_
     refine .ci ?_
     exact .ret rfl rfl
    ·exact .ret rfl rfl
   subst h260
   refine .cq ?_ ?_
   ·refine .op (bldV pN (by kernel_rfl:_=some (.agg [.p (.bool false),.p (.int .i64 0),.p (.int .u16 0),.p (.int .u32 0),.p (.int .u32 0),.p (.slice none 0 0),.p (.int .u16 0),.p (.slice none 0 0),.p (.slice none 0 0)]))) ?_
    obtain ⟨H262,e263,S264⟩:=S185.stGv (i:=0) (j:=0) (own:=true) (σ:=(1::0::1::0::1::1::1::1::1::1::1::1::1::1::1::0::σ)) (xs:=[.p (.bool false),.p (.int .i64 0),.p (.int .u16 0),.p (.int .u32 0),.p (.int .u32 0),.p (.slice none 0 0),.p (.int .u16 0),.p (.slice none 0 0),.p (.slice none 0 0)]) rfl rfl (sC (sB _) (sC (sI _ _) (sC (sI _ _) (sC (sI _ _) (sC (sI _ _) (sC (SlF.nil (dI .u32)).still (sC (sI _ _) (sC (SlF.nil (dI .u8)).still (sC (SlF.nil (dI .u8)).still sN))))))))) rfl rfl
    refine .op (sM e263) ?_
    have e265:ldO true 9 H262 (.ref ⟨h.length,2,0,s137,[]⟩ 0)=some (.agg [.p (.bool false),.p (.int .i64 0),.p (.int .u16 0),.p (.int .u32 0),.p (.int .u32 0),.p (.slice none 0 0),.p (.int .u16 0),.p (.slice none 0 0),.p (.slice none 0 0)]):=(S264.atG (i:=0) rfl).ldVs (j:=0) rfl rfl (by decide)
    refine .op (congrArg (Option.bind · _) e265) ?_
    exact .fin (S264.finN (lC (Stills.lv (z9.still (z9.mk (SlF.nil (dI .u32)) (SlF.nil (dI .u8)) (SlF.nil (dI .u8))))) (lC (sI _ _).lv lN))) ⟨_,(z9.mk (SlF.nil (dI .u32)) (SlF.nil (dI .u8)) (SlF.nil (dI .u8))),rfl⟩
   have h266:SlF (dI .u8) ([]:List Int) (.fz [] 0 1 true):=SlF.lit (cs:=[]) RL.nil rfl rfl true
   refine .op (bldS pN (by kernel_rfl:_=some (vOf h266))) ?_
   refine .bd fun a267 h268=>?_
   refine .op ((S185.low h134).slS h268 rfl rfl rfl) ?_
   have S270:=S185.nil' (dI .u8) [] (e:=1) rfl
   refine .bd fun a271 h272=>?_
   obtain ⟨v273,H274,e275,S276⟩:=S270.app (i:=0) (d:=147) (e:=1) (own:=true) (σ:=(5::0::1::1::1::1::1::1::1::1::1::1::1::1::0::σ)) rfl ((S270.low h134).sub h268 (e:=1) rfl).y h272 rfl (by decide) (by decide) rfl
   refine .op (e275) ?_
   refine .fa ?_
   obtain ⟨c280,H277,e278,h281,h282,S279⟩:=S276.mvG (i:=1) (j:=8) (k:=0) (σ:=(7::0::1::1::1::1::1::1::1::1::1::1::1::1::0::σ)) rfl rfl rfl rfl rfl rfl
   refine .op (sM e278) ?_
   obtain ⟨v283,h284,h285⟩:=h140.fr
   obtain ⟨v286,h287,h288⟩:=h281.fr
   obtain ⟨w289,h296,h295,e291,e297⟩:=S279.cpV (i:=1) (n:=9) (ys:=[(.p (.bool yg79.Marker)),(.p (.int .i64 yg79.f_Type)),(.p (.int .u16 yg79.Seq)),(.p (.int .u32 yg79.Time)),(.p (.int .u32 yg79.Ssrc)),v283,(.p (.int .u16 (IntKind.wrap .u16 r175))),v168,v286]) rfl ⟨(FrC.v (sB _)),⟨(FrC.v (sI _ _)),⟨(FrC.v (sI _ _)),⟨(FrC.v (sI _ _)),⟨(FrC.v (sI _ _)),⟨h284,⟨(FrC.v (sI _ _)),⟨(FrC.v h169.still),⟨h287,trivial⟩⟩⟩⟩⟩⟩⟩⟩⟩ rfl
   obtain ⟨H290,e292,e293,S294⟩:=S279.frzX (i:=1) (ys:=[(.p (.bool yg79.Marker)),(.p (.int .i64 yg79.f_Type)),(.p (.int .u16 yg79.Seq)),(.p (.int .u32 yg79.Time)),(.p (.int .u32 yg79.Ssrc)),v283,(.p (.int .u16 (IntKind.wrap .u16 r175))),v168,v286]) rfl rfl ⟨(FrC.v (sB _)),⟨(FrC.v (sI _ _)),⟨(FrC.v (sI _ _)),⟨(FrC.v (sI _ _)),⟨(FrC.v (sI _ _)),⟨h284,⟨(FrC.v (sI _ _)),⟨(FrC.v h169.still),⟨h287,trivial⟩⟩⟩⟩⟩⟩⟩⟩⟩ h296
   refine .op (e291) ?_
   obtain ⟨H298,e299,S300⟩:=S279.stX (i:=0) (n:=9) (σ:=(1::0::1::1::1::1::1::1::1::1::1::1::1::1::1::0::σ)) rfl rfl e297 h295 rfl
   refine .op (sM e299) ?_
   obtain ⟨H301,e302,e303,S304⟩:=S300.frzX (i:=1) (ys:=[(.p (.bool yg79.Marker)),(.p (.int .i64 yg79.f_Type)),(.p (.int .u16 yg79.Seq)),(.p (.int .u32 yg79.Time)),(.p (.int .u32 yg79.Ssrc)),v283,(.p (.int .u16 (IntKind.wrap .u16 r175))),v168,v286]) rfl rfl ⟨(FrC.v (sB _)),⟨(FrC.v (sI _ _)),⟨(FrC.v (sI _ _)),⟨(FrC.v (sI _ _)),⟨(FrC.v (sI _ _)),⟨h284,⟨(FrC.v (sI _ _)),⟨(FrC.v h169.still),⟨h287,trivial⟩⟩⟩⟩⟩⟩⟩⟩⟩ h296
   have e305:ldO true 9 H298 (.ref ⟨h.length,2,0,s137,[]⟩ 0)=some (.agg w289):=AtC.ldX (S300.atG (i:=0) rfl) h295 (by decide)
   refine .op (congrArg (Option.bind · _) e305) ?_
   exact .fin (S304.finE (Ex.st (e302 _ _) (Ex.pl (sI _ _).lv Ex.nil))) ⟨_,(z9.mk h285 h169 h288),rfl⟩
  refine .op ((S132.low h134).len) ?_
  refine .ci ?_
  refine .bd fun a306 h307=>?_
  refine .op ((S132.low h134).iS h307 rfl) ?_
  obtain ⟨_,rfl,hE308⟩:=(S132.low h134).el h307 rfl
  refine .op (hE308.ld (j:=0) rfl) ?_
  refine .ci ?_
  refine .cq ?_ ?_
  ·refine .bd fun a310 h311=>?_
   refine .op ((S132.low h134).iS h311 rfl) ?_
   obtain ⟨_,rfl,hE312⟩:=(S132.low h134).el h311 rfl
   refine .op (hE312.ld (j:=0) rfl) ?_
   refine .ci ?_
   refine .ch (P:=fun r y=>r=y) ?_ (fun b313 y314 h315 h316=>?_)
   ·refine .cq ?_ ?_
    ·exact .ret rfl rfl
    ·exact .ret rfl rfl
   subst h316
   refine .cq ?_ ?_
   ·refine .op (bldV pN (by kernel_rfl:_=some (.agg [.p (.bool false),.p (.int .i64 0),.p (.int .u16 0),.p (.int .u32 0),.p (.int .u32 0),.p (.slice none 0 0),.p (.int .u16 0),.p (.slice none 0 0),.p (.slice none 0 0)]))) ?_
    obtain ⟨H318,e319,S320⟩:=S132.stGv (i:=0) (j:=0) (own:=true) (σ:=(1::0::1::0::1::1::0::1::1::1::1::1::1::1::1::1::1::0::σ)) (xs:=[.p (.bool false),.p (.int .i64 0),.p (.int .u16 0),.p (.int .u32 0),.p (.int .u32 0),.p (.slice none 0 0),.p (.int .u16 0),.p (.slice none 0 0),.p (.slice none 0 0)]) rfl rfl (sC (sB _) (sC (sI _ _) (sC (sI _ _) (sC (sI _ _) (sC (sI _ _) (sC (SlF.nil (dI .u32)).still (sC (sI _ _) (sC (SlF.nil (dI .u8)).still (sC (SlF.nil (dI .u8)).still sN))))))))) rfl rfl
    refine .op (sM e319) ?_
    have e321:ldO true 9 H318 (.ref ⟨h.length,2,0,s137,[]⟩ 0)=some (.agg [.p (.bool false),.p (.int .i64 0),.p (.int .u16 0),.p (.int .u32 0),.p (.int .u32 0),.p (.slice none 0 0),.p (.int .u16 0),.p (.slice none 0 0),.p (.slice none 0 0)]):=(S320.atG (i:=0) rfl).ldVs (j:=0) rfl rfl (by decide)
    refine .op (congrArg (Option.bind · _) e321) ?_
    exact .fin (S320.finN (lC (Stills.lv (z9.still (z9.mk (SlF.nil (dI .u32)) (SlF.nil (dI .u8)) (SlF.nil (dI .u8))))) (lC (sI _ _).lv lN))) ⟨_,(z9.mk (SlF.nil (dI .u32)) (SlF.nil (dI .u8)) (SlF.nil (dI .u8))),rfl⟩
   refine .bd fun a322 h323=>?_
   refine .op ((S132.low h134).iS h323 rfl) ?_
   obtain ⟨_,rfl,hE324⟩:=(S132.low h134).el h323 rfl
   refine .op (hE324.ld (j:=0) rfl) ?_
   refine .ci ?_
   refine .ch (P:=fun r y=>r=y) ?_ (fun b325 y326 h327 h328=>?_)
   ·refine .cq ?_ ?_
    ·refine .fa ?_
     refine .op ((S132.atG (i:=1) rfl).ld (j:=6) rfl) ?_
     refine .ci ?_
     exact .ret rfl rfl
    ·exact .ret rfl rfl
   subst h328
   refine .cq ?_ ?_
   ·refine .op (bldV pN (by kernel_rfl:_=some (.agg [.p (.bool false),.p (.int .i64 0),.p (.int .u16 0),.p (.int .u32 0),.p (.int .u32 0),.p (.slice none 0 0),.p (.int .u16 0),.p (.slice none 0 0),.p (.slice none 0 0)]))) ?_
    obtain ⟨H330,e331,S332⟩:=S132.stGv (i:=0) (j:=0) (own:=true) (σ:=(1::0::1::0::1::1::1::1::1::1::1::1::1::1::1::0::σ)) (xs:=[.p (.bool false),.p (.int .i64 0),.p (.int .u16 0),.p (.int .u32 0),.p (.int .u32 0),.p (.slice none 0 0),.p (.int .u16 0),.p (.slice none 0 0),.p (.slice none 0 0)]) rfl rfl (sC (sB _) (sC (sI _ _) (sC (sI _ _) (sC (sI _ _) (sC (sI _ _) (sC (SlF.nil (dI .u32)).still (sC (sI _ _) (sC (SlF.nil (dI .u8)).still (sC (SlF.nil (dI .u8)).still sN))))))))) rfl rfl
    refine .op (sM e331) ?_
    have e333:ldO true 9 H330 (.ref ⟨h.length,2,0,s137,[]⟩ 0)=some (.agg [.p (.bool false),.p (.int .i64 0),.p (.int .u16 0),.p (.int .u32 0),.p (.int .u32 0),.p (.slice none 0 0),.p (.int .u16 0),.p (.slice none 0 0),.p (.slice none 0 0)]):=(S332.atG (i:=0) rfl).ldVs (j:=0) rfl rfl (by decide)
    refine .op (congrArg (Option.bind · _) e333) ?_
    exact .fin (S332.finN (lC (Stills.lv (z9.still (z9.mk (SlF.nil (dI .u32)) (SlF.nil (dI .u8)) (SlF.nil (dI .u8))))) (lC (sI _ _).lv lN))) ⟨_,(z9.mk (SlF.nil (dI .u32)) (SlF.nil (dI .u8)) (SlF.nil (dI .u8))),rfl⟩
   have h334:SlF (dI .u8) ([]:List Int) (.fz [] 0 1 true):=SlF.lit (cs:=[]) RL.nil rfl rfl true
   refine .op (bldS pN (by kernel_rfl:_=some (vOf h334))) ?_
   refine .bd fun a335 h336=>?_
   refine .op ((S132.low h134).slS h336 rfl rfl rfl) ?_
   have S338:=S132.nil' (dI .u8) [] (e:=1) rfl
   refine .bd fun a339 h340=>?_
   obtain ⟨v341,H342,e343,S344⟩:=S338.app (i:=0) (d:=147) (e:=1) (own:=true) (σ:=(5::0::1::1::1::1::1::1::1::1::1::1::1::1::0::σ)) rfl ((S338.low h134).sub h336 (e:=1) rfl).y h340 rfl (by decide) (by decide) rfl
   refine .op (e343) ?_
   refine .fa ?_
   obtain ⟨c348,H345,e346,h349,h350,S347⟩:=S344.mvG (i:=1) (j:=8) (k:=0) (σ:=(7::0::1::1::1::1::1::1::1::1::1::1::1::1::0::σ)) rfl rfl rfl rfl rfl rfl
   refine .op (sM e346) ?_
   obtain ⟨v351,h352,h353⟩:=h140.fr
   obtain ⟨v354,h355,h356⟩:=h349.fr
   obtain ⟨w357,h364,h363,e359,e365⟩:=S347.cpV (i:=1) (n:=9) (ys:=[(.p (.bool yg79.Marker)),(.p (.int .i64 yg79.f_Type)),(.p (.int .u16 yg79.Seq)),(.p (.int .u32 yg79.Time)),(.p (.int .u32 yg79.Ssrc)),v351,(.p (.int .u16 yg79.Profile)),v142,v354]) rfl ⟨(FrC.v (sB _)),⟨(FrC.v (sI _ _)),⟨(FrC.v (sI _ _)),⟨(FrC.v (sI _ _)),⟨(FrC.v (sI _ _)),⟨h352,⟨(FrC.v (sI _ _)),⟨(FrC.v h143.still),⟨h355,trivial⟩⟩⟩⟩⟩⟩⟩⟩⟩ rfl
   obtain ⟨H358,e360,e361,S362⟩:=S347.frzX (i:=1) (ys:=[(.p (.bool yg79.Marker)),(.p (.int .i64 yg79.f_Type)),(.p (.int .u16 yg79.Seq)),(.p (.int .u32 yg79.Time)),(.p (.int .u32 yg79.Ssrc)),v351,(.p (.int .u16 yg79.Profile)),v142,v354]) rfl rfl ⟨(FrC.v (sB _)),⟨(FrC.v (sI _ _)),⟨(FrC.v (sI _ _)),⟨(FrC.v (sI _ _)),⟨(FrC.v (sI _ _)),⟨h352,⟨(FrC.v (sI _ _)),⟨(FrC.v h143.still),⟨h355,trivial⟩⟩⟩⟩⟩⟩⟩⟩⟩ h364
   refine .op (e359) ?_
   obtain ⟨H366,e367,S368⟩:=S347.stX (i:=0) (n:=9) (σ:=(1::0::1::1::1::1::1::1::1::1::1::1::1::1::1::0::σ)) rfl rfl e365 h363 rfl
   refine .op (sM e367) ?_
   obtain ⟨H369,e370,e371,S372⟩:=S368.frzX (i:=1) (ys:=[(.p (.bool yg79.Marker)),(.p (.int .i64 yg79.f_Type)),(.p (.int .u16 yg79.Seq)),(.p (.int .u32 yg79.Time)),(.p (.int .u32 yg79.Ssrc)),v351,(.p (.int .u16 yg79.Profile)),v142,v354]) rfl rfl ⟨(FrC.v (sB _)),⟨(FrC.v (sI _ _)),⟨(FrC.v (sI _ _)),⟨(FrC.v (sI _ _)),⟨(FrC.v (sI _ _)),⟨h352,⟨(FrC.v (sI _ _)),⟨(FrC.v h143.still),⟨h355,trivial⟩⟩⟩⟩⟩⟩⟩⟩⟩ h364
   have e373:ldO true 9 H366 (.ref ⟨h.length,2,0,s137,[]⟩ 0)=some (.agg w357):=AtC.ldX (S368.atG (i:=0) rfl) h363 (by decide)
   refine .op (congrArg (Option.bind · _) e373) ?_
   exact .fin (S372.finE (Ex.st (e370 _ _) (Ex.pl (sI _ _).lv Ex.nil))) ⟨_,(z9.mk h353 h143 h356),rfl⟩
  refine .bd fun a374 h375=>?_
  refine .op ((S132.low h134).iS h375 rfl) ?_
  obtain ⟨_,rfl,hE376⟩:=(S132.low h134).el h375 rfl
  refine .op (hE376.ld (j:=0) rfl) ?_
  refine .ci ?_
  refine .ch (P:=fun r y=>r=y) ?_ (fun b377 y378 h379 h380=>?_)
  ·refine .cq ?_ ?_
   ·refine .fa ?_
    refine .op ((S132.atG (i:=1) rfl).ld (j:=6) rfl) ?_
    refine .ci ?_
    exact .ret rfl rfl
   ·exact .ret rfl rfl
  subst h380
  refine .cq ?_ ?_
  ·refine .op (bldV pN (by kernel_rfl:_=some (.agg [.p (.bool false),.p (.int .i64 0),.p (.int .u16 0),.p (.int .u32 0),.p (.int .u32 0),.p (.slice none 0 0),.p (.int .u16 0),.p (.slice none 0 0),.p (.slice none 0 0)]))) ?_
   obtain ⟨H382,e383,S384⟩:=S132.stGv (i:=0) (j:=0) (own:=true) (σ:=(1::0::1::0::1::1::1::1::1::1::1::1::1::1::1::0::σ)) (xs:=[.p (.bool false),.p (.int .i64 0),.p (.int .u16 0),.p (.int .u32 0),.p (.int .u32 0),.p (.slice none 0 0),.p (.int .u16 0),.p (.slice none 0 0),.p (.slice none 0 0)]) rfl rfl (sC (sB _) (sC (sI _ _) (sC (sI _ _) (sC (sI _ _) (sC (sI _ _) (sC (SlF.nil (dI .u32)).still (sC (sI _ _) (sC (SlF.nil (dI .u8)).still (sC (SlF.nil (dI .u8)).still sN))))))))) rfl rfl
   refine .op (sM e383) ?_
   have e385:ldO true 9 H382 (.ref ⟨h.length,2,0,s137,[]⟩ 0)=some (.agg [.p (.bool false),.p (.int .i64 0),.p (.int .u16 0),.p (.int .u32 0),.p (.int .u32 0),.p (.slice none 0 0),.p (.int .u16 0),.p (.slice none 0 0),.p (.slice none 0 0)]):=(S384.atG (i:=0) rfl).ldVs (j:=0) rfl rfl (by decide)
   refine .op (congrArg (Option.bind · _) e385) ?_
   exact .fin (S384.finN (lC (Stills.lv (z9.still (z9.mk (SlF.nil (dI .u32)) (SlF.nil (dI .u8)) (SlF.nil (dI .u8))))) (lC (sI _ _).lv lN))) ⟨_,(z9.mk (SlF.nil (dI .u32)) (SlF.nil (dI .u8)) (SlF.nil (dI .u8))),rfl⟩
  have h386:SlF (dI .u8) ([]:List Int) (.fz [] 0 1 true):=SlF.lit (cs:=[]) RL.nil rfl rfl true
  refine .op (bldS pN (by kernel_rfl:_=some (vOf h386))) ?_
  refine .bd fun a387 h388=>?_
  refine .op ((S132.low h134).slS h388 rfl rfl rfl) ?_
  have S390:=S132.nil' (dI .u8) [] (e:=1) rfl
  refine .bd fun a391 h392=>?_
  obtain ⟨v393,H394,e395,S396⟩:=S390.app (i:=0) (d:=147) (e:=1) (own:=true) (σ:=(5::0::1::1::1::1::1::1::1::1::1::1::1::1::0::σ)) rfl ((S390.low h134).sub h388 (e:=1) rfl).y h392 rfl (by decide) (by decide) rfl
  refine .op (e395) ?_
  refine .fa ?_
  obtain ⟨c400,H397,e398,h401,h402,S399⟩:=S396.mvG (i:=1) (j:=8) (k:=0) (σ:=(7::0::1::1::1::1::1::1::1::1::1::1::1::1::0::σ)) rfl rfl rfl rfl rfl rfl
  refine .op (sM e398) ?_
  obtain ⟨v403,h404,h405⟩:=h140.fr
  obtain ⟨v406,h407,h408⟩:=h401.fr
  obtain ⟨w409,h416,h415,e411,e417⟩:=S399.cpV (i:=1) (n:=9) (ys:=[(.p (.bool yg79.Marker)),(.p (.int .i64 yg79.f_Type)),(.p (.int .u16 yg79.Seq)),(.p (.int .u32 yg79.Time)),(.p (.int .u32 yg79.Ssrc)),v403,(.p (.int .u16 yg79.Profile)),v142,v406]) rfl ⟨(FrC.v (sB _)),⟨(FrC.v (sI _ _)),⟨(FrC.v (sI _ _)),⟨(FrC.v (sI _ _)),⟨(FrC.v (sI _ _)),⟨h404,⟨(FrC.v (sI _ _)),⟨(FrC.v h143.still),⟨h407,trivial⟩⟩⟩⟩⟩⟩⟩⟩⟩ rfl
  obtain ⟨H410,e412,e413,S414⟩:=S399.frzX (i:=1) (ys:=[(.p (.bool yg79.Marker)),(.p (.int .i64 yg79.f_Type)),(.p (.int .u16 yg79.Seq)),(.p (.int .u32 yg79.Time)),(.p (.int .u32 yg79.Ssrc)),v403,(.p (.int .u16 yg79.Profile)),v142,v406]) rfl rfl ⟨(FrC.v (sB _)),⟨(FrC.v (sI _ _)),⟨(FrC.v (sI _ _)),⟨(FrC.v (sI _ _)),⟨(FrC.v (sI _ _)),⟨h404,⟨(FrC.v (sI _ _)),⟨(FrC.v h143.still),⟨h407,trivial⟩⟩⟩⟩⟩⟩⟩⟩⟩ h416
  refine .op (e411) ?_
  obtain ⟨H418,e419,S420⟩:=S399.stX (i:=0) (n:=9) (σ:=(1::0::1::1::1::1::1::1::1::1::1::1::1::1::1::0::σ)) rfl rfl e417 h415 rfl
  refine .op (sM e419) ?_
  obtain ⟨H421,e422,e423,S424⟩:=S420.frzX (i:=1) (ys:=[(.p (.bool yg79.Marker)),(.p (.int .i64 yg79.f_Type)),(.p (.int .u16 yg79.Seq)),(.p (.int .u32 yg79.Time)),(.p (.int .u32 yg79.Ssrc)),v403,(.p (.int .u16 yg79.Profile)),v142,v406]) rfl rfl ⟨(FrC.v (sB _)),⟨(FrC.v (sI _ _)),⟨(FrC.v (sI _ _)),⟨(FrC.v (sI _ _)),⟨(FrC.v (sI _ _)),⟨h404,⟨(FrC.v (sI _ _)),⟨(FrC.v h143.still),⟨h407,trivial⟩⟩⟩⟩⟩⟩⟩⟩⟩ h416
  have e425:ldO true 9 H418 (.ref ⟨h.length,2,0,s137,[]⟩ 0)=some (.agg w409):=AtC.ldX (S420.atG (i:=0) rfl) h415 (by decide)
  refine .op (congrArg (Option.bind · _) e425) ?_
  exact .fin (S424.finE (Ex.st (e422 _ _) (Ex.pl (sI _ _).lv Ex.nil))) ⟨_,(z9.mk h405 h143 h408),rfl⟩
end
end Go.Ev
namespace Go.Ev
namespace Lay
theorem wrapU {n:Int} (h1:0≤n) (h2:n<18446744073709551616):IntKind.wrap .u64 n=n:=zo5 h1 h2
theorem wrap16 {n:Int} (h1:0≤n) (h2:n<65536):IntKind.wrap .u16 n=n:=by
 simp only [IntKind.wrap,IntKind.signed,IntKind.bits]
 simp
 omega
theorem wrap8 (n:Int):IntKind.wrap .u8 n=n % 256:=by
 simp only [IntKind.wrap,IntKind.signed,IntKind.bits]
 simp
theorem or_u64 {a b:Int} (ha:0≤a) (ha2:a<2^56) (hb:0≤b∧b<256):intBits .or .u64 (IntKind.wrap .u64 (a*2^8)) (IntKind.wrap .u64 b)=a*256+b:=by
 obtain ⟨m,rfl⟩:∃ m:Nat,a=m:=⟨a.toNat,by omega⟩
 obtain ⟨n,rfl⟩:∃ n:Nat,b=n:=⟨b.toNat,by omega⟩
 have w1:IntKind.wrap .u64 ((m:Int)*2^8)=((m*256:Nat):Int):=by rw [wrapU (by omega) (by omega)];omega
 have w2:IntKind.wrap .u64 (n:Int)=(n:Int):=wrapU (by omega) (by omega)
 rw [w1,w2]
 have hor:m*256 ||| n=m*256+n:=by
  have:=Nat.shiftLeft_add_eq_or_of_lt (b:=n) (i:=8) (by omega) m
  rw [Nat.shiftLeft_eq] at this
  exact this.symm
 have h1:(BitVec.ofInt 64 ((m*256:Nat):Int) ||| BitVec.ofInt 64 (n:Int)).toNat=m*256+n:=by
  rw [BitVec.toNat_or,BitVec.toNat_ofInt,BitVec.toNat_ofInt]
  have e1:(((m*256:Nat):Int) % ((2^64:Nat):Int)).toNat=m*256:=by rw [Int.emod_eq_of_lt (by omega) (by omega)];rfl
  have e2:(((n:Nat):Int) % ((2^64:Nat):Int)).toNat=n:=by rw [Int.emod_eq_of_lt (by omega) (by omega)];rfl
  rw [e1,e2,hor]
 show IntKind.wrap .u64 (((BitVec.ofInt 64 ((m*256:Nat):Int) ||| BitVec.ofInt 64 (n:Int)).toNat:Nat):Int)=_
 rw [h1,show ((m*256+n:Nat):Int)=(m:Int)*256+n by omega]
 exact wrapU (by omega) (by omega)
def octs (n:Int):Nat→List Int
 | 0=>[]
 | s+1=>IntKind.wrap .u8 (Int.fdiv n (2^(8*s)))::octs n s
theorem z49 (n:Int):∀ s,(octs n s).length=s
 | 0=>rfl
 | s+1=>by rw [octs,List.length_cons,z49 n s]
theorem put_l0 {β:Type} (kE:List Int→Option β) (n:Int):∀ (s k:Nat) (out:List Int),s≤8→s<k→out.length+s<1000000→z2v k kE n out ((s:Int)-1)=kE (out++octs n s)
 | 0,k,out,_,hk,_=>by
  obtain ⟨k,rfl⟩:∃ j,k=j+1:=⟨k-1,by omega⟩
  rw [z2v,decide_eq_false (by decide),cond_false,octs,List.append_nil]
 | s+1,k,out,hs,hk,ho=>by
  obtain ⟨k,rfl⟩:∃ j,k=j+1:=⟨k-1,by omega⟩
  have e1:((s+1:Nat):Int)-1=(s:Int):=by omega
  have e2:IntKind.wrap .i64 ((s:Int)-1)=(s:Int)-1:=wrap_i64 (by omega) (by omega)
  have e3:shP .shr .u64 n (IntKind.wrap .u64 (IntKind.wrap .i64 (8*(s:Int))))=some (Int.fdiv n (2^(8*s))):=by
   rw [wrap_i64 (by omega) (by omega),wrapU (by omega) (by omega)]
   unfold shP
   rw [if_neg (by omega)]
   have:min (8*(s:Int)).toNat IntKind.u64.bits=8*s:=by
    show min (8*(s:Int)).toNat 64=_
    omega
   simp only [this]
  rw [e1,z2v,decide_eq_true (by omega),cond_true,e3,Option.bind_some,ap_eq (by omega) (by simp only [List.length_cons,List.length_nil];omega),Option.bind_some,e2,
   put_l0 kE n s k _ (by omega) (by omega) (by rw [List.length_append];simp only [List.length_cons,List.length_nil];omega),octs,List.append_assoc]
  rfl
theorem put_ok {k:Nat} (hk:10≤k) {b:List Int} (hb:b.length<100000) (n:Int) {s:Nat} (h1:1≤s) (h8:s≤8):zk k b n (s:Int)=some (b++octs n s):=by
 unfold zk
 rw [ap_eq (by omega) (by simp only [List.length_nil];omega),Option.bind_some,List.nil_append,decide_eq_false (by omega),cond_false,decide_eq_false (by omega),Option.bind_some,cond_false,wrap_i64 (by omega) (by omega)]
 exact put_l0 _ n s k b h8 (by omega) (by omega)
theorem put2 {k:Nat} (hk:10≤k) {b:List Int} (hb:b.length<100000) (n:Int):zk k b n 2=some (b++octs n 2):=put_ok hk hb n (s:=2) (by omega) (by omega)
theorem put4 {k:Nat} (hk:10≤k) {b:List Int} (hb:b.length<100000) (n:Int):zk k b n 4=some (b++octs n 4):=put_ok hk hb n (s:=4) (by omega) (by omega)
def pkt (seq stamp ssrc:Int) (E pay:List Int):List Int:=144::96::(octs (IntKind.wrap .u64 seq) 2++octs (IntKind.wrap .u64 stamp) 4++octs (IntKind.wrap .u64 ssrc) 4++(190::222::0::1::(E++pay)))
theorem zo0 {seq stamp ssrc:Int} {E pay:List Int} (hE:E.length=4):(pkt seq stamp ssrc E pay).length=20+pay.length:=by
 unfold pkt
 simp only [List.length_cons,List.length_append,z49,hE];omega
theorem ziz {k:Nat} (hk:12≤k) {seq stamp ssrc:Int} {E pay:List Int} (hE:E.length=4) (hp:pay.length≤1400) :
  z4l k ⟨false,96,seq,stamp,ssrc,[],48862,E,pay⟩=some (pkt seq stamp ssrc E pay,0):=by
 obtain ⟨k,rfl⟩:∃ j,k=j+1:=⟨k-1,by omega⟩
 have hr:z5t ⟨false,96,seq,stamp,ssrc,[],48862,E,pay⟩=some 0:=by
  unfold z5t z8d
  simp only [hE,List.length_nil]
  have e0:IntKind.wrap .i64 (4*((0:Nat):Int))=0:=rfl
  have e1:IntKind.wrap .i64 (12+0)=12:=rfl
  rw [e0,e1,wrap_i64 (n:=12+(pay.length:Int)) (by omega) (by omega),wrap_i64 (n:=12+(pay.length:Int)+4) (by omega) (by omega),wrap_i64 (n:=12+(pay.length:Int)+4+((4:Nat):Int)) (by omega) (by omega)]
  have c1:decide ((96:Int)<0)=false:=rfl
  have c2:decide ((96:Int)>127)=false:=rfl
  have c3:decide (((0:Nat):Int)>15)=false:=rfl
  have c4:(Int.tmod ((4:Nat):Int) 4 != 0)=false:=rfl
  have c5:((48862:Int)==0)=false:=rfl
  have c6:((48862:Int) != 0)=true:=rfl
  have c7:decide (12+(pay.length:Int)+4+((4:Nat):Int)>1500)=false:=decide_eq_false (by omega)
  simp only [c1,c2,c3,c4,c5,c6,c7,cond_false,cond_true,Option.bind_some]
 unfold z4l
 rw [hr,Option.bind_some]
 have l1:∀ x:List Int,x.length<100000→∀ m s,s≤8→(x++octs m s).length=x.length+s:=fun x _ m s _=>by rw [List.length_append,z49]
 have w1:[IntKind.wrap .u8 (intBits .or .i64 (intBits .or .i64 128 (((([]:List Int).length:Nat):Int))) 16),IntKind.wrap .u8 96]=[144,96]:=by decide
 simp only [bne_self_eq_false,cond_false]
 rw [show ((48862:Int) != 0)=true from rfl,cond_true,w1,put2 (by omega) (by simp),Option.bind_some,put4 (by omega) (by simp [z49]),Option.bind_some,put4 (by omega) (by simp [z49]),Option.bind_some,z1l,
  show decide ((0:Int)<(([]:List Int).length:Int))=false from rfl,cond_false]
 simp only
 have w2:IntKind.wrap .u64 (IntKind.wrap .i64 (Int.tdiv (E.length:Int) 4))=1:=by rw [hE];rfl
 rw [show ((48862:Int) != 0)=true from rfl,cond_true,put2 (by omega) (by simp [z49]),Option.bind_some,w2,put2 (by omega) (by simp [z49]),Option.bind_some,ap_eq (by omega) (by simp [z49,hE]),Option.bind_some,ap_eq (by omega) (by simp [z49,hE];omega),Option.bind_some]
 have o1:octs (IntKind.wrap .u64 48862) 2=[190,222]:=by decide
 have o2:octs 1 2=[0,1]:=by decide
 rw [o1,o2]
 unfold pkt
 simp
def HasExt (l:z7):Prop:=∃ E:List Int,E.length=4∧∀ j:Nat,z7b (j+30) 48862 [(⟨1,bytesS l.Rid⟩:z23)]=some (E,0)
theorem zmw {k:Nat} (hk:30≤k) {l:z7} (hl:HasExt l) {seq stamp size:Int} {key:Bool} (h1:1≤size) (h2:size≤1000) :
  ∃ E pay:List Int,E.length=4∧pay.length=size.toNat∧z5q k l seq stamp key size=some (pkt seq stamp l.Ssrc E pay):=by
 obtain ⟨E,hE,he⟩:=hl
 obtain ⟨j,rfl⟩:∃ j,k=j+30:=⟨k-30,by omega⟩
 have hmk:mk 1 (0:Int) size=some (List.replicate size.toNat 0):=by
  unfold mk;rw [if_pos ⟨by omega,by omega,by omega⟩]
 unfold z5q
 rw [hmk,Option.bind_some,he j,Option.bind_some,decide_eq_true (show size>0 by omega)]
 cases key with
 | false =>
  simp only [cond_false,Option.bind_some]
  rw [ziz (by omega) hE (by rw [List.length_replicate];omega),Option.bind_some]
  exact ⟨E,_,hE,List.length_replicate,rfl⟩
 | true =>
  simp only [cond_true,Option.bind_some]
  have h0:(List.replicate size.toNat (0:Int))[0]?=some 0:=by rw [List.getElem?_replicate,if_pos (by omega)]
  have hi:ix (List.replicate size.toNat (0:Int)) 0=some 0:=ix_at (i:=0) h0
  have hs:stx (List.replicate size.toNat (0:Int)) 0 1=some ((List.replicate size.toNat (0:Int)).set 0 1):=by
   unfold stx;rw [if_pos ⟨by omega,by rw [List.length_replicate];omega⟩];rfl
  rw [hi,Option.bind_some,hs,Option.bind_some,ziz (by omega) hE (by rw [List.length_set,List.length_replicate];omega),Option.bind_some]
  exact ⟨E,_,hE,by rw [List.length_set,List.length_replicate],rfl⟩
theorem get_l0 {β:Type} {x0:List Int} {a s:Nat} (kE:Int→Option β) (h:a+s≤x0.length) (hl:x0.length<100000):∀ m i k:Nat,∀ v:Int,i+m=s→m<k→∃ w,z17 k kE x0 (a:Int) (s:Int) v (i:Int)=kE w:=by
 intro m
 induction m with
 | zero =>
  intro i k v hi hk
  obtain ⟨k,rfl⟩:∃ j,k=j+1:=⟨k-1,by omega⟩
  rw [z17,decide_eq_false (by omega),cond_false]
  exact ⟨v,rfl⟩
 | succ m ih =>
  intro i k v hi hk
  obtain ⟨k,rfl⟩:∃ j,k=j+1:=⟨k-1,by omega⟩
  have hx:ix x0 (IntKind.wrap .i64 ((a:Int)+(i:Int)))=some (x0[a+i]'(by omega)):=by
   rw [wrap_i64 (by omega) (by omega)]
   exact ix_at (i:=a+i) (List.getElem?_eq_getElem (by omega))
  rw [z17,decide_eq_true (by omega),cond_true,hx,Option.bind_some,show IntKind.wrap .i64 ((i:Int)+1)=((i+1:Nat):Int) from wrap_i64 (by omega) (by omega)]
  exact ih (i+1) k _ (by omega) (by omega)
theorem zik {x0:List Int} {a s:Nat} {k:Nat} (h:a+s≤x0.length) (hl:x0.length<100000) (h1:1≤s) (h8:s≤8):z66 k x0 (a:Int) (s:Int)=z17 k (fun r=>some (r,true)) x0 (a:Int) (s:Int) 0 0:=by
 unfold z66
 rw [decide_eq_false (by omega),cond_false,decide_eq_false (by omega),Option.bind_some,cond_false,decide_eq_false (by omega),Option.bind_some,cond_false,decide_eq_false (by omega),Option.bind_some,cond_false,wrap_i64 (by omega) (by omega),decide_eq_false (by omega),Option.bind_some,cond_false]
theorem zk3 {x0:List Int} {a s:Nat} {k:Nat} (hk:20≤k) (h:a+s≤x0.length) (hl:x0.length<100000) (h1:1≤s) (h8:s≤8):∃ v,z13 k x0 (a:Int) (s:Int)=some v:=by
 obtain ⟨w,e⟩:=get_l0 (x0:=x0) (a:=a) (s:=s) (fun r=>some (r,true)) h hl s 0 k 0 (by omega) (by omega)
 unfold z13
 rw [zik h hl h1 h8]
 have e':z17 k (fun r=>some (r,true)) x0 (a:Int) (s:Int) 0 0=some (w,true):=e
 rw [e',Option.bind_some]
 exact ⟨_,rfl⟩
theorem num2 {x0:List Int} {a:Nat} {k:Nat} (hk:20≤k) (h:a+2≤x0.length) (hl:x0.length<100000) {b c:Int} (hb:x0[a]?=some b) (hc:x0[a+1]?=some c) (b0:0≤b∧b<256) (c0:0≤c∧c<256):z13 k x0 (a:Int) 2=some (b*256+c):=by
 unfold z13
 have hh:=zik (k:=k) (s:=2) h hl (by omega) (by omega)
 have hh':z66 k x0 (a:Int) 2=_:=hh
 obtain ⟨k,rfl⟩:∃ j,k=j+3:=⟨k-3,by omega⟩
 have i0:ix x0 (IntKind.wrap .i64 ((a:Int)+0))=some b:=by
  rw [wrap_i64 (by omega) (by omega),Int.add_zero];exact ix_at hb
 have i1:ix x0 (IntKind.wrap .i64 ((a:Int)+1))=some c:=by
  rw [wrap_i64 (by omega) (by omega)];exact ix_at (i:=a+1) hc
 have w1:IntKind.wrap .i64 ((0:Int)+1)=1:=rfl
 have w2:IntKind.wrap .i64 ((1:Int)+1)=2:=rfl
 have o1:intBits .or .u64 (IntKind.wrap .u64 ((0:Int)*2^8)) (IntKind.wrap .u64 b)=b:=by
  have:=or_u64 (a:=0) (b:=b) (by omega) (by omega) b0
  rw [this];omega
 have d0:decide ((0:Int)<((2:Nat):Int))=true:=rfl
 have d1:decide ((1:Int)<((2:Nat):Int))=true:=rfl
 have d2:decide ((2:Int)<((2:Nat):Int))=false:=rfl
 rw [hh',z17,d0,cond_true,i0,Option.bind_some,o1,w1,z17,d1,cond_true,i1,Option.bind_some,or_u64 b0.1 (by omega) c0,w2,z17,d2,cond_false,Option.bind_some]
theorem zo8 {seq stamp ssrc:Int} {E pay:List Int} (hs:0≤seq∧seq<65536):(pkt seq stamp ssrc E pay)[0]?=some 144∧(pkt seq stamp ssrc E pay)[1]?=some 96∧(pkt seq stamp ssrc E pay)[2]?=some (seq / 256)∧(pkt seq stamp ssrc E pay)[3]?=some (seq % 256) ∧
  (pkt seq stamp ssrc E pay)[12]?=some 190∧(pkt seq stamp ssrc E pay)[13]?=some 222∧(pkt seq stamp ssrc E pay)[14]?=some 0∧(pkt seq stamp ssrc E pay)[15]?=some 1:=by
 refine ⟨rfl,rfl,?_,?_,rfl,rfl,rfl,rfl⟩
 ·show some (IntKind.wrap .u8 (Int.fdiv (IntKind.wrap .u64 seq) (2^(8*1))))=_
  rw [wrapU (by omega) (by omega),Int.fdiv_eq_ediv_of_nonneg _ (by decide),wrap8]
  congr 1
  omega
 ·show some (IntKind.wrap .u8 (Int.fdiv (IntKind.wrap .u64 seq) (2^(8*0))))=_
  rw [wrapU (by omega) (by omega),Int.fdiv_eq_ediv_of_nonneg _ (by decide),wrap8]
  congr 1
  omega
theorem zab {k:Nat} (hk:30≤k) {seq stamp ssrc:Int} {E pay:List Int} (hE:E.length=4) (hp:pay.length≤1400) (hs:0≤seq∧seq<65536) :
  ∃ p:TaiRtp,z6m k (pkt seq stamp ssrc E pay)=some (p,0)∧p.Seq=seq:=by
 obtain ⟨g0,g1,g2,g3,g12,g13,g14,g15⟩:=zo8 (stamp:=stamp) (ssrc:=ssrc) (E:=E) (pay:=pay) hs
 have hlen:=zo0 (seq:=seq) (stamp:=stamp) (ssrc:=ssrc) (pay:=pay) hE
 generalize pkt seq stamp ssrc E pay=b at *
 obtain ⟨k,rfl⟩:∃ j,k=j+1:=⟨k-1,by omega⟩
 have i0:ix b 0=some 144:=ix_at (i:=0) g0
 have i1:ix b 1=some 96:=ix_at (i:=1) g1
 have n2:z13 (k+1) b 2 2=some seq:=by
  have:=num2 (a:=2) (k:=k+1) (by omega) (by omega) (by omega) g2 g3 ⟨by omega,by omega⟩ ⟨by omega,by omega⟩
  have e:seq / 256*256+seq % 256=seq:=by omega
  rw [e] at this;exact this
 obtain ⟨v4,n4⟩:=zk3 (x0:=b) (a:=4) (s:=4) (k:=k+1) (by omega) (by omega) (by omega) (by omega) (by omega)
 have n4:z13 (k+1) b 4 4=some v4:=n4
 obtain ⟨v8,n8⟩:=zk3 (x0:=b) (a:=8) (s:=4) (k:=k+1) (by omega) (by omega) (by omega) (by omega) (by omega)
 have n8:z13 (k+1) b 8 4=some v8:=n8
 have n14:z13 (k+1) b 14 2=some 1:=num2 (a:=14) (k:=k+1) (by omega) (by omega) (by omega) g14 g15 ⟨by omega,by omega⟩ ⟨by omega,by omega⟩
 have n12:z13 (k+1) b 12 2=some 48862:=num2 (a:=12) (k:=k+1) (by omega) (by omega) (by omega) g12 g13 ⟨by omega,by omega⟩ ⟨by omega,by omega⟩
 have hcut:z7n b 16 4=some ((b.drop 16).take 4,true):=by
  unfold z7n
  have hs:sub b 16 20=some ((b.drop 16).take 4):=sub_eq (a:=16) (n:=4) (by omega)
  rw [show decide ((16:Int)<0)=false from rfl,cond_false,show decide ((4:Int)<0)=false from rfl,Option.bind_some,cond_false,decide_eq_false (by omega),Option.bind_some,cond_false,wrap_i64 (by omega) (by omega),decide_eq_false (by omega),Option.bind_some,cond_false,show IntKind.wrap .i64 ((16:Int)+4)=20 from rfl,hs,Option.bind_some,ap_eq (by omega) (by rw [List.length_take];simp only [List.length_nil];omega),Option.bind_some,List.nil_append]
 have hsub:sub b 20 (b.length:Int)=some ((b.drop 20).take (b.length-20)):=by
  have:=sub_eq (xs:=b) (a:=20) (n:=b.length-20) (by omega)
  have e:((20+(b.length-20):Nat):Int)=(b.length:Int):=by omega
  rw [e] at this;exact this
 have a1:intBits .and .u8 144 15=0:=by decide
 have a2:intBits .and .u8 144 16=16:=by decide
 have a3:intBits .and .u8 144 32=0:=by decide
 have f1:Int.fdiv (144:Int) (2^6)=2:=by decide
 have w0:IntKind.wrap .i64 (12+IntKind.wrap .i64 (4*IntKind.wrap .i64 0))=12:=by decide
 have w1:IntKind.wrap .i64 ((12:Int)+2)=14:=by decide
 have w2:IntKind.wrap .i64 ((12:Int)+4)=16:=by decide
 have w3:IntKind.wrap .i64 (4*IntKind.wrap .i64 1)=4:=by decide
 have w4:IntKind.wrap .i64 (IntKind.wrap .i64 ((12:Int)+4)+4)=20:=by decide
 have w5:IntKind.wrap .u16 48862=48862:=by decide
 unfold z6m
 rw [decide_eq_false (by omega),cond_false,beq_eq_false_iff_ne.2 (by omega:¬ (b.length:Int)=0),cond_false,i0,Option.bind_some,f1,show ((2:Int) != 2)=false from rfl,cond_false,Option.bind_some,a1,w0,decide_eq_false (by omega),cond_false,i1,Option.bind_some,Option.bind_some,n2,Option.bind_some,n4,Option.bind_some,n8,Option.bind_some,z4g,show decide ((12:Int)<12)=false from rfl,cond_false]
 simp only
 rw [i0,Option.bind_some,a2,show ((16:Int) != 0)=true from rfl,cond_true,w1,n14,Option.bind_some,w3,w2,hcut,Option.bind_some]
 simp only [Bool.not_true,cond_false]
 rw [n12,Option.bind_some,Option.bind_some,a3,show ((0:Int) != 0)=false from rfl,cond_false,Option.bind_some,a2,show ((16:Int) != 0)=true from rfl,cond_true,w5,show ((48862:Int)==0)=false from rfl,Option.bind_some,cond_false,show IntKind.wrap .i64 (16+(4:Int))=20 from rfl,hsub,Option.bind_some,ap_eq (by omega) (by rw [List.length_take];simp only [List.length_nil];omega),Option.bind_some]
 exact ⟨_,rfl,wrap16 hs.1 hs.2⟩
end Lay
end Go.Ev
namespace Go.Ev
open Go.Proofs
set_option linter.unusedVariables false
set_option linter.unusedSimpArgs false
set_option maxRecDepth 100000
noncomputable section
abbrev KT6:=Exit→Env→H→Option (List C × H)
variable (rec : CallF) (loop : LoopV) (σ : Stamp)
theorem z8a (x0:V) (x1:Int) (x2:V) (x3:Int) (x4:Int) (h:H):cvBody G rec loop 43 σ [x0,(.p (.int .i64 x1)),x2,(.p (.int .i64 x3)),(.p (.int .i64 x4))] h =
(boxO true (0::0::0::σ) 7 (List.replicate 57 []::h) x2).bind fun q1 =>
(callO rec 89 (2::0::0::1::0::σ) [x0,(.p (.int .i64 x1))] q1.2 (some 17)).bind fun q2 =>
(asB q2.1).bind fun b3 =>
bif !b3 then (
fin false σ q2.2 [(.p (.int .i64 0)),(.p (.bool false))])
else (
(nilChk x0).bind fun t4 =>
(fA t4 0).bind fun t5 =>
(ldO false 1 q2.2 t5).bind fun t6 =>
(iS 10 t6 x1).bind fun t7 =>
(nilChk t7).bind fun t8 =>
(fA t8 3).bind fun t9 =>
(ldO false 1 q2.2 t9).bind fun t10 =>
(fA q1.1 2).bind fun t11 =>
(ldO false 1 q2.2 t11).bind fun t12 =>
(castI .u16 t12).bind fun n13 =>
(callO rec 90 (6::0::1::1::1::0::σ) [t10,(.p (.int .u16 n13))] q2.2 (some 32)).bind fun q14 =>
(extV q14.1 0).bind fun t15 =>
(castI .i64 t15).bind fun n16 =>
(extV q14.1 1).bind fun t17 =>
(asB t17).bind fun b18 =>
bif !b18 then (
fin false σ q14.2 [(.p (.int .i64 0)),(.p (.bool false))])
else (
(nilChk t7).bind fun t19 =>
(fA t19 4).bind fun t20 =>
(ldO false 1 q14.2 t20).bind fun t21 =>
(callO rec 91 (7::0::1::1::1::1::1::0::σ) [t21,(.p (.int .i64 (IntKind.wrap .i64 (x3+28)))),(.p (.int .i64 x4))] q14.2 (some 44)).bind fun q22 =>
(callO rec 92 (4::0::1::1::1::1::1::1::0::σ) [(.p (.int .i64 x4))] q22.2 (some 49)).bind fun q23 =>
(castI .i64 q23.1).bind fun n24 =>
(nilChk t7).bind fun t25 =>
(fA t25 5).bind fun t26 =>
((stO true 1 (7::0::1::1::1::1::1::1::0::σ) q23.2 t26 (.p (.bool true))).map fun h=>(udf,h)).bind fun q27 =>
(nilChk t7).bind fun t28 =>
(fA t28 6).bind fun t29 =>
((stO true 1 (10::0::1::1::1::1::1::1::0::σ) q27.2 t29 (.p (.int .i64 n24))).map fun h=>(udf,h)).bind fun q30 =>
(nilChk t7).bind fun t31 =>
(fA t31 8).bind fun t32 =>
((stO true 1 (13::0::1::1::1::1::1::1::0::σ) q30.2 t32 (.p (.bool false))).map fun h=>(udf,h)).bind fun q33 =>
fin false σ q33.2 [(.p (.int .i64 n16)),(.p (.bool true))])):=by kernel_rfl
theorem zad (x0:V) (x1:Int) (h:H):cvBody G rec loop 89 σ [x0,(.p (.int .i64 x1))] h =
(bif decide (x1≥0) then ((nilChk x0).bind fun t1 =>
(fA t1 0).bind fun t2 =>
(ldO false 1 (List.replicate 16 []::h) t2).bind fun t3 =>
(lenO t3).bind fun t4 =>
(castI .i64 t4).bind fun n5 =>
some (decide (x1<n5))) else (some false)).bind fun b6 =>
fin false σ (List.replicate 16 []::h) [(.p (.bool b6))]:=by kernel_rfl
end
end Go.Ev
namespace Go.Ev
open Go.Proofs
set_option linter.unusedVariables false
set_option linter.unusedSimpArgs false
set_option maxRecDepth 100000
section
variable {β α : Type} {Q : β→α→Prop} {K : Exit × Env × H→Option α}
def zx (x0:z8) (x1:Int):Option (Bool) :=
(bif decide (x1≥0) then (some (decide (x1<((x0.l.length:Int))))) else (some false)).bind fun b1 =>
some (b1)
theorem z1j {h:H} {σ:Stamp} (x0:z8) {c0_0:C} (hc0_0:RsC zg x0.l c0_0) {l0:Loc} {o0:Nat} (ha0:AtC h l0 o0 ([c0_0])) (x1:Int):Sim (zx x0 x1) (ev G X0 89 σ [(.ref l0 o0),(.p (.int .i64 x1))] h) (fun r s=>s=([.v (.p (.bool r))],h)):=by
 refine .ev rfl (Sim.ext (zad _ _ _ _ _ _) ?_)
 rw [zx]
 have S0:Fm 16 h [] [] [] (List.replicate 16 []::h):=Fm.start0
 refine .ch (P:=fun r y=>r=y) ?_ (fun b1 y2 h3 h4=>?_)
 ·refine .cq ?_ ?_
  ·refine .nc ?_
   refine .fa ?_
   refine .op (RsC.ld hc0_0 (S0.lowA ha0) (j:=0) rfl) ?_
   refine .op (RsC.len hc0_0 _ _) ?_
   refine .ci ?_
   exact .ret rfl rfl
  ·exact .ret rfl rfl
 subst h4
 exact .fin (S0.finN (lC (sB _).lv lN)) rfl
end
end Go.Ev
namespace Go.Ev
open Go.Proofs
set_option linter.unusedVariables false
set_option linter.unusedSimpArgs false
set_option maxRecDepth 100000
noncomputable section
abbrev KT7:=Exit→Env→H→Option (List C × H)
variable (rec : CallF) (loop : LoopV) (σ : Stamp)
theorem zdn (x0:Int) (h:H):cvBody G rec loop 92 σ [(.p (.int .i64 x0))] h =
bif decide (x0<0) then (
fin false σ (List.replicate 9 []::h) [(.p (.int .i64 (IntKind.wrap .i64 (x0+300000))))])
else (
(callO rec 139 (1::0::1::1::0::σ) [(.p (.int .i64 x0)),(.p (.int .i64 300000))] (List.replicate 9 []::h) (some 8)).bind fun q1 =>
(castI .i64 q1.1).bind fun n2 =>
fin false σ q1.2 [(.p (.int .i64 n2))]):=by kernel_rfl
theorem zf5 (x0:Int) (x1:Int) (h:H):cvBody G rec loop 139 σ [(.p (.int .i64 x0)),(.p (.int .i64 x1))] h =
(callO rec 167 (1::0::1::0::σ) [(.p (.int .i64 x0))] (List.replicate 12 []::h) (some 6)).bind fun q1 =>
(castI .u64 q1.1).bind fun n2 =>
(callO rec 167 (3::0::1::0::σ) [(.p (.int .i64 x1))] q1.2 (some 8)).bind fun q3 =>
(castI .u64 q3.1).bind fun n4 =>
fin false σ q3.2 [(.p (.int .i64 (IntKind.wrap .i64 ((if 9223372036854775807<(IntKind.wrap .u64 (n2+n4)) then 9223372036854775807 else (IntKind.wrap .u64 (n2+n4)))))))]:=by kernel_rfl
theorem zgd (x0:Int) (h:H):cvBody G rec loop 167 σ [(.p (.int .i64 x0))] h =
fin false σ (List.replicate 6 []::h) [(.p (.int .u64 (IntKind.wrap .u64 ((if x0>0 then x0 else 0)))))]:=by kernel_rfl
end
end Go.Ev
namespace Go.Ev
open Go.Proofs
set_option linter.unusedVariables false
set_option linter.unusedSimpArgs false
set_option maxRecDepth 100000
section
variable {β α : Type} {Q : β→α→Prop} {K : Exit × Env × H→Option α}
def z24 (x0:Int):Option (Int) :=
some ((IntKind.wrap .u64 ((if x0>0 then x0 else 0))))
theorem z4h {h:H} {σ:Stamp} (x0:Int):Sim (z24 x0) (ev G X0 167 σ [(.p (.int .i64 x0))] h) (fun r s=>s=([.v (.p (.int .u64 r))],h)):=by
 refine .ev rfl (Sim.ext (zgd _ _ _ _ _) ?_)
 rw [z24]
 have S0:Fm 6 h [] [] [] (List.replicate 6 []::h):=Fm.start0
 exact .fin (S0.finN (lC (sI _ _).lv lN)) rfl
def z3f (x0:Int) (x1:Int):Option (Int) :=
(z24 x0).bind fun r1 =>
(z24 x1).bind fun r6 =>
some ((IntKind.wrap .i64 ((if 9223372036854775807<(IntKind.wrap .u64 (r1+r6)) then 9223372036854775807 else (IntKind.wrap .u64 (r1+r6))))))
theorem z6n {h:H} {σ:Stamp} (x0:Int) (x1:Int):Sim (z3f x0 x1) (ev G X0 139 σ [(.p (.int .i64 x0)),(.p (.int .i64 x1))] h) (fun r s=>s=([.v (.p (.int .i64 r))],h)):=by
 refine .ev rfl (Sim.ext (zf5 _ _ _ _ _ _) ?_)
 rw [z3f]
 have S0:Fm 12 h [] [] [] (List.replicate 12 []::h):=Fm.start0
 refine .call (z4h x0) fun r1 cs2 H3 h4 q5=>?_
 cases q5
 refine .ci ?_
 refine .call (z4h x1) fun r6 cs7 H8 h9 q10=>?_
 cases q10
 refine .ci ?_
 exact .fin (S0.finN (lC (sI _ _).lv lN)) rfl
def z5w (x0:Int):Option (Int) :=
bif decide (x0<0) then (
some ((IntKind.wrap .i64 (x0+300000))))
else (
(z3f x0 300000).bind fun r2 =>
some (r2))
theorem zgx {h:H} {σ:Stamp} (x0:Int):Sim (z5w x0) (ev G X0 92 σ [(.p (.int .i64 x0))] h) (fun r s=>s=([.v (.p (.int .i64 r))],h)):=by
 refine .ev rfl (Sim.ext (zdn _ _ _ _ _) ?_)
 rw [z5w]
 have S0:Fm 9 h [] [] [] (List.replicate 9 []::h):=Fm.start0
 refine .cq ?_ ?_
 ·exact .fin (S0.finN (lC (sI _ _).lv lN)) rfl
 refine .call (z6n x0 300000) fun r2 cs3 H4 h5 q6=>?_
 cases q6
 refine .ci ?_
 exact .fin (S0.finN (lC (sI _ _).lv lN)) rfl
end
end Go.Ev
namespace Go.Ev
open Go.Proofs
set_option linter.unusedVariables false
set_option linter.unusedSimpArgs false
set_option maxRecDepth 100000
noncomputable section
abbrev KT8:=Exit→Env→H→Option (List C × H)
variable (rec : CallF) (loop : LoopV) (σ : Stamp)
def z39:Code:=(codeAt (bodyOf Try.f91) [1,1,0,1,0,0])
def z37:Lv:=⟨67,0,[(0,67)]⟩
def z7m:KT8:=(kBlock 0 (kSeq G rec loop (codeAt (bodyOf Try.f91) [1,1,1]) ⟨0,0,[]⟩ (1::1::0::σ) (finC G false Try.f91 (1::σ))))
theorem zao (x0:V) (x1:Int) (x2:Int) (h:H):cvBody G rec loop 91 σ [x0,(.p (.int .i64 x1)),(.p (.int .i64 x2))] h =
bif decide (x1<0) then (
fin false σ (List.replicate 64 []::h) [])
else (
(nilChk x0).bind fun t1 =>
(fA t1 5).bind fun t2 =>
(ldO false 1 (List.replicate 64 []::h) t2).bind fun t3 =>
(castI .i64 t3).bind fun n4 =>
(callO rec 138 (5::0::1::0::σ) [(.p (.int .i64 x2))] (List.replicate 64 []::h) (some 15)).bind fun q5 =>
(castI .i64 q5.1).bind fun n6 =>
need (ldO false 1 q5.2 t2=some (.p (.int .i64 n4))) (
(nilChk x0).bind fun t7 =>
(fA t7 5).bind fun t8 =>
(ldO false 1 q5.2 t8).bind fun t9 =>
(castI .i64 t9).bind fun n10 =>
(loop z39 z37 (1::0::1::1::0::σ) (envL [(0,x0),(1,(.p (.int .i64 x1))),(6,(.p (.int .i64 ((if n6>n4 then n6 else n4))))),(23,(.p (.int .i64 ((if 5<(IntKind.wrap .i64 (((if n6>n4 then n6 else n4))-n10)) then 5 else (IntKind.wrap .i64 (((if n6>n4 then n6 else n4))-n10))))))),(24,(.p (.int .i64 0)))]) q5.2).bind fun r11=>z7m rec loop σ r11.1 r11.2.1 r11.2.2)):=by kernel_rfl
theorem zcx (x0:V) (x1:Int) (x6:Int) (x23:Int) (x24:Int) (h:H):zo G rec loop z39 z37 σ (envL [(0,x0),(1,(.p (.int .i64 x1))),(6,(.p (.int .i64 x6))),(23,(.p (.int .i64 x23))),(24,(.p (.int .i64 x24)))]) h =
bif decide (x24<x23) then (
(nilChk x0).bind fun t12 =>
(fA t12 0).bind fun t13 =>
(iA 5 1 t13 (Int.tmod (IntKind.wrap .i64 (x6-x24)) 5)).bind fun t14 =>
((stO true 1 (8::1::0::1::1::0::σ) h t14 (.p (.int .i64 0))).map fun h=>(udf,h)).bind fun q15 =>
loop z39 z37 (1::σ) (envL [(0,x0),(1,(.p (.int .i64 x1))),(6,(.p (.int .i64 x6))),(23,(.p (.int .i64 x23))),(24,(.p (.int .i64 (IntKind.wrap .i64 (x24+1)))))]) q15.2)
else (
some ((.exit 0),(envL [(0,x0),(1,(.p (.int .i64 x1))),(6,(.p (.int .i64 x6)))]),h)):=by kernel_rfl
theorem zbj (x0:V) (x1:Int) (x6:Int) (h:H):z7m rec loop σ (.exit 0) (envL [(0,x0),(1,(.p (.int .i64 x1))),(6,(.p (.int .i64 x6)))]) h =
(nilChk x0).bind fun t16 =>
(fA t16 5).bind fun t17 =>
((stO true 1 (4::0::1::1::1::0::σ) h t17 (.p (.int .i64 x6))).map fun h=>(udf,h)).bind fun q18 =>
(nilChk x0).bind fun t19 =>
(fA t19 0).bind fun t20 =>
(iA 5 1 t20 (Int.tmod x6 5)).bind fun t21 =>
(ldO false 1 q18.2 t21).bind fun t22 =>
(castI .i64 t22).bind fun n23 =>
(nilChk x0).bind fun t24 =>
(fA t24 0).bind fun t25 =>
(callO rec 139 (11::0::1::1::1::1::0::σ) [(.p (.int .i64 n23)),(.p (.int .i64 x1))] q18.2 (some 51)).bind fun q26 =>
(castI .i64 q26.1).bind fun n27 =>
(iA 5 1 t25 (Int.tmod x6 5)).bind fun t28 =>
((stO true 1 (15::0::1::1::1::1::0::σ) q26.2 t28 (.p (.int .i64 n27))).map fun h=>(udf,h)).bind fun q29 =>
(nilChk x0).bind fun t30 =>
(fA t30 6).bind fun t31 =>
(ldO false 1 q29.2 t31).bind fun t32 =>
(castI .i64 t32).bind fun n33 =>
(callO rec 139 (6::1::1::1::1::1::0::σ) [(.p (.int .i64 n33)),(.p (.int .i64 x1))] q29.2 (some 61)).bind fun q34 =>
(castI .i64 q34.1).bind fun n35 =>
(nilChk x0).bind fun t36 =>
(fA t36 6).bind fun t37 =>
((stO true 1 (9::1::1::1::1::1::0::σ) q34.2 t37 (.p (.int .i64 n35))).map fun h=>(udf,h)).bind fun q38 =>
fin false σ q38.2 []:=by kernel_rfl
theorem zec (x0:Int) (h:H):cvBody G rec loop 138 σ [(.p (.int .i64 x0))] h =
fin false σ (List.replicate 6 []::h) [(.p (.int .i64 (IntKind.wrap .i64 (Int.tdiv ((if x0>0 then x0 else 0)) 100000))))]:=by kernel_rfl
end
end Go.Ev
namespace Go.Ev
open Go.Proofs
set_option linter.unusedVariables false
set_option linter.unusedSimpArgs false
set_option maxRecDepth 100000
section
variable {β α : Type} {Q : β→α→Prop} {K : Exit × Env × H→Option α}
def z41 (x0:Int):Option (Int) :=
some ((IntKind.wrap .i64 (Int.tdiv ((if x0>0 then x0 else 0)) 100000)))
theorem zbp {h:H} {σ:Stamp} (x0:Int):Sim (z41 x0) (ev G X0 138 σ [(.p (.int .i64 x0))] h) (fun r s=>s=([.v (.p (.int .i64 r))],h)):=by
 refine .ev rfl (Sim.ext (zec _ _ _ _ _) ?_)
 rw [z41]
 have S0:Fm 6 h [] [] [] (List.replicate 6 []::h):=Fm.start0
 exact .fin (S0.finN (lC (sI _ _).lv lN)) rfl
def z14 {β:Type} (k:Nat) (kE0:Int→Int→z6→Option β) (x1:Int) (x6:Int) (x23:Int) (x24:Int) (zp0:z6):Option β:=match k with
| 0=>none
| k+1 =>
bif decide (x24<x23) then (
(ix [((zp0.slots.getD 0 0)),((zp0.slots.getD 1 0)),((zp0.slots.getD 2 0)),((zp0.slots.getD 3 0)),((zp0.slots.getD 4 0))] (Int.tmod (IntKind.wrap .i64 (x6-x24)) 5)).bind fun a10 =>
(stx [((zp0.slots.getD 0 0)),((zp0.slots.getD 1 0)),((zp0.slots.getD 2 0)),((zp0.slots.getD 3 0)),((zp0.slots.getD 4 0))] (Int.tmod (IntKind.wrap .i64 (x6-x24)) 5) 0).bind fun a15 =>
z14 k kE0 x1 x6 x23 (IntKind.wrap .i64 (x24+1)) ((⟨[((a15.getD 0 0)),((a15.getD 1 0)),((a15.getD 2 0)),((a15.getD 3 0)),((a15.getD 4 0))],zp0.last,zp0.total⟩:z6)))
else (
kE0 x1 x6 ((⟨[((zp0.slots.getD 0 0)),((zp0.slots.getD 1 0)),((zp0.slots.getD 2 0)),((zp0.slots.getD 3 0)),((zp0.slots.getD 4 0))],zp0.last,zp0.total⟩:z6)))
def z1v (k:Nat) (x0:z6) (x1:Int) (x2:Int):Option (z6) :=
bif decide (x1<0) then (
some ((⟨[((x0.slots.getD 0 0)),((x0.slots.getD 1 0)),((x0.slots.getD 2 0)),((x0.slots.getD 3 0)),((x0.slots.getD 4 0))],x0.last,x0.total⟩:z6)))
else (
(z41 x2).bind fun r2 =>
z14 k (fun r19_1 r19_6 zp0 =>
(ix [((zp0.slots.getD 0 0)),((zp0.slots.getD 1 0)),((zp0.slots.getD 2 0)),((zp0.slots.getD 3 0)),((zp0.slots.getD 4 0))] (Int.tmod r19_6 5)).bind fun a25 =>
(z3f a25 r19_1).bind fun r27 =>
(ix [((zp0.slots.getD 0 0)),((zp0.slots.getD 1 0)),((zp0.slots.getD 2 0)),((zp0.slots.getD 3 0)),((zp0.slots.getD 4 0))] (Int.tmod r19_6 5)).bind fun a32 =>
(stx [((zp0.slots.getD 0 0)),((zp0.slots.getD 1 0)),((zp0.slots.getD 2 0)),((zp0.slots.getD 3 0)),((zp0.slots.getD 4 0))] (Int.tmod r19_6 5) r27).bind fun a37 =>
(z3f zp0.total r19_1).bind fun r39 =>
some ((⟨[((a37.getD 0 0)),((a37.getD 1 0)),((a37.getD 2 0)),((a37.getD 3 0)),((a37.getD 4 0))],r19_6,r39⟩:z6))) x1 ((if r2>x0.last then r2 else x0.last)) ((if 5<(IntKind.wrap .i64 (((if r2>x0.last then r2 else x0.last))-x0.last)) then 5 else (IntKind.wrap .i64 (((if r2>x0.last then r2 else x0.last))-x0.last)))) 0 ((⟨[((x0.slots.getD 0 0)),((x0.slots.getD 1 0)),((x0.slots.getD 2 0)),((x0.slots.getD 3 0)),((x0.slots.getD 4 0))],x0.last,x0.total⟩:z6)))
theorem zag {h:H} {l0:Loc} {o0:Nat} {kE0:Int→Int→z6→Option β} (hE0:∀ (q1:Int) (q6:Int) (zp0:z6) (H17:Go.Ev.H) (_:Fm 64 h [⟨l0,o0,List.map C.v [(.p (.int .i64 ((zp0.slots.getD 0 0)))),(.p (.int .i64 ((zp0.slots.getD 1 0)))),(.p (.int .i64 ((zp0.slots.getD 2 0)))),(.p (.int .i64 ((zp0.slots.getD 3 0)))),(.p (.int .i64 ((zp0.slots.getD 4 0)))),(.p (.int .i64 zp0.last)),(.p (.int .i64 zp0.total))]⟩] [] [] H17),Sim (kE0 q1 q6 zp0) (K ((.exit 0),(envL [(0,(.ref l0 o0)),(1,(.p (.int .i64 q1))),(6,(.p (.int .i64 q6)))]),H17)) Q) (k:Nat):∀ (x1:Int) (x6:Int) (x23:Int) (x24:Int) (zp0:z6) (H7:Go.Ev.H) (_:Fm 64 h [⟨l0,o0,List.map C.v [(.p (.int .i64 ((zp0.slots.getD 0 0)))),(.p (.int .i64 ((zp0.slots.getD 1 0)))),(.p (.int .i64 ((zp0.slots.getD 2 0)))),(.p (.int .i64 ((zp0.slots.getD 3 0)))),(.p (.int .i64 ((zp0.slots.getD 4 0)))),(.p (.int .i64 zp0.last)),(.p (.int .i64 zp0.total))]⟩] [] [] H7) {σ:Stamp},Sim (z14 k kE0 x1 x6 x23 x24 zp0) ((cvL G X0 z39 z37 σ (envL [(0,(.ref l0 o0)),(1,(.p (.int .i64 x1))),(6,(.p (.int .i64 x6))),(23,(.p (.int .i64 x23))),(24,(.p (.int .i64 x24)))]) H7).bind K) Q:=by
 induction k with
 | zero=>intros;exact .no
 | succ k ih =>
  intro x1 x6 x23 x24 zp0 H7 S8 σ
  rw [z14]
  refine .round (Sim.ext (zcx _ _ _ _ _ _ _ _ _) ?_)
  refine .cq ?_ ?_
  ·refine .nc ?_
   refine .fa ?_
   refine .bd fun a10 h11=>?_
   refine .op (iA_ok h11 rfl) ?_
   refine .bd fun a15 h16=>?_
   obtain ⟨H12,e13,S14⟩:=S8.stIxB (i:=0) (j:=0) (n:=5) (own:=true) (σ:=(8::1::0::1::1::0::σ)) (xs:=[((zp0.slots.getD 0 0)),((zp0.slots.getD 1 0)),((zp0.slots.getD 2 0)),((zp0.slots.getD 3 0)),((zp0.slots.getD 4 0))]) (f:=fun z=>.p (.int .i64 z)) (y:=0) rfl (fun _=>sI _ _) rfl h16 rfl 0
   refine .op (sM e13) ?_
   exact ih x1 x6 x23 (IntKind.wrap .i64 (x24+1)) ((⟨[((a15.getD 0 0)),((a15.getD 1 0)),((a15.getD 2 0)),((a15.getD 3 0)),((a15.getD 4 0))],zp0.last,zp0.total⟩:z6)) H12 (S14.wk2 aN aN)
  exact hE0 x1 x6 ((⟨[((zp0.slots.getD 0 0)),((zp0.slots.getD 1 0)),((zp0.slots.getD 2 0)),((zp0.slots.getD 3 0)),((zp0.slots.getD 4 0))],zp0.last,zp0.total⟩:z6)) H7 (S8.wk2 aN aN)
theorem zd3 (k:Nat) {h:H} {σ:Stamp} (x0:z6)  {l0:Loc} {o0:Nat} (ha0:AtC h l0 o0 (List.map C.v [(.p (.int .i64 ((x0.slots.getD 0 0)))),(.p (.int .i64 ((x0.slots.getD 1 0)))),(.p (.int .i64 ((x0.slots.getD 2 0)))),(.p (.int .i64 ((x0.slots.getD 3 0)))),(.p (.int .i64 ((x0.slots.getD 4 0)))),(.p (.int .i64 x0.last)),(.p (.int .i64 x0.total))])) (x1:Int) (x2:Int):Sim (z1v k x0 x1 x2) (ev G X0 91 σ [(.ref l0 o0),(.p (.int .i64 x1)),(.p (.int .i64 x2))] h) (fun r s=>s=([],pts h [⟨l0,o0,[.v (.p (.int .i64 (r.slots.getD 0 0))),.v (.p (.int .i64 (r.slots.getD 1 0))),.v (.p (.int .i64 (r.slots.getD 2 0))),.v (.p (.int .i64 (r.slots.getD 3 0))),.v (.p (.int .i64 (r.slots.getD 4 0))),.v (.p (.int .i64 r.last)),.v (.p (.int .i64 r.total))]⟩])):=by
 refine .ev rfl (Sim.ext (zao _ _ _ _ _ _ _) ?_)
 rw [z1v]
 have S0:Fm 64 h [⟨l0,o0,List.map C.v [(.p (.int .i64 ((x0.slots.getD 0 0)))),(.p (.int .i64 ((x0.slots.getD 1 0)))),(.p (.int .i64 ((x0.slots.getD 2 0)))),(.p (.int .i64 ((x0.slots.getD 3 0)))),(.p (.int .i64 ((x0.slots.getD 4 0)))),(.p (.int .i64 x0.last)),(.p (.int .i64 x0.total))]⟩] [] [] (List.replicate 64 []::h):=Fm.start1 ha0
 refine .cq ?_ ?_
 ·exact .fin (S0.finN lN) rfl
 refine .nc ?_
 refine .fa ?_
 refine .op ((S0.atB (i:=0) rfl).ld (j:=5) rfl) ?_
 refine .ci ?_
 refine .call (zbp x2) fun r2 cs3 H4 h5 q6=>?_
 cases q6
 refine .ci ?_
 refine .nd ((S0.atB (i:=0) rfl).ld (j:=5) rfl) ?_
 refine .nc ?_
 refine .fa ?_
 refine .op ((S0.atB (i:=0) rfl).ld (j:=5) rfl) ?_
 refine .ci ?_
 refine .as (zag ?_ k x1 ((if r2>x0.last then r2 else x0.last)) ((if 5<(IntKind.wrap .i64 (((if r2>x0.last then r2 else x0.last))-x0.last)) then 5 else (IntKind.wrap .i64 (((if r2>x0.last then r2 else x0.last))-x0.last)))) 0 ((⟨[((x0.slots.getD 0 0)),((x0.slots.getD 1 0)),((x0.slots.getD 2 0)),((x0.slots.getD 3 0)),((x0.slots.getD 4 0))],x0.last,x0.total⟩:z6)) (List.replicate 64 []::h) (S0.wk2 aN aN))
 ·intro r19_1 r19_6 zp0 H20 S21
  refine .ext (zbj _ _ _ _ _ _ _) ?_
  refine .nc ?_
  refine .fa ?_
  obtain ⟨H22,e23,S24⟩:=S21.stB (i:=0) (j:=5) (own:=true) (σ:=(4::0::1::1::1::0::σ)) (x:=(.p (.int .i64 r19_6))) rfl (sI _ _) rfl
  refine .op (sM e23) ?_
  refine .nc ?_
  refine .fa ?_
  refine .bd fun a25 h26=>?_
  refine .op (iA_ok h26 rfl) ?_
  refine .op ((S24.atB (i:=0) rfl).ldIx (xs:=[((zp0.slots.getD 0 0)),((zp0.slots.getD 1 0)),((zp0.slots.getD 2 0)),((zp0.slots.getD 3 0)),((zp0.slots.getD 4 0))]) (j:=0) (n:=5) (f:=fun z=>.p (.int .i64 z)) rfl h26 rfl) ?_
  refine .ci ?_
  refine .nc ?_
  refine .fa ?_
  refine .call (z6n a25 r19_1) fun r27 cs28 H29 h30 q31=>?_
  cases q31
  refine .ci ?_
  refine .bd fun a32 h33=>?_
  refine .op (iA_ok h33 rfl) ?_
  refine .bd fun a37 h38=>?_
  obtain ⟨H34,e35,S36⟩:=S24.stIxB (i:=0) (j:=0) (n:=5) (own:=true) (σ:=(15::0::1::1::1::1::0::σ)) (xs:=[((zp0.slots.getD 0 0)),((zp0.slots.getD 1 0)),((zp0.slots.getD 2 0)),((zp0.slots.getD 3 0)),((zp0.slots.getD 4 0))]) (f:=fun z=>.p (.int .i64 z)) (y:=r27) rfl (fun _=>sI _ _) rfl h38 rfl 0
  refine .op (sM e35) ?_
  refine .nc ?_
  refine .fa ?_
  refine .op ((S36.atB (i:=0) rfl).ld (j:=6) rfl) ?_
  refine .ci ?_
  refine .call (z6n zp0.total r19_1) fun r39 cs40 H41 h42 q43=>?_
  cases q43
  refine .ci ?_
  refine .nc ?_
  refine .fa ?_
  obtain ⟨H44,e45,S46⟩:=S36.stB (i:=0) (j:=6) (own:=true) (σ:=(9::1::1::1::1::1::0::σ)) (x:=(.p (.int .i64 r39))) rfl (sI _ _) rfl
  refine .op (sM e45) ?_
  exact .fin (S46.finN lN) rfl
end
end Go.Ev
namespace Go.Ev
open Go.Proofs
set_option linter.unusedVariables false
set_option linter.unusedSimpArgs false
set_option maxRecDepth 100000
noncomputable section
abbrev KT9:=Exit→Env→H→Option (List C × H)
variable (rec : CallF) (loop : LoopV) (σ : Stamp)
theorem zce (x0:V) (x1:Int) (h:H):cvBody G rec loop 90 σ [x0,(.p (.int .u16 x1))] h =
(nilChk x0).bind fun t1 =>
(fA t1 1).bind fun t2 =>
(ldO false 1 (List.replicate 109 []::h) t2).bind fun t3 =>
(castI .i64 t3).bind fun n4 =>
(callO rec 137 (5::0::1::0::σ) [(.p (.int .i64 n4)),(.p (.int .u16 x1))] (List.replicate 109 []::h) (some 12)).bind fun q5 =>
(castI .i64 q5.1).bind fun n6 =>
(nilChk x0).bind fun t7 =>
(fA t7 1).bind fun t8 =>
(ldO false 1 q5.2 t8).bind fun t9 =>
(castI .i64 t9).bind fun n10 =>
bif decide (n10<0) then (
(nilChk x0).bind fun t11 =>
(fA t11 0).bind fun t12 =>
((stO true 1 (7::1::0::1::1::0::σ) q5.2 t12 (.p (.int .i64 n6))).map fun h=>(udf,h)).bind fun q13 =>
(nilChk x0).bind fun t14 =>
(fA t14 1).bind fun t15 =>
((stO true 1 (10::1::0::1::1::0::σ) q13.2 t15 (.p (.int .i64 n6))).map fun h=>(udf,h)).bind fun q16 =>
(nilChk x0).bind fun t17 =>
(fA t17 3).bind fun t18 =>
((stO true 1 (13::1::0::1::1::0::σ) q16.2 t18 (.p (.int .u64 1))).map fun h=>(udf,h)).bind fun q19 =>
(nilChk x0).bind fun t20 =>
(fA t20 0).bind fun t21 =>
(ldO false 1 q19.2 t21).bind fun t22 =>
(castI .i64 t22).bind fun n23 =>
bif decide (n6≥n23) then (
(nilChk x0).bind fun t24 =>
(fA t24 2).bind fun t25 =>
(ldO false 1 q19.2 t25).bind fun t26 =>
(castI .i64 t26).bind fun n27 =>
(nilChk x0).bind fun t28 =>
(fA t28 2).bind fun t29 =>
((stO true 1 (7::1::0::1::1::1::0::σ) q19.2 t29 (.p (.int .i64 (IntKind.wrap .i64 (n27+1))))).map fun h=>(udf,h)).bind fun q30 =>
fin false σ q30.2 [(.p (.int .i64 n6)),(.p (.bool true))])
else (
fin false σ q19.2 [(.p (.int .i64 n6)),(.p (.bool true))]))
else (
(nilChk x0).bind fun t31 =>
(fA t31 1).bind fun t32 =>
(ldO false 1 q5.2 t32).bind fun t33 =>
(castI .i64 t33).bind fun n34 =>
bif decide (n6>n34) then (
(nilChk x0).bind fun t35 =>
(fA t35 3).bind fun t36 =>
(ldO false 1 q5.2 t36).bind fun t37 =>
(castI .u64 t37).bind fun n38 =>
(nilChk x0).bind fun t39 =>
(fA t39 1).bind fun t40 =>
(ldO false 1 q5.2 t40).bind fun t41 =>
(castI .i64 t41).bind fun n42 =>
(shiftV .shl .u64 n38 ((if 64<(IntKind.wrap .i64 (n6-n42)) then 64 else (IntKind.wrap .i64 (n6-n42))))).bind fun t43 =>
(castI .u64 t43).bind fun n44 =>
(nilChk x0).bind fun t45 =>
(fA t45 3).bind fun t46 =>
((stO true 1 (16::0::1::1::0::1::1::0::σ) q5.2 t46 (.p (.int .u64 (intBits .or .u64 n44 1)))).map fun h=>(udf,h)).bind fun q47 =>
(nilChk x0).bind fun t48 =>
(fA t48 1).bind fun t49 =>
((stO true 1 (4::1::1::1::0::1::1::0::σ) q47.2 t49 (.p (.int .i64 n6))).map fun h=>(udf,h)).bind fun q50 =>
(nilChk x0).bind fun t51 =>
(fA t51 0).bind fun t52 =>
(ldO false 1 q50.2 t52).bind fun t53 =>
(castI .i64 t53).bind fun n54 =>
bif decide (n6≥n54) then (
(nilChk x0).bind fun t55 =>
(fA t55 2).bind fun t56 =>
(ldO false 1 q50.2 t56).bind fun t57 =>
(castI .i64 t57).bind fun n58 =>
(nilChk x0).bind fun t59 =>
(fA t59 2).bind fun t60 =>
((stO true 1 (7::1::0::1::1::1::0::σ) q50.2 t60 (.p (.int .i64 (IntKind.wrap .i64 (n58+1))))).map fun h=>(udf,h)).bind fun q61 =>
fin false σ q61.2 [(.p (.int .i64 n6)),(.p (.bool true))])
else (
fin false σ q50.2 [(.p (.int .i64 n6)),(.p (.bool true))]))
else (
(nilChk x0).bind fun t62 =>
(fA t62 1).bind fun t63 =>
(ldO false 1 q5.2 t63).bind fun t64 =>
(castI .i64 t64).bind fun n65 =>
(bif decide ((IntKind.wrap .i64 (n65-n6))>63) then (some true) else ((nilChk x0).bind fun t66 =>
(fA t66 3).bind fun t67 =>
(ldO false 1 q5.2 t67).bind fun t68 =>
(castI .u64 t68).bind fun n69 =>
(nilChk x0).bind fun t70 =>
(fA t70 1).bind fun t71 =>
(ldO false 1 q5.2 t71).bind fun t72 =>
(castI .i64 t72).bind fun n73 =>
(shiftV .shr .u64 n69 (IntKind.wrap .i64 (n73-n6))).bind fun t74 =>
(castI .u64 t74).bind fun n75 =>
some ((intBits .and .u64 n75 1)==1))).bind fun b76 =>
bif b76 then (
fin false σ q5.2 [(.p (.int .i64 n6)),(.p (.bool false))])
else (
(nilChk x0).bind fun t77 =>
(fA t77 3).bind fun t78 =>
(ldO false 1 q5.2 t78).bind fun t79 =>
(castI .u64 t79).bind fun n80 =>
(nilChk x0).bind fun t81 =>
(fA t81 1).bind fun t82 =>
(ldO false 1 q5.2 t82).bind fun t83 =>
(castI .i64 t83).bind fun n84 =>
(shiftV .shl .u64 1 (IntKind.wrap .i64 (n84-n6))).bind fun t85 =>
(castI .u64 t85).bind fun n86 =>
(nilChk x0).bind fun t87 =>
(fA t87 3).bind fun t88 =>
((stO true 1 (14::1::1::1::0::1::1::0::σ) q5.2 t88 (.p (.int .u64 (intBits .or .u64 n80 n86)))).map fun h=>(udf,h)).bind fun q89 =>
(nilChk x0).bind fun t90 =>
(fA t90 0).bind fun t91 =>
(ldO false 1 q89.2 t91).bind fun t92 =>
(castI .i64 t92).bind fun n93 =>
bif decide (n6≥n93) then (
(nilChk x0).bind fun t94 =>
(fA t94 2).bind fun t95 =>
(ldO false 1 q89.2 t95).bind fun t96 =>
(castI .i64 t96).bind fun n97 =>
(nilChk x0).bind fun t98 =>
(fA t98 2).bind fun t99 =>
((stO true 1 (7::1::0::1::1::1::0::σ) q89.2 t99 (.p (.int .i64 (IntKind.wrap .i64 (n97+1))))).map fun h=>(udf,h)).bind fun q100 =>
fin false σ q100.2 [(.p (.int .i64 n6)),(.p (.bool true))])
else (
fin false σ q89.2 [(.p (.int .i64 n6)),(.p (.bool true))])))):=by kernel_rfl
theorem zep (x0:Int) (x1:Int) (h:H):cvBody G rec loop 137 σ [(.p (.int .i64 x0)),(.p (.int .u16 x1))] h =
(callO rec 166 (3::0::1::0::σ) [(.p (.int .i64 x0)),(.p (.int .i64 (IntKind.wrap .i64 x1))),(.p (.int .i64 16))] (List.replicate 9 []::h) (some 8)).bind fun q1 =>
(castI .i64 q1.1).bind fun n2 =>
fin false σ q1.2 [(.p (.int .i64 n2))]:=by kernel_rfl
theorem zet (x0:Int) (x1:Int) (x2:Int) (h:H):cvBody G rec loop 166 σ [(.p (.int .i64 x0)),(.p (.int .i64 x1)),(.p (.int .i64 x2))] h =
(shiftV .shl .i64 1 x2).bind fun t1 =>
(castI .i64 t1).bind fun n2 =>
bif decide (x0<0) then (
fin false σ (List.replicate 46 []::h) [(.p (.int .i64 x1))])
else (
(bif decide ((intBits .and .i64 (IntKind.wrap .i64 ((IntKind.wrap .i64 (x1-(intBits .and .i64 x0 (IntKind.wrap .i64 (n2-1)))))+n2)) (IntKind.wrap .i64 (n2-1)))>(IntKind.wrap .i64 (Int.tdiv n2 2))) then (some true) else (some (decide (x0>(IntKind.wrap .i64 (9223372036854775807-(intBits .and .i64 (IntKind.wrap .i64 ((IntKind.wrap .i64 (x1-(intBits .and .i64 x0 (IntKind.wrap .i64 (n2-1)))))+n2)) (IntKind.wrap .i64 (n2-1))))))))).bind fun b3 =>
bif b3 then (
bif decide ((IntKind.wrap .i64 (x0+(IntKind.wrap .i64 ((intBits .and .i64 (IntKind.wrap .i64 ((IntKind.wrap .i64 (x1-(intBits .and .i64 x0 (IntKind.wrap .i64 (n2-1)))))+n2)) (IntKind.wrap .i64 (n2-1)))-n2))))<0) then (
fin false σ (List.replicate 46 []::h) [(.p (.int .i64 x1))])
else (
fin false σ (List.replicate 46 []::h) [(.p (.int .i64 (IntKind.wrap .i64 (x0+(IntKind.wrap .i64 ((intBits .and .i64 (IntKind.wrap .i64 ((IntKind.wrap .i64 (x1-(intBits .and .i64 x0 (IntKind.wrap .i64 (n2-1)))))+n2)) (IntKind.wrap .i64 (n2-1)))-n2))))))]))
else (
bif decide ((IntKind.wrap .i64 (x0+(intBits .and .i64 (IntKind.wrap .i64 ((IntKind.wrap .i64 (x1-(intBits .and .i64 x0 (IntKind.wrap .i64 (n2-1)))))+n2)) (IntKind.wrap .i64 (n2-1)))))<0) then (
fin false σ (List.replicate 46 []::h) [(.p (.int .i64 x1))])
else (
fin false σ (List.replicate 46 []::h) [(.p (.int .i64 (IntKind.wrap .i64 (x0+(intBits .and .i64 (IntKind.wrap .i64 ((IntKind.wrap .i64 (x1-(intBits .and .i64 x0 (IntKind.wrap .i64 (n2-1)))))+n2)) (IntKind.wrap .i64 (n2-1)))))))]))):=by kernel_rfl
end
end Go.Ev
namespace Go.Ev
open Go.Proofs
set_option linter.unusedVariables false
set_option linter.unusedSimpArgs false
set_option maxRecDepth 100000
section
variable {β α : Type} {Q : β→α→Prop} {K : Exit × Env × H→Option α}
def z6c (x0:Int) (x1:Int) (x2:Int):Option (Int) :=
(shP .shl .i64 1 x2).bind fun n1 =>
bif decide (x0<0) then (
some (x1))
else (
(bif decide ((intBits .and .i64 (IntKind.wrap .i64 ((IntKind.wrap .i64 (x1-(intBits .and .i64 x0 (IntKind.wrap .i64 (n1-1)))))+n1)) (IntKind.wrap .i64 (n1-1)))>(IntKind.wrap .i64 (Int.tdiv n1 2))) then (some true) else (some (decide (x0>(IntKind.wrap .i64 (9223372036854775807-(intBits .and .i64 (IntKind.wrap .i64 ((IntKind.wrap .i64 (x1-(intBits .and .i64 x0 (IntKind.wrap .i64 (n1-1)))))+n1)) (IntKind.wrap .i64 (n1-1))))))))).bind fun b4 =>
bif b4 then (
bif decide ((IntKind.wrap .i64 (x0+(IntKind.wrap .i64 ((intBits .and .i64 (IntKind.wrap .i64 ((IntKind.wrap .i64 (x1-(intBits .and .i64 x0 (IntKind.wrap .i64 (n1-1)))))+n1)) (IntKind.wrap .i64 (n1-1)))-n1))))<0) then (
some (x1))
else (
some ((IntKind.wrap .i64 (x0+(IntKind.wrap .i64 ((intBits .and .i64 (IntKind.wrap .i64 ((IntKind.wrap .i64 (x1-(intBits .and .i64 x0 (IntKind.wrap .i64 (n1-1)))))+n1)) (IntKind.wrap .i64 (n1-1)))-n1)))))))
else (
bif decide ((IntKind.wrap .i64 (x0+(intBits .and .i64 (IntKind.wrap .i64 ((IntKind.wrap .i64 (x1-(intBits .and .i64 x0 (IntKind.wrap .i64 (n1-1)))))+n1)) (IntKind.wrap .i64 (n1-1)))))<0) then (
some (x1))
else (
some ((IntKind.wrap .i64 (x0+(intBits .and .i64 (IntKind.wrap .i64 ((IntKind.wrap .i64 (x1-(intBits .and .i64 x0 (IntKind.wrap .i64 (n1-1)))))+n1)) (IntKind.wrap .i64 (n1-1)))))))))
theorem zib {h:H} {σ:Stamp} (x0:Int) (x1:Int) (x2:Int):Sim (z6c x0 x1 x2) (ev G X0 166 σ [(.p (.int .i64 x0)),(.p (.int .i64 x1)),(.p (.int .i64 x2))] h) (fun r s=>s=([.v (.p (.int .i64 r))],h)):=by
 refine .ev rfl (Sim.ext (zet _ _ _ _ _ _ _) ?_)
 rw [z6c]
 have S0:Fm 46 h [] [] [] (List.replicate 46 []::h):=Fm.start0
 refine .bd fun n1 h2=>?_
 refine .op (shP_ok h2) ?_
 refine .ci ?_
 refine .cq ?_ ?_
 ·exact .fin (S0.finN (lC (sI _ _).lv lN)) rfl
 refine .ch (P:=fun r y=>r=y) ?_ (fun b4 y5 h6 h7=>?_)
 ·refine .cq ?_ ?_
  ·exact .ret rfl rfl
  ·exact .ret rfl rfl
 subst h7
 refine .cq ?_ ?_
 ·refine .cq ?_ ?_
  ·exact .fin (S0.finN (lC (sI _ _).lv lN)) rfl
  exact .fin (S0.finN (lC (sI _ _).lv lN)) rfl
 refine .cq ?_ ?_
 ·exact .fin (S0.finN (lC (sI _ _).lv lN)) rfl
 exact .fin (S0.finN (lC (sI _ _).lv lN)) rfl
def z57 (x0:Int) (x1:Int):Option (Int) :=
(z6c x0 (IntKind.wrap .i64 x1) 16).bind fun r1 =>
some (r1)
theorem zi0 {h:H} {σ:Stamp} (x0:Int) (x1:Int):Sim (z57 x0 x1) (ev G X0 137 σ [(.p (.int .i64 x0)),(.p (.int .u16 x1))] h) (fun r s=>s=([.v (.p (.int .i64 r))],h)):=by
 refine .ev rfl (Sim.ext (zep _ _ _ _ _ _) ?_)
 rw [z57]
 have S0:Fm 9 h [] [] [] (List.replicate 9 []::h):=Fm.start0
 refine .call (zib x0 (IntKind.wrap .i64 x1) 16) fun r1 cs2 H3 h4 q5=>?_
 cases q5
 refine .ci ?_
 exact .fin (S0.finN (lC (sI _ _).lv lN)) rfl
def z3y (x0:z1b) (x1:Int):Option (Int×Bool×z1b) :=
(z57 x0.last x1).bind fun r1 =>
bif decide (x0.last<0) then (
bif decide (r1≥r1) then (
some (r1,true,(⟨r1,r1,(IntKind.wrap .i64 (x0.count+1)),1⟩:z1b)))
else (
some (r1,true,(⟨r1,r1,x0.count,1⟩:z1b))))
else (
bif decide (r1>x0.last) then (
(shP .shl .u64 x0.mask ((if 64<(IntKind.wrap .i64 (r1-x0.last)) then 64 else (IntKind.wrap .i64 (r1-x0.last))))).bind fun n21 =>
bif decide (r1≥x0.first) then (
some (r1,true,(⟨x0.first,r1,(IntKind.wrap .i64 (x0.count+1)),(intBits .or .u64 n21 1)⟩:z1b)))
else (
some (r1,true,(⟨x0.first,r1,x0.count,(intBits .or .u64 n21 1)⟩:z1b))))
else (
(bif decide ((IntKind.wrap .i64 (x0.last-r1))>63) then (some true) else ((shP .shr .u64 x0.mask (IntKind.wrap .i64 (x0.last-r1))).bind fun n33 =>
some ((intBits .and .u64 n33 1)==1))).bind fun b35 =>
bif b35 then (
some (r1,false,x0))
else (
(shP .shl .u64 1 (IntKind.wrap .i64 (x0.last-r1))).bind fun n40 =>
bif decide (r1≥x0.first) then (
some (r1,true,(⟨x0.first,x0.last,(IntKind.wrap .i64 (x0.count+1)),(intBits .or .u64 x0.mask n40)⟩:z1b)))
else (
some (r1,true,(⟨x0.first,x0.last,x0.count,(intBits .or .u64 x0.mask n40)⟩:z1b))))))
theorem zfw {h:H} {σ:Stamp} (x0:z1b)  {l0:Loc} {o0:Nat} (ha0:AtC h l0 o0 (List.map C.v [(.p (.int .i64 x0.first)),(.p (.int .i64 x0.last)),(.p (.int .i64 x0.count)),(.p (.int .u64 x0.mask))])) (x1:Int):Sim (z3y x0 x1) (ev G X0 90 σ [(.ref l0 o0),(.p (.int .u16 x1))] h) (fun r s=>s=([.v (.p (.int .i64 r.1)),.v (.p (.bool r.2.1))],pts h [⟨l0,o0,[.v (.p (.int .i64 r.2.2.first)),.v (.p (.int .i64 r.2.2.last)),.v (.p (.int .i64 r.2.2.count)),.v (.p (.int .u64 r.2.2.mask))]⟩])):=by
 refine .ev rfl (Sim.ext (zce _ _ _ _ _ _) ?_)
 rw [z3y]
 have S0:Fm 109 h [⟨l0,o0,List.map C.v [(.p (.int .i64 x0.first)),(.p (.int .i64 x0.last)),(.p (.int .i64 x0.count)),(.p (.int .u64 x0.mask))]⟩] [] [] (List.replicate 109 []::h):=Fm.start1 ha0
 refine .nc ?_
 refine .fa ?_
 refine .op ((S0.atB (i:=0) rfl).ld (j:=1) rfl) ?_
 refine .ci ?_
 refine .call (zi0 x0.last x1) fun r1 cs2 H3 h4 q5=>?_
 cases q5
 refine .ci ?_
 refine .nc ?_
 refine .fa ?_
 refine .op ((S0.atB (i:=0) rfl).ld (j:=1) rfl) ?_
 refine .ci ?_
 refine .cq ?_ ?_
 ·refine .nc ?_
  refine .fa ?_
  obtain ⟨H7,e8,S9⟩:=S0.stB (i:=0) (j:=0) (own:=true) (σ:=(7::1::0::1::1::0::σ)) (x:=(.p (.int .i64 r1))) rfl (sI _ _) rfl
  refine .op (sM e8) ?_
  refine .nc ?_
  refine .fa ?_
  obtain ⟨H10,e11,S12⟩:=S9.stB (i:=0) (j:=1) (own:=true) (σ:=(10::1::0::1::1::0::σ)) (x:=(.p (.int .i64 r1))) rfl (sI _ _) rfl
  refine .op (sM e11) ?_
  refine .nc ?_
  refine .fa ?_
  obtain ⟨H13,e14,S15⟩:=S12.stB (i:=0) (j:=3) (own:=true) (σ:=(13::1::0::1::1::0::σ)) (x:=(.p (.int .u64 1))) rfl (sI _ _) rfl
  refine .op (sM e14) ?_
  refine .nc ?_
  refine .fa ?_
  refine .op ((S15.atB (i:=0) rfl).ld (j:=0) rfl) ?_
  refine .ci ?_
  refine .cq ?_ ?_
  ·refine .nc ?_
   refine .fa ?_
   refine .op ((S15.atB (i:=0) rfl).ld (j:=2) rfl) ?_
   refine .ci ?_
   refine .nc ?_
   refine .fa ?_
   obtain ⟨H17,e18,S19⟩:=S15.stB (i:=0) (j:=2) (own:=true) (σ:=(7::1::0::1::1::1::0::σ)) (x:=(.p (.int .i64 (IntKind.wrap .i64 (x0.count+1))))) rfl (sI _ _) rfl
   refine .op (sM e18) ?_
   exact .fin (S19.finN (lC (sI _ _).lv (lC (sB _).lv lN))) rfl
  exact .fin (S15.finN (lC (sI _ _).lv (lC (sB _).lv lN))) rfl
 refine .nc ?_
 refine .fa ?_
 refine .op ((S0.atB (i:=0) rfl).ld (j:=1) rfl) ?_
 refine .ci ?_
 refine .cq ?_ ?_
 ·refine .nc ?_
  refine .fa ?_
  refine .op ((S0.atB (i:=0) rfl).ld (j:=3) rfl) ?_
  refine .ci ?_
  refine .nc ?_
  refine .fa ?_
  refine .op ((S0.atB (i:=0) rfl).ld (j:=1) rfl) ?_
  refine .ci ?_
  refine .bd fun n21 h22=>?_
  refine .op (shP_ok h22) ?_
  refine .ci ?_
  refine .nc ?_
  refine .fa ?_
  obtain ⟨H23,e24,S25⟩:=S0.stB (i:=0) (j:=3) (own:=true) (σ:=(16::0::1::1::0::1::1::0::σ)) (x:=(.p (.int .u64 (intBits .or .u64 n21 1)))) rfl (sI _ _) rfl
  refine .op (sM e24) ?_
  refine .nc ?_
  refine .fa ?_
  obtain ⟨H26,e27,S28⟩:=S25.stB (i:=0) (j:=1) (own:=true) (σ:=(4::1::1::1::0::1::1::0::σ)) (x:=(.p (.int .i64 r1))) rfl (sI _ _) rfl
  refine .op (sM e27) ?_
  refine .nc ?_
  refine .fa ?_
  refine .op ((S28.atB (i:=0) rfl).ld (j:=0) rfl) ?_
  refine .ci ?_
  refine .cq ?_ ?_
  ·refine .nc ?_
   refine .fa ?_
   refine .op ((S28.atB (i:=0) rfl).ld (j:=2) rfl) ?_
   refine .ci ?_
   refine .nc ?_
   refine .fa ?_
   obtain ⟨H30,e31,S32⟩:=S28.stB (i:=0) (j:=2) (own:=true) (σ:=(7::1::0::1::1::1::0::σ)) (x:=(.p (.int .i64 (IntKind.wrap .i64 (x0.count+1))))) rfl (sI _ _) rfl
   refine .op (sM e31) ?_
   exact .fin (S32.finN (lC (sI _ _).lv (lC (sB _).lv lN))) rfl
  exact .fin (S28.finN (lC (sI _ _).lv (lC (sB _).lv lN))) rfl
 refine .nc ?_
 refine .fa ?_
 refine .op ((S0.atB (i:=0) rfl).ld (j:=1) rfl) ?_
 refine .ci ?_
 refine .ch (P:=fun r y=>r=y) ?_ (fun b35 y36 h37 h38=>?_)
 ·refine .cq ?_ ?_
  ·exact .ret rfl rfl
  ·refine .nc ?_
   refine .fa ?_
   refine .op ((S0.atB (i:=0) rfl).ld (j:=3) rfl) ?_
   refine .ci ?_
   refine .nc ?_
   refine .fa ?_
   refine .op ((S0.atB (i:=0) rfl).ld (j:=1) rfl) ?_
   refine .ci ?_
   refine .bd fun n33 h34=>?_
   refine .op (shP_ok h34) ?_
   refine .ci ?_
   exact .ret rfl rfl
 subst h38
 refine .cq ?_ ?_
 ·exact .fin (S0.finN (lC (sI _ _).lv (lC (sB _).lv lN))) rfl
 refine .nc ?_
 refine .fa ?_
 refine .op ((S0.atB (i:=0) rfl).ld (j:=3) rfl) ?_
 refine .ci ?_
 refine .nc ?_
 refine .fa ?_
 refine .op ((S0.atB (i:=0) rfl).ld (j:=1) rfl) ?_
 refine .ci ?_
 refine .bd fun n40 h41=>?_
 refine .op (shP_ok h41) ?_
 refine .ci ?_
 refine .nc ?_
 refine .fa ?_
 obtain ⟨H42,e43,S44⟩:=S0.stB (i:=0) (j:=3) (own:=true) (σ:=(14::1::1::1::0::1::1::0::σ)) (x:=(.p (.int .u64 (intBits .or .u64 x0.mask n40)))) rfl (sI _ _) rfl
 refine .op (sM e43) ?_
 refine .nc ?_
 refine .fa ?_
 refine .op ((S44.atB (i:=0) rfl).ld (j:=0) rfl) ?_
 refine .ci ?_
 refine .cq ?_ ?_
 ·refine .nc ?_
  refine .fa ?_
  refine .op ((S44.atB (i:=0) rfl).ld (j:=2) rfl) ?_
  refine .ci ?_
  refine .nc ?_
  refine .fa ?_
  obtain ⟨H46,e47,S48⟩:=S44.stB (i:=0) (j:=2) (own:=true) (σ:=(7::1::0::1::1::1::0::σ)) (x:=(.p (.int .i64 (IntKind.wrap .i64 (x0.count+1))))) rfl (sI _ _) rfl
  refine .op (sM e47) ?_
  exact .fin (S48.finN (lC (sI _ _).lv (lC (sB _).lv lN))) rfl
 exact .fin (S44.finN (lC (sI _ _).lv (lC (sB _).lv lN))) rfl
def z1m (k:Nat) (x0:z8) (x1:Int) (x2:TaiRtp) (x3:Int) (x4:Int):Option (Int×Bool×z8) :=
(zx x0 x1).bind fun r11 =>
bif !r11 then (
some (0,false,x0))
else (
(ix x0.l x1).bind fun a17 =>
(z3y a17.seen x2.Seq).bind fun r27 =>
bif !r27.2.1 then (
some (0,false,(⟨((x0.l.set (Int.toNat x1) ((⟨a17.told,r27.2.2,(⟨[((a17.meter.slots.getD 0 0)),((a17.meter.slots.getD 1 0)),((a17.meter.slots.getD 2 0)),((a17.meter.slots.getD 3 0)),((a17.meter.slots.getD 4 0))],a17.meter.last,a17.meter.total⟩:z6),a17.came,a17.f_until,a17.resting,a17.woken,a17.kept⟩:z18))))⟩:z8)))
else (
(z1v k (⟨[((a17.meter.slots.getD 0 0)),((a17.meter.slots.getD 1 0)),((a17.meter.slots.getD 2 0)),((a17.meter.slots.getD 3 0)),((a17.meter.slots.getD 4 0))],a17.meter.last,a17.meter.total⟩:z6) (IntKind.wrap .i64 (x3+28)) x4).bind fun r38 =>
(z5w x4).bind fun r44 =>
some (r27.1,true,(⟨((x0.l.set (Int.toNat x1) ((⟨a17.told,r27.2.2,(⟨[((r38.slots.getD 0 0)),((r38.slots.getD 1 0)),((r38.slots.getD 2 0)),((r38.slots.getD 3 0)),((r38.slots.getD 4 0))],r38.last,r38.total⟩:z6),true,r44,a17.resting,false,a17.kept⟩:z18))))⟩:z8))))
theorem za7 (k:Nat) {h:H} {σ:Stamp} (x0:z8) {c0_0:C} (hc0_0:RsC zg x0.l c0_0) {l0:Loc} {o0:Nat} (ha0:AtC h l0 o0 ([c0_0])) (x1:Int) (x2:TaiRtp) {u2:List V} (hu2:z9.R x2 u2) (x3:Int) (x4:Int):Sim (z1m k x0 x1 x2 x3 x4) (ev G X0 43 σ [(.ref l0 o0),(.p (.int .i64 x1)),(.agg u2),(.p (.int .i64 x3)),(.p (.int .i64 x4))] h) (fun r s=>∃ (cb0_0:C),RsC zg r.2.2.l cb0_0∧s=([.v (.p (.int .i64 r.1)),.v (.p (.bool r.2.1))],pts h [⟨l0,o0,[cb0_0]⟩])):=by
 refine .ev rfl (Sim.ext (z8a _ _ _ _ _ _ _ _ _) ?_)
 rw [z1m]
 obtain ⟨v1,v3,v5,rfl,h2,h4,h6⟩:=z9.inv hu2
 have S0:Fm 57 h [⟨l0,o0,[c0_0]⟩] [] [] (List.replicate 57 []::h):=Fm.start1 ha0
 obtain ⟨H7,e8,S9⟩:=S0.box (own:=true) (d:=7) (s:=(0::0::0::σ)) (xs:=[(.p (.bool x2.Marker)),(.p (.int .i64 x2.f_Type)),(.p (.int .u16 x2.Seq)),(.p (.int .u32 x2.Time)),(.p (.int .u32 x2.Ssrc)),v1,(.p (.int .u16 x2.Profile)),v3,v5]) (sC (sB _) (sC (sI _ _) (sC (sI _ _) (sC (sI _ _) (sC (sI _ _) (sC h2.still (sC (sI _ _) (sC h4.still (sC h6.still sN))))))))) (by decide) rfl
 refine .op (e8) ?_
 refine .call (z1j x0 hc0_0 (S9.atB (i:=0) rfl) x1) fun r11 cs12 H13 h14 q15=>?_
 cases q15
 refine .ab ?_
 refine .cq ?_ ?_
 ·exact .fin (S9.finN (lC (sI _ _).lv (lC (sB _).lv lN))) ⟨c0_0,hc0_0,rfl⟩
 refine .nc ?_
 refine .fa ?_
 refine .op (RsC.ld hc0_0 (S9.atB (i:=0) rfl) (j:=0) rfl) ?_
 refine .bd fun a17 h18=>?_
 obtain ⟨s19,P20,w21,Q22,rfl,h23,h24,h25⟩:=hc0_0.open h18 (e:=10) rfl
 obtain ⟨s25_3,s25_4,rfl⟩:=h24
 refine .op (iS_arr h18 _ _ _ _ _) ?_
 refine .nc ?_
 refine .fa ?_
 refine .op ((S9.atF (Foc.arr (Foc.of (i:=0) rfl) (j:=0) rfl h23)).ldOwn (j:=3) rfl) ?_
 refine .fa ?_
 refine .op ((S9.atG (i:=0) rfl).ld (j:=2) rfl) ?_
 refine .ci ?_
 refine .call (zfw a17.seen (S9.atF (Foc.own (Foc.arr (Foc.of (i:=0) rfl) (j:=0) rfl h23) (j:=3) rfl)) x2.Seq) fun r27 cs28 H29 h30 q31=>?_
 cases q31
 have S32:Fm _ _ _ _ _ (pts H7 [⟨((l0.hop (o0+0) s19).hop ((Int.toNat x1*10)+3) s25_3),0,List.map C.v [(.p (.int .i64 r27.2.2.first)),(.p (.int .i64 r27.2.2.last)),(.p (.int .i64 r27.2.2.count)),(.p (.int .u64 r27.2.2.mask))]⟩]):=S9.setF (Foc.own (Foc.arr (Foc.of (i:=0) rfl) (j:=0) rfl h23) (j:=3) rfl) (cs':=List.map C.v [(.p (.int .i64 r27.2.2.first)),(.p (.int .i64 r27.2.2.last)),(.p (.int .i64 r27.2.2.count)),(.p (.int .u64 r27.2.2.mask))]) (by rfl)
 refine .or ?_
 refine .ci ?_
 refine .or ?_
 refine .ab ?_
 refine .cq ?_ ?_
 ·obtain ⟨c34,e35,h36⟩:∃ c,c=.arr s19 x0.l.length 10 (P20++[.v (.p (.string a17.told.Rid)),.v (.p (.int .u32 a17.told.Ssrc)),.v (.p (.int .i64 a17.told.Height)),.own s25_3 (List.map C.v [(.p (.int .i64 r27.2.2.first)),(.p (.int .i64 r27.2.2.last)),(.p (.int .i64 r27.2.2.count)),(.p (.int .u64 r27.2.2.mask))]),.own s25_4 (List.map C.v [(.p (.int .i64 ((a17.meter.slots.getD 0 0)))),(.p (.int .i64 ((a17.meter.slots.getD 1 0)))),(.p (.int .i64 ((a17.meter.slots.getD 2 0)))),(.p (.int .i64 ((a17.meter.slots.getD 3 0)))),(.p (.int .i64 ((a17.meter.slots.getD 4 0)))),(.p (.int .i64 a17.meter.last)),(.p (.int .i64 a17.meter.total))]),.v (.p (.bool a17.came)),.v (.p (.int .i64 a17.f_until)),.v (.p (.bool a17.resting)),.v (.p (.bool a17.woken)),.v (.p (.int .i64 a17.kept))]++Q22)∧RsC zg ((x0.l.set (Int.toNat x1) ((⟨a17.told,r27.2.2,(⟨[((a17.meter.slots.getD 0 0)),((a17.meter.slots.getD 1 0)),((a17.meter.slots.getD 2 0)),((a17.meter.slots.getD 3 0)),((a17.meter.slots.getD 4 0))],a17.meter.last,a17.meter.total⟩:z6),a17.came,a17.f_until,a17.resting,a17.woken,a17.kept⟩:z18)))) c:=⟨_,rfl,h25 ((⟨a17.told,r27.2.2,(⟨[((a17.meter.slots.getD 0 0)),((a17.meter.slots.getD 1 0)),((a17.meter.slots.getD 2 0)),((a17.meter.slots.getD 3 0)),((a17.meter.slots.getD 4 0))],a17.meter.last,a17.meter.total⟩:z6),a17.came,a17.f_until,a17.resting,a17.woken,a17.kept⟩:z18)) [.v (.p (.string a17.told.Rid)),.v (.p (.int .u32 a17.told.Ssrc)),.v (.p (.int .i64 a17.told.Height)),.own s25_3 (List.map C.v [(.p (.int .i64 r27.2.2.first)),(.p (.int .i64 r27.2.2.last)),(.p (.int .i64 r27.2.2.count)),(.p (.int .u64 r27.2.2.mask))]),.own s25_4 (List.map C.v [(.p (.int .i64 ((a17.meter.slots.getD 0 0)))),(.p (.int .i64 ((a17.meter.slots.getD 1 0)))),(.p (.int .i64 ((a17.meter.slots.getD 2 0)))),(.p (.int .i64 ((a17.meter.slots.getD 3 0)))),(.p (.int .i64 ((a17.meter.slots.getD 4 0)))),(.p (.int .i64 a17.meter.last)),(.p (.int .i64 a17.meter.total))]),.v (.p (.bool a17.came)),.v (.p (.int .i64 a17.f_until)),.v (.p (.bool a17.resting)),.v (.p (.bool a17.woken)),.v (.p (.int .i64 a17.kept))] ⟨s25_3,s25_4,rfl⟩⟩
  have S37:Fm 57 h [⟨l0,o0,[c34]⟩] [(7,(0::0::0::σ),List.map C.v [(.p (.bool x2.Marker)),(.p (.int .i64 x2.f_Type)),(.p (.int .u16 x2.Seq)),(.p (.int .u32 x2.Time)),(.p (.int .u32 x2.Ssrc)),v1,(.p (.int .u16 x2.Profile)),v3,v5])] [] (pts H7 [⟨((l0.hop (o0+0) s19).hop ((Int.toNat x1*10)+3) s25_3),0,List.map C.v [(.p (.int .i64 r27.2.2.first)),(.p (.int .i64 r27.2.2.last)),(.p (.int .i64 r27.2.2.count)),(.p (.int .u64 r27.2.2.mask))]⟩]):=by rw [e35];exact S32
  exact .fin (S37.finN (lC (sI _ _).lv (lC (sB _).lv lN))) ⟨c34,h36,rfl⟩
 refine .nc ?_
 refine .fa ?_
 refine .op ((S32.atF (Foc.arr (Foc.of (i:=0) rfl) (j:=0) rfl h23)).ldOwn (j:=4) rfl) ?_
 refine .call (zd3 k (⟨[((a17.meter.slots.getD 0 0)),((a17.meter.slots.getD 1 0)),((a17.meter.slots.getD 2 0)),((a17.meter.slots.getD 3 0)),((a17.meter.slots.getD 4 0))],a17.meter.last,a17.meter.total⟩:z6) (S32.atF (Foc.own (Foc.arr (Foc.of (i:=0) rfl) (j:=0) rfl h23) (j:=4) rfl)) (IntKind.wrap .i64 (x3+28)) x4) fun r38 cs39 H40 h41 q42=>?_
 cases q42
 have S43:Fm _ _ _ _ _ (pts (pts H7 [⟨((l0.hop (o0+0) s19).hop ((Int.toNat x1*10)+3) s25_3),0,List.map C.v [(.p (.int .i64 r27.2.2.first)),(.p (.int .i64 r27.2.2.last)),(.p (.int .i64 r27.2.2.count)),(.p (.int .u64 r27.2.2.mask))]⟩]) [⟨((l0.hop (o0+0) s19).hop ((Int.toNat x1*10)+4) s25_4),0,List.map C.v [(.p (.int .i64 ((r38.slots.getD 0 0)))),(.p (.int .i64 ((r38.slots.getD 1 0)))),(.p (.int .i64 ((r38.slots.getD 2 0)))),(.p (.int .i64 ((r38.slots.getD 3 0)))),(.p (.int .i64 ((r38.slots.getD 4 0)))),(.p (.int .i64 r38.last)),(.p (.int .i64 r38.total))]⟩]):=S32.setF (Foc.own (Foc.arr (Foc.of (i:=0) rfl) (j:=0) rfl h23) (j:=4) rfl) (cs':=List.map C.v [(.p (.int .i64 ((r38.slots.getD 0 0)))),(.p (.int .i64 ((r38.slots.getD 1 0)))),(.p (.int .i64 ((r38.slots.getD 2 0)))),(.p (.int .i64 ((r38.slots.getD 3 0)))),(.p (.int .i64 ((r38.slots.getD 4 0)))),(.p (.int .i64 r38.last)),(.p (.int .i64 r38.total))]) (by rfl)
 refine .call (zgx x4) fun r44 cs45 H46 h47 q48=>?_
 cases q48
 refine .ci ?_
 refine .nc ?_
 refine .fa ?_
 obtain ⟨H49,e50,S51⟩:=S43.stF (Foc.arr (Foc.of (i:=0) rfl) (j:=0) rfl h23) (j:=5) (own:=true) (σ:=(7::0::1::1::1::1::1::1::0::σ)) (x:=(.p (.bool true))) (sB _) rfl
 refine .op (sM e50) ?_
 refine .nc ?_
 refine .fa ?_
 obtain ⟨H52,e53,S54⟩:=S51.stF (Foc.arr (Foc.of (i:=0) rfl) (j:=0) rfl h23) (j:=6) (own:=true) (σ:=(10::0::1::1::1::1::1::1::0::σ)) (x:=(.p (.int .i64 r44))) (sI _ _) rfl
 refine .op (sM e53) ?_
 refine .nc ?_
 refine .fa ?_
 obtain ⟨H55,e56,S57⟩:=S54.stF (Foc.arr (Foc.of (i:=0) rfl) (j:=0) rfl h23) (j:=8) (own:=true) (σ:=(13::0::1::1::1::1::1::1::0::σ)) (x:=(.p (.bool false))) (sB _) rfl
 refine .op (sM e56) ?_
 obtain ⟨c58,e59,h60⟩:∃ c,c=.arr s19 x0.l.length 10 (P20++[.v (.p (.string a17.told.Rid)),.v (.p (.int .u32 a17.told.Ssrc)),.v (.p (.int .i64 a17.told.Height)),.own s25_3 (List.map C.v [(.p (.int .i64 r27.2.2.first)),(.p (.int .i64 r27.2.2.last)),(.p (.int .i64 r27.2.2.count)),(.p (.int .u64 r27.2.2.mask))]),.own s25_4 (List.map C.v [(.p (.int .i64 ((r38.slots.getD 0 0)))),(.p (.int .i64 ((r38.slots.getD 1 0)))),(.p (.int .i64 ((r38.slots.getD 2 0)))),(.p (.int .i64 ((r38.slots.getD 3 0)))),(.p (.int .i64 ((r38.slots.getD 4 0)))),(.p (.int .i64 r38.last)),(.p (.int .i64 r38.total))]),.v (.p (.bool true)),.v (.p (.int .i64 r44)),.v (.p (.bool a17.resting)),.v (.p (.bool false)),.v (.p (.int .i64 a17.kept))]++Q22)∧RsC zg ((x0.l.set (Int.toNat x1) ((⟨a17.told,r27.2.2,(⟨[((r38.slots.getD 0 0)),((r38.slots.getD 1 0)),((r38.slots.getD 2 0)),((r38.slots.getD 3 0)),((r38.slots.getD 4 0))],r38.last,r38.total⟩:z6),true,r44,a17.resting,false,a17.kept⟩:z18)))) c:=⟨_,rfl,h25 ((⟨a17.told,r27.2.2,(⟨[((r38.slots.getD 0 0)),((r38.slots.getD 1 0)),((r38.slots.getD 2 0)),((r38.slots.getD 3 0)),((r38.slots.getD 4 0))],r38.last,r38.total⟩:z6),true,r44,a17.resting,false,a17.kept⟩:z18)) [.v (.p (.string a17.told.Rid)),.v (.p (.int .u32 a17.told.Ssrc)),.v (.p (.int .i64 a17.told.Height)),.own s25_3 (List.map C.v [(.p (.int .i64 r27.2.2.first)),(.p (.int .i64 r27.2.2.last)),(.p (.int .i64 r27.2.2.count)),(.p (.int .u64 r27.2.2.mask))]),.own s25_4 (List.map C.v [(.p (.int .i64 ((r38.slots.getD 0 0)))),(.p (.int .i64 ((r38.slots.getD 1 0)))),(.p (.int .i64 ((r38.slots.getD 2 0)))),(.p (.int .i64 ((r38.slots.getD 3 0)))),(.p (.int .i64 ((r38.slots.getD 4 0)))),(.p (.int .i64 r38.last)),(.p (.int .i64 r38.total))]),.v (.p (.bool true)),.v (.p (.int .i64 r44)),.v (.p (.bool a17.resting)),.v (.p (.bool false)),.v (.p (.int .i64 a17.kept))] ⟨s25_3,s25_4,rfl⟩⟩
 have S61:Fm 57 h [⟨l0,o0,[c58]⟩] [(7,(0::0::0::σ),List.map C.v [(.p (.bool x2.Marker)),(.p (.int .i64 x2.f_Type)),(.p (.int .u16 x2.Seq)),(.p (.int .u32 x2.Time)),(.p (.int .u32 x2.Ssrc)),v1,(.p (.int .u16 x2.Profile)),v3,v5])] [] H55:=by rw [e59];exact S57
 exact .fin (S61.finN (lC (sI _ _).lv (lC (sB _).lv lN))) ⟨c58,h60,rfl⟩
end
end Go.Ev
namespace Go.Ev
open Go.Proofs
set_option linter.unusedVariables false
set_option linter.unusedSimpArgs false
set_option maxRecDepth 100000
noncomputable section
abbrev KT10:=Exit→Env→H→Option (List C × H)
variable (rec : CallF) (loop : LoopV) (σ : Stamp)
theorem z9c (x0:V) (x1:Int) (x2:Int) (h:H):cvBody G rec loop 98 σ [x0,(.p (.int .i64 x1)),(.p (.int .i64 x2))] h =
(callO rec 89 (2::0::0::1::0::σ) [x0,(.p (.int .i64 x1))] (List.replicate 33 []::h) (some 10)).bind fun q1 =>
(asB q1.1).bind fun b2 =>
bif !b2 then (
fin false σ q1.2 [(.p (.int .i64 0))])
else (
(nilChk x0).bind fun t3 =>
(fA t3 0).bind fun t4 =>
(ldO false 1 q1.2 t4).bind fun t5 =>
(iS 10 t5 x1).bind fun t6 =>
(ldO true 10 q1.2 t6).bind fun t7 =>
(some (alO [.p (.string (⟨#[]⟩:ByteArray)),.p (.int .u32 0),.p (.int .i64 0),.p (.pointer none),.p (.pointer none),.p (.bool false),.p (.int .i64 0),.p (.bool false),.p (.bool false),.p (.int .i64 0)] (7::0::1::1::0::σ) 7 q1.2)).bind fun q8 =>
((stO false 10 (8::0::1::1::0::σ) q8.2 q8.1 t7).map fun h=>(udf,h)).bind fun q9 =>
(fA q8.1 7).bind fun t10 =>
(ldO false 1 q9.2 t10).bind fun t11 =>
(asB t11).bind fun b12 =>
(bif b12 then (some true) else ((fA q8.1 8).bind fun t13 =>
(ldO false 1 q9.2 t13).bind fun t14 =>
(asB t14).bind fun b15 =>
some b15)).bind fun b16 =>
bif b16 then (
(fA q8.1 9).bind fun t17 =>
(ldO false 1 q9.2 t17).bind fun t18 =>
(castI .i64 t18).bind fun n19 =>
fin false σ q9.2 [(.p (.int .i64 n19))])
else (
(fA q8.1 4).bind fun t20 =>
(ldO false 1 q9.2 t20).bind fun t21 =>
(callO rec 141 (3::0::1::1::1::1::0::σ) [t21,(.p (.int .i64 x2))] q9.2 (some 30)).bind fun q22 =>
(castI .i64 q22.1).bind fun n23 =>
(callO rec 140 (4::0::1::1::1::1::0::σ) [(.p (.int .i64 n23)),(.p (.int .i64 1000))] q22.2 (some 31)).bind fun q24 =>
(castI .i64 q24.1).bind fun n25 =>
fin false σ q24.2 [(.p (.int .i64 ((if n25>1 then n25 else 1))))])):=by kernel_rfl
theorem ze9 (x0:Int) (x1:Int) (h:H):cvBody G rec loop 140 σ [(.p (.int .i64 x0)),(.p (.int .i64 x1))] h =
(callO rec 167 (1::0::1::0::σ) [(.p (.int .i64 x0))] (List.replicate 25 []::h) (some 9)).bind fun q1 =>
(castI .u64 q1.1).bind fun n2 =>
(callO rec 167 (3::0::1::0::σ) [(.p (.int .i64 x1))] q1.2 (some 11)).bind fun q3 =>
(castI .u64 q3.1).bind fun n4 =>
bif n4==0 then (
fin false σ q3.2 [(.p (.int .i64 0))])
else (
(divI .u64 n2 n4).bind fun t5 =>
(castI .u64 t5).bind fun n6 =>
(remI .u64 n2 n4).bind fun t7 =>
(castI .u64 t7).bind fun n8 =>
bif decide (n8>0) then (
fin false σ q3.2 [(.p (.int .i64 (IntKind.wrap .i64 (IntKind.wrap .u64 (n6+1)))))])
else (
fin false σ q3.2 [(.p (.int .i64 (IntKind.wrap .i64 n6)))])):=by kernel_rfl
end
end Go.Ev
namespace Go.Ev
open Go.Proofs
set_option linter.unusedVariables false
set_option linter.unusedSimpArgs false
set_option maxRecDepth 100000
section
variable {β α : Type} {Q : β→α→Prop} {K : Exit × Env × H→Option α}
def z2p (x0:Int) (x1:Int):Option (Int) :=
(z24 x0).bind fun r1 =>
(z24 x1).bind fun r6 =>
bif r6==0 then (
some (0))
else (
(divP .u64 r1 r6).bind fun n12 =>
(remP r1 r6).bind fun n14 =>
bif decide (n14>0) then (
some ((IntKind.wrap .i64 (IntKind.wrap .u64 (n12+1)))))
else (
some ((IntKind.wrap .i64 n12))))
theorem zbt {h:H} {σ:Stamp} (x0:Int) (x1:Int):Sim (z2p x0 x1) (ev G X0 140 σ [(.p (.int .i64 x0)),(.p (.int .i64 x1))] h) (fun r s=>s=([.v (.p (.int .i64 r))],h)):=by
 refine .ev rfl (Sim.ext (ze9 _ _ _ _ _ _) ?_)
 rw [z2p]
 have S0:Fm 25 h [] [] [] (List.replicate 25 []::h):=Fm.start0
 refine .call (z4h x0) fun r1 cs2 H3 h4 q5=>?_
 cases q5
 refine .ci ?_
 refine .call (z4h x1) fun r6 cs7 H8 h9 q10=>?_
 cases q10
 refine .ci ?_
 refine .cq ?_ ?_
 ·exact .fin (S0.finN (lC (sI _ _).lv lN)) rfl
 refine .bd fun n12 h13=>?_
 refine .op (zny h13) ?_
 refine .ci ?_
 refine .bd fun n14 h15=>?_
 refine .op (zdf h15) ?_
 refine .ci ?_
 refine .cq ?_ ?_
 ·exact .fin (S0.finN (lC (sI _ _).lv lN)) rfl
 exact .fin (S0.finN (lC (sI _ _).lv lN)) rfl
end
end Go.Ev
namespace Go.Ev
open Go.Proofs
set_option linter.unusedVariables false
set_option linter.unusedSimpArgs false
set_option maxRecDepth 100000
noncomputable section
abbrev KT11:=Exit→Env→H→Option (List C × H)
variable (rec : CallF) (loop : LoopV) (σ : Stamp)
def z1x:Code:=(codeAt (bodyOf Try.f141) [1,1,1,0,1,0,0])
def z1z:Lv:=⟨64,16,[(0,64)]⟩
def z6w:KT11:=(kBlock 0 (kSeq G rec loop (codeAt (bodyOf Try.f141) [1,1,1,1]) ⟨16,16,[]⟩ (1::1::1::0::σ) (finC G false Try.f141 (1::σ))))
theorem z9v (x0:V) (x1:Int) (h:H):cvBody G rec loop 141 σ [x0,(.p (.int .i64 x1))] h =
(nilChk x0).bind fun t1 =>
(fA t1 5).bind fun t2 =>
(ldO false 1 (List.replicate 49 []::h) t2).bind fun t3 =>
(castI .i64 t3).bind fun n4 =>
(callO rec 138 (5::0::1::0::σ) [(.p (.int .i64 x1))] (List.replicate 49 []::h) (some 13)).bind fun q5 =>
(castI .i64 q5.1).bind fun n6 =>
need (ldO false 1 q5.2 t2=some (.p (.int .i64 n4))) (
(loop z1x z1z (1::0::1::1::1::0::σ) (envL [(0,x0),(6,(.p (.int .i64 0))),(7,(.p (.int .i64 (IntKind.wrap .i64 ((IntKind.wrap .i64 (((if n6>n4 then n6 else n4))-5))+1)))))]) q5.2).bind fun r7=>z6w rec loop σ r7.1 r7.2.1 r7.2.2):=by kernel_rfl
theorem zbz (x0:V) (x6:Int) (x7:Int) (h:H):zo G rec loop z1x z1z σ (envL [(0,x0),(6,(.p (.int .i64 x6))),(7,(.p (.int .i64 x7)))]) h =
(nilChk x0).bind fun t8 =>
(fA t8 5).bind fun t9 =>
(ldO false 1 h t9).bind fun t10 =>
(castI .i64 t10).bind fun n11 =>
bif decide (x7≤n11) then (
(bif decide (x7≥0) then ((nilChk x0).bind fun t12 =>
(fA t12 5).bind fun t13 =>
(ldO false 1 h t13).bind fun t14 =>
(castI .i64 t14).bind fun n15 =>
some (decide (x7>(IntKind.wrap .i64 (n15-5))))) else (some false)).bind fun b16 =>
bif b16 then (
(nilChk x0).bind fun t17 =>
(fA t17 0).bind fun t18 =>
(iA 5 1 t18 (Int.tmod x7 5)).bind fun t19 =>
(ldO false 1 h t19).bind fun t20 =>
(castI .i64 t20).bind fun n21 =>
(callO rec 139 (8::1::0::1::0::σ) [(.p (.int .i64 x6)),(.p (.int .i64 n21))] h (some 45)).bind fun q22 =>
(castI .i64 q22.1).bind fun n23 =>
loop z1x z1z (1::σ) (envL [(0,x0),(6,(.p (.int .i64 n23))),(7,(.p (.int .i64 (IntKind.wrap .i64 (x7+1)))))]) q22.2)
else (
loop z1x z1z (1::σ) (envL [(0,x0),(6,(.p (.int .i64 x6))),(7,(.p (.int .i64 (IntKind.wrap .i64 (x7+1)))))]) h))
else (
some ((.exit 0),(envL [(6,(.p (.int .i64 x6)))]),h)):=by kernel_rfl
theorem zan (x6:Int) (h:H):z6w rec loop σ (.exit 0) (envL [(6,(.p (.int .i64 x6)))]) h =
(callO rec 168 (1::0::1::1::1::1::0::σ) [(.p (.int .i64 x6)),(.p (.int .i64 1000000))] h (some 47)).bind fun q24 =>
(castI .i64 q24.1).bind fun n25 =>
(callO rec 140 (2::0::1::1::1::1::0::σ) [(.p (.int .i64 n25)),(.p (.int .i64 500000))] q24.2 (some 48)).bind fun q26 =>
(castI .i64 q26.1).bind fun n27 =>
fin false σ q26.2 [(.p (.int .i64 n27))]:=by kernel_rfl
theorem zfa (x0:Int) (x1:Int) (h:H):cvBody G rec loop 168 σ [(.p (.int .i64 x0)),(.p (.int .i64 x1))] h =
(callO rec 167 (1::0::1::0::σ) [(.p (.int .i64 x0))] (List.replicate 20 []::h) (some 9)).bind fun q1 =>
(castI .u64 q1.1).bind fun n2 =>
(callO rec 167 (3::0::1::0::σ) [(.p (.int .i64 x1))] q1.2 (some 11)).bind fun q3 =>
(castI .u64 q3.1).bind fun n4 =>
(callO rec 178 (4::0::1::0::σ) [(.p (.int .u64 n2)),(.p (.int .u64 n4))] q3.2 (some 12)).bind fun q5 =>
(extV q5.1 0).bind fun t6 =>
(castI .u64 t6).bind fun n7 =>
(extV q5.1 1).bind fun t8 =>
(castI .u64 t8).bind fun n9 =>
bif decide (n7>0) then (
fin false σ q5.2 [(.p (.int .i64 9223372036854775807))])
else (
fin false σ q5.2 [(.p (.int .i64 (IntKind.wrap .i64 ((if 9223372036854775807<n9 then 9223372036854775807 else n9)))))]):=by kernel_rfl
theorem zae (x0:Int) (x1:Int) (h:H):cvBody G rec loop 178 σ [(.p (.int .u64 x0)),(.p (.int .u64 x1))] h =
fin false σ (List.replicate 51 []::h) [(.p (.int .u64 (IntKind.wrap .u64 ((IntKind.wrap .u64 ((IntKind.wrap .u64 ((Int.fdiv x0 (2^32))*(Int.fdiv x1 (2^32))))+(Int.fdiv (IntKind.wrap .u64 ((IntKind.wrap .u64 ((Int.fdiv x0 (2^32))*(intBits .and .u64 x1 4294967295)))+(Int.fdiv (IntKind.wrap .u64 ((intBits .and .u64 x0 4294967295)*(intBits .and .u64 x1 4294967295))) (2^32)))) (2^32))))+(Int.fdiv (IntKind.wrap .u64 ((intBits .and .u64 (IntKind.wrap .u64 ((IntKind.wrap .u64 ((Int.fdiv x0 (2^32))*(intBits .and .u64 x1 4294967295)))+(Int.fdiv (IntKind.wrap .u64 ((intBits .and .u64 x0 4294967295)*(intBits .and .u64 x1 4294967295))) (2^32)))) 4294967295)+(IntKind.wrap .u64 ((intBits .and .u64 x0 4294967295)*(Int.fdiv x1 (2^32)))))) (2^32)))))),(.p (.int .u64 (IntKind.wrap .u64 (x0*x1))))]:=by kernel_rfl
end
end Go.Ev
namespace Go.Ev
open Go.Proofs
set_option linter.unusedVariables false
set_option linter.unusedSimpArgs false
set_option maxRecDepth 100000
section
variable {β α : Type} {Q : β→α→Prop} {K : Exit × Env × H→Option α}
def z3o (x0:Int) (x1:Int):Option (Int×Int) :=
some ((IntKind.wrap .u64 ((IntKind.wrap .u64 ((IntKind.wrap .u64 ((Int.fdiv x0 (2^32))*(Int.fdiv x1 (2^32))))+(Int.fdiv (IntKind.wrap .u64 ((IntKind.wrap .u64 ((Int.fdiv x0 (2^32))*(intBits .and .u64 x1 4294967295)))+(Int.fdiv (IntKind.wrap .u64 ((intBits .and .u64 x0 4294967295)*(intBits .and .u64 x1 4294967295))) (2^32)))) (2^32))))+(Int.fdiv (IntKind.wrap .u64 ((intBits .and .u64 (IntKind.wrap .u64 ((IntKind.wrap .u64 ((Int.fdiv x0 (2^32))*(intBits .and .u64 x1 4294967295)))+(Int.fdiv (IntKind.wrap .u64 ((intBits .and .u64 x0 4294967295)*(intBits .and .u64 x1 4294967295))) (2^32)))) 4294967295)+(IntKind.wrap .u64 ((intBits .and .u64 x0 4294967295)*(Int.fdiv x1 (2^32)))))) (2^32)))),(IntKind.wrap .u64 (x0*x1)))
theorem zd7 {h:H} {σ:Stamp} (x0:Int) (x1:Int):Sim (z3o x0 x1) (ev G X0 178 σ [(.p (.int .u64 x0)),(.p (.int .u64 x1))] h) (fun r s=>s=([.v (.p (.int .u64 r.1)),.v (.p (.int .u64 r.2))],h)):=by
 refine .ev rfl (Sim.ext (zae _ _ _ _ _ _) ?_)
 rw [z3o]
 have S0:Fm 51 h [] [] [] (List.replicate 51 []::h):=Fm.start0
 exact .fin (S0.finN (lC (sI _ _).lv (lC (sI _ _).lv lN))) rfl
def z4j (x0:Int) (x1:Int):Option (Int) :=
(z24 x0).bind fun r1 =>
(z24 x1).bind fun r6 =>
(z3o r1 r6).bind fun r11 =>
bif decide (r11.1>0) then (
some (9223372036854775807))
else (
some ((IntKind.wrap .i64 ((if 9223372036854775807<r11.2 then 9223372036854775807 else r11.2)))))
theorem zj9 {h:H} {σ:Stamp} (x0:Int) (x1:Int):Sim (z4j x0 x1) (ev G X0 168 σ [(.p (.int .i64 x0)),(.p (.int .i64 x1))] h) (fun r s=>s=([.v (.p (.int .i64 r))],h)):=by
 refine .ev rfl (Sim.ext (zfa _ _ _ _ _ _) ?_)
 rw [z4j]
 have S0:Fm 20 h [] [] [] (List.replicate 20 []::h):=Fm.start0
 refine .call (z4h x0) fun r1 cs2 H3 h4 q5=>?_
 cases q5
 refine .ci ?_
 refine .call (z4h x1) fun r6 cs7 H8 h9 q10=>?_
 cases q10
 refine .ci ?_
 refine .call (zd7 r1 r6) fun r11 cs12 H13 h14 q15=>?_
 cases q15
 refine .or ?_
 refine .ci ?_
 refine .or ?_
 refine .ci ?_
 refine .cq ?_ ?_
 ·exact .fin (S0.finN (lC (sI _ _).lv lN)) rfl
 exact .fin (S0.finN (lC (sI _ _).lv lN)) rfl
def zp {β:Type} (k:Nat) (kE0:Int→Option β) (x0:z6) (x6:Int) (x7:Int):Option β:=match k with
| 0=>none
| k+1 =>
bif decide (x7≤x0.last) then (
(bif decide (x7≥0) then (some (decide (x7>(IntKind.wrap .i64 (x0.last-5))))) else (some false)).bind fun b13 =>
bif b13 then (
(ix [((x0.slots.getD 0 0)),((x0.slots.getD 1 0)),((x0.slots.getD 2 0)),((x0.slots.getD 3 0)),((x0.slots.getD 4 0))] (Int.tmod x7 5)).bind fun a18 =>
(z3f x6 a18).bind fun r20 =>
zp k kE0 ((⟨[((x0.slots.getD 0 0)),((x0.slots.getD 1 0)),((x0.slots.getD 2 0)),((x0.slots.getD 3 0)),((x0.slots.getD 4 0))],x0.last,x0.total⟩:z6)) r20 (IntKind.wrap .i64 (x7+1)))
else (
zp k kE0 ((⟨[((x0.slots.getD 0 0)),((x0.slots.getD 1 0)),((x0.slots.getD 2 0)),((x0.slots.getD 3 0)),((x0.slots.getD 4 0))],x0.last,x0.total⟩:z6)) x6 (IntKind.wrap .i64 (x7+1))))
else (
kE0 x6)
def z26 (k:Nat) (x0:z6) (x1:Int):Option (Int) :=
(z41 x1).bind fun r1 =>
zp k (fun r27_6 =>
(z4j r27_6 1000000).bind fun r30 =>
(z2p r30 500000).bind fun r35 =>
some (r35)) ((⟨[((x0.slots.getD 0 0)),((x0.slots.getD 1 0)),((x0.slots.getD 2 0)),((x0.slots.getD 3 0)),((x0.slots.getD 4 0))],x0.last,x0.total⟩:z6)) 0 (IntKind.wrap .i64 ((IntKind.wrap .i64 (((if r1>x0.last then r1 else x0.last))-5))+1))
theorem z9r {h:H}  {kE0:Int→Option β} (hE0:∀ (q6:Int) (H25:Go.Ev.H) (_:Fm 49 h [] [] [] H25),Sim (kE0 q6) (K ((.exit 0),(envL [(6,(.p (.int .i64 q6)))]),H25)) Q) (k:Nat):∀ (x0:z6) (x6:Int) (x7:Int) (lr8:Loc) (or9:Nat) (har10:AtC h lr8 or9 (List.map C.v [(.p (.int .i64 ((x0.slots.getD 0 0)))),(.p (.int .i64 ((x0.slots.getD 1 0)))),(.p (.int .i64 ((x0.slots.getD 2 0)))),(.p (.int .i64 ((x0.slots.getD 3 0)))),(.p (.int .i64 ((x0.slots.getD 4 0)))),(.p (.int .i64 x0.last)),(.p (.int .i64 x0.total))])) (H6:Go.Ev.H) (_:Fm 49 h [] [] [] H6) {σ:Stamp},Sim (zp k kE0 x0 x6 x7) ((cvL G X0 z1x z1z σ (envL [(0,(.ref lr8 or9)),(6,(.p (.int .i64 x6))),(7,(.p (.int .i64 x7)))]) H6).bind K) Q:=by
 induction k with
 | zero=>intros;exact .no
 | succ k ih =>
  intro x0 x6 x7 lr8 or9 har10 H6 S7 σ
  rw [zp]
  refine .round (Sim.ext (zbz _ _ _ _ _ _ _) ?_)
  refine .nc ?_
  refine .fa ?_
  refine .op ((S7.lowA har10).ld (j:=5) rfl) ?_
  refine .ci ?_
  refine .cq ?_ ?_
  ·refine .ch (P:=fun r y=>r=y) ?_ (fun b13 y14 h15 h16=>?_)
   ·refine .cq ?_ ?_
    ·refine .nc ?_
     refine .fa ?_
     refine .op ((S7.lowA har10).ld (j:=5) rfl) ?_
     refine .ci ?_
     exact .ret rfl rfl
    ·exact .ret rfl rfl
   subst h16
   refine .cq ?_ ?_
   ·refine .nc ?_
    refine .fa ?_
    refine .bd fun a18 h19=>?_
    refine .op (iA_ok h19 rfl) ?_
    refine .op ((S7.lowA har10).ldIx (xs:=[((x0.slots.getD 0 0)),((x0.slots.getD 1 0)),((x0.slots.getD 2 0)),((x0.slots.getD 3 0)),((x0.slots.getD 4 0))]) (j:=0) (n:=5) (f:=fun z=>.p (.int .i64 z)) rfl h19 rfl) ?_
    refine .ci ?_
    refine .call (z6n x6 a18) fun r20 cs21 H22 h23 q24=>?_
    cases q24
    refine .ci ?_
    exact ih ((⟨[((x0.slots.getD 0 0)),((x0.slots.getD 1 0)),((x0.slots.getD 2 0)),((x0.slots.getD 3 0)),((x0.slots.getD 4 0))],x0.last,x0.total⟩:z6)) r20 (IntKind.wrap .i64 (x7+1)) lr8 or9 har10 H6 (S7.wk2 aN aN)
   exact ih ((⟨[((x0.slots.getD 0 0)),((x0.slots.getD 1 0)),((x0.slots.getD 2 0)),((x0.slots.getD 3 0)),((x0.slots.getD 4 0))],x0.last,x0.total⟩:z6)) x6 (IntKind.wrap .i64 (x7+1)) lr8 or9 har10 H6 (S7.wk2 aN aN)
  exact hE0 x6 H6 (S7.wk2 aN aN)
theorem zc1 (k:Nat) {h:H} {σ:Stamp} (x0:z6)  {l0:Loc} {o0:Nat} (ha0:AtC h l0 o0 (List.map C.v [(.p (.int .i64 ((x0.slots.getD 0 0)))),(.p (.int .i64 ((x0.slots.getD 1 0)))),(.p (.int .i64 ((x0.slots.getD 2 0)))),(.p (.int .i64 ((x0.slots.getD 3 0)))),(.p (.int .i64 ((x0.slots.getD 4 0)))),(.p (.int .i64 x0.last)),(.p (.int .i64 x0.total))])) (x1:Int):Sim (z26 k x0 x1) (ev G X0 141 σ [(.ref l0 o0),(.p (.int .i64 x1))] h) (fun r s=>s=([.v (.p (.int .i64 r))],h)):=by
 refine .ev rfl (Sim.ext (z9v _ _ _ _ _ _) ?_)
 rw [z26]
 have S0:Fm 49 h [] [] [] (List.replicate 49 []::h):=Fm.start0
 refine .nc ?_
 refine .fa ?_
 refine .op ((S0.lowA ha0).ld (j:=5) rfl) ?_
 refine .ci ?_
 refine .call (zbp x1) fun r1 cs2 H3 h4 q5=>?_
 cases q5
 refine .ci ?_
 refine .nd ((S0.lowA ha0).ld (j:=5) rfl) ?_
 refine .as (z9r ?_ k ((⟨[((x0.slots.getD 0 0)),((x0.slots.getD 1 0)),((x0.slots.getD 2 0)),((x0.slots.getD 3 0)),((x0.slots.getD 4 0))],x0.last,x0.total⟩:z6)) 0 (IntKind.wrap .i64 ((IntKind.wrap .i64 (((if r1>x0.last then r1 else x0.last))-5))+1)) l0 o0 ha0 (List.replicate 49 []::h) (S0.wk2 aN aN))
 ·intro r27_6 H28 S29
  refine .ext (zan _ _ _ _ _) ?_
  refine .call (zj9 r27_6 1000000) fun r30 cs31 H32 h33 q34=>?_
  cases q34
  refine .ci ?_
  refine .call (zbt r30 500000) fun r35 cs36 H37 h38 q39=>?_
  cases q39
  refine .ci ?_
  exact .fin (S29.finN (lC (sI _ _).lv lN)) rfl
def z1y (k:Nat) (x0:z8) (x1:Int) (x2:Int):Option (Int) :=
(zx x0 x1).bind fun r1 =>
bif !r1 then (
some (0))
else (
(ix x0.l x1).bind fun a7 =>
(bif a7.resting then (some true) else (some a7.woken)).bind fun b23 =>
bif b23 then (
some (a7.kept))
else (
(z26 k (⟨[((a7.meter.slots.getD 0 0)),((a7.meter.slots.getD 1 0)),((a7.meter.slots.getD 2 0)),((a7.meter.slots.getD 3 0)),((a7.meter.slots.getD 4 0))],a7.meter.last,a7.meter.total⟩:z6) x2).bind fun r28 =>
(z2p r28 1000).bind fun r33 =>
some (((if r33>1 then r33 else 1)))))
theorem zat (k:Nat) {h:H} {σ:Stamp} (x0:z8) {c0_0:C} (hc0_0:RsC zg x0.l c0_0) {l0:Loc} {o0:Nat} (ha0:AtC h l0 o0 ([c0_0])) (x1:Int) (x2:Int):Sim (z1y k x0 x1 x2) (ev G X0 98 σ [(.ref l0 o0),(.p (.int .i64 x1)),(.p (.int .i64 x2))] h) (fun r s=>s=([.v (.p (.int .i64 r))],h)):=by
 refine .ev rfl (Sim.ext (z9c _ _ _ _ _ _ _) ?_)
 rw [z1y]
 have S0:Fm 33 h [] [] [] (List.replicate 33 []::h):=Fm.start0
 refine .call (z1j x0 hc0_0 (S0.lowA ha0) x1) fun r1 cs2 H3 h4 q5=>?_
 cases q5
 refine .ab ?_
 refine .cq ?_ ?_
 ·exact .fin (S0.finN (lC (sI _ _).lv lN)) rfl
 refine .nc ?_
 refine .fa ?_
 refine .op (RsC.ld hc0_0 (S0.lowA ha0) (j:=0) rfl) ?_
 refine .bd fun a7 h8=>?_
 obtain ⟨lr9,w10,e11,h12,har13⟩:=RsH.el (RsC.rs hc0_0 ha0 (j:=0) rfl) h8 (e:=10) rfl
 obtain ⟨s14_3,s14_4,rfl⟩:=h12
 refine .op (e11) ?_
 refine .op ((S0.lowA har13).ldAll (j:=0) (xs:=[(.p (.string a7.told.Rid)),(.p (.int .u32 a7.told.Ssrc)),(.p (.int .i64 a7.told.Height)),(.ref (lr9.hop ((Int.toNat x1*10)+3) s14_3) 0),(.ref (lr9.hop ((Int.toNat x1*10)+4) s14_4) 0),(.p (.bool a7.came)),(.p (.int .i64 a7.f_until)),(.p (.bool a7.resting)),(.p (.bool a7.woken)),(.p (.int .i64 a7.kept))]) rfl rfl) ?_
 obtain ⟨H16,e17,S18⟩:=S0.al (d:=7) (s:=(7::0::1::1::0::σ)) (z:=[(.p (.string ((⟨#[]⟩:ByteArray)))),(.p (.int .u32 0)),(.p (.int .i64 0)),(.p (.pointer none)),(.p (.pointer none)),(.p (.bool false)),(.p (.int .i64 0)),(.p (.bool false)),(.p (.bool false)),(.p (.int .i64 0))]) (by decide) rfl
 refine .op (congrArg some e17) ?_
 obtain ⟨H20,e21,S22⟩:=S18.stGw (i:=0) (j:=0) (own:=false) (σ:=(8::0::1::1::0::σ)) (xs:=[(.p (.string a7.told.Rid)),(.p (.int .u32 a7.told.Ssrc)),(.p (.int .i64 a7.told.Height)),(.ref (lr9.hop ((Int.toNat x1*10)+3) s14_3) 0),(.ref (lr9.hop ((Int.toNat x1*10)+4) s14_4) 0),(.p (.bool a7.came)),(.p (.int .i64 a7.f_until)),(.p (.bool a7.resting)),(.p (.bool a7.woken)),(.p (.int .i64 a7.kept))]) (ws:=List.map C.v [(.p (.string a7.told.Rid)),(.p (.int .u32 a7.told.Ssrc)),(.p (.int .i64 a7.told.Height)),(.ref (lr9.hop ((Int.toNat x1*10)+3) s14_3) 0),(.ref (lr9.hop ((Int.toNat x1*10)+4) s14_4) 0),(.p (.bool a7.came)),(.p (.int .i64 a7.f_until)),(.p (.bool a7.resting)),(.p (.bool a7.woken)),(.p (.int .i64 a7.kept))]) rfl rfl (z4k (Still.low (still_str _)) (z4k (Still.low (sI _ _)) (z4k (Still.low (sI _ _)) (z4k (Low.hop _ _ _) (z4k (Low.hop _ _ _) (z4k (Still.low (sB _)) (z4k (Still.low (sI _ _)) (z4k (Still.low (sB _)) (z4k (Still.low (sB _)) (z4k (Still.low (sI _ _)) lw_nil)))))))))) rfl rfl
 refine .op (sM e21) ?_
 refine .fa ?_
 refine .op ((S22.atG (i:=0) rfl).ld (j:=7) rfl) ?_
 refine .ab ?_
 refine .ch (P:=fun r y=>r=y) ?_ (fun b23 y24 h25 h26=>?_)
 ·refine .cq ?_ ?_
  ·exact .ret rfl rfl
  ·refine .fa ?_
   refine .op ((S22.atG (i:=0) rfl).ld (j:=8) rfl) ?_
   refine .ab ?_
   exact .ret rfl rfl
 subst h26
 refine .cq ?_ ?_
 ·refine .fa ?_
  refine .op ((S22.atG (i:=0) rfl).ld (j:=9) rfl) ?_
  refine .ci ?_
  exact .fin (S22.finN (lC (sI _ _).lv lN)) rfl
 refine .fa ?_
 refine .op ((S22.atG (i:=0) rfl).ld (j:=4) rfl) ?_
 refine .call (zc1 k (⟨[((a7.meter.slots.getD 0 0)),((a7.meter.slots.getD 1 0)),((a7.meter.slots.getD 2 0)),((a7.meter.slots.getD 3 0)),((a7.meter.slots.getD 4 0))],a7.meter.last,a7.meter.total⟩:z6) ((S22.lowA har13).sub (j:=4) rfl) x2) fun r28 cs29 H30 h31 q32=>?_
 cases q32
 refine .ci ?_
 refine .call (zbt r28 1000) fun r33 cs34 H35 h36 q37=>?_
 cases q37
 refine .ci ?_
 exact .fin (S22.finN (lC (sI _ _).lv lN)) rfl
end
end Go.Ev
namespace Go.Ev
open Go.Proofs
set_option linter.unusedVariables false
set_option linter.unusedSimpArgs false
set_option maxRecDepth 100000
noncomputable section
abbrev KT12:=Exit→Env→H→Option (List C × H)
variable (rec : CallF) (loop : LoopV) (σ : Stamp)
theorem z9a (x0:V) (x1:Int) (x2:Int) (h:H):cvBody G rec loop 95 σ [x0,(.p (.int .i64 x1)),(.p (.int .i64 x2))] h =
(callO rec 89 (2::0::1::0::σ) [x0,(.p (.int .i64 x1))] (List.replicate 43 []::h) (some 9)).bind fun q1 =>
(asB q1.1).bind fun b2 =>
(bif b2 then ((nilChk x0).bind fun t3 =>
(fA t3 0).bind fun t4 =>
(ldO false 1 q1.2 t4).bind fun t5 =>
(iS 10 t5 x1).bind fun t6 =>
(fA t6 5).bind fun t7 =>
(ldO false 1 q1.2 t7).bind fun t8 =>
(asB t8).bind fun b9 =>
some b9) else (some false)).bind fun b10 =>
(bif b10 then ((nilChk x0).bind fun t11 =>
(fA t11 0).bind fun t12 =>
(ldO false 1 q1.2 t12).bind fun t13 =>
(iS 10 t13 x1).bind fun t14 =>
(fA t14 7).bind fun t15 =>
(ldO false 1 q1.2 t15).bind fun t16 =>
(asB t16).bind fun b17 =>
some (!b17)) else (some false)).bind fun b18 =>
(bif b18 then ((nilChk x0).bind fun t19 =>
(fA t19 0).bind fun t20 =>
(ldO false 1 q1.2 t20).bind fun t21 =>
(iS 10 t21 x1).bind fun t22 =>
(fA t22 6).bind fun t23 =>
(ldO false 1 q1.2 t23).bind fun t24 =>
(castI .i64 t24).bind fun n25 =>
some (decide (x2<n25))) else (some false)).bind fun b26 =>
fin false σ q1.2 [(.p (.bool b26))]:=by kernel_rfl
end
end Go.Ev
namespace Go.Ev
open Go.Proofs
set_option linter.unusedVariables false
set_option linter.unusedSimpArgs false
set_option maxRecDepth 100000
section
variable {β α : Type} {Q : β→α→Prop} {K : Exit × Env × H→Option α}
def z1w (x0:z8) (x1:Int) (x2:Int):Option (Bool) :=
(zx x0 x1).bind fun r1 =>
(bif r1 then ((ix x0.l x1).bind fun a6 =>
some a6.came) else (some false)).bind fun b15 =>
(bif b15 then ((ix x0.l x1).bind fun a19 =>
some (!a19.resting)) else (some false)).bind fun b28 =>
(bif b28 then ((ix x0.l x1).bind fun a32 =>
some (decide (x2<a32.f_until))) else (some false)).bind fun b41 =>
some (b41)
theorem zb9 {h:H} {σ:Stamp} (x0:z8) {c0_0:C} (hc0_0:RsC zg x0.l c0_0) {l0:Loc} {o0:Nat} (ha0:AtC h l0 o0 ([c0_0])) (x1:Int) (x2:Int):Sim (z1w x0 x1 x2) (ev G X0 95 σ [(.ref l0 o0),(.p (.int .i64 x1)),(.p (.int .i64 x2))] h) (fun r s=>s=([.v (.p (.bool r))],h)):=by
 refine .ev rfl (Sim.ext (z9a _ _ _ _ _ _ _) ?_)
 rw [z1w]
 have S0:Fm 43 h [] [] [] (List.replicate 43 []::h):=Fm.start0
 refine .call (z1j x0 hc0_0 (S0.lowA ha0) x1) fun r1 cs2 H3 h4 q5=>?_
 cases q5
 refine .ab ?_
 refine .ch (P:=fun r y=>r=y) ?_ (fun b15 y16 h17 h18=>?_)
 ·refine .cq ?_ ?_
  ·refine .nc ?_
   refine .fa ?_
   refine .op (RsC.ld hc0_0 (S0.lowA ha0) (j:=0) rfl) ?_
   refine .bd fun a6 h7=>?_
   obtain ⟨lr8,w9,e10,h11,har12⟩:=RsH.el (RsC.rs hc0_0 ha0 (j:=0) rfl) h7 (e:=10) rfl
   obtain ⟨s13_3,s13_4,rfl⟩:=h11
   refine .op (e10) ?_
   refine .fa ?_
   refine .op ((S0.lowA har12).ld (j:=5) rfl) ?_
   refine .ab ?_
   exact .ret rfl rfl
  ·exact .ret rfl rfl
 subst h18
 refine .ch (P:=fun r y=>r=y) ?_ (fun b28 y29 h30 h31=>?_)
 ·refine .cq ?_ ?_
  ·refine .nc ?_
   refine .fa ?_
   refine .op (RsC.ld hc0_0 (S0.lowA ha0) (j:=0) rfl) ?_
   refine .bd fun a19 h20=>?_
   obtain ⟨lr21,w22,e23,h24,har25⟩:=RsH.el (RsC.rs hc0_0 ha0 (j:=0) rfl) h20 (e:=10) rfl
   obtain ⟨s26_3,s26_4,rfl⟩:=h24
   refine .op (e23) ?_
   refine .fa ?_
   refine .op ((S0.lowA har25).ld (j:=7) rfl) ?_
   refine .ab ?_
   exact .ret rfl rfl
  ·exact .ret rfl rfl
 subst h31
 refine .ch (P:=fun r y=>r=y) ?_ (fun b41 y42 h43 h44=>?_)
 ·refine .cq ?_ ?_
  ·refine .nc ?_
   refine .fa ?_
   refine .op (RsC.ld hc0_0 (S0.lowA ha0) (j:=0) rfl) ?_
   refine .bd fun a32 h33=>?_
   obtain ⟨lr34,w35,e36,h37,har38⟩:=RsH.el (RsC.rs hc0_0 ha0 (j:=0) rfl) h33 (e:=10) rfl
   obtain ⟨s39_3,s39_4,rfl⟩:=h37
   refine .op (e36) ?_
   refine .fa ?_
   refine .op ((S0.lowA har38).ld (j:=6) rfl) ?_
   refine .ci ?_
   exact .ret rfl rfl
  ·exact .ret rfl rfl
 subst h44
 exact .fin (S0.finN (lC (sB _).lv lN)) rfl
end
end Go.Ev
namespace Go.Ev
open Go.Proofs
set_option linter.unusedVariables false
set_option linter.unusedSimpArgs false
set_option maxRecDepth 100000
noncomputable section
abbrev KT13:=Exit→Env→H→Option (List C × H)
variable (rec : CallF) (loop : LoopV) (σ : Stamp)
theorem z7s (x0:V) (x1:Int) (h:H):cvBody G rec loop 96 σ [x0,(.p (.int .i64 x1))] h =
(callO rec 89 (2::0::1::0::σ) [x0,(.p (.int .i64 x1))] (List.replicate 18 []::h) (some 7)).bind fun q1 =>
(asB q1.1).bind fun b2 =>
(bif b2 then ((nilChk x0).bind fun t3 =>
(fA t3 0).bind fun t4 =>
(ldO false 1 q1.2 t4).bind fun t5 =>
(iS 10 t5 x1).bind fun t6 =>
(fA t6 7).bind fun t7 =>
(ldO false 1 q1.2 t7).bind fun t8 =>
(asB t8).bind fun b9 =>
some b9) else (some false)).bind fun b10 =>
fin false σ q1.2 [(.p (.bool b10))]:=by kernel_rfl
end
end Go.Ev
namespace Go.Ev
open Go.Proofs
set_option linter.unusedVariables false
set_option linter.unusedSimpArgs false
set_option maxRecDepth 100000
section
variable {β α : Type} {Q : β→α→Prop} {K : Exit × Env × H→Option α}
def z3i (x0:z8) (x1:Int):Option (Bool) :=
(zx x0 x1).bind fun r1 =>
(bif r1 then ((ix x0.l x1).bind fun a6 =>
some a6.resting) else (some false)).bind fun b15 =>
some (b15)
theorem z9d {h:H} {σ:Stamp} (x0:z8) {c0_0:C} (hc0_0:RsC zg x0.l c0_0) {l0:Loc} {o0:Nat} (ha0:AtC h l0 o0 ([c0_0])) (x1:Int):Sim (z3i x0 x1) (ev G X0 96 σ [(.ref l0 o0),(.p (.int .i64 x1))] h) (fun r s=>s=([.v (.p (.bool r))],h)):=by
 refine .ev rfl (Sim.ext (z7s _ _ _ _ _ _) ?_)
 rw [z3i]
 have S0:Fm 18 h [] [] [] (List.replicate 18 []::h):=Fm.start0
 refine .call (z1j x0 hc0_0 (S0.lowA ha0) x1) fun r1 cs2 H3 h4 q5=>?_
 cases q5
 refine .ab ?_
 refine .ch (P:=fun r y=>r=y) ?_ (fun b15 y16 h17 h18=>?_)
 ·refine .cq ?_ ?_
  ·refine .nc ?_
   refine .fa ?_
   refine .op (RsC.ld hc0_0 (S0.lowA ha0) (j:=0) rfl) ?_
   refine .bd fun a6 h7=>?_
   obtain ⟨lr8,w9,e10,h11,har12⟩:=RsH.el (RsC.rs hc0_0 ha0 (j:=0) rfl) h7 (e:=10) rfl
   obtain ⟨s13_3,s13_4,rfl⟩:=h11
   refine .op (e10) ?_
   refine .fa ?_
   refine .op ((S0.lowA har12).ld (j:=7) rfl) ?_
   refine .ab ?_
   exact .ret rfl rfl
  ·exact .ret rfl rfl
 subst h18
 exact .fin (S0.finN (lC (sB _).lv lN)) rfl
end
end Go.Ev
namespace Go.Ev
open Go.Proofs
set_option linter.unusedVariables false
set_option linter.unusedSimpArgs false
set_option maxRecDepth 100000
noncomputable section
abbrev KT14:=Exit→Env→H→Option (List C × H)
variable (rec : CallF) (loop : LoopV) (σ : Stamp)
theorem z8w (x0:V) (x1:Int) (h:H):cvBody G rec loop 97 σ [x0,(.p (.int .i64 x1))] h =
(callO rec 89 (2::0::1::0::σ) [x0,(.p (.int .i64 x1))] (List.replicate 18 []::h) (some 7)).bind fun q1 =>
(asB q1.1).bind fun b2 =>
(bif b2 then ((nilChk x0).bind fun t3 =>
(fA t3 0).bind fun t4 =>
(ldO false 1 q1.2 t4).bind fun t5 =>
(iS 10 t5 x1).bind fun t6 =>
(fA t6 8).bind fun t7 =>
(ldO false 1 q1.2 t7).bind fun t8 =>
(asB t8).bind fun b9 =>
some b9) else (some false)).bind fun b10 =>
fin false σ q1.2 [(.p (.bool b10))]:=by kernel_rfl
end
end Go.Ev
namespace Go.Ev
open Go.Proofs
set_option linter.unusedVariables false
set_option linter.unusedSimpArgs false
set_option maxRecDepth 100000
section
variable {β α : Type} {Q : β→α→Prop} {K : Exit × Env × H→Option α}
def z4e (x0:z8) (x1:Int):Option (Bool) :=
(zx x0 x1).bind fun r1 =>
(bif r1 then ((ix x0.l x1).bind fun a6 =>
some a6.woken) else (some false)).bind fun b15 =>
some (b15)
theorem zal {h:H} {σ:Stamp} (x0:z8) {c0_0:C} (hc0_0:RsC zg x0.l c0_0) {l0:Loc} {o0:Nat} (ha0:AtC h l0 o0 ([c0_0])) (x1:Int):Sim (z4e x0 x1) (ev G X0 97 σ [(.ref l0 o0),(.p (.int .i64 x1))] h) (fun r s=>s=([.v (.p (.bool r))],h)):=by
 refine .ev rfl (Sim.ext (z8w _ _ _ _ _ _) ?_)
 rw [z4e]
 have S0:Fm 18 h [] [] [] (List.replicate 18 []::h):=Fm.start0
 refine .call (z1j x0 hc0_0 (S0.lowA ha0) x1) fun r1 cs2 H3 h4 q5=>?_
 cases q5
 refine .ab ?_
 refine .ch (P:=fun r y=>r=y) ?_ (fun b15 y16 h17 h18=>?_)
 ·refine .cq ?_ ?_
  ·refine .nc ?_
   refine .fa ?_
   refine .op (RsC.ld hc0_0 (S0.lowA ha0) (j:=0) rfl) ?_
   refine .bd fun a6 h7=>?_
   obtain ⟨lr8,w9,e10,h11,har12⟩:=RsH.el (RsC.rs hc0_0 ha0 (j:=0) rfl) h7 (e:=10) rfl
   obtain ⟨s13_3,s13_4,rfl⟩:=h11
   refine .op (e10) ?_
   refine .fa ?_
   refine .op ((S0.lowA har12).ld (j:=8) rfl) ?_
   refine .ab ?_
   exact .ret rfl rfl
  ·exact .ret rfl rfl
 subst h18
 exact .fin (S0.finN (lC (sB _).lv lN)) rfl
end
end Go.Ev
namespace Go.Ev
namespace Lay
abbrev One:=z18
abbrev Ly:=z8
structure OkE (e:One):Prop where
 s0:-1≤e.seen.last
 s1:e.seen.last<9223372036854775808
 m0:0≤e.meter.last
 m1:e.meter.last<1152921504606846976
theorem zcb (a b:Int):∃ r,z3f a b=some r:=⟨_,rfl⟩
theorem zg4 (a b:Int):∃ r,z2p a b=some r:=by
 unfold z2p z24 divP remP
 simp only [Option.bind_some]
 by_cases h:IntKind.wrap .u64 (if b>0 then b else 0)=0
 ·rw [beq_iff_eq.2 h];exact ⟨_,rfl⟩
 ·rw [beq_eq_false_iff_ne.2 h,cond_false,if_neg h,if_neg h,Option.bind_some,Option.bind_some]
  cases decide (Int.tmod (IntKind.wrap .u64 (if a>0 then a else 0)) (IntKind.wrap .u64 (if b>0 then b else 0))>0)
  ·exact ⟨_,rfl⟩
  ·exact ⟨_,rfl⟩
theorem zmy {α:Type} {c:Bool} {x y:α}:∃ r,(bif c then some x else some y)=some r:=by
 cases c
 ·exact ⟨y,rfl⟩
 ·exact ⟨x,rfl⟩
theorem zme (a b:Int):∃ r,z4j a b=some r:=by
 unfold z4j z24 z3o
 simp only [Option.bind_some]
 exact zmy
theorem zky {now:Int} (h0:0≤now) (h1:now<1152921504606846976):z41 now=some (now / 100000):=by
 unfold z41
 have e:(if now>0 then now else 0)=now:=by split<;>omega
 rw [e,Int.tdiv_eq_ediv_of_nonneg h0,wrap_i64 (by omega) (by omega)]
theorem mod5 {x:Int} (h:0≤x):0≤Int.tmod x 5∧Int.tmod x 5<5:=by
 rw [Int.tmod_eq_emod_of_nonneg h];omega
theorem ix5 {a b c d e i:Int} (h:0≤i∧i<5):∃ v,ix [a,b,c,d,e] i=some v:=by
 obtain ⟨n,rfl⟩:∃ n:Nat,i=n:=⟨i.toNat,by omega⟩
 exact ⟨_,ix_at (List.getElem?_eq_getElem (by simp only [List.length_cons,List.length_nil];omega))⟩
theorem stx5 {a b c d e i v:Int} (h:0≤i∧i<5):∃ l,stx [a,b,c,d,e] i v=some l:=by
 unfold stx
 rw [if_pos ⟨h.1,by simp only [List.length_cons,List.length_nil];omega⟩]
 exact ⟨_,rfl⟩
theorem znu (kE:Int→Int→z6→Option z6) (x1 at_ n:Int):∀ m k:Nat,∀ (i:Int) (z:z6),n-i≤m→0≤i→n≤5→m<k→0≤z.last→n≤at_-z.last→at_<1152921504606846976 →
  ∃ z',z14 k kE x1 at_ n i z=kE x1 at_ z'∧z'.last=z.last:=by
 intro m
 induction m with
 | zero =>
  intro k i z h hi hn hk hz hd ha
  obtain ⟨k,rfl⟩:∃ j,k=j+1:=⟨k-1,by omega⟩
  rw [z14,decide_eq_false (by omega),cond_false]
  exact ⟨_,rfl,rfl⟩
 | succ m ih =>
  intro k i z h hi hn hk hz hd ha
  obtain ⟨k,rfl⟩:∃ j,k=j+1:=⟨k-1,by omega⟩
  rw [z14]
  by_cases hlt:i<n
  ·have h5:=mod5 (x:=at_-i) (by omega)
   rw [decide_eq_true hlt,cond_true,wrap_i64 (n:=at_-i) (by omega) (by omega)]
   obtain ⟨v,hv⟩:=ix5 (a:=z.slots.getD 0 0) (b:=z.slots.getD 1 0) (c:=z.slots.getD 2 0) (d:=z.slots.getD 3 0) (e:=z.slots.getD 4 0) h5
   obtain ⟨l,hl⟩:=stx5 (a:=z.slots.getD 0 0) (b:=z.slots.getD 1 0) (c:=z.slots.getD 2 0) (d:=z.slots.getD 3 0) (e:=z.slots.getD 4 0) (v:=0) h5
   rw [hv,Option.bind_some,hl,Option.bind_some,wrap_i64 (n:=i+1) (by omega) (by omega)]
   obtain ⟨z',q1,q2⟩:=ih k (i+1) ⟨[l.getD 0 0,l.getD 1 0,l.getD 2 0,l.getD 3 0,l.getD 4 0],z.last,z.total⟩ (by omega) (by omega) hn (by omega) hz hd ha
   exact ⟨z',q1,q2⟩
  ·rw [decide_eq_false hlt,cond_false]
   exact ⟨_,rfl,rfl⟩
theorem zoc {m:z6} {n now:Int} (m0:0≤m.last) (m1:m.last<1152921504606846976) (n0:0≤now) (n1:now<1152921504606846976) {k:Nat} (hk:10≤k) :
  ∃ m',z1v k m n now=some m'∧0≤m'.last∧m'.last<1152921504606846976:=by
 unfold z1v
 by_cases h:n<0
 ·rw [decide_eq_true h,cond_true]
  exact ⟨_,rfl,m0,m1⟩
 ·rw [decide_eq_false h,cond_false,zky n0 n1,Option.bind_some]
  obtain ⟨at_,hat⟩:∃ at_,at_=if now / 100000>m.last then now / 100000 else m.last:=⟨_,rfl⟩
  have a0:m.last≤at_∧at_<1152921504606846976:=by rw [hat];split<;>omega
  rw [← hat,wrap_i64 (n:=at_-m.last) (by omega) (by omega)]
  obtain ⟨c,hc⟩:∃ c,c=if 5<at_-m.last then 5 else at_-m.last:=⟨_,rfl⟩
  have c0:0≤c∧c≤5∧c≤at_-m.last:=by rw [hc];split<;>omega
  rw [← hc]
  generalize hK:(fun (r19_1 r19_6:Int) (zp0:z6)=>_)=K
  obtain ⟨z',q1,q2⟩:=znu K n at_ c 5 k 0 ⟨[m.slots.getD 0 0,m.slots.getD 1 0,m.slots.getD 2 0,m.slots.getD 3 0,m.slots.getD 4 0],m.last,m.total⟩ (by omega) (by omega) c0.2.1 (by omega) m0 (by simp only;omega) a0.2
  have h5:=mod5 (x:=at_) (by omega)
  rw [q1,← hK]
  simp only
  obtain ⟨v,hv⟩:=ix5 (a:=z'.slots.getD 0 0) (b:=z'.slots.getD 1 0) (c:=z'.slots.getD 2 0) (d:=z'.slots.getD 3 0) (e:=z'.slots.getD 4 0) h5
  obtain ⟨r,hr⟩:=zcb v n
  obtain ⟨l,hl⟩:=stx5 (a:=z'.slots.getD 0 0) (b:=z'.slots.getD 1 0) (c:=z'.slots.getD 2 0) (d:=z'.slots.getD 3 0) (e:=z'.slots.getD 4 0) (v:=r) h5
  obtain ⟨r2,hr2⟩:=zcb z'.total n
  rw [hv,Option.bind_some,hr,Option.bind_some,Option.bind_some,hl,Option.bind_some,hr2,Option.bind_some]
  exact ⟨_,rfl,by simp only;omega,by simp only;omega⟩
theorem znl (kE:Int→Option Int):∀ m k:Nat,∀ (z:z6) (s x:Int),z.last+1-x≤m→m<k→-10≤x→0≤z.last→z.last<1152921504606846976→x<1152921504606846986→∃ s',zp k kE z s x=kE s':=by
 intro m
 induction m with
 | zero =>
  intro k z s x h hk hx z0 z1 x1
  obtain ⟨k,rfl⟩:∃ j,k=j+1:=⟨k-1,by omega⟩
  rw [zp,decide_eq_false (by omega),cond_false]
  exact ⟨_,rfl⟩
 | succ m ih =>
  intro k z s x h hk hx z0 z1 x1
  obtain ⟨k,rfl⟩:∃ j,k=j+1:=⟨k-1,by omega⟩
  rw [zp]
  by_cases hle:x≤z.last
  ·rw [decide_eq_true hle,cond_true,wrap_i64 (n:=x+1) (by omega) (by omega),wrap_i64 (n:=z.last-5) (by omega) (by omega)]
   have nx:∀ s2,∃ s',zp k kE ⟨[z.slots.getD 0 0,z.slots.getD 1 0,z.slots.getD 2 0,z.slots.getD 3 0,z.slots.getD 4 0],z.last,z.total⟩ s2 (x+1)=kE s':=fun s2=>ih k _ s2 (x+1) (by simp only;omega) (by omega) (by omega) z0 z1 (by omega)
   by_cases h0:x≥0
   ·rw [decide_eq_true h0,cond_true,Option.bind_some]
    cases decide (x>z.last-5) with
    | true =>
     obtain ⟨v,hv⟩:=ix5 (a:=z.slots.getD 0 0) (b:=z.slots.getD 1 0) (c:=z.slots.getD 2 0) (d:=z.slots.getD 3 0) (e:=z.slots.getD 4 0) (mod5 h0)
     obtain ⟨r,hr⟩:=zcb s v
     rw [cond_true,hv,Option.bind_some,hr,Option.bind_some]
     exact nx r
    | false=>rw [cond_false];exact nx s
   ·rw [decide_eq_false h0,cond_false,Option.bind_some,cond_false]
    exact nx s
  ·rw [decide_eq_false hle,cond_false]
   exact ⟨_,rfl⟩
theorem zng {m:z6} {now:Int} (m0:0≤m.last) (m1:m.last<1152921504606846976) (n0:0≤now) (n1:now<1152921504606846976) {k:Nat} (hk:10≤k):∃ r,z26 k m now=some r:=by
 unfold z26
 rw [zky n0 n1,Option.bind_some]
 obtain ⟨at_,hat⟩:∃ at_,at_=if now / 100000>m.last then now / 100000 else m.last:=⟨_,rfl⟩
 have a0:m.last≤at_∧at_<1152921504606846976:=by rw [hat];split<;>omega
 rw [← hat,wrap_i64 (n:=at_-5) (by omega) (by omega),wrap_i64 (n:=at_-5+1) (by omega) (by omega)]
 obtain ⟨s',e⟩:=znl (fun r27_6=>(z4j r27_6 1000000).bind fun r30=>(z2p r30 500000).bind fun r35=>some r35) 5 k ⟨[m.slots.getD 0 0,m.slots.getD 1 0,m.slots.getD 2 0,m.slots.getD 3 0,m.slots.getD 4 0],m.last,m.total⟩ 0 (at_-5+1) (by simp only;omega) (by omega) (by omega) m0 m1 (by omega)
 rw [e]
 obtain ⟨v,hv⟩:=zme s' 1000000
 obtain ⟨w,hw⟩:=zg4 v 500000
 rw [hv,Option.bind_some,hw,Option.bind_some]
 exact ⟨_,rfl⟩
theorem zdg {L:Ly} {i:Int} {e:One} (h:ix L.l i=some e):zx L i=some true:=by
 obtain ⟨h0,hi,_⟩:=z5j h
 unfold zx
 rw [decide_eq_true (show i≥0 from h0),cond_true,decide_eq_true (by omega),Option.bind_some]
theorem zom {i now:Int} {e:One} {L:Ly} (hL:ix L.l i=some e):z1w L i now=some (e.came&&(!e.resting&&decide (now<e.f_until))):=by
 unfold z1w
 rw [zdg hL,Option.bind_some,cond_true,hL,Option.bind_some,Option.bind_some]
 simp only [Option.bind_some]
 cases e.came<;>cases e.resting<;>rfl
end Lay
end Go.Ev
namespace Go.Ev
open Go.Proofs
set_option linter.unusedVariables false
set_option linter.unusedSimpArgs false
set_option maxRecDepth 100000
noncomputable section
abbrev KT15:=Exit→Env→H→Option (List C × H)
variable (rec : CallF) (loop : LoopV) (σ : Stamp)
theorem zfs (x0:Int) (x1:Int) (x2:Int) (h:H):cvBody G rec loop 30 σ [(.p (.int .i64 x0)),(.p (.int .i64 x1)),(.p (.int .i64 x2))] h =
(bif decide (x0≥x1) then (some (decide (x0≤x2))) else (some false)).bind fun b1 =>
bif b1 then (
fin false σ (List.replicate 33 []::h) [(.p (.int .i64 x0))])
else (
(remI .i64 x0 (IntKind.wrap .i64 ((IntKind.wrap .i64 (x2-x1))+1))).bind fun t2 =>
(castI .i64 t2).bind fun n3 =>
bif decide (n3<0) then (
fin false σ (List.replicate 33 []::h) [(.p (.int .i64 (IntKind.wrap .i64 (x1+(IntKind.wrap .i64 ((IntKind.wrap .i64 ((IntKind.wrap .i64 (n3+x2))-x1))+1))))))])
else (
fin false σ (List.replicate 33 []::h) [(.p (.int .i64 (IntKind.wrap .i64 (x1+n3))))])):=by kernel_rfl
end
end Go.Ev
namespace Go.Ev
open Go.Proofs
set_option linter.unusedVariables false
set_option linter.unusedSimpArgs false
set_option maxRecDepth 100000
section
variable {β α : Type} {Q : β→α→Prop} {K : Exit × Env × H→Option α}
def z5v (x0:Int) (x1:Int) (x2:Int):Option (Int) :=
(bif decide (x0≥x1) then (some (decide (x0≤x2))) else (some false)).bind fun b1 =>
bif b1 then (
some (x0))
else (
(remP x0 (IntKind.wrap .i64 ((IntKind.wrap .i64 (x2-x1))+1))).bind fun n6 =>
bif decide (n6<0) then (
some ((IntKind.wrap .i64 (x1+(IntKind.wrap .i64 ((IntKind.wrap .i64 ((IntKind.wrap .i64 (n6+x2))-x1))+1))))))
else (
some ((IntKind.wrap .i64 (x1+n6)))))
theorem zjw {h:H} {σ:Stamp} (x0:Int) (x1:Int) (x2:Int):Sim (z5v x0 x1 x2) (ev G X0 30 σ [(.p (.int .i64 x0)),(.p (.int .i64 x1)),(.p (.int .i64 x2))] h) (fun r s=>s=([.v (.p (.int .i64 r))],h)):=by
 refine .ev rfl (Sim.ext (zfs _ _ _ _ _ _ _) ?_)
 rw [z5v]
 have S0:Fm 33 h [] [] [] (List.replicate 33 []::h):=Fm.start0
 refine .ch (P:=fun r y=>r=y) ?_ (fun b1 y2 h3 h4=>?_)
 ·refine .cq ?_ ?_
  ·exact .ret rfl rfl
  ·exact .ret rfl rfl
 subst h4
 refine .cq ?_ ?_
 ·exact .fin (S0.finN (lC (sI _ _).lv lN)) rfl
 refine .bd fun n6 h7=>?_
 refine .op (zdf h7) ?_
 refine .ci ?_
 refine .cq ?_ ?_
 ·exact .fin (S0.finN (lC (sI _ _).lv lN)) rfl
 exact .fin (S0.finN (lC (sI _ _).lv lN)) rfl
end
end Go.Ev
namespace Go.Ev
theorem zmc {x hi:Int} (h0:0≤hi) (h1:hi<2^40):∃ r,z5v x 0 hi=some r∧0≤r∧r≤hi:=by
 unfold z5v
 by_cases h:0≤x∧x≤hi
 ·refine ⟨x,?_,h.1,h.2⟩
  have e1:decide (x≥0)=true:=by simpa using h.1
  have e2:decide (x≤hi)=true:=by simpa using h.2
  simp only [e1,e2,cond_true,Option.bind_some]
 ·have e:∀ (a:Bool) (b:Bool),(a&&b)=false→((bif a then (some b) else (some false)):Option Bool)=some false:=by
   intro a b;cases a<;>cases b<;>simp
  rw [e (decide (x≥0)) (decide (x≤hi)) (by simp;omega),Option.bind_some,cond_false]
  have w1:IntKind.wrap .i64 (IntKind.wrap .i64 (hi-0)+1)=hi+1:=by
   rw [wrap_i64 (n:=hi-0) (by omega) (by omega),wrap_i64 (by omega) (by omega)];omega
  have hb:-(hi+1)<x.tmod (hi+1)∧x.tmod (hi+1)<hi+1:=by
   have h1:=Int.tmod_lt_of_pos x (show 0<hi+1 by omega)
   have h2:=Int.neg_tmod x (hi+1)
   have h3:=Int.tmod_lt_of_pos (-x) (show 0<hi+1 by omega)
   omega
  rw [w1]
  unfold remP
  rw [if_neg (by omega),Option.bind_some]
  generalize x.tmod (hi+1)=m at hb
  by_cases hm:m<0
  ·have:decide (m<0)=true:=by simpa using hm
   rw [this,cond_true]
   refine ⟨_,rfl,?_⟩
   rw [wrap_i64 (n:=m+hi) (by omega) (by omega),wrap_i64 (n:=m+hi-0) (by omega) (by omega),wrap_i64 (n:=m+hi-0+1) (by omega) (by omega),wrap_i64 (by omega) (by omega)]
   omega
  ·have:decide (m<0)=false:=by simpa using hm
   rw [this,cond_false]
   refine ⟨_,rfl,?_⟩
   rw [wrap_i64 (by omega) (by omega)]
   omega
end Go.Ev
namespace Go.Ev
open Go.Proofs
set_option linter.unusedVariables false
set_option linter.unusedSimpArgs false
set_option maxRecDepth 100000
noncomputable section
abbrev KT16:=Exit→Env→H→Option (List C × H)
variable (rec : CallF) (loop : LoopV) (σ : Stamp)
theorem zc3 (x0:V) (x1:Int) (h:H):cvBody G rec loop 56 σ [x0,(.p (.int .i64 x1))] h =
(nilChk x0).bind fun t1 =>
(fA t1 1).bind fun t2 =>
(ldO false 1 (List.replicate 40 []::h) t2).bind fun t3 =>
(castI .i64 t3).bind fun n4 =>
(nilChk x0).bind fun t5 =>
(fA t5 0).bind fun t6 =>
(ldO false 1 (List.replicate 40 []::h) t6).bind fun t7 =>
(lenO t7).bind fun t8 =>
(castI .i64 t8).bind fun n9 =>
(bif decide (n4≥n9) then (some true) else (some (decide (x1<1)))).bind fun b10 =>
bif b10 then (
fin false σ (List.replicate 40 []::h) [(.p (.int .i64 0))])
else (
(nilChk x0).bind fun t11 =>
(fA t11 1).bind fun t12 =>
(ldO false 1 (List.replicate 40 []::h) t12).bind fun t13 =>
(castI .i64 t13).bind fun n14 =>
(nilChk x0).bind fun t15 =>
(fA t15 1).bind fun t16 =>
((stO true 1 (7::0::1::1::0::σ) (List.replicate 40 []::h) t16 (.p (.int .i64 (IntKind.wrap .i64 (n14+1))))).map fun h=>(udf,h)).bind fun q17 =>
(nilChk x0).bind fun t18 =>
(fA t18 0).bind fun t19 =>
(ldO false 1 q17.2 t19).bind fun t20 =>
(nilChk x0).bind fun t21 =>
(fA t21 1).bind fun t22 =>
(ldO false 1 q17.2 t22).bind fun t23 =>
(castI .i64 t23).bind fun n24 =>
(iS 1 t20 (IntKind.wrap .i64 (n24-1))).bind fun t25 =>
(ldO false 1 q17.2 t25).bind fun t26 =>
(castI .i64 t26).bind fun n27 =>
(callO rec 30 (11::0::1::1::1::0::σ) [(.p (.int .i64 n27)),(.p (.int .i64 0)),(.p (.int .i64 1073741824))] q17.2 (some 37)).bind fun q28 =>
(castI .i64 q28.1).bind fun n29 =>
(remI .i64 n29 x1).bind fun t30 =>
(castI .i64 t30).bind fun n31 =>
fin false σ q28.2 [(.p (.int .i64 n31))]):=by kernel_rfl
end
end Go.Ev
namespace Go.Ev
open Go.Proofs
set_option linter.unusedVariables false
set_option linter.unusedSimpArgs false
set_option maxRecDepth 100000
section
variable {β α : Type} {Q : β→α→Prop} {K : Exit × Env × H→Option α}
def z2o (x0:TzTape) (x1:Int):Option (Int×TzTape) :=
(bif decide (x0.f_At≥((x0.f_L.length:Int))) then (some true) else (some (decide (x1<1)))).bind fun b1 =>
bif b1 then (
some (0,x0))
else (
(ix x0.f_L (IntKind.wrap .i64 ((IntKind.wrap .i64 (x0.f_At+1))-1))).bind fun a9 =>
(z5v a9 0 1073741824).bind fun r12 =>
(remP r12 x1).bind fun n17 =>
some (n17,(⟨x0.f_L,(IntKind.wrap .i64 (x0.f_At+1))⟩:TzTape)))
theorem z9h {h:H} {σ:Stamp} (x0:TzTape) {u0_0:V} (hu0_0:SlF (dI .i64) x0.f_L u0_0) {l0:Loc} {o0:Nat} (ha0:AtC h l0 o0 (List.map C.v [u0_0,(.p (.int .i64 x0.f_At))])) (x1:Int):Sim (z2o x0 x1) (ev G X0 56 σ [(.ref l0 o0),(.p (.int .i64 x1))] h) (fun r s=>∃ (vb0_0:V),SlF (dI .i64) r.2.f_L vb0_0∧s=([.v (.p (.int .i64 r.1))],pts h [⟨l0,o0,[.v vb0_0,.v (.p (.int .i64 r.2.f_At))]⟩])):=by
 refine .ev rfl (Sim.ext (zc3 _ _ _ _ _ _) ?_)
 rw [z2o]
 have S0:Fm 40 h [⟨l0,o0,List.map C.v [u0_0,(.p (.int .i64 x0.f_At))]⟩] [] [] (List.replicate 40 []::h):=Fm.start1 ha0
 refine .nc ?_
 refine .fa ?_
 refine .op ((S0.atB (i:=0) rfl).ld (j:=1) rfl) ?_
 refine .ci ?_
 refine .nc ?_
 refine .fa ?_
 refine .op ((S0.atB (i:=0) rfl).ld (j:=0) rfl) ?_
 refine .op ((hu0_0.h (List.replicate 40 []::h)).len) ?_
 refine .ci ?_
 refine .ch (P:=fun r y=>r=y) ?_ (fun b1 y2 h3 h4=>?_)
 ·refine .cq ?_ ?_
  ·exact .ret rfl rfl
  ·exact .ret rfl rfl
 subst h4
 refine .cq ?_ ?_
 ·exact .fin (S0.finN (lC (sI _ _).lv lN)) ⟨u0_0,hu0_0,rfl⟩
 refine .nc ?_
 refine .fa ?_
 refine .op ((S0.atB (i:=0) rfl).ld (j:=1) rfl) ?_
 refine .ci ?_
 refine .nc ?_
 refine .fa ?_
 obtain ⟨H6,e7,S8⟩:=S0.stB (i:=0) (j:=1) (own:=true) (σ:=(7::0::1::1::0::σ)) (x:=(.p (.int .i64 (IntKind.wrap .i64 (x0.f_At+1))))) rfl (sI _ _) rfl
 refine .op (sM e7) ?_
 refine .nc ?_
 refine .fa ?_
 refine .op ((S8.atB (i:=0) rfl).ld (j:=0) rfl) ?_
 refine .nc ?_
 refine .fa ?_
 refine .op ((S8.atB (i:=0) rfl).ld (j:=1) rfl) ?_
 refine .ci ?_
 refine .bd fun a9 h10=>?_
 refine .op ((hu0_0.h H6).iS h10 rfl) ?_
 obtain ⟨_,rfl,hE11⟩:=(hu0_0.h H6).el h10 rfl
 refine .op (hE11.ld (j:=0) rfl) ?_
 refine .ci ?_
 refine .call (zjw a9 0 1073741824) fun r12 cs13 H14 h15 q16=>?_
 cases q16
 refine .ci ?_
 refine .bd fun n17 h18=>?_
 refine .op (zdf h18) ?_
 refine .ci ?_
 exact .fin (S8.finN (lC (sI _ _).lv lN)) ⟨u0_0,hu0_0,rfl⟩
end
end Go.Ev
namespace Go.Ev
def TP (t:TzTape):Prop:=0≤t.f_At∧t.f_At≤t.f_L.length∧t.f_L.length<2^50
theorem z4w {t:TzTape} (h:TP t) {n:Int} (h1:1≤n):∃ r t',z2o t n=some (r,t')∧(0≤r∧r<n)∧TP t':=by
 obtain ⟨a1,a2,a3⟩:=h
 unfold z2o
 have e2:decide (n<1)=false:=by simp;omega
 by_cases hc:t.f_At≥t.f_L.length
 ·have e1:decide (t.f_At≥(t.f_L.length:Int))=true:=by simpa using hc
  simp only [e1,cond_true,Option.bind_some]
  exact ⟨0,t,rfl,⟨by omega,by omega⟩,a1,a2,a3⟩
 ·have e1:decide (t.f_At≥(t.f_L.length:Int))=false:=by simpa using hc
  obtain ⟨i,hi⟩:∃ i:Nat,t.f_At=i:=⟨t.f_At.toNat,by omega⟩
  have hlt:i<t.f_L.length:=by omega
  have w1:IntKind.wrap .i64 (t.f_At+1)=t.f_At+1:=wrap_i64 (by omega) (by omega)
  have w2:IntKind.wrap .i64 (t.f_At+1-1)=(i:Int):=by rw [wrap_i64 (by omega) (by omega)];omega
  have hx:ix t.f_L (i:Int)=some t.f_L[i]:=ix_at (by simp [hlt])
  obtain ⟨r,hr,r0,r1⟩:=zmc (x:=t.f_L[i]) (hi:=1073741824) (by omega) (by omega)
  simp only [e1,e2,cond_false,Option.bind_some,w1,w2,hx,hr]
  unfold remP
  rw [if_neg (by omega),Option.bind_some]
  refine ⟨_,_,rfl,⟨Int.tmod_nonneg _ r0,Int.tmod_lt_of_pos _ (by omega)⟩,?_⟩
  unfold TP
  simp only
  omega
end Go.Ev
namespace Go.Ev
open Go.Proofs
set_option linter.unusedVariables false
set_option linter.unusedSimpArgs false
set_option maxRecDepth 100000
noncomputable section
abbrev KT17:=Exit→Env→H→Option (List C × H)
variable (rec : CallF) (loop : LoopV) (σ : Stamp)
def z2h:Code:=(codeAt (bodyOf Try.f12) [1,1,1,1,0,1,0,0])
def z2e:Lv:=⟨390,64,[(0,390)]⟩
def z6d:KT17:=(kBlock 0 (kSeq G rec loop (codeAt (bodyOf Try.f12) [1,1,1,1,1]) ⟨64,64,[]⟩ (1::1::1::1::0::σ) (finC G false Try.f12 (1::σ))))
def z2i:Code:=(codeAt (bodyOf Try.f12) [1,1,1,1,1,1,1,1,0,1,0,0])
def z2g:Lv:=⟨0,64,[(2,0)]⟩
def z4b:KT17:=(kBlock 2 (kSeq G rec loop (codeAt (bodyOf Try.f12) [1,1,1,1,1,1,1,1,1]) ⟨64,64,[]⟩ (1::1::1::1::1::1::1::1::0::σ) (finC G false Try.f12 (1::σ))))
theorem z9b (x0:V) (x1:Int) (x2:Int) (h:H):cvBody G rec loop 12 σ [x0,(.p (.int .i64 x1)),(.p (.int .i64 x2))] h =
(buildV Try.prog 76 [(0,x0)]).bind fun t1 =>
(boxO true (2::0::1::0::σ) 20 (List.replicate 133 []::h) t1).bind fun q2 =>
(callO rec 39 (3::0::1::0::σ) [q2.1,(.p (.int .i64 1))] q2.2 (some 21)).bind fun q3 =>
(callO rec 40 (1::0::1::1::0::σ) [q3.1] q3.2 (some 23)).bind fun q4 =>
(binV Try.prog q4.2 .eql 77 q4.1 (.p (.pointer .none))).bind fun t5 =>
(asB t5).bind fun b6 =>
bif b6 then (
fin false σ q4.2 [(.p (.bool false))])
else (
(lenO q3.1).bind fun t7 =>
(castI .i64 t7).bind fun n8 =>
(loop z2h z2e (1::0::1::1::1::1::0::σ) (envL [(1,(.p (.int .i64 x1))),(2,(.p (.int .i64 x2))),(7,q3.1),(8,q4.1),(27,(.p (.int .i64 n8))),(28,(.p (.int .i64 0)))]) q4.2).bind fun r9=>z6d rec loop σ r9.1 r9.2.1 r9.2.2):=by kernel_rfl
theorem zas (x1:Int) (x2:Int) (x7:V) (x8:V) (x27:Int) (x28:Int) (h:H):zo G rec loop z2h z2e σ (envL [(1,(.p (.int .i64 x1))),(2,(.p (.int .i64 x2))),(7,x7),(8,x8),(27,(.p (.int .i64 x27))),(28,(.p (.int .i64 x28)))]) h =
bif decide (x28<x27) then (
(iS 3 x7 x28).bind fun t10 =>
(ldO true 3 h t10).bind fun t11 =>
(callO rec 41 (4::0::1::0::1::1::0::σ) [t11,(.p (.int .u16 1)),(.p (.int .u32 1)),(.p (.bool true)),(.p (.int .i64 50))] h (some 35)).bind fun q12 =>
(callO rec 42 (1::0::1::1::0::1::1::0::σ) [q12.1] q12.2 (some 38)).bind fun q13 =>
(extV q13.1 0).bind fun t14 =>
(extV q13.1 1).bind fun t15 =>
(castI .i64 t15).bind fun n16 =>
(some (alO [.p (.bool false),.p (.int .i64 0),.p (.int .u16 0),.p (.int .u32 0),.p (.int .u32 0),.p (.slice none 0 0),.p (.int .u16 0),.p (.slice none 0 0),.p (.slice none 0 0)] (5::0::1::1::0::1::1::0::σ) 11 q13.2)).bind fun q17 =>
((stO true 9 (6::0::1::1::0::1::1::0::σ) q17.2 q17.1 t14).map fun h=>(udf,h)).bind fun q18 =>
(ldO true 9 q18.2 q17.1).bind fun t19 =>
(lenO q12.1).bind fun t20 =>
(castI .i64 t20).bind fun n21 =>
(callO rec 43 (5::1::1::1::0::1::1::0::σ) [x8,(.p (.int .i64 x28)),t19,(.p (.int .i64 n21)),(.p (.int .i64 5))] q18.2 (some 46)).bind fun q22 =>
loop z2h z2e (1::σ) (envL [(1,(.p (.int .i64 x1))),(2,(.p (.int .i64 x2))),(7,x7),(8,x8),(27,(.p (.int .i64 x27))),(28,(.p (.int .i64 (IntKind.wrap .i64 (x28+1)))))]) q22.2)
else (
some ((.exit 0),(envL [(1,(.p (.int .i64 x1))),(2,(.p (.int .i64 x2))),(7,x7),(8,x8)]),h)):=by kernel_rfl
theorem za4 (x1:Int) (x2:Int) (x7:V) (x8:V) (h:H):z6d rec loop σ (.exit 0) (envL [(1,(.p (.int .i64 x1))),(2,(.p (.int .i64 x2))),(7,x7),(8,x8)]) h =
(callO rec 44 (2::0::1::1::1::1::1::1::0::σ) [x8,(.p (.int .i64 (intBits .and .i64 x1 1023))),(.p (.int .i64 1)),(.p (.int .i64 6)),(.p (.bool false))] h (some 57)).bind fun q23 =>
(callO rec 44 (5::0::1::1::1::1::1::1::0::σ) [x8,(.p (.int .i64 (IntKind.wrap .i64 ((intBits .and .i64 x1 1023)+(intBits .and .i64 x2 511))))),(.p (.int .i64 1)),(.p (.int .i64 6)),(.p (.bool false))] q23.2 (some 60)).bind fun q24 =>
(some (alO [.p (.int .i64 0),.p (.slice none 0 0),.p (.slice none 0 0)] (6::0::1::1::1::1::1::1::0::σ) 15 q24.2)).bind fun q25 =>
(some (alO [.p (.int .i64 0),.p (.slice none 0 0),.p (.slice none 0 0)] (7::0::1::1::1::1::1::1::0::σ) 16 q25.2)).bind fun q26 =>
((stO false 3 (8::0::1::1::1::1::1::1::0::σ) q26.2 q25.1 q23.1).map fun h=>(udf,h)).bind fun q27 =>
((stO false 3 (9::0::1::1::1::1::1::1::0::σ) q27.2 q26.1 q24.1).map fun h=>(udf,h)).bind fun q28 =>
(fA q25.1 1).bind fun t29 =>
(ldO false 1 q28.2 t29).bind fun t30 =>
(lenO t30).bind fun t31 =>
(castI .i64 t31).bind fun n32 =>
(lenO x7).bind fun t33 =>
(castI .i64 t33).bind fun n34 =>
(bif n32 != n34 then (some true) else ((fA q26.1 1).bind fun t35 =>
(ldO false 1 q28.2 t35).bind fun t36 =>
(lenO t36).bind fun t37 =>
(castI .i64 t37).bind fun n38 =>
(lenO x7).bind fun t39 =>
(castI .i64 t39).bind fun n40 =>
some (n38 != n40))).bind fun b41 =>
(bif b41 then (some true) else ((fA q25.1 2).bind fun t42 =>
(ldO false 1 q28.2 t42).bind fun t43 =>
(lenO t43).bind fun t44 =>
(castI .i64 t44).bind fun n45 =>
(lenO x7).bind fun t46 =>
(castI .i64 t46).bind fun n47 =>
some (n45 != n47))).bind fun b48 =>
bif b48 then (
fin false σ q28.2 [(.p (.bool false))])
else (
(lenO x7).bind fun t49 =>
(castI .i64 t49).bind fun n50 =>
(loop z2i z2g (1::0::1::1::1::1::1::1::1::1::0::σ) (envL [(7,x7),(13,(.p (.int .i64 (intBits .and .i64 x1 1023)))),(14,(.p (.int .i64 (IntKind.wrap .i64 ((intBits .and .i64 x1 1023)+(intBits .and .i64 x2 511)))))),(15,q25.1),(16,q26.1),(84,(.p (.int .i64 n50))),(85,(.p (.int .i64 0)))]) q28.2).bind fun r51=>z4b rec loop σ r51.1 r51.2.1 r51.2.2):=by kernel_rfl
theorem zbh (x7:V) (x13:Int) (x14:Int) (x15:V) (x16:V) (x84:Int) (x85:Int) (h:H):zo G rec loop z2i z2g σ (envL [(7,x7),(13,(.p (.int .i64 x13))),(14,(.p (.int .i64 x14))),(15,x15),(16,x16),(84,(.p (.int .i64 x84))),(85,(.p (.int .i64 x85)))]) h =
bif decide (x85<x84) then (
(fA x15 1).bind fun t52 =>
(ldO false 1 h t52).bind fun t53 =>
(iS 1 t53 x85).bind fun t54 =>
(ldO false 1 h t54).bind fun t55 =>
(castI .i64 t55).bind fun n56 =>
(iS 3 x7 x85).bind fun t57 =>
(fA t57 2).bind fun t58 =>
(ldO false 1 h t58).bind fun t59 =>
(castI .i64 t59).bind fun n60 =>
(bif !((decide (n56<0))==(decide (n60>x13))) then (some true) else ((fA x16 1).bind fun t61 =>
(ldO false 1 h t61).bind fun t62 =>
(iS 1 t62 x85).bind fun t63 =>
(ldO false 1 h t63).bind fun t64 =>
(castI .i64 t64).bind fun n65 =>
(iS 3 x7 x85).bind fun t66 =>
(fA t66 2).bind fun t67 =>
(ldO false 1 h t67).bind fun t68 =>
(castI .i64 t68).bind fun n69 =>
some (!((decide (n65<0))==(decide (n69>x14)))))).bind fun b70 =>
(bif b70 then (some true) else ((fA x15 2).bind fun t71 =>
(ldO false 1 h t71).bind fun t72 =>
(iS 1 t72 x85).bind fun t73 =>
(ldO false 1 h t73).bind fun t74 =>
(castI .i64 t74).bind fun n75 =>
(iS 3 x7 x85).bind fun t76 =>
(fA t76 2).bind fun t77 =>
(ldO false 1 h t77).bind fun t78 =>
(castI .i64 t78).bind fun n79 =>
some (n75 != n79))).bind fun b80 =>
bif b80 then (
some (.ret,(envL [(6,(.p (.bool false)))]),h))
else (
loop z2i z2g (1::σ) (envL [(7,x7),(13,(.p (.int .i64 x13))),(14,(.p (.int .i64 x14))),(15,x15),(16,x16),(84,(.p (.int .i64 x84))),(85,(.p (.int .i64 (IntKind.wrap .i64 (x85+1)))))]) h))
else (
some ((.exit 2),(envL []),h)):=by kernel_rfl
theorem za3  (h:H):z4b rec loop σ (.exit 2) (envL []) h =
(callO rec 38 (0::0::1::1::1::1::1::1::1::1::1::0::σ) [] h (some 132)).bind fun q81 =>
(asB q81.1).bind fun b82 =>
fin false σ q81.2 [(.p (.bool b82))]:=by kernel_rfl
theorem z8y (x6:Bool) (h:H):z4b rec loop σ .ret (envL [(6,(.p (.bool x6)))]) h =
fin false σ h [(.p (.bool x6))]:=by kernel_rfl
def z3a:Code:=(codeAt (bodyOf Try.f44) [1,1,1,0,1,0,0])
def z38:Lv:=⟨3072,1024,[(0,3072)]⟩
def z9p:KT17:=(kBlock 0 (kSeq G rec loop (codeAt (bodyOf Try.f44) [1,1,1,1]) ⟨1024,1024,[]⟩ (1::1::1::0::σ) (finC G false Try.f44 (1::σ))))
theorem z7j (x0:V) (x1:Int) (x2:Int) (x3:Int) (x4:Bool) (h:H):cvBody G rec loop 44 σ [x0,(.p (.int .i64 x1)),(.p (.int .i64 x2)),(.p (.int .i64 x3)),(.p (.bool x4))] h =
(some (alO [.p (.int .i64 0),.p (.slice none 0 0),.p (.slice none 0 0)] (0::0::0::σ) 10 (List.replicate 68 []::h))).bind fun q1 =>
(binV Try.prog q1.2 .eql 77 x0 (.p (.pointer .none))).bind fun t2 =>
(asB t2).bind fun b3 =>
bif b3 then (
(buildV Try.prog 92 []).bind fun t4 =>
((stO false 3 (1::0::1::0::1::0::σ) q1.2 q1.1 t4).map fun h=>(udf,h)).bind fun q5 =>
((ldO true 3 q5.2 q1.1).bind fun t6=>(some []).map (t6::·)).bind fun t7=>fin false σ q5.2 t7)
else (
(buildV Try.prog 92 [(0,(.p (.int .i64 x2)))]).bind fun t8 =>
(some (alO [.p (.int .i64 0),.p (.slice none 0 0),.p (.slice none 0 0)] (2::0::1::1::0::σ) 11 q1.2)).bind fun q9 =>
((stO false 3 (3::0::1::1::0::σ) q9.2 q9.1 t8).map fun h=>(udf,h)).bind fun q10 =>
(callO rec 93 (1::0::0::1::1::1::0::σ) [x0] q10.2 (some 20)).bind fun q11 =>
(castI .i64 q11.1).bind fun n12 =>
(loop z3a z38 (1::0::1::1::1::0::σ) (envL [(0,x0),(1,(.p (.int .i64 x1))),(3,(.p (.int .i64 x3))),(4,(.p (.bool x4))),(10,q1.1),(11,q9.1),(20,(.p (.int .i64 n12))),(21,(.p (.int .i64 0)))]) q11.2).bind fun r13=>z9p rec loop σ r13.1 r13.2.1 r13.2.2):=by kernel_rfl
theorem zf2 (x0:V) (x1:Int) (x3:Int) (x4:Bool) (x10:V) (x11:V) (x20:Int) (x21:Int) (h:H):zo G rec loop z3a z38 σ (envL [(0,x0),(1,(.p (.int .i64 x1))),(3,(.p (.int .i64 x3))),(4,(.p (.bool x4))),(10,x10),(11,x11),(20,(.p (.int .i64 x20))),(21,(.p (.int .i64 x21)))]) h =
bif decide (x21<x20) then (
(callO rec 94 (2::0::0::1::1::0::1::1::0::σ) [x0,(.p (.int .i64 x21))] h (some 26)).bind fun q14 =>
(castI .i64 q14.1).bind fun n15 =>
(bif decide (n15≤x1) then ((callO rec 95 (9::0::0::1::1::0::1::1::0::σ) [x0,(.p (.int .i64 x21)),(.p (.int .i64 x3))] q14.2 (some 33)).bind fun q16 =>
(asB q16.1).bind fun b17 =>
(bif b17 then (some ((.p (.bool true)),q16.2)) else ((bif x4 then ((callO rec 96 (15::0::0::1::1::0::1::1::0::σ) [x0,(.p (.int .i64 x21))] q16.2 (some 39)).bind fun q18 =>
(asB q18.1).bind fun b19 =>
(bif b19 then (some ((.p (.bool true)),q18.2)) else ((callO rec 97 (19::0::0::1::1::0::1::1::0::σ) [x0,(.p (.int .i64 x21))] q18.2 (some 43)).bind fun q20 =>
(asB q20.1).bind fun b21 =>
some ((.p (.bool b21)),q20.2))).bind fun q22 =>
(asB q22.1).bind fun b23 =>
some ((.p (.bool b23)),q22.2)) else (some ((.p (.bool false)),q16.2))).bind fun q24 =>
(asB q24.1).bind fun b25 =>
some ((.p (.bool b25)),q24.2))).bind fun q26 =>
(asB q26.1).bind fun b27 =>
some ((.p (.bool b27)),q26.2)) else (some ((.p (.bool false)),q14.2))).bind fun q28 =>
(asB q28.1).bind fun b29 =>
bif b29 then (
(callO rec 98 (3::1::0::1::1::0::1::1::0::σ) [x0,(.p (.int .i64 x21)),(.p (.int .i64 x3))] q28.2 (some 51)).bind fun q30 =>
(castI .i64 q30.1).bind fun n31 =>
(fA x11 1).bind fun t32 =>
(ldO false 1 q30.2 t32).bind fun t33 =>
(bSV Try.prog 43 1 [(0,(.p (.int .i64 n31)))]).bind fun t34 =>
(apO true 1 8 (4::0::1::1::1::0::1::1::0::σ) 56 q30.2 t33 t34).bind fun q35 =>
(fA x11 1).bind fun t36 =>
((stO true 1 (6::0::1::1::1::0::1::1::0::σ) q35.2 t36 q35.1).map fun h=>(udf,h)).bind fun q37 =>
(fA x11 2).bind fun t38 =>
(ldO false 1 q37.2 t38).bind fun t39 =>
(callO rec 94 (4::1::1::1::1::0::1::1::0::σ) [x0,(.p (.int .i64 x21))] q37.2 (some 62)).bind fun q40 =>
(castI .i64 q40.1).bind fun n41 =>
need (ldO false 1 q40.2 t38=some t39) (
(bSV Try.prog 43 1 [(0,(.p (.int .i64 n41)))]).bind fun t42 =>
(apO true 1 8 (6::1::1::1::1::0::1::1::0::σ) 64 q40.2 t39 t42).bind fun q43 =>
(fA x11 2).bind fun t44 =>
((stO true 1 (8::1::1::1::1::0::1::1::0::σ) q43.2 t44 q43.1).map fun h=>(udf,h)).bind fun q45 =>
loop z3a z38 (1::σ) (envL [(0,x0),(1,(.p (.int .i64 x1))),(3,(.p (.int .i64 x3))),(4,(.p (.bool x4))),(10,x10),(11,x11),(20,(.p (.int .i64 x20))),(21,(.p (.int .i64 (IntKind.wrap .i64 (x21+1)))))]) q45.2))
else (
(fA x11 1).bind fun t46 =>
(ldO false 1 q28.2 t46).bind fun t47 =>
(bSV Try.prog 43 1 [(0,(.p (.int .i64 (-1))))]).bind fun t48 =>
(apO true 1 8 (4::0::1::1::1::0::1::1::0::σ) 56 q28.2 t47 t48).bind fun q49 =>
(fA x11 1).bind fun t50 =>
((stO true 1 (6::0::1::1::1::0::1::1::0::σ) q49.2 t50 q49.1).map fun h=>(udf,h)).bind fun q51 =>
(fA x11 2).bind fun t52 =>
(ldO false 1 q51.2 t52).bind fun t53 =>
(callO rec 94 (4::1::1::1::1::0::1::1::0::σ) [x0,(.p (.int .i64 x21))] q51.2 (some 62)).bind fun q54 =>
(castI .i64 q54.1).bind fun n55 =>
need (ldO false 1 q54.2 t52=some t53) (
(bSV Try.prog 43 1 [(0,(.p (.int .i64 n55)))]).bind fun t56 =>
(apO true 1 8 (6::1::1::1::1::0::1::1::0::σ) 64 q54.2 t53 t56).bind fun q57 =>
(fA x11 2).bind fun t58 =>
((stO true 1 (8::1::1::1::1::0::1::1::0::σ) q57.2 t58 q57.1).map fun h=>(udf,h)).bind fun q59 =>
loop z3a z38 (1::σ) (envL [(0,x0),(1,(.p (.int .i64 x1))),(3,(.p (.int .i64 x3))),(4,(.p (.bool x4))),(10,x10),(11,x11),(20,(.p (.int .i64 x20))),(21,(.p (.int .i64 (IntKind.wrap .i64 (x21+1)))))]) q59.2)))
else (
some ((.exit 0),(envL [(10,x10),(11,x11)]),h)):=by kernel_rfl
theorem zdp (x10:V) (x11:V) (h:H):z9p rec loop σ (.exit 0) (envL [(10,x10),(11,x11)]) h =
(ldO true 3 h x11).bind fun t60 =>
((stO false 3 (1::0::1::1::1::1::0::σ) h x10 t60).map fun h=>(udf,h)).bind fun q61 =>
((ldO true 3 q61.2 x10).bind fun t62=>(some []).map (t62::·)).bind fun t63=>fin false σ q61.2 t63:=by kernel_rfl
theorem z8b (x0:V) (x1:Int) (h:H):cvBody G rec loop 94 σ [x0,(.p (.int .i64 x1))] h =
(callO rec 89 (2::0::0::1::0::σ) [x0,(.p (.int .i64 x1))] (List.replicate 18 []::h) (some 7)).bind fun q1 =>
(asB q1.1).bind fun b2 =>
bif !b2 then (
fin false σ q1.2 [(.p (.int .i64 0))])
else (
(nilChk x0).bind fun t3 =>
(fA t3 0).bind fun t4 =>
(ldO false 1 q1.2 t4).bind fun t5 =>
(iS 10 t5 x1).bind fun t6 =>
(fA t6 0).bind fun t7 =>
(fA t7 2).bind fun t8 =>
(ldO false 1 q1.2 t8).bind fun t9 =>
(castI .i64 t9).bind fun n10 =>
fin false σ q1.2 [(.p (.int .i64 n10))]):=by kernel_rfl
end
end Go.Ev
namespace Go.Ev
open Go.Proofs
set_option linter.unusedVariables false
set_option linter.unusedSimpArgs false
set_option maxRecDepth 100000
section
variable {β α : Type} {Q : β→α→Prop} {K : Exit × Env × H→Option α}
def z11 (x0:z8) (x1:Int):Option (Int) :=
(zx x0 x1).bind fun r1 =>
bif !r1 then (
some (0))
else (
(ix x0.l x1).bind fun a7 =>
some (a7.told.Height))
theorem z3d {h:H} {σ:Stamp} (x0:z8) {c0_0:C} (hc0_0:RsC zg x0.l c0_0) {l0:Loc} {o0:Nat} (ha0:AtC h l0 o0 ([c0_0])) (x1:Int):Sim (z11 x0 x1) (ev G X0 94 σ [(.ref l0 o0),(.p (.int .i64 x1))] h) (fun r s=>s=([.v (.p (.int .i64 r))],h)):=by
 refine .ev rfl (Sim.ext (z8b _ _ _ _ _ _) ?_)
 rw [z11]
 have S0:Fm 18 h [] [] [] (List.replicate 18 []::h):=Fm.start0
 refine .call (z1j x0 hc0_0 (S0.lowA ha0) x1) fun r1 cs2 H3 h4 q5=>?_
 cases q5
 refine .ab ?_
 refine .cq ?_ ?_
 ·exact .fin (S0.finN (lC (sI _ _).lv lN)) rfl
 refine .nc ?_
 refine .fa ?_
 refine .op (RsC.ld hc0_0 (S0.lowA ha0) (j:=0) rfl) ?_
 refine .bd fun a7 h8=>?_
 obtain ⟨lr9,w10,e11,h12,har13⟩:=RsH.el (RsC.rs hc0_0 ha0 (j:=0) rfl) h8 (e:=10) rfl
 obtain ⟨s14_3,s14_4,rfl⟩:=h12
 refine .op (e11) ?_
 refine .fa ?_
 refine .fa ?_
 refine .op ((S0.lowA har13).ld (j:=2) rfl) ?_
 refine .ci ?_
 exact .fin (S0.finN (lC (sI _ _).lv lN)) rfl
end
end Go.Ev
namespace Go.Ev
open Go.Proofs
set_option linter.unusedVariables false
set_option linter.unusedSimpArgs false
set_option maxRecDepth 100000
noncomputable section
abbrev KT18:=Exit→Env→H→Option (List C × H)
variable (rec : CallF) (loop : LoopV) (σ : Stamp)
theorem z9t (x0:V) (h:H):cvBody G rec loop 93 σ [x0] h =
(nilChk x0).bind fun t1 =>
(fA t1 0).bind fun t2 =>
(ldO false 1 (List.replicate 8 []::h) t2).bind fun t3 =>
(lenO t3).bind fun t4 =>
(castI .i64 t4).bind fun n5 =>
fin false σ (List.replicate 8 []::h) [(.p (.int .i64 n5))]:=by kernel_rfl
end
end Go.Ev
namespace Go.Ev
open Go.Proofs
set_option linter.unusedVariables false
set_option linter.unusedSimpArgs false
set_option maxRecDepth 100000
section
variable {β α : Type} {Q : β→α→Prop} {K : Exit × Env × H→Option α}
def z3c (x0:z8):Option (Int) :=
some (((x0.l.length:Int)))
theorem zc0 {h:H} {σ:Stamp} (x0:z8) {c0_0:C} (hc0_0:RsC zg x0.l c0_0) {l0:Loc} {o0:Nat} (ha0:AtC h l0 o0 ([c0_0])):Sim (z3c x0) (ev G X0 93 σ [(.ref l0 o0)] h) (fun r s=>s=([.v (.p (.int .i64 r))],h)):=by
 refine .ev rfl (Sim.ext (z9t _ _ _ _ _) ?_)
 rw [z3c]
 have S0:Fm 8 h [] [] [] (List.replicate 8 []::h):=Fm.start0
 refine .nc ?_
 refine .fa ?_
 refine .op (RsC.ld hc0_0 (S0.lowA ha0) (j:=0) rfl) ?_
 refine .op (RsC.len hc0_0 _ _) ?_
 refine .ci ?_
 exact .fin (S0.finN (lC (sI _ _).lv lN)) rfl
def z19 {β:Type} (k:Nat) (kE0:z5→z5→Option β) (x0:z8) (x1:Int) (x3:Int) (x4:Bool) (x20:Int) (x21:Int) (yg4:z5) (yg8:z5):Option β:=match k with
| 0=>none
| k+1 =>
bif decide (x21<x20) then (
(z11 x0 x21).bind fun r42 =>
(bif decide (r42≤x1) then ((z1w x0 x21 x3).bind fun r47 =>
(bif r47 then (some true) else ((bif x4 then ((z3i x0 x21).bind fun r52 =>
(bif r52 then (some true) else ((z4e x0 x21).bind fun r57 =>
some r57)).bind fun b62 =>
some b62) else (some false)).bind fun b66 =>
some b66)).bind fun b70 =>
some b70) else (some false)).bind fun b74 =>
bif b74 then (
(z1y k x0 x21 x3).bind fun r79 =>
(ap 8 yg8.Costs ([r79])).bind fun a85 =>
(z11 x0 x21).bind fun r99 =>
(ap 8 yg8.Goods ([r99])).bind fun a105 =>
z19 k kE0 x0 x1 x3 x4 x20 (IntKind.wrap .i64 (x21+1)) yg4 ((⟨yg8.Class,a85,a105⟩:z5)))
else (
(ap 8 yg8.Costs ([(-1)])).bind fun a120 =>
(z11 x0 x21).bind fun r134 =>
(ap 8 yg8.Goods ([r134])).bind fun a140 =>
z19 k kE0 x0 x1 x3 x4 x20 (IntKind.wrap .i64 (x21+1)) yg4 ((⟨yg8.Class,a120,a140⟩:z5))))
else (
kE0 yg4 yg8)
def z2l (k:Nat) (x0:z8) (x1:Int) (x2:Int) (x3:Int) (x4:Bool):Option (z5) :=
(z3c x0).bind fun r12 =>
z19 k (fun yg28 yg36 =>
some (yg36)) x0 x1 x3 x4 r12 0 ((⟨0,(([]:List Int)),(([]:List Int))⟩:z5)) ((⟨x2,(([]:List Int)),(([]:List Int))⟩:z5))
theorem zc6 {h:H}  {kE0:z5→z5→Option β} (hE0:∀ (yg28:z5) (yg36:z5) (w156:List V) (h157:z4.R yg28 w156) (s158:Stamp) (c160:C) (h161:SoC (dI .i64) yg36.Costs c160) (h162:Nn c160 1) (c163:C) (h164:SoC (dI .i64) yg36.Goods c163) (h165:Nn c163 1) (s166:Stamp) (H154:Go.Ev.H) (_:Fm 68 h [] [(10,s158,List.map C.v w156),(11,s166,[.v (.p (.int .i64 yg36.Class)),c160,c163])] [] H154),Sim (kE0 yg28 yg36) (K ((.exit 0),(envL [(10,(.ref ⟨h.length,10,0,s158,[]⟩ 0)),(11,(.ref ⟨h.length,11,0,s166,[]⟩ 0))]),H154)) Q) (k:Nat):∀ (x0:z8) (x1:Int) (x3:Int) (x4:Bool) (x20:Int) (x21:Int) (yg4:z5) (yg8:z5) (c19:C) (h20:RsC zg x0.l c19) (lr21:Loc) (or22:Nat) (har23:AtC h lr21 or22 ([c19])) (w25:List V) (h26:z4.R yg4 w25) (s27:Stamp) (c29:C) (h30:SoC (dI .i64) yg8.Costs c29) (h31:Nn c29 1) (c32:C) (h33:SoC (dI .i64) yg8.Goods c32) (h34:Nn c32 1) (s35:Stamp) (H17:Go.Ev.H) (_:Fm 68 h [] [(10,s27,List.map C.v w25),(11,s35,[.v (.p (.int .i64 yg8.Class)),c29,c32])] [] H17) {σ:Stamp},Sim (z19 k kE0 x0 x1 x3 x4 x20 x21 yg4 yg8) ((cvL G X0 z3a z38 σ (envL [(0,(.ref lr21 or22)),(1,(.p (.int .i64 x1))),(3,(.p (.int .i64 x3))),(4,(.p (.bool x4))),(10,(.ref ⟨h.length,10,0,s27,[]⟩ 0)),(11,(.ref ⟨h.length,11,0,s35,[]⟩ 0)),(20,(.p (.int .i64 x20))),(21,(.p (.int .i64 x21)))]) H17).bind K) Q:=by
 induction k with
 | zero=>intros;exact .no
 | succ k ih =>
  intro x0 x1 x3 x4 x20 x21 yg4 yg8 c19 h20 lr21 or22 har23 w25 h26 s27 c29 h30 h31 c32 h33 h34 s35 H17 S18 σ
  rw [z19]
  refine .round (Sim.ext (zf2 _ _ _ _ _ _ _ _ _ _ _ _) ?_)
  obtain ⟨v37,v39,rfl,h38,h40⟩:=z4.inv h26
  refine .cq ?_ ?_
  ·refine .call (z3d x0 h20 (S18.lowA har23) x21) fun r42 cs43 H44 h45 q46=>?_
   cases q46
   refine .ci ?_
   refine .ch (P:=fun r y=>(.p (.bool r),H17)=y) ?_ (fun b74 y75 h76 h77=>?_)
   ·refine .cq ?_ ?_
    ·refine .call (zb9 x0 h20 (S18.lowA har23) x21 x3) fun r47 cs48 H49 h50 q51=>?_
     cases q51
     refine .ab ?_
     refine .ch (P:=fun r y=>(.p (.bool r),H17)=y) ?_ (fun b70 y71 h72 h73=>?_)
     ·refine .cq ?_ ?_
      ·exact .ret rfl rfl
      ·refine .ch (P:=fun r y=>(.p (.bool r),H17)=y) ?_ (fun b66 y67 h68 h69=>?_)
       ·refine .cq ?_ ?_
        ·refine .call (z9d x0 h20 (S18.lowA har23) x21) fun r52 cs53 H54 h55 q56=>?_
         cases q56
         refine .ab ?_
         refine .ch (P:=fun r y=>(.p (.bool r),H17)=y) ?_ (fun b62 y63 h64 h65=>?_)
         ·refine .cq ?_ ?_
          ·exact .ret rfl rfl
          ·refine .call (zal x0 h20 (S18.lowA har23) x21) fun r57 cs58 H59 h60 q61=>?_
           cases q61
           refine .ab ?_
           exact .ret rfl rfl
         subst h65
         refine .ab ?_
         exact .ret rfl rfl
        ·exact .ret rfl rfl
       subst h69
       refine .ab ?_
       exact .ret rfl rfl
     subst h73
     refine .ab ?_
     exact .ret rfl rfl
    ·exact .ret rfl rfl
   subst h77
   refine .ab ?_
   refine .cq ?_ ?_
   ·refine .call (zat k x0 h20 (S18.lowA har23) x21 x3) fun r79 cs80 H81 h82 q83=>?_
    cases q83
    refine .ci ?_
    refine .fa ?_
    refine .op (h30.ld (S18.atG (i:=1) rfl) (j:=1) rfl) ?_
    have h84:=SlF.int1 .i64 r79
    refine .op (bldS (pC rfl pN) (by kernel_rfl:_=some (vOf h84))) ?_
    refine .bd fun a85 h86=>?_
    obtain ⟨v87,c88,H89,e90,S91⟩:=S18.appG (i:=1) (j:=1) (d:=56) (e:=1) (own:=true) (σ:=(4::0::1::1::1::0::1::1::0::σ)) rfl rfl h30 h31 (h84.h H17).y h86 (by simp) rfl (by decide) (by decide) rfl rfl
    refine .op (e90) ?_
    refine .fa ?_
    obtain ⟨c96,H93,e94,h97,h98,S95⟩:=S91.mvG (i:=1) (j:=1) (k:=0) (σ:=(6::0::1::1::1::0::1::1::0::σ)) rfl rfl rfl rfl rfl rfl
    refine .op (sM e94) ?_
    refine .fa ?_
    refine .op (h33.ld (S95.atG (i:=1) rfl) (j:=2) rfl) ?_
    refine .call (z3d x0 h20 (S95.lowA har23) x21) fun r99 cs100 H101 h102 q103=>?_
    cases q103
    refine .ci ?_
    refine .nd (h33.ld (S95.atG (i:=1) rfl) (j:=2) rfl) ?_
    have h104:=SlF.int1 .i64 r99
    refine .op (bldS (pC rfl pN) (by kernel_rfl:_=some (vOf h104))) ?_
    refine .bd fun a105 h106=>?_
    obtain ⟨v107,c108,H109,e110,S111⟩:=S95.appG (i:=1) (j:=2) (d:=64) (e:=1) (own:=true) (σ:=(6::1::1::1::1::0::1::1::0::σ)) rfl rfl h33 h34 (h104.h H93).y h106 (by simp) rfl (by decide) (by decide) rfl rfl
    refine .op (e110) ?_
    refine .fa ?_
    obtain ⟨c116,H113,e114,h117,h118,S115⟩:=S111.mvG (i:=1) (j:=2) (k:=0) (σ:=(8::1::1::1::1::0::1::1::0::σ)) rfl rfl rfl rfl rfl rfl
    refine .op (sM e114) ?_
    exact ih x0 x1 x3 x4 x20 (IntKind.wrap .i64 (x21+1)) yg4 ((⟨yg8.Class,a85,a105⟩:z5)) c19 h20 lr21 or22 har23 _ h26 s27 c96 h97 h98 c116 h117 h118 s35 H113 (S115.wk2 (aC (aM 0 rfl) (aC (aM 1 rfl) aN)) aN)
   refine .fa ?_
   refine .op (h30.ld (S18.atG (i:=1) rfl) (j:=1) rfl) ?_
   have h119:=SlF.int1 .i64 (-1)
   refine .op (bldS (pC rfl pN) (by kernel_rfl:_=some (vOf h119))) ?_
   refine .bd fun a120 h121=>?_
   obtain ⟨v122,c123,H124,e125,S126⟩:=S18.appG (i:=1) (j:=1) (d:=56) (e:=1) (own:=true) (σ:=(4::0::1::1::1::0::1::1::0::σ)) rfl rfl h30 h31 (h119.h H17).y h121 (by simp) rfl (by decide) (by decide) rfl rfl
   refine .op (e125) ?_
   refine .fa ?_
   obtain ⟨c131,H128,e129,h132,h133,S130⟩:=S126.mvG (i:=1) (j:=1) (k:=0) (σ:=(6::0::1::1::1::0::1::1::0::σ)) rfl rfl rfl rfl rfl rfl
   refine .op (sM e129) ?_
   refine .fa ?_
   refine .op (h33.ld (S130.atG (i:=1) rfl) (j:=2) rfl) ?_
   refine .call (z3d x0 h20 (S130.lowA har23) x21) fun r134 cs135 H136 h137 q138=>?_
   cases q138
   refine .ci ?_
   refine .nd (h33.ld (S130.atG (i:=1) rfl) (j:=2) rfl) ?_
   have h139:=SlF.int1 .i64 r134
   refine .op (bldS (pC rfl pN) (by kernel_rfl:_=some (vOf h139))) ?_
   refine .bd fun a140 h141=>?_
   obtain ⟨v142,c143,H144,e145,S146⟩:=S130.appG (i:=1) (j:=2) (d:=64) (e:=1) (own:=true) (σ:=(6::1::1::1::1::0::1::1::0::σ)) rfl rfl h33 h34 (h139.h H128).y h141 (by simp) rfl (by decide) (by decide) rfl rfl
   refine .op (e145) ?_
   refine .fa ?_
   obtain ⟨c151,H148,e149,h152,h153,S150⟩:=S146.mvG (i:=1) (j:=2) (k:=0) (σ:=(8::1::1::1::1::0::1::1::0::σ)) rfl rfl rfl rfl rfl rfl
   refine .op (sM e149) ?_
   exact ih x0 x1 x3 x4 x20 (IntKind.wrap .i64 (x21+1)) yg4 ((⟨yg8.Class,a120,a140⟩:z5)) c19 h20 lr21 or22 har23 _ h26 s27 c131 h132 h133 c151 h152 h153 s35 H148 (S150.wk2 (aC (aM 0 rfl) (aC (aM 1 rfl) aN)) aN)
  exact hE0 yg4 yg8 _ h26 s27 c29 h30 h31 c32 h33 h34 s35 H17 (S18.wk2 (aC (aM 0 rfl) (aC (aM 1 rfl) aN)) aN)
theorem z9k (k:Nat) {h:H} {σ:Stamp} (x0:z8) {c0_0:C} (hc0_0:RsC zg x0.l c0_0) {l0:Loc} {o0:Nat} (ha0:AtC h l0 o0 ([c0_0])) (x1:Int) (x2:Int) (x3:Int) (x4:Bool):Sim (z2l k x0 x1 x2 x3 x4) (ev G X0 44 σ [(.ref l0 o0),(.p (.int .i64 x1)),(.p (.int .i64 x2)),(.p (.int .i64 x3)),(.p (.bool x4))] h) (fun r s=>∃ (w0:List V),z4.R r w0∧s=([.v (.agg w0)],h)):=by
 refine .ev rfl (Sim.ext (z7j _ _ _ _ _ _ _ _ _) ?_)
 rw [z2l]
 have S0:Fm 68 h [] [] [] (List.replicate 68 []::h):=Fm.start0
 obtain ⟨H1,e2,S3⟩:=S0.al (d:=10) (s:=(0::0::0::σ)) (z:=[(.p (.int .i64 0)),(.p (.slice none 0 0)),(.p (.slice none 0 0))]) (by decide) rfl
 refine .op (congrArg some e2) ?_
 refine .op ((by kernel_rfl:_=some (.p (.bool false)))) ?_
 refine .ab ?_
 refine .cdf rfl ?_
 refine .op (bldV (pC rfl pN) (by kernel_rfl:_=some (.agg [.p (.int .i64 x2),.p (.slice none 0 0),.p (.slice none 0 0)]))) ?_
 obtain ⟨H5,e6,S7⟩:=S3.al (d:=11) (s:=(2::0::1::1::0::σ)) (z:=[(.p (.int .i64 0)),(.p (.slice none 0 0)),(.p (.slice none 0 0))]) (by decide) rfl
 refine .op (congrArg some e6) ?_
 obtain ⟨H9,e10,S11⟩:=S7.stGv (i:=0) (j:=0) (own:=false) (σ:=(3::0::1::1::0::σ)) (xs:=[.p (.int .i64 x2),.p (.slice none 0 0),.p (.slice none 0 0)]) rfl rfl (sC (sI _ _) (sC (SlF.nil (dI .i64)).still (sC (SlF.nil (dI .i64)).still sN))) rfl rfl
 refine .op (sM e10) ?_
 refine .call (zc0 x0 hc0_0 (S11.lowA ha0)) fun r12 cs13 H14 h15 q16=>?_
 cases q16
 refine .ci ?_
 refine .as (zc6 ?_ k x0 x1 x3 x4 r12 0 ((⟨0,(([]:List Int)),(([]:List Int))⟩:z5)) ((⟨x2,(([]:List Int)),(([]:List Int))⟩:z5)) c0_0 hc0_0 l0 o0 ha0 _ (z4.mk (SlF.nil (dI .i64)) (SlF.nil (dI .i64))) (0::0::0::σ) (.v (.p (.slice none 0 0))) (SoC.frz (SlF.nil (dI .i64))) (fun v h=>by cases h;simp) (.v (.p (.slice none 0 0))) (SoC.frz (SlF.nil (dI .i64))) (fun v h=>by cases h;simp) (2::0::1::1::0::σ) H9 (S11.wk2 (aC (aM 1 rfl) (aC (aM 0 rfl) aN)) aN))
 ·intro yg28 yg36 w175 h176 s177 c179 h180 h181 c182 h183 h184 s185 H173 S174
  refine .ext (zdp _ _ _ _ _ _) ?_
  obtain ⟨v187,v189,rfl,h188,h190⟩:=z4.inv h176
  obtain ⟨v191,h192,h193⟩:=h180.fr
  obtain ⟨v194,h195,h196⟩:=h183.fr
  obtain ⟨w197,h204,h203,e199,e205⟩:=S174.cpV (i:=1) (n:=3) (ys:=[(.p (.int .i64 yg36.Class)),v191,v194]) rfl ⟨(FrC.v (sI _ _)),⟨h192,⟨h195,trivial⟩⟩⟩ rfl
  obtain ⟨H198,e200,e201,S202⟩:=S174.frzX (i:=1) (ys:=[(.p (.int .i64 yg36.Class)),v191,v194]) rfl rfl ⟨(FrC.v (sI _ _)),⟨h192,⟨h195,trivial⟩⟩⟩ h204
  refine .op (e199) ?_
  obtain ⟨H206,e207,S208⟩:=Fm.stFrz (S0:=S174) (i0:=0) (i:=0) (j:=0) (n:=3) (σ:=(1::0::1::1::1::1::0::σ)) S202 rfl e201 rfl rfl h203 rfl rfl
  refine .op (sM e207) ?_
  have e209:ldO true 3 H206 (.ref ⟨h.length,10,0,s177,[]⟩ 0)=some (.agg [.p (.int .i64 yg36.Class),v191,v194]):=(S208.atG (i:=0) rfl).ldVs (j:=0) rfl rfl (by decide)
  refine .op (congrArg (Option.bind · _) e209) ?_
  exact .fin (S208.finN (lC (Stills.lv (z4.still (z4.mk h193 h196))) lN)) ⟨_,(z4.mk h193 h196),rfl⟩
end
end Go.Ev
namespace Go.Ev
open Go.Proofs
set_option linter.unusedVariables false
set_option linter.unusedSimpArgs false
set_option maxRecDepth 100000
noncomputable section
abbrev KT19:=Exit→Env→H→Option (List C × H)
variable (rec : CallF) (loop : LoopV) (σ : Stamp)
def z6h:Code:=(codeAt (bodyOf Try.f40) [1,1,1,0,1,0,0])
def z6q:Lv:=⟨8,4,[(0,8)]⟩
def zck:KT19:=(kBlock 0 (kSeq G rec loop (codeAt (bodyOf Try.f40) [1,1,1,1]) ⟨4,4,[]⟩ (1::1::1::0::σ) (finC G false Try.f40 (1::σ))))
theorem zf9 (x0:V) (h:H):cvBody G rec loop 40 σ [x0] h =
(callO rec 82 (1::0::0::1::0::σ) [x0] (List.replicate 32 []::h) (some 7)).bind fun q1 =>
(castI .i64 q1.1).bind fun n2 =>
bif n2 != 0 then (
fin false σ q1.2 [(.p (.pointer .none))])
else (
(buildV Try.prog 144 []).bind fun t3 =>
(boxO true (1::0::1::1::0::σ) 10 q1.2 t3).bind fun q4 =>
(lenO x0).bind fun t5 =>
(castI .i64 t5).bind fun n6 =>
(loop z6h z6q (1::0::1::1::1::0::σ) (envL [(3,q4.1),(11,x0),(12,(.p (.int .i64 n6))),(13,(.p (.int .i64 0)))]) q4.2).bind fun r7=>zck rec loop σ r7.1 r7.2.1 r7.2.2):=by kernel_rfl
theorem zjs (x3:V) (x11:V) (x12:Int) (x13:Int) (h:H):zo G rec loop z6h z6q σ (envL [(3,x3),(11,x11),(12,(.p (.int .i64 x12))),(13,(.p (.int .i64 x13)))]) h =
bif decide (x13<x12) then (
(iS 3 x11 x13).bind fun t8 =>
(ldO true 3 h t8).bind fun t9 =>
(some (alO [.p (.string (⟨#[]⟩:ByteArray)),.p (.int .u32 0),.p (.int .i64 0)] (2::0::0::1::1::0::σ) 5 h)).bind fun q10 =>
((stO false 3 (3::0::0::1::1::0::σ) q10.2 q10.1 t9).map fun h=>(udf,h)).bind fun q11 =>
(nilChk x3).bind fun t12 =>
(fA t12 0).bind fun t13 =>
(ldO false 1 q11.2 t13).bind fun t14 =>
(ldO true 3 q11.2 q10.1).bind fun t15 =>
(callO rec 83 (6::1::0::1::1::0::σ) [] q11.2 (some 23)).bind fun q16 =>
need (ldO true 3 q16.2 q10.1=some t15) (
need (ldO false 1 q16.2 t13=some t14) (
(callO rec 84 (7::1::0::1::1::0::σ) [] q16.2 (some 24)).bind fun q17 =>
need (ldO true 3 q17.2 q10.1=some t15) (
need (ldO false 1 q17.2 t13=some t14) (
(buildV Try.prog 150 [(0,t15),(1,q16.1),(2,q17.1)]).bind fun t18 =>
(bSV Try.prog 142 1 [(0,t18)]).bind fun t19 =>
(apO false 10 80 (10::1::0::1::1::0::σ) 27 q17.2 t14 t19).bind fun q20 =>
(nilChk x3).bind fun t21 =>
(fA t21 0).bind fun t22 =>
((stO true 1 (13::1::0::1::1::0::σ) q20.2 t22 q20.1).map fun h=>(udf,h)).bind fun q23 =>
loop z6h z6q (1::σ) (envL [(3,x3),(11,x11),(12,(.p (.int .i64 x12))),(13,(.p (.int .i64 (IntKind.wrap .i64 (x13+1)))))]) q23.2)))))
else (
some ((.exit 0),(envL [(3,x3)]),h)):=by kernel_rfl
theorem zgo (x3:V) (h:H):zck rec loop σ (.exit 0) (envL [(3,x3)]) h =
fin false σ h [x3]:=by kernel_rfl
def z5x:Code:=(codeAt (bodyOf Try.f82) [1,1,0,1,0,0])
def z5y:Lv:=⟨0,4,[(0,0)]⟩
def z7y:KT19:=(kBlock 0 (kSeq G rec loop (codeAt (bodyOf Try.f82) [1,1,1]) ⟨4,4,[]⟩ (1::1::0::σ) (finC G false Try.f82 (1::σ))))
theorem zes (x0:V) (h:H):cvBody G rec loop 82 σ [x0] h =
(lenO x0).bind fun t1 =>
(castI .i64 t1).bind fun n2 =>
(bif decide (n2<1) then (some true) else ((lenO x0).bind fun t3 =>
(castI .i64 t3).bind fun n4 =>
some (decide (n4>3)))).bind fun b5 =>
bif b5 then (
fin false σ (List.replicate 55 []::h) [(.p (.int .i64 26))])
else (
(lenO x0).bind fun t6 =>
(castI .i64 t6).bind fun n7 =>
(loop z5x z5y (1::0::1::1::0::σ) (envL [(0,x0),(13,x0),(14,(.p (.int .i64 n7))),(15,(.p (.int .i64 0)))]) (List.replicate 55 []::h)).bind fun r8=>z7y rec loop σ r8.1 r8.2.1 r8.2.2):=by kernel_rfl
theorem zi6 (x0:V) (x13:V) (x14:Int) (x15:Int) (h:H):zo G rec loop z5x z5y σ (envL [(0,x0),(13,x13),(14,(.p (.int .i64 x14))),(15,(.p (.int .i64 x15)))]) h =
bif decide (x15<x14) then (
(iS 3 x13 x15).bind fun t9 =>
(ldO true 3 h t9).bind fun t10 =>
(some (alO [.p (.string (⟨#[]⟩:ByteArray)),.p (.int .u32 0),.p (.int .i64 0)] (3::0::0::1::1::0::σ) 4 h)).bind fun q11 =>
((stO false 3 (5::0::0::1::1::0::σ) q11.2 q11.1 t10).map fun h=>(udf,h)).bind fun q12 =>
(fA q11.1 0).bind fun t13 =>
(ldO false 1 q12.2 t13).bind fun t14 =>
(castS t14).bind fun s15 =>
(callO rec 129 (2::0::0::1::0::1::1::0::σ) [(.p (.string s15))] q12.2 (some 22)).bind fun q16 =>
(asB q16.1).bind fun b17 =>
(bif !b17 then (some true) else ((fA q11.1 2).bind fun t18 =>
(ldO false 1 q16.2 t18).bind fun t19 =>
(castI .i64 t19).bind fun n20 =>
some (decide (n20<1)))).bind fun b21 =>
(bif b21 then (some true) else ((fA q11.1 2).bind fun t22 =>
(ldO false 1 q16.2 t22).bind fun t23 =>
(castI .i64 t23).bind fun n24 =>
some (decide (n24>8192)))).bind fun b25 =>
(bif b25 then (some true) else ((bif decide (x15>0) then ((fA q11.1 2).bind fun t26 =>
(ldO false 1 q16.2 t26).bind fun t27 =>
(castI .i64 t27).bind fun n28 =>
(iS 3 x0 (IntKind.wrap .i64 (x15-1))).bind fun t29 =>
(fA t29 2).bind fun t30 =>
(ldO false 1 q16.2 t30).bind fun t31 =>
(castI .i64 t31).bind fun n32 =>
some (decide (n28≤n32))) else (some false)).bind fun b33 =>
some b33)).bind fun b34 =>
bif b34 then (
some (.ret,(envL [(2,(.p (.int .i64 26)))]),q16.2))
else (
(slS 3 x0 none (some x15) none).bind fun t35 =>
(callO rec 130 (4::0::1::1::0::1::1::0::σ) [t35,(.clo 131 [q11.1])] q16.2 (some 53)).bind fun q36 =>
(asB q36.1).bind fun b37 =>
bif b37 then (
some (.ret,(envL [(2,(.p (.int .i64 26)))]),q36.2))
else (
loop z5x z5y (1::σ) (envL [(0,x0),(13,x13),(14,(.p (.int .i64 x14))),(15,(.p (.int .i64 (IntKind.wrap .i64 (x15+1)))))]) q36.2)))
else (
some ((.exit 0),(envL []),h)):=by kernel_rfl
theorem zfp  (h:H):z7y rec loop σ (.exit 0) (envL []) h =
fin false σ h [(.p (.int .i64 0))]:=by kernel_rfl
theorem zdq (x2:Int) (h:H):z7y rec loop σ .ret (envL [(2,(.p (.int .i64 x2)))]) h =
fin false σ h [(.p (.int .i64 x2))]:=by kernel_rfl
end
end Go.Ev
namespace Go.Ev
open Go.Proofs
set_option linter.unusedVariables false
set_option linter.unusedSimpArgs false
set_option maxRecDepth 100000
section
variable {β α : Type} {Q : β→α→Prop} {K : Exit × Env × H→Option α}
def za2 (x0:ByteArray):Option Bool:=some (RidX.rightB x0)
theorem ziv {h:H} {σ:Stamp} (x0:ByteArray):Sim (za2 x0) (ev G X0 129 σ [(.p (.string x0))] h) (fun r s=>s=([.v (.p (.bool r))],h)):=Sim.told (ev_ext rfl)
end
end Go.Ev
namespace Go.Ev
open Go.Proofs
set_option linter.unusedVariables false
set_option linter.unusedSimpArgs false
set_option maxRecDepth 100000
noncomputable section
abbrev KT20:=Exit→Env→H→Option (List C × H)
variable (rec : CallF) (loop : LoopV) (σ : Stamp)
theorem z2z (x0:V) (x1:V) (h:H):cvBody G rec loop 130 σ [x0,x1] h =
(callO rec 163 (2::0::1::0::σ) [x0,x1] (List.replicate 9 []::h) (some 7)).bind fun q1 =>
(castI .i64 q1.1).bind fun n2 =>
fin false σ q1.2 [(.p (.bool (decide (n2≥0))))]:=by kernel_rfl
def zt:Code:=(codeAt (bodyOf Try.f163) [1,0,1,0,0])
def zr:Lv:=⟨0,16,[(0,0)]⟩
def z15:KT20:=(kBlock 0 (kSeq G rec loop (codeAt (bodyOf Try.f163) [1,1]) ⟨16,16,[]⟩ (1::0::σ) (finC G false Try.f163 (1::σ))))
theorem z3l (x0:V) (x1:V) (h:H):cvBody G rec loop 163 σ [x0,x1] h =
(lenO x0).bind fun t1 =>
(castI .i64 t1).bind fun n2 =>
(loop zt zr (1::0::1::0::σ) (envL [(0,x0),(1,x1),(7,(.p (.int .i64 n2))),(8,(.p (.int .i64 0)))]) (List.replicate 19 []::h)).bind fun r3=>z15 rec loop σ r3.1 r3.2.1 r3.2.2:=by kernel_rfl
theorem z4f (x0:V) (x1:V) (x7:Int) (x8:Int) (h:H):zo G rec loop zt zr σ (envL [(0,x0),(1,x1),(7,(.p (.int .i64 x7))),(8,(.p (.int .i64 x8)))]) h =
bif decide (x8<x7) then (
(iS 3 x0 x8).bind fun t4 =>
(ldO true 3 h t4).bind fun t5 =>
(cloO rec x1 (5::0::1::0::1::1::0::σ) [t5] h (some 16)).bind fun q6 =>
(asB q6.1).bind fun b7 =>
bif b7 then (
some (.ret,(envL [(4,(.p (.int .i64 x8)))]),q6.2))
else (
loop zt zr (1::σ) (envL [(0,x0),(1,x1),(7,(.p (.int .i64 x7))),(8,(.p (.int .i64 (IntKind.wrap .i64 (x8+1)))))]) q6.2))
else (
some ((.exit 0),(envL []),h)):=by kernel_rfl
theorem z3w  (h:H):z15 rec loop σ (.exit 0) (envL []) h =
fin false σ h [(.p (.int .i64 (-1)))]:=by kernel_rfl
theorem z3k (x4:Int) (h:H):z15 rec loop σ .ret (envL [(4,(.p (.int .i64 x4)))]) h =
fin false σ h [(.p (.int .i64 x4))]:=by kernel_rfl
theorem zcm (x0:V) (x1:V) (h:H):cvBody G rec loop 131 σ [x0,x1] h =
(boxO false (0::0::0::σ) 2 (List.replicate 16 []::h) x0).bind fun q1 =>
(fA q1.1 1).bind fun t2 =>
(ldO false 1 q1.2 t2).bind fun t3 =>
(castI .u32 t3).bind fun n4 =>
(fA x1 1).bind fun t5 =>
(ldO false 1 q1.2 t5).bind fun t6 =>
(castI .u32 t6).bind fun n7 =>
(bif n4==n7 then (some ((.p (.bool true)),q1.2)) else ((fA q1.1 0).bind fun t8 =>
(ldO false 1 q1.2 t8).bind fun t9 =>
(castS t9).bind fun s10 =>
(fA x1 0).bind fun t11 =>
(ldO false 1 q1.2 t11).bind fun t12 =>
(castS t12).bind fun s13 =>
(callO rec 132 (10::0::1::0::σ) [(.p (.string s10)),(.p (.string s13))] q1.2 (some 14)).bind fun q14 =>
(asB q14.1).bind fun b15 =>
some ((.p (.bool b15)),q14.2))).bind fun q16 =>
(asB q16.1).bind fun b17 =>
fin false σ q16.2 [(.p (.bool b17))]:=by kernel_rfl
theorem zgk (x0:ByteArray) (x1:ByteArray) (h:H):cvBody G rec loop 132 σ [(.p (.string x0)),(.p (.string x1))] h =
(callO rec 164 (1::0::1::0::σ) [(.p (.string x0))] (List.replicate 10 []::h) (some 6)).bind fun q1 =>
(castS q1.1).bind fun s2 =>
(callO rec 164 (3::0::1::0::σ) [(.p (.string x1))] q1.2 (some 8)).bind fun q3 =>
(castS q3.1).bind fun s4 =>
fin false σ q3.2 [(.p (.bool (s2.toList==s4.toList)))]:=by kernel_rfl
end
end Go.Ev
namespace Go.Ev
open Go.Proofs
set_option linter.unusedVariables false
set_option linter.unusedSimpArgs false
set_option maxRecDepth 100000
section
variable {β α : Type} {Q : β→α→Prop} {K : Exit × Env × H→Option α}
def z8e (x0:ByteArray):Option ByteArray:=if x0.size<2^40 then some (RidX.foldB x0) else none
theorem zdx {h:H} {σ:Stamp} (x0:ByteArray):Sim (z8e x0) (ev G X0 164 σ [(.p (.string x0))] h) (fun r s=>s=([.v (.p (.string r))],h)):=by
 unfold z8e
 split
 ·rename_i hs
  exact .told (s:=([.v (.p (.string (RidX.foldB x0)))],h)) (ev_ext (by first | (simp only [X0,plainX,XT];simp [hs];done) | (simp only [X0,X1,orX,plainX,XT];simp [hs]))) rfl
 ·exact .no
def zbd (x0:ByteArray) (x1:ByteArray):Option (Bool) :=
(z8e x0).bind fun r1 =>
(z8e x1).bind fun r6 =>
some ((r1.toList==r6.toList))
theorem zkl {h:H} {σ:Stamp} (x0:ByteArray) (x1:ByteArray):Sim (zbd x0 x1) (ev G X0 132 σ [(.p (.string x0)),(.p (.string x1))] h) (fun r s=>s=([.v (.p (.bool r))],h)):=by
 refine .ev rfl (Sim.ext (zgk _ _ _ _ _ _) ?_)
 rw [zbd]
 have S0:Fm 10 h [] [] [] (List.replicate 10 []::h):=Fm.start0
 refine .call (zdx x0) fun r1 cs2 H3 h4 q5=>?_
 cases q5
 refine .op (castS_p _) ?_
 refine .call (zdx x1) fun r6 cs7 H8 h9 q10=>?_
 cases q10
 refine .op (castS_p _) ?_
 exact .fin (S0.finN (lC (sB _).lv lN)) rfl
def z73 (x0:z7) (x1:z7):Option (Bool) :=
(bif x0.Ssrc==x1.Ssrc then (some true) else ((zbd x0.Rid x1.Rid).bind fun r5 =>
some r5)).bind fun b10 =>
some (b10)
theorem zf4 {h:H} {σ:Stamp} (x0:z7) {u0:List V} (hu0:zb.R x0 u0) (x1:z7)  {l1:Loc} {o1:Nat} (ha1:AtC h l1 o1 (List.map C.v [(.p (.string x1.Rid)),(.p (.int .u32 x1.Ssrc)),(.p (.int .i64 x1.Height))])):Sim (z73 x0 x1) (ev G X0 131 σ [(.agg u0),(.ref l1 o1)] h) (fun r s=>s=([.v (.p (.bool r))],h)):=by
 refine .ev rfl (Sim.ext (zcm _ _ _ _ _ _) ?_)
 rw [z73]
 obtain rfl:=zb.inv hu0
 have S0:Fm 16 h [] [] [] (List.replicate 16 []::h):=Fm.start0
 obtain ⟨H1,e2,S3⟩:=S0.box (own:=false) (d:=2) (s:=(0::0::0::σ)) (xs:=[(.p (.string x0.Rid)),(.p (.int .u32 x0.Ssrc)),(.p (.int .i64 x0.Height))]) (sC (still_str _) (sC (sI _ _) (sC (sI _ _) sN))) (by decide) rfl
 refine .op (e2) ?_
 refine .fa ?_
 refine .op ((S3.atG (i:=0) rfl).ld (j:=1) rfl) ?_
 refine .ci ?_
 refine .fa ?_
 refine .op ((S3.lowA ha1).ld (j:=1) rfl) ?_
 refine .ci ?_
 refine .ch (P:=fun r y=>(.p (.bool r),H1)=y) ?_ (fun b10 y11 h12 h13=>?_)
 ·refine .cq ?_ ?_
  ·exact .ret rfl rfl
  ·refine .fa ?_
   refine .op ((S3.atG (i:=0) rfl).ld (j:=0) rfl) ?_
   refine .op (castS_p _) ?_
   refine .fa ?_
   refine .op ((S3.lowA ha1).ld (j:=0) rfl) ?_
   refine .op (castS_p _) ?_
   refine .call (zkl x0.Rid x1.Rid) fun r5 cs6 H7 h8 q9=>?_
   cases q9
   refine .ab ?_
   exact .ret rfl rfl
 subst h13
 refine .ab ?_
 exact .fin (S3.finN (lC (sB _).lv lN)) rfl
def zi {β:Type} (k:Nat) (kE0:Unit→Option β) (kE1:Int→Option β) (x0:(List z7)) (x1c0:z7) (x7:Int) (x8:Int):Option β:=match k with
| 0=>none
| k+1 =>
bif decide (x8<x7) then (
(ix x0 x8).bind fun a10 =>
(z73 a10 x1c0).bind fun r15 =>
bif r15 then (
kE1 x8)
else (
zi k kE0 kE1 x0 x1c0 x7 (IntKind.wrap .i64 (x8+1))))
else (
kE0 ())
def zq (k:Nat) (x0:(List z7)) (x1c0:z7):Option (Int) :=
zi k (fun (_:Unit) =>
some ((-1))) (fun r28_4 =>
some (r28_4)) x0 x1c0 ((x0.length:Int)) 0
theorem z21 {h:H}  {kE0:Unit→Option β} {kE1:Int→Option β} (hE0:∀ (_u:Unit) (H21:Go.Ev.H) (_:Fm 19 h [] [] [] H21),Sim (kE0 ()) (K ((.exit 0),(envL []),H21)) Q) (hE1:∀ (q4:Int) (H23:Go.Ev.H) (_:Fm 19 h [] [] [] H23),Sim (kE1 q4) (K (.ret,(envL [(4,(.p (.int .i64 q4)))]),H23)) Q) (k:Nat):∀ (x0:(List z7)) (x1c0:z7) (x7:Int) (x8:Int) (v3:V) (h4:SlH h zb x0 v3) (lr5:Loc) (or6:Nat) (har7:AtC h lr5 or6 (List.map C.v [(.p (.string x1c0.Rid)),(.p (.int .u32 x1c0.Ssrc)),(.p (.int .i64 x1c0.Height))])) (H1:Go.Ev.H) (_:Fm 19 h [] [] [] H1) {σ:Stamp},Sim (zi k kE0 kE1 x0 x1c0 x7 x8) ((cvL G X0 zt zr σ (envL [(0,v3),(1,(.clo 131 [(.ref lr5 or6)])),(7,(.p (.int .i64 x7))),(8,(.p (.int .i64 x8)))]) H1).bind K) Q:=by
 induction k with
 | zero=>intros;exact .no
 | succ k ih =>
  intro x0 x1c0 x7 x8 v3 h4 lr5 or6 har7 H1 S2 σ
  rw [zi]
  refine .round (Sim.ext (z4f _ _ _ _ _ _ _ _) ?_)
  refine .cq ?_ ?_
  ·refine .bd fun a10 h11=>?_
   refine .op ((S2.low h4).iS h11 rfl) ?_
   obtain ⟨w13,h14,hE12⟩:=(S2.low h4).el h11 rfl
   obtain rfl:=zb.inv h14
   refine .op (hE12.all (by simp)) ?_
   refine .clo ?_
   refine .call (zf4 a10 (show zb.R a10 [.p (.string a10.Rid),.p (.int .u32 a10.Ssrc),.p (.int .i64 a10.Height)] from (zb.mk)) x1c0 (S2.lowA har7)) fun r15 cs16 H17 h18 q19=>?_
   cases q19
   refine .ab ?_
   refine .cq ?_ ?_
   ·exact hE1 x8 H1 (S2.wk2 aN aN)
   exact ih x0 x1c0 x7 (IntKind.wrap .i64 (x8+1)) v3 h4 lr5 or6 har7 H1 (S2.wk2 aN aN)
  exact hE0 () H1 (S2.wk2 aN aN)
theorem z28 (k:Nat) {h:H} {σ:Stamp} (x0:List z7) {u0:V} (hu0:SlH h zb x0 u0) (x1c0:z7)  {l1c0:Loc} {o1c0:Nat} (ha1c0:AtC h l1c0 o1c0 (List.map C.v [(.p (.string x1c0.Rid)),(.p (.int .u32 x1c0.Ssrc)),(.p (.int .i64 x1c0.Height))])):Sim (zq k x0 x1c0) (ev G X0 163 σ [u0,(.clo 131 [(.ref l1c0 o1c0)])] h) (fun r s=>s=([.v (.p (.int .i64 r))],h)):=by
 refine .ev rfl (Sim.ext (z3l _ _ _ _ _ _) ?_)
 rw [zq]
 have S0:Fm 19 h [] [] [] (List.replicate 19 []::h):=Fm.start0
 refine .op ((S0.low hu0).len) ?_
 refine .ci ?_
 refine .as (z21 ?_ ?_ k x0 x1c0 ((x0.length:Int)) 0 u0 hu0 l1c0 o1c0 ha1c0 (List.replicate 19 []::h) (S0.wk2 aN aN))
 ·intro _u H26 S27
  refine .ext (z3w _ _ _ _) ?_
  exact .fin (S27.finN (lC (sI _ _).lv lN)) rfl
 ·intro r28_4 H29 S30
  refine .ext (z3k _ _ _ _ _) ?_
  exact .fin (S30.finN (lC (sI _ _).lv lN)) rfl
def zj (k:Nat) (x0:(List z7)) (x1c0:z7):Option (Bool) :=
(zq k x0 x1c0).bind fun r1 =>
some ((decide (r1≥0)))
theorem z20 (k:Nat) {h:H} {σ:Stamp} (x0:List z7) {u0:V} (hu0:SlH h zb x0 u0) (x1c0:z7)  {l1c0:Loc} {o1c0:Nat} (ha1c0:AtC h l1c0 o1c0 (List.map C.v [(.p (.string x1c0.Rid)),(.p (.int .u32 x1c0.Ssrc)),(.p (.int .i64 x1c0.Height))])):Sim (zj k x0 x1c0) (ev G X0 130 σ [u0,(.clo 131 [(.ref l1c0 o1c0)])] h) (fun r s=>s=([.v (.p (.bool r))],h)):=by
 refine .ev rfl (Sim.ext (z2z _ _ _ _ _ _) ?_)
 rw [zj]
 have S0:Fm 9 h [] [] [] (List.replicate 9 []::h):=Fm.start0
 refine .call (z28 k x0 (S0.low hu0) x1c0 (S0.lowA ha1c0)) fun r1 cs2 H3 h4 q5=>?_
 cases q5
 refine .ci ?_
 exact .fin (S0.finN (lC (sB _).lv lN)) rfl
def z1r {β:Type} (k:Nat) (kE0:Unit→Option β) (kE1:Int→Option β) (x0:(List z7)) (x13:(List z7)) (x14:Int) (x15:Int):Option β:=match k with
| 0=>none
| k+1 =>
bif decide (x15<x14) then (
(ix x13 x15).bind fun a13 =>
(za2 a13.Rid).bind fun r25 =>
(bif !r25 then (some true) else (some (decide (a13.Height<1)))).bind fun b30 =>
(bif b30 then (some true) else (some (decide (a13.Height>8192)))).bind fun b34 =>
(bif b34 then (some true) else ((bif decide (x15>0) then ((ix x0 (IntKind.wrap .i64 (x15-1))).bind fun a38 =>
some (decide (a13.Height≤a38.Height))) else (some false)).bind fun b46 =>
some b46)).bind fun b50 =>
bif b50 then (
kE1 26)
else (
(sub x0 0 x15).bind fun a55 =>
(zj k a55 a13).bind fun r57 =>
bif r57 then (
kE1 26)
else (
z1r k kE0 kE1 x0 x13 x14 (IntKind.wrap .i64 (x15+1)))))
else (
kE0 ())
def z2t (k:Nat) (x0:(List z7)):Option (Int) :=
(bif decide (((x0.length:Int))<1) then (some true) else (some (decide (((x0.length:Int))>3)))).bind fun b1 =>
bif b1 then (
some (26))
else (
z1r k (fun (_:Unit) =>
some (0)) (fun r70_2 =>
some (r70_2)) x0 x0 ((x0.length:Int)) 0)
theorem zee {h:H}  {kE0:Unit→Option β} {kE1:Int→Option β} (hE0:∀ (_u:Unit) (H63:Go.Ev.H) (_:Fm 55 h [] [] [] H63),Sim (kE0 ()) (K ((.exit 0),(envL []),H63)) Q) (hE1:∀ (q2:Int) (H65:Go.Ev.H) (_:Fm 55 h [] [] [] H65),Sim (kE1 q2) (K (.ret,(envL [(2,(.p (.int .i64 q2)))]),H65)) Q) (k:Nat):∀ (x0:(List z7)) (x13:(List z7)) (x14:Int) (x15:Int) (v8:V) (h9:SlH h zb x0 v8) (v10:V) (h11:SlH h zb x13 v10) (H6:Go.Ev.H) (_:Fm 55 h [] [] [] H6) {σ:Stamp},Sim (z1r k kE0 kE1 x0 x13 x14 x15) ((cvL G X0 z5x z5y σ (envL [(0,v8),(13,v10),(14,(.p (.int .i64 x14))),(15,(.p (.int .i64 x15)))]) H6).bind K) Q:=by
 induction k with
 | zero=>intros;exact .no
 | succ k ih =>
  intro x0 x13 x14 x15 v8 h9 v10 h11 H6 S7 σ
  rw [z1r]
  refine .round (Sim.ext (zi6 _ _ _ _ _ _ _ _) ?_)
  refine .cq ?_ ?_
  ·refine .bd fun a13 h14=>?_
   refine .op ((S7.low h11).iS h14 rfl) ?_
   obtain ⟨w16,h17,hE15⟩:=(S7.low h11).el h14 rfl
   obtain rfl:=zb.inv h17
   refine .op (hE15.all (by simp)) ?_
   obtain ⟨H18,e19,S20⟩:=S7.al (d:=4) (s:=(3::0::0::1::1::0::σ)) (z:=[(.p (.string ((⟨#[]⟩:ByteArray)))),(.p (.int .u32 0)),(.p (.int .i64 0))]) (by decide) rfl
   refine .op (congrArg some e19) ?_
   obtain ⟨H22,e23,S24⟩:=S20.stGv (i:=0) (j:=0) (own:=false) (σ:=(5::0::0::1::1::0::σ)) (xs:=[.p (.string a13.Rid),.p (.int .u32 a13.Ssrc),.p (.int .i64 a13.Height)]) rfl rfl (sC (still_str _) (sC (sI _ _) (sC (sI _ _) sN))) rfl rfl
   refine .op (sM e23) ?_
   refine .fa ?_
   refine .op ((S24.atG (i:=0) rfl).ld (j:=0) rfl) ?_
   refine .op (castS_p _) ?_
   refine .call (ziv a13.Rid) fun r25 cs26 H27 h28 q29=>?_
   cases q29
   refine .ab ?_
   refine .ch (P:=fun r y=>r=y) ?_ (fun b30 y31 h32 h33=>?_)
   ·refine .cq ?_ ?_
    ·exact .ret rfl rfl
    ·refine .fa ?_
     refine .op ((S24.atG (i:=0) rfl).ld (j:=2) rfl) ?_
     refine .ci ?_
     exact .ret rfl rfl
   subst h33
   refine .ch (P:=fun r y=>r=y) ?_ (fun b34 y35 h36 h37=>?_)
   ·refine .cq ?_ ?_
    ·exact .ret rfl rfl
    ·refine .fa ?_
     refine .op ((S24.atG (i:=0) rfl).ld (j:=2) rfl) ?_
     refine .ci ?_
     exact .ret rfl rfl
   subst h37
   refine .ch (P:=fun r y=>r=y) ?_ (fun b50 y51 h52 h53=>?_)
   ·refine .cq ?_ ?_
    ·exact .ret rfl rfl
    ·refine .ch (P:=fun r y=>r=y) ?_ (fun b46 y47 h48 h49=>?_)
     ·refine .cq ?_ ?_
      ·refine .fa ?_
       refine .op ((S24.atG (i:=0) rfl).ld (j:=2) rfl) ?_
       refine .ci ?_
       refine .bd fun a38 h39=>?_
       refine .op ((S24.low h9).iS h39 rfl) ?_
       obtain ⟨w41,h42,hE40⟩:=(S24.low h9).el h39 rfl
       obtain rfl:=zb.inv h42
       refine .op (hE40.fa (j:=2) (by simp)) ?_
       obtain ⟨w44,h45,hE43⟩:=(S24.low h9).el h39 rfl
       obtain rfl:=zb.inv h45
       refine .op (hE43.ld (j:=2) rfl) ?_
       refine .ci ?_
       exact .ret rfl rfl
      ·exact .ret rfl rfl
     subst h49
     exact .ret rfl rfl
   subst h53
   refine .cq ?_ ?_
   ·exact hE1 26 H22 (S24.wk2 aN aN)
   refine .bd fun a55 h56=>?_
   refine .op ((S24.low h9).slS h56 rfl rfl rfl) ?_
   refine .call (z20 k a55 ((S24.low h9).sub h56 (e:=3) rfl) a13 (S24.atG (i:=0) rfl)) fun r57 cs58 H59 h60 q61=>?_
   cases q61
   refine .ab ?_
   refine .cq ?_ ?_
   ·exact hE1 26 H22 (S24.wk2 aN aN)
   exact ih x0 x13 x14 (IntKind.wrap .i64 (x15+1)) v8 h9 v10 h11 H22 (S24.wk2 aN aN)
  exact hE0 () H6 (S7.wk2 aN aN)
theorem zi8 (k:Nat) {h:H} {σ:Stamp} (x0:List z7) {u0:V} (hu0:SlH h zb x0 u0):Sim (z2t k x0) (ev G X0 82 σ [u0] h) (fun r s=>s=([.v (.p (.int .i64 r))],h)):=by
 refine .ev rfl (Sim.ext (zes _ _ _ _ _) ?_)
 rw [z2t]
 have S0:Fm 55 h [] [] [] (List.replicate 55 []::h):=Fm.start0
 refine .op ((S0.low hu0).len) ?_
 refine .ci ?_
 refine .ch (P:=fun r y=>r=y) ?_ (fun b1 y2 h3 h4=>?_)
 ·refine .cq ?_ ?_
  ·exact .ret rfl rfl
  ·refine .op ((S0.low hu0).len) ?_
   refine .ci ?_
   exact .ret rfl rfl
 subst h4
 refine .cq ?_ ?_
 ·exact .fin (S0.finN (lC (sI _ _).lv lN)) rfl
 refine .op ((S0.low hu0).len) ?_
 refine .ci ?_
 refine .as (zee ?_ ?_ k x0 x0 ((x0.length:Int)) 0 u0 hu0 u0 hu0 (List.replicate 55 []::h) (S0.wk2 aN aN))
 ·intro _u H68 S69
  refine .ext (zfp _ _ _ _) ?_
  exact .fin (S69.finN (lC (sI _ _).lv lN)) rfl
 ·intro r70_2 H71 S72
  refine .ext (zdq _ _ _ _ _) ?_
  exact .fin (S72.finN (lC (sI _ _).lv lN)) rfl
end
end Go.Ev
namespace Go.Ev
open Go.Proofs
set_option linter.unusedVariables false
set_option linter.unusedSimpArgs false
set_option maxRecDepth 100000
noncomputable section
abbrev KT21:=Exit→Env→H→Option (List C × H)
variable (rec : CallF) (loop : LoopV) (σ : Stamp)
theorem zf1  (h:H):cvBody G rec loop 84 σ [] h =
(buildV Try.prog 196 []).bind fun t1 =>
(boxO false (1::0::1::0::σ) 2 (List.replicate 3 []::h) t1).bind fun q2 =>
fin false σ q2.2 [q2.1]:=by kernel_rfl
end
end Go.Ev
namespace Go.Ev
open Go.Proofs
set_option linter.unusedVariables false
set_option linter.unusedSimpArgs false
set_option maxRecDepth 100000
section
variable {β α : Type} {Q : β→α→Prop} {K : Exit × Env × H→Option α}
def za6 :Option (z6) :=
some ((⟨[0,0,0,0,0],0,0⟩:z6))
theorem zjk {h:H} {σ:Stamp} :Sim (za6 ) (ev G X0 84 σ [] h) (fun r s=>∃ (s0:Stamp),s=([.own s0 [.v (.p (.int .i64 (r.slots.getD 0 0))),.v (.p (.int .i64 (r.slots.getD 1 0))),.v (.p (.int .i64 (r.slots.getD 2 0))),.v (.p (.int .i64 (r.slots.getD 3 0))),.v (.p (.int .i64 (r.slots.getD 4 0))),.v (.p (.int .i64 r.last)),.v (.p (.int .i64 r.total))]],h)):=by
 refine .ev rfl (Sim.ext (zf1 _ _ _ _) ?_)
 rw [za6]
 have S0:Fm 3 h [] [] [] (List.replicate 3 []::h):=Fm.start0
 refine .op (bldV pN (by kernel_rfl:_=some (.agg [.p (.int .i64 0),.p (.int .i64 0),.p (.int .i64 0),.p (.int .i64 0),.p (.int .i64 0),.p (.int .i64 0),.p (.int .i64 0)]))) ?_
 obtain ⟨H1,e2,S3⟩:=S0.box (own:=false) (d:=2) (s:=(1::0::1::0::σ)) (xs:=[.p (.int .i64 0),.p (.int .i64 0),.p (.int .i64 0),.p (.int .i64 0),.p (.int .i64 0),.p (.int .i64 0),.p (.int .i64 0)]) (sC (sI _ _) (sC (sI _ _) (sC (sI _ _) (sC (sI _ _) (sC (sI _ _) (sC (sI _ _) (sC (sI _ _) sN))))))) (by decide) rfl
 refine .op (e2) ?_
 obtain ⟨H5,e6,S7⟩:=S3.expG (i:=0) (τ:=0::1::σ) rfl rfl
 exact .fin (S7.finE (Ex.st e6 Ex.nil)) ⟨(1::0::1::0::σ),rfl⟩
end
end Go.Ev
namespace Go.Ev
open Go.Proofs
set_option linter.unusedVariables false
set_option linter.unusedSimpArgs false
set_option maxRecDepth 100000
noncomputable section
abbrev KT22:=Exit→Env→H→Option (List C × H)
variable (rec : CallF) (loop : LoopV) (σ : Stamp)
theorem zie  (h:H):cvBody G rec loop 83 σ [] h =
(buildV Try.prog 193 [(0,(.p (.int .i64 (-1)))),(1,(.p (.int .i64 (-1))))]).bind fun t1 =>
(boxO false (1::0::1::0::σ) 2 (List.replicate 3 []::h) t1).bind fun q2 =>
fin false σ q2.2 [q2.1]:=by kernel_rfl
end
end Go.Ev
namespace Go.Ev
open Go.Proofs
set_option linter.unusedVariables false
set_option linter.unusedSimpArgs false
set_option maxRecDepth 100000
section
variable {β α : Type} {Q : β→α→Prop} {K : Exit × Env × H→Option α}
def zcv :Option (z1b) :=
some ((⟨(-1),(-1),0,0⟩:z1b))
theorem zlf {h:H} {σ:Stamp} :Sim (zcv ) (ev G X0 83 σ [] h) (fun r s=>∃ (s0:Stamp),s=([.own s0 [.v (.p (.int .i64 r.first)),.v (.p (.int .i64 r.last)),.v (.p (.int .i64 r.count)),.v (.p (.int .u64 r.mask))]],h)):=by
 refine .ev rfl (Sim.ext (zie _ _ _ _) ?_)
 rw [zcv]
 have S0:Fm 3 h [] [] [] (List.replicate 3 []::h):=Fm.start0
 refine .op (bldV (pC rfl (pC rfl pN)) (by kernel_rfl:_=some (.agg [.p (.int .i64 (-1)),.p (.int .i64 (-1)),.p (.int .i64 0),.p (.int .u64 0)]))) ?_
 obtain ⟨H1,e2,S3⟩:=S0.box (own:=false) (d:=2) (s:=(1::0::1::0::σ)) (xs:=[.p (.int .i64 (-1)),.p (.int .i64 (-1)),.p (.int .i64 0),.p (.int .u64 0)]) (sC (sI _ _) (sC (sI _ _) (sC (sI _ _) (sC (sI _ _) sN)))) (by decide) rfl
 refine .op (e2) ?_
 obtain ⟨H5,e6,S7⟩:=S3.expG (i:=0) (τ:=0::1::σ) rfl rfl
 exact .fin (S7.finE (Ex.st e6 Ex.nil)) ⟨(1::0::1::0::σ),rfl⟩
def z5f {β:Type} (k:Nat) (kE0:z8→Option β) (x11:(List z7)) (x12:Int) (x13:Int) (yg10:z8):Option β:=match k with
| 0=>none
| k+1 =>
bif decide (x13<x12) then (
(ix x11 x13).bind fun a20 =>
(zcv).bind fun r32 =>
(za6).bind fun r42 =>
(ap 80 yg10.l [(⟨a20,r32,(⟨[((r42.slots.getD 0 0)),((r42.slots.getD 1 0)),((r42.slots.getD 2 0)),((r42.slots.getD 3 0)),((r42.slots.getD 4 0))],r42.last,r42.total⟩:z6),false,0,false,false,0⟩:z18)]).bind fun a58 =>
z5f k kE0 x11 x12 (IntKind.wrap .i64 (x13+1)) ((⟨a58⟩:z8)))
else (
kE0 yg10)
def z4m (k:Nat) (x0:(List z7)):Option ((Option z8)) :=
(z2t k x0).bind fun r1 =>
bif r1 != 0 then (
some (none))
else (
z5f k (fun yg18 =>
some ((some yg18))) x0 ((x0.length:Int)) 0 ((⟨(([]:List z18))⟩:z8)))
theorem zg0 {h:H}  {kE0:z8→Option β} (hE0:∀ (yg18:z8) (c76:C) (h77:RsC zg yg18.l c76) (s78:Stamp) (H74:Go.Ev.H) (_:Fm 32 h [] [(10,s78,[c76])] [] H74),Sim (kE0 yg18) (K ((.exit 0),(envL [(3,(.ref ⟨h.length,10,0,s78,[]⟩ 0))]),H74)) Q) (k:Nat):∀ (x11:(List z7)) (x12:Int) (x13:Int) (yg10:z8) (v13:V) (h14:SlH h zb x11 v13) (c15:C) (h16:RsC zg yg10.l c15) (s17:Stamp) (H11:Go.Ev.H) (_:Fm 32 h [] [(10,s17,[c15])] [] H11) {σ:Stamp},Sim (z5f k kE0 x11 x12 x13 yg10) ((cvL G X0 z6h z6q σ (envL [(3,(.ref ⟨h.length,10,0,s17,[]⟩ 0)),(11,v13),(12,(.p (.int .i64 x12))),(13,(.p (.int .i64 x13)))]) H11).bind K) Q:=by
 induction k with
 | zero=>intros;exact .no
 | succ k ih =>
  intro x11 x12 x13 yg10 v13 h14 c15 h16 s17 H11 S12 σ
  rw [z5f]
  refine .round (Sim.ext (zjs _ _ _ _ _ _ _ _) ?_)
  refine .cq ?_ ?_
  ·refine .bd fun a20 h21=>?_
   refine .op ((S12.low h14).iS h21 rfl) ?_
   obtain ⟨w23,h24,hE22⟩:=(S12.low h14).el h21 rfl
   obtain rfl:=zb.inv h24
   refine .op (hE22.all (by simp)) ?_
   obtain ⟨H25,e26,S27⟩:=S12.al (d:=5) (s:=(2::0::0::1::1::0::σ)) (z:=[(.p (.string ((⟨#[]⟩:ByteArray)))),(.p (.int .u32 0)),(.p (.int .i64 0))]) (by decide) rfl
   refine .op (congrArg some e26) ?_
   obtain ⟨H29,e30,S31⟩:=S27.stGv (i:=0) (j:=0) (own:=false) (σ:=(3::0::0::1::1::0::σ)) (xs:=[.p (.string a20.Rid),.p (.int .u32 a20.Ssrc),.p (.int .i64 a20.Height)]) rfl rfl (sC (still_str _) (sC (sI _ _) (sC (sI _ _) sN))) rfl rfl
   refine .op (sM e30) ?_
   refine .nc ?_
   refine .fa ?_
   refine .op (RsC.ld h16 (S31.atG (i:=1) rfl) (j:=0) rfl) ?_
   refine .op ((S31.atG (i:=0) rfl).ldVs (j:=0) (xs:=[.p (.string a20.Rid),.p (.int .u32 a20.Ssrc),.p (.int .i64 a20.Height)]) rfl rfl (by decide)) ?_
   refine .call (zlf ) fun r32 cs33 H34 h35 q36=>?_
   obtain ⟨s37,q36⟩:=q36
   cases q36
   obtain ⟨H38,e39,S40⟩:=S31.landG (d:=23) (s:=s37) (cs:=List.map C.v [(.p (.int .i64 r32.first)),(.p (.int .i64 r32.last)),(.p (.int .i64 r32.count)),(.p (.int .u64 r32.mask))]) (by decide) rfl
   erw [e39]
   refine .nd ((S40.atG (i:=1) rfl).ldVs (j:=0) (xs:=[.p (.string a20.Rid),.p (.int .u32 a20.Ssrc),.p (.int .i64 a20.Height)]) rfl rfl (by decide)) ?_
   refine .nd (RsC.ld h16 (S40.atG (i:=2) rfl) (j:=0) rfl) ?_
   refine .call (zjk ) fun r42 cs43 H44 h45 q46=>?_
   obtain ⟨s47,q46⟩:=q46
   cases q46
   obtain ⟨H48,e49,S50⟩:=S40.landG (d:=24) (s:=s47) (cs:=List.map C.v [(.p (.int .i64 ((r42.slots.getD 0 0)))),(.p (.int .i64 ((r42.slots.getD 1 0)))),(.p (.int .i64 ((r42.slots.getD 2 0)))),(.p (.int .i64 ((r42.slots.getD 3 0)))),(.p (.int .i64 ((r42.slots.getD 4 0)))),(.p (.int .i64 r42.last)),(.p (.int .i64 r42.total))]) (by decide) rfl
   erw [e49]
   refine .nd ((S50.atG (i:=2) rfl).ldVs (j:=0) (xs:=[.p (.string a20.Rid),.p (.int .u32 a20.Ssrc),.p (.int .i64 a20.Height)]) rfl rfl (by decide)) ?_
   refine .nd (RsC.ld h16 (S50.atG (i:=3) rfl) (j:=0) rfl) ?_
   refine .op (bldV (pC (c:=[.p (.string a20.Rid),.p (.int .u32 a20.Ssrc),.p (.int .i64 a20.Height)]) rfl (pC rfl (pC rfl pN))) (by kernel_rfl:_=some (.agg [(.p (.string a20.Rid)),(.p (.int .u32 a20.Ssrc)),(.p (.int .i64 a20.Height)),(.ref ⟨h.length,23,0,s37,[]⟩ 0),(.ref ⟨h.length,24,0,s47,[]⟩ 0),(.p (.bool false)),(.p (.int .i64 0)),(.p (.bool false)),(.p (.bool false)),(.p (.int .i64 0))]))) ?_
   refine .op (bldS1 (e:=10) (te:=150) (z:=[.p (.string (⟨#[]⟩:ByteArray)),.p (.int .u32 0),.p (.int .i64 0),.p (.pointer none),.p (.pointer none),.p (.bool false),.p (.int .i64 0),.p (.bool false),.p (.bool false),.p (.int .i64 0)]) (by kernel_rfl) (by kernel_rfl) ⟨⟨rfl,by kernel_rfl,by decide,by decide⟩,trivial⟩ ((show List.length [(.p (.string a20.Rid)),(.p (.int .u32 a20.Ssrc)),(.p (.int .i64 a20.Height)),(.ref ⟨h.length,23,0,s37,[]⟩ 0),(.ref ⟨h.length,24,0,s47,[]⟩ 0),(.p (.bool false)),(.p (.int .i64 0)),(.p (.bool false)),(.p (.bool false)),(.p (.int .i64 0))]=List.length [(.p (.string a20.Rid)),(.p (.int .u32 a20.Ssrc)),(.p (.int .i64 a20.Height)),(.ref ⟨h.length,23,0,s37,[]⟩ 0),(.ref ⟨h.length,24,0,s47,[]⟩ 0),(.p (.bool false)),(.p (.int .i64 0)),(.p (.bool false)),(.p (.bool false)),(.p (.int .i64 0))] from rfl).trans rfl)) ?_
   obtain ⟨H52,e53,S54⟩:=S50.layR (i:=1) (own:=false) rfl rfl
   obtain ⟨H55,e56,S57⟩:=S54.layR (i:=0) (own:=false) rfl rfl
   refine .bd fun a58 h59=>?_
   obtain ⟨c60,ds61,H62,e63,h64,h65,S66⟩:=S57.appR (i:=1) (j:=0) (d:=27) (e:=10) (own:=false) (σ:=(10::1::0::1::1::0::σ)) (dt:=zg) (t:=true) rfl rfl h16 (lx_pl (still_str _) (lx_pl (sI _ _) (lx_pl (sI _ _) (lx_ow e53 (lx_ow e56 (lx_pl (sB _) (lx_pl (sI _ _) (lx_pl (sB _) (lx_pl (sB _) (lx_pl (sI _ _) lx_nil)))))))))) rfl (show zg.R ((⟨a20,r32,(⟨[((r42.slots.getD 0 0)),((r42.slots.getD 1 0)),((r42.slots.getD 2 0)),((r42.slots.getD 3 0)),((r42.slots.getD 4 0))],r42.last,r42.total⟩:z6),false,0,false,false,0⟩:z18)) [.v (.p (.string a20.Rid)),.v (.p (.int .u32 a20.Ssrc)),.v (.p (.int .i64 a20.Height)),.own s37 (List.map C.v [(.p (.int .i64 r32.first)),(.p (.int .i64 r32.last)),(.p (.int .i64 r32.count)),(.p (.int .u64 r32.mask))]),.own s47 (List.map C.v [(.p (.int .i64 ((r42.slots.getD 0 0)))),(.p (.int .i64 ((r42.slots.getD 1 0)))),(.p (.int .i64 ((r42.slots.getD 2 0)))),(.p (.int .i64 ((r42.slots.getD 3 0)))),(.p (.int .i64 ((r42.slots.getD 4 0)))),(.p (.int .i64 r42.last)),(.p (.int .i64 r42.total))]),.v (.p (.bool false)),.v (.p (.int .i64 0)),.v (.p (.bool false)),.v (.p (.bool false)),.v (.p (.int .i64 0))] from ⟨s37,s47,rfl⟩) h59 rfl (by decide) (by decide) rfl rfl
   refine .op (e63) ?_
   refine .nc ?_
   refine .fa ?_
   obtain ⟨H67,e68,S69⟩:=S66.stR (j:=0) (σ:=(13::1::0::1::1::0::σ)) h65 (i:=1) rfl rfl rfl rfl
   obtain ⟨c70,e71,h73⟩:∃ c,c=.arr (10::1::0::1::1::0::σ) a58.length 10 ds61∧RsC zg a58 c:=⟨_,rfl,.inr ⟨_,_,rfl,h64⟩⟩
   have S72:Fm 32 h [] [(5,(2::0::0::1::1::0::σ),List.map C.v [(.p (.string a20.Rid)),(.p (.int .u32 a20.Ssrc)),(.p (.int .i64 a20.Height))]),(10,s17,[c70])] [] H67:=by rw [e71];exact S69
   refine .op (sM e68) ?_
   exact ih x11 x12 (IntKind.wrap .i64 (x13+1)) ((⟨a58⟩:z8)) v13 h14 c70 h73 s17 H67 (S72.wk2 (aC (aM 1 rfl) aN) aN)
  exact hE0 yg10 c15 h16 s17 H11 (S12.wk2 (aC (aM 0 rfl) aN) aN)
theorem zk1 (k:Nat) {h:H} {σ:Stamp} (x0:List z7) {u0:V} (hu0:SlH h zb x0 u0):Sim (z4m k x0) (ev G X0 40 σ [u0] h) (fun r s=>match r with | none=>s=([.v (.p (.pointer none))],h) | some r=>∃ (s0:Stamp),∃ (cr0_0:C),RsC zg r.l cr0_0∧s=([.own s0 [cr0_0]],h)):=by
 refine .ev rfl (Sim.ext (zf9 _ _ _ _ _) ?_)
 rw [z4m]
 have S0:Fm 32 h [] [] [] (List.replicate 32 []::h):=Fm.start0
 refine .call (zi8 k x0 (S0.low hu0)) fun r1 cs2 H3 h4 q5=>?_
 cases q5
 refine .ci ?_
 refine .cq ?_ ?_
 ·exact .fin (S0.finN (lC (Still.lv still_nilP) lN)) rfl
 refine .op (bldV pN (by kernel_rfl:_=some (.agg [(.p (.slice none 0 0))]))) ?_
 obtain ⟨H7,e8,S9⟩:=S0.box (own:=true) (d:=10) (s:=(1::0::1::1::0::σ)) (xs:=[(.p (.slice none 0 0))]) (sC still_nilS sN) (by decide) rfl
 refine .op (e8) ?_
 refine .op ((S9.low hu0).len) ?_
 refine .ci ?_
 refine .as (zg0 ?_ k x0 ((x0.length:Int)) 0 ((⟨(([]:List z18))⟩:z8)) u0 hu0 (.v (.p (.slice none 0 0))) RsC.nil (1::0::1::1::0::σ) H7 (S9.wk2 (aC (aM 0 rfl) aN) aN))
 ·intro yg18 c83 h84 s85 H81 S82
  refine .ext (zgo _ _ _ _ _) ?_
  obtain ⟨H87,e88,S89⟩:=S82.expG (i:=0) (τ:=0::1::σ) rfl rfl
  exact .fin (S89.finE (Ex.st e88 Ex.nil)) ⟨s85,c83,h84,rfl⟩
end
end Go.Ev
namespace Go.Ev
open Go.Proofs
set_option linter.unusedVariables false
set_option linter.unusedSimpArgs false
set_option maxRecDepth 100000
noncomputable section
abbrev KT23:=Exit→Env→H→Option (List C × H)
variable (rec : CallF) (loop : LoopV) (σ : Stamp)
def z3m:Code:=(codeAt (bodyOf Try.f39) [1,1,0,1,0,0])
def z3p:Lv:=⟨32,16,[(0,32)]⟩
def z80:KT23:=(kBlock 0 (kSeq G rec loop (codeAt (bodyOf Try.f39) [1,1,1]) ⟨16,16,[]⟩ (1::1::0::σ) (finC G false Try.f39 (1::σ))))
theorem zaw (x0:V) (x1:Int) (h:H):cvBody G rec loop 39 σ [x0,(.p (.int .i64 x1))] h =
(loop z3m z3p (1::0::1::1::0::σ) (envL [(0,x0),(1,(.p (.int .i64 x1))),(5,(.p (.slice .none 0 0))),(6,(.p (.int .i64 0)))]) (List.replicate 34 []::h)).bind fun r1=>z80 rec loop σ r1.1 r1.2.1 r1.2.2:=by kernel_rfl
theorem zdo (x0:V) (x1:Int) (x5:V) (x6:Int) (h:H):zo G rec loop z3m z3p σ (envL [(0,x0),(1,(.p (.int .i64 x1))),(5,x5),(6,(.p (.int .i64 x6)))]) h =
(callO rec 56 (2::0::0::0::σ) [x0,(.p (.int .i64 3))] h (some 9)).bind fun q2 =>
(castI .i64 q2.1).bind fun n3 =>
bif decide (x6≤n3) then (
(bSV Try.prog 141 3 [(0,(.p (.string ((⟨#[108,111]⟩:ByteArray))))),(1,(.p (.string ((⟨#[109,105,100]⟩:ByteArray))))),(2,(.p (.string ((⟨#[72,73]⟩:ByteArray)))))]).bind fun t4 =>
(iS 1 t4 x6).bind fun t5 =>
(ldO false 1 q2.2 t5).bind fun t6 =>
(castS t6).bind fun s7 =>
(callO rec 56 (15::0::1::0::σ) [x0,(.p (.int .i64 90))] q2.2 (some 28)).bind fun q8 =>
(castI .i64 q8.1).bind fun n9 =>
need ((some (.p (.int .u32 (IntKind.wrap .u32 (IntKind.wrap .i64 ((IntKind.wrap .i64 ((IntKind.wrap .i64 (100*x1))+x6))+7))))):Option V)=some (.p (.int .u32 (IntKind.wrap .u32 (IntKind.wrap .i64 ((IntKind.wrap .i64 ((IntKind.wrap .i64 (100*x1))+x6))+7)))))) (
need (ldO false 1 q8.2 t5=some (.p (.string s7))) (
(buildV Try.prog 83 [(0,(.p (.string s7))),(1,(.p (.int .u32 (IntKind.wrap .u32 (IntKind.wrap .i64 ((IntKind.wrap .i64 ((IntKind.wrap .i64 (100*x1))+x6))+7)))))),(2,(.p (.int .i64 (IntKind.wrap .i64 ((IntKind.wrap .i64 (180*(IntKind.wrap .i64 (x6+1))))+n9)))))]).bind fun t10 =>
(bSV Try.prog 49 1 [(0,t10)]).bind fun t11 =>
(apO false 3 32 (19::0::1::0::σ) 32 q8.2 x5 t11).bind fun q12 =>
loop z3m z3p (1::σ) (envL [(0,x0),(1,(.p (.int .i64 x1))),(5,q12.1),(6,(.p (.int .i64 (IntKind.wrap .i64 (x6+1)))))]) q12.2)))
else (
some ((.exit 0),(envL [(5,x5)]),q2.2)):=by kernel_rfl
theorem zby (x5:V) (h:H):z80 rec loop σ (.exit 0) (envL [(5,x5)]) h =
fin false σ h [x5]:=by kernel_rfl
end
end Go.Ev
namespace Go.Ev
open Go.Proofs
set_option linter.unusedVariables false
set_option linter.unusedSimpArgs false
set_option maxRecDepth 100000
section
variable {β α : Type} {Q : β→α→Prop} {K : Exit × Env × H→Option α}
def z10 {β:Type} (k:Nat) (kE0:(List z7)→TzTape→Option β) (x1:Int) (x5:(List z7)) (x6:Int) (zp0:TzTape):Option β:=match k with
| 0=>none
| k+1 =>
(z2o zp0 3).bind fun r11 =>
bif decide (x6≤r11.1) then (
(ix ([((⟨#[108,111]⟩:ByteArray)),((⟨#[109,105,100]⟩:ByteArray)),((⟨#[72,73]⟩:ByteArray))]) x6).bind fun a21 =>
(z2o r11.2 90).bind fun r24 =>
(ap 32 x5 ([((⟨a21,(IntKind.wrap .u32 (IntKind.wrap .i64 ((IntKind.wrap .i64 ((IntKind.wrap .i64 (100*x1))+x6))+7))),(IntKind.wrap .i64 ((IntKind.wrap .i64 (180*(IntKind.wrap .i64 (x6+1))))+r24.1))⟩:z7))])).bind fun a34 =>
z10 k kE0 x1 a34 (IntKind.wrap .i64 (x6+1)) r24.2)
else (
kE0 x5 r11.2)
def z2x (k:Nat) (x0:TzTape) (x1:Int):Option ((List z7)×TzTape) :=
z10 k (fun r50_5 zp0 =>
some (r50_5,zp0)) x1 (([]:List z7)) 0 x0
theorem zav {h:H} {l0:Loc} {o0:Nat} {kE0:(List z7)→TzTape→Option β} (hE0:∀ (q5:(List z7)) (zp0:TzTape) (v42:V) (w44:List V) (h45:z3s.R zp0 w44) (H40:Go.Ev.H) (_:Fm 34 h [⟨l0,o0,List.map C.v w44⟩] [] [⟨[32],v42,zb,q5⟩] H40),Sim (kE0 q5 zp0) (K ((.exit 0),(envL [(5,v42)]),H40)) Q) (k:Nat):∀ (x1:Int) (x5:(List z7)) (x6:Int) (zp0:TzTape) (v5:V) (w7:List V) (h8:z3s.R zp0 w7) (H3:Go.Ev.H) (_:Fm 34 h [⟨l0,o0,List.map C.v w7⟩] [] [⟨[32],v5,zb,x5⟩] H3) {σ:Stamp},Sim (z10 k kE0 x1 x5 x6 zp0) ((cvL G X0 z3m z3p σ (envL [(0,(.ref l0 o0)),(1,(.p (.int .i64 x1))),(5,v5),(6,(.p (.int .i64 x6)))]) H3).bind K) Q:=by
 induction k with
 | zero=>intros;exact .no
 | succ k ih =>
  intro x1 x5 x6 zp0 v5 w7 h8 H3 S4 σ
  rw [z10]
  refine .round (Sim.ext (zdo _ _ _ _ _ _ _ _) ?_)
  obtain ⟨v9,rfl,h10⟩:=z3s.inv h8
  refine .call (z9h zp0 h10 (S4.atB (i:=0) rfl) 3) fun r11 cs12 H13 h14 q15=>?_
  obtain ⟨v16,h17,q15⟩:=q15
  cases q15
  have S18:=S4.setB (i:=0) (cs:=List.map C.v [v16,(.p (.int .i64 r11.2.f_At))]) rfl rfl
  refine .ci ?_
  refine .cq ?_ ?_
  ·have h20:SlF dS [((⟨#[108,111]⟩:ByteArray)),((⟨#[109,105,100]⟩:ByteArray)),((⟨#[72,73]⟩:ByteArray))] (.fz [(.p (.string ((⟨#[108,111]⟩:ByteArray)))),(.p (.string ((⟨#[109,105,100]⟩:ByteArray)))),(.p (.string ((⟨#[72,73]⟩:ByteArray))))] 3 1 true):=SlF.lit (cs:=[(.p (.string ((⟨#[108,111]⟩:ByteArray)))),(.p (.string ((⟨#[109,105,100]⟩:ByteArray)))),(.p (.string ((⟨#[72,73]⟩:ByteArray))))]) (RL.cons (show dS.R ((⟨#[108,111]⟩:ByteArray)) [(.p (.string ((⟨#[108,111]⟩:ByteArray))))] from rfl) (RL.cons (show dS.R ((⟨#[109,105,100]⟩:ByteArray)) [(.p (.string ((⟨#[109,105,100]⟩:ByteArray))))] from rfl) (RL.cons (show dS.R ((⟨#[72,73]⟩:ByteArray)) [(.p (.string ((⟨#[72,73]⟩:ByteArray))))] from rfl) RL.nil))) rfl rfl true
   refine .op (bldS (pC rfl (pC rfl (pC rfl pN))) (by kernel_rfl:_=some (vOf h20))) ?_
   refine .bd fun a21 h22=>?_
   refine .op ((h20.h (ptC H3 l0 o0 (List.map C.v [v16,(.p (.int .i64 r11.2.f_At))]))).iS h22 rfl) ?_
   obtain ⟨_,rfl,hE23⟩:=(h20.h (ptC H3 l0 o0 (List.map C.v [v16,(.p (.int .i64 r11.2.f_At))]))).el h22 rfl
   refine .op (hE23.ld (j:=0) rfl) ?_
   refine .op (castS_p _) ?_
   refine .call (z9h r11.2 h17 (S18.atB (i:=0) rfl) 90) fun r24 cs25 H26 h27 q28=>?_
   obtain ⟨v29,h30,q28⟩:=q28
   cases q28
   have S31:=S18.setB (i:=0) (cs:=List.map C.v [v29,(.p (.int .i64 r24.2.f_At))]) rfl rfl
   refine .ci ?_
   refine .nd (rfl) ?_
   obtain ⟨_,rfl,hE32⟩:=(h20.h (ptC (ptC H3 l0 o0 (List.map C.v [v16,(.p (.int .i64 r11.2.f_At))])) l0 o0 (List.map C.v [v29,(.p (.int .i64 r24.2.f_At))]))).el h22 rfl
   refine .nd (hE32.ld (j:=0) rfl) ?_
   refine .op (bldV (pC rfl (pC rfl (pC rfl pN))) (by kernel_rfl:_=some (.agg [.p (.string a21),.p (.int .u32 (IntKind.wrap .u32 (IntKind.wrap .i64 ((IntKind.wrap .i64 ((IntKind.wrap .i64 (100*x1))+x6))+7)))),.p (.int .i64 (IntKind.wrap .i64 ((IntKind.wrap .i64 (180*(IntKind.wrap .i64 (x6+1))))+r24.1)))]))) ?_
   have h33:SlF zb [((⟨a21,(IntKind.wrap .u32 (IntKind.wrap .i64 ((IntKind.wrap .i64 ((IntKind.wrap .i64 (100*x1))+x6))+7))),(IntKind.wrap .i64 ((IntKind.wrap .i64 (180*(IntKind.wrap .i64 (x6+1))))+r24.1))⟩:z7))] (.fz [(.p (.string a21)),(.p (.int .u32 (IntKind.wrap .u32 (IntKind.wrap .i64 ((IntKind.wrap .i64 ((IntKind.wrap .i64 (100*x1))+x6))+7))))),(.p (.int .i64 (IntKind.wrap .i64 ((IntKind.wrap .i64 (180*(IntKind.wrap .i64 (x6+1))))+r24.1))))] 1 3 true):=SlF.lit (cs:=[(.p (.string a21)),(.p (.int .u32 (IntKind.wrap .u32 (IntKind.wrap .i64 ((IntKind.wrap .i64 ((IntKind.wrap .i64 (100*x1))+x6))+7))))),(.p (.int .i64 (IntKind.wrap .i64 ((IntKind.wrap .i64 (180*(IntKind.wrap .i64 (x6+1))))+r24.1))))]) (RL.cons (show zb.R ((⟨a21,(IntKind.wrap .u32 (IntKind.wrap .i64 ((IntKind.wrap .i64 ((IntKind.wrap .i64 (100*x1))+x6))+7))),(IntKind.wrap .i64 ((IntKind.wrap .i64 (180*(IntKind.wrap .i64 (x6+1))))+r24.1))⟩:z7)) [.p (.string a21),.p (.int .u32 (IntKind.wrap .u32 (IntKind.wrap .i64 ((IntKind.wrap .i64 ((IntKind.wrap .i64 (100*x1))+x6))+7)))),.p (.int .i64 (IntKind.wrap .i64 ((IntKind.wrap .i64 (180*(IntKind.wrap .i64 (x6+1))))+r24.1)))] from (zb.mk)) RL.nil) rfl rfl true
   refine .op (bldS (pC (c:=[.p (.string a21),.p (.int .u32 (IntKind.wrap .u32 (IntKind.wrap .i64 ((IntKind.wrap .i64 ((IntKind.wrap .i64 (100*x1))+x6))+7)))),.p (.int .i64 (IntKind.wrap .i64 ((IntKind.wrap .i64 (180*(IntKind.wrap .i64 (x6+1))))+r24.1)))]) rfl pN) (by kernel_rfl:_=some (vOf h33))) ?_
   refine .bd fun a34 h35=>?_
   obtain ⟨v36,H37,e38,S39⟩:=S31.app (i:=0) (d:=32) (e:=3) (own:=false) (σ:=(19::0::1::0::σ)) rfl (h33.h (ptC (ptC H3 l0 o0 (List.map C.v [v16,(.p (.int .i64 r11.2.f_At))])) l0 o0 (List.map C.v [v29,(.p (.int .i64 r24.2.f_At))]))).y h35 rfl (by decide) (by decide) rfl
   refine .op (e38) ?_
   exact ih x1 a34 (IntKind.wrap .i64 (x6+1)) r24.2 v36 _ (z3s.mk h30) H37 (S39.wk2 aN (aC ⟨[32,32],by simp,aM 0 rfl⟩ aN))
  exact hE0 x5 r11.2 v5 _ (z3s.mk h17) (ptC H3 l0 o0 (List.map C.v [v16,(.p (.int .i64 r11.2.f_At))])) (S18.wk2 aN (aC ⟨[32],by simp,aM 0 rfl⟩ aN))
theorem zdm (k:Nat) {h:H} {σ:Stamp} (x0:TzTape) {u0_0:V} (hu0_0:SlF (dI .i64) x0.f_L u0_0) {l0:Loc} {o0:Nat} (ha0:AtC h l0 o0 (List.map C.v [u0_0,(.p (.int .i64 x0.f_At))])) (x1:Int):Sim (z2x k x0 x1) (ev G X0 39 σ [(.ref l0 o0),(.p (.int .i64 x1))] h) (fun r s=>∃ (c0:C),∃ (a0:List V),∃ (vb0_0:V),OwnS c0 zb.sz r.1.length a0∧zb.L r.1 a0∧SlF (dI .i64) r.2.f_L vb0_0∧s=([c0],pts h [⟨l0,o0,[.v vb0_0,.v (.p (.int .i64 r.2.f_At))]⟩])):=by
 refine .ev rfl (Sim.ext (zaw _ _ _ _ _ _) ?_)
 rw [z2x]
 have S0:Fm 34 h [⟨l0,o0,List.map C.v [u0_0,(.p (.int .i64 x0.f_At))]⟩] [] [] (List.replicate 34 []::h):=Fm.start1 ha0
 have S49:=S0.nil zb []
 refine .as (zav ?_ k x1 (([]:List z7)) 0 x0 (.p (.slice none 0 0)) _ (z3s.mk hu0_0) (List.replicate 34 []::h) (S49.wk2 aN (aC ⟨[],by simp,aM 0 rfl⟩ aN)))
 ·intro r50_5 zp0 v53 w55 h56 H51 S52
  refine .ext (zby _ _ _ _ _) ?_
  obtain ⟨v57,rfl,h58⟩:=z3s.inv h56
  obtain ⟨c64,cs65,H59,e60,h62,h63,S61⟩:=S52.expOwn (i:=0) (τ:=0::1::σ) rfl rfl rfl
  exact .fin (S61.finE (Ex.st e60 Ex.nil)) ⟨c64,cs65,v57,h62,h63,h58,rfl⟩
end
end Go.Ev
namespace Go.Ev
open Go.Proofs
set_option linter.unusedVariables false
set_option linter.unusedSimpArgs false
set_option maxRecDepth 100000
noncomputable section
abbrev KT24:=Exit→Env→H→Option (List C × H)
variable (rec : CallF) (loop : LoopV) (σ : Stamp)
theorem zer  (h:H):cvBody G rec loop 38 σ [] h =
(bSV Try.prog 43 2 [(0,(.p (.int .i64 2))),(1,(.p (.int .i64 6)))]).bind fun t1 =>
(bSV Try.prog 43 2 [(0,(.p (.int .i64 1))),(1,(.p (.int .i64 5)))]).bind fun t2 =>
(buildV Try.prog 92 [(1,t1),(2,t2)]).bind fun t3 =>
(bSV Try.prog 66 1 [(0,t3)]).bind fun t4 =>
(callO rec 33 (1::0::1::1::0::σ) [t4,(.p (.int .i64 8)),(.p (.slice .none 0 0))] (List.replicate 82 []::h) (some 11)).bind fun q5 =>
(bSV Try.prog 43 1 [(0,(.p (.int .i64 0)))]).bind fun t6 =>
(callO rec 33 (4::0::1::1::0::σ) [t4,(.p (.int .i64 6)),t6] q5.2 (some 14)).bind fun q7 =>
(bSV Try.prog 43 1 [(0,(.p (.int .i64 0)))]).bind fun t8 =>
(callO rec 33 (7::0::1::1::0::σ) [t4,(.p (.int .i64 16)),t8] q7.2 (some 17)).bind fun q9 =>
(bSV Try.prog 43 1 [(0,(.p (.int .i64 1)))]).bind fun t10 =>
(callO rec 33 (2::0::1::1::1::0::σ) [t4,(.p (.int .i64 5)),t10] q9.2 (some 20)).bind fun q11 =>
(callO rec 81 (0::0::1::1::1::1::0::σ) [(.p (.int .i64 999))] q11.2 (some 21)).bind fun q12 =>
(castI .i64 q12.1).bind fun n13 =>
(bif n13==0 then ((callO rec 81 (3::0::1::1::1::1::0::σ) [(.p (.int .i64 4611686018427387904))] q12.2 (some 24)).bind fun q14 =>
(castI .i64 q14.1).bind fun n15 =>
some ((.p (.bool (n15==4096))),q14.2)) else (some ((.p (.bool false)),q12.2))).bind fun q16 =>
(asB q16.1).bind fun b17 =>
(bif b17 then ((callO rec 76 (7::0::1::1::1::1::0::σ) [(.p (.int .i64 80))] q16.2 (some 28)).bind fun q18 =>
(castI .i64 q18.1).bind fun n19 =>
some ((.p (.bool (n19==10))),q18.2)) else (some ((.p (.bool false)),q16.2))).bind fun q20 =>
(asB q20.1).bind fun b21 =>
(bif b21 then ((bSV Try.prog 43 1 [(0,(.p (.int .i64 1)))]).bind fun t22 =>
(callO rec 36 (13::0::1::1::1::1::0::σ) [q5.1,t22] q20.2 (some 34)).bind fun q23 =>
(asB q23.1).bind fun b24 =>
some ((.p (.bool b24)),q23.2)) else (some ((.p (.bool false)),q20.2))).bind fun q25 =>
(asB q25.1).bind fun b26 =>
(bif b26 then ((bSV Try.prog 43 1 [(0,(.p (.int .i64 1)))]).bind fun t27 =>
(callO rec 36 (18::0::1::1::1::1::0::σ) [q7.1,t27] q25.2 (some 39)).bind fun q28 =>
(asB q28.1).bind fun b29 =>
some ((.p (.bool b29)),q28.2)) else (some ((.p (.bool false)),q25.2))).bind fun q30 =>
(asB q30.1).bind fun b31 =>
(bif b31 then ((bSV Try.prog 43 1 [(0,(.p (.int .i64 1)))]).bind fun t32 =>
(callO rec 36 (23::0::1::1::1::1::0::σ) [q9.1,t32] q30.2 (some 44)).bind fun q33 =>
(asB q33.1).bind fun b34 =>
some ((.p (.bool b34)),q33.2)) else (some ((.p (.bool false)),q30.2))).bind fun q35 =>
(asB q35.1).bind fun b36 =>
(bif b36 then ((bSV Try.prog 43 1 [(0,(.p (.int .i64 0)))]).bind fun t37 =>
(callO rec 36 (28::0::1::1::1::1::0::σ) [q11.1,t37] q35.2 (some 49)).bind fun q38 =>
(asB q38.1).bind fun b39 =>
some ((.p (.bool b39)),q38.2)) else (some ((.p (.bool false)),q35.2))).bind fun q40 =>
(asB q40.1).bind fun b41 =>
(bif b41 then ((bSV Try.prog 43 1 [(0,(.p (.int .i64 0)))]).bind fun t42 =>
(callO rec 33 (33::0::1::1::1::1::0::σ) [t4,(.p (.int .i64 8)),t42] q40.2 (some 54)).bind fun q43 =>
(bSV Try.prog 43 1 [(0,(.p (.int .i64 1)))]).bind fun t44 =>
(callO rec 36 (35::0::1::1::1::1::0::σ) [q43.1,t44] q43.2 (some 56)).bind fun q45 =>
(asB q45.1).bind fun b46 =>
some ((.p (.bool b46)),q45.2)) else (some ((.p (.bool false)),q40.2))).bind fun q47 =>
(asB q47.1).bind fun b48 =>
(bif b48 then ((callO rec 44 (38::0::1::1::1::1::0::σ) [(.p (.pointer .none)),(.p (.int .i64 5)),(.p (.int .i64 1)),(.p (.int .i64 0)),(.p (.bool true))] q47.2 (some 59)).bind fun q49 =>
(fV false 1 1 q49.1).bind fun t50 =>
(lenO t50).bind fun t51 =>
(castI .i64 t51).bind fun n52 =>
some ((.p (.bool (n52==0))),q49.2)) else (some ((.p (.bool false)),q47.2))).bind fun q53 =>
(asB q53.1).bind fun b54 =>
(bif b54 then ((callO rec 81 (44::0::1::1::1::1::0::σ) [(.p (.int .i64 (-5)))] q53.2 (some 65)).bind fun q55 =>
(castI .i64 q55.1).bind fun n56 =>
some ((.p (.bool (n56==0))),q55.2)) else (some ((.p (.bool false)),q53.2))).bind fun q57 =>
(asB q57.1).bind fun b58 =>
(bif b58 then ((callO rec 76 (48::0::1::1::1::1::0::σ) [(.p (.int .i64 (-80)))] q57.2 (some 69)).bind fun q59 =>
(castI .i64 q59.1).bind fun n60 =>
some ((.p (.bool (n60==0))),q59.2)) else (some ((.p (.bool false)),q57.2))).bind fun q61 =>
(asB q61.1).bind fun b62 =>
(bif b62 then ((bSV Try.prog 43 2 [(0,(.p (.int .i64 2))),(1,(.p (.int .i64 15)))]).bind fun t63 =>
(bSV Try.prog 43 2 [(0,(.p (.int .i64 1))),(1,(.p (.int .i64 5)))]).bind fun t64 =>
(buildV Try.prog 92 [(1,t63),(2,t64)]).bind fun t65 =>
(bSV Try.prog 66 1 [(0,t65)]).bind fun t66 =>
(bSV Try.prog 43 1 [(0,(.p (.int .i64 0)))]).bind fun t67 =>
(callO rec 33 (57::0::1::1::1::1::0::σ) [t66,(.p (.int .i64 16)),t67] q61.2 (some 78)).bind fun q68 =>
(bSV Try.prog 43 1 [(0,(.p (.int .i64 0)))]).bind fun t69 =>
(callO rec 36 (59::0::1::1::1::1::0::σ) [q68.1,t69] q68.2 (some 80)).bind fun q70 =>
(asB q70.1).bind fun b71 =>
some ((.p (.bool b71)),q70.2)) else (some ((.p (.bool false)),q61.2))).bind fun q72 =>
(asB q72.1).bind fun b73 =>
fin false σ q72.2 [(.p (.bool b73))]:=by kernel_rfl
theorem zcg (x0:Int) (h:H):cvBody G rec loop 81 σ [(.p (.int .i64 x0))] h =
fin false σ (List.replicate 7 []::h) [(.p (.int .i64 ((if ((if 4096<(IntKind.wrap .i64 (Int.tdiv x0 1000)) then 4096 else (IntKind.wrap .i64 (Int.tdiv x0 1000))))>0 then ((if 4096<(IntKind.wrap .i64 (Int.tdiv x0 1000)) then 4096 else (IntKind.wrap .i64 (Int.tdiv x0 1000)))) else 0))))]:=by kernel_rfl
end
end Go.Ev
namespace Go.Ev
open Go.Proofs
set_option linter.unusedVariables false
set_option linter.unusedSimpArgs false
set_option maxRecDepth 100000
section
variable {β α : Type} {Q : β→α→Prop} {K : Exit × Env × H→Option α}
def z3q (x0:Int):Option (Int) :=
some (((if ((if 4096<(IntKind.wrap .i64 (Int.tdiv x0 1000)) then 4096 else (IntKind.wrap .i64 (Int.tdiv x0 1000))))>0 then ((if 4096<(IntKind.wrap .i64 (Int.tdiv x0 1000)) then 4096 else (IntKind.wrap .i64 (Int.tdiv x0 1000)))) else 0)))
theorem z6k {h:H} {σ:Stamp} (x0:Int):Sim (z3q x0) (ev G X0 81 σ [(.p (.int .i64 x0))] h) (fun r s=>s=([.v (.p (.int .i64 r))],h)):=by
 refine .ev rfl (Sim.ext (zcg _ _ _ _ _) ?_)
 rw [z3q]
 have S0:Fm 7 h [] [] [] (List.replicate 7 []::h):=Fm.start0
 exact .fin (S0.finN (lC (sI _ _).lv lN)) rfl
def z4p (x1:Int) (x2:Int) (x3:Int) (x4:Bool):Option (z5) :=
some (((⟨0,(([]:List Int)),(([]:List Int))⟩:z5)))
theorem zb5 {h:H} {σ:Stamp} (x1:Int) (x2:Int) (x3:Int) (x4:Bool):Sim (z4p x1 x2 x3 x4) (ev G X0 44 σ [(.p (.pointer none)),(.p (.int .i64 x1)),(.p (.int .i64 x2)),(.p (.int .i64 x3)),(.p (.bool x4))] h) (fun r s=>∃ (w0:List V),z4.R r w0∧s=([.v (.agg w0)],h)):=by
 refine .ev rfl (Sim.ext (z7j _ _ _ _ _ _ _ _ _) ?_)
 rw [z4p]
 have S0:Fm 68 h [] [] [] (List.replicate 68 []::h):=Fm.start0
 obtain ⟨H1,e2,S3⟩:=S0.al (d:=10) (s:=(0::0::0::σ)) (z:=[(.p (.int .i64 0)),(.p (.slice none 0 0)),(.p (.slice none 0 0))]) (by decide) rfl
 refine .op (congrArg some e2) ?_
 refine .op ((by kernel_rfl:_=some (.p (.bool true)))) ?_
 refine .ab ?_
 refine .cdt rfl ?_
 refine .op (bldV pN (by kernel_rfl:_=some (.agg [.p (.int .i64 0),.p (.slice none 0 0),.p (.slice none 0 0)]))) ?_
 obtain ⟨H5,e6,S7⟩:=S3.stGv (i:=0) (j:=0) (own:=false) (σ:=(1::0::1::0::1::0::σ)) (xs:=[.p (.int .i64 0),.p (.slice none 0 0),.p (.slice none 0 0)]) rfl rfl (sC (sI _ _) (sC (SlF.nil (dI .i64)).still (sC (SlF.nil (dI .i64)).still sN))) rfl rfl
 refine .op (sM e6) ?_
 have e8:ldO true 3 H5 (.ref ⟨h.length,10,0,(0::0::0::σ),[]⟩ 0)=some (.agg [.p (.int .i64 0),.p (.slice none 0 0),.p (.slice none 0 0)]):=(S7.atG (i:=0) rfl).ldVs (j:=0) rfl rfl (by decide)
 refine .op (congrArg (Option.bind · _) e8) ?_
 exact .fin (S7.finN (lC (Stills.lv (z4.still (z4.mk (SlF.nil (dI .i64)) (SlF.nil (dI .i64))))) lN)) ⟨_,(z4.mk (SlF.nil (dI .i64)) (SlF.nil (dI .i64))),rfl⟩
end
end Go.Ev
namespace Go.Ev
open Go.Proofs
set_option linter.unusedVariables false
set_option linter.unusedSimpArgs false
set_option maxRecDepth 100000
noncomputable section
abbrev KT25:=Exit→Env→H→Option (List C × H)
variable (rec : CallF) (loop : LoopV) (σ : Stamp)
theorem zcd (x0:Int) (h:H):cvBody G rec loop 76 σ [(.p (.int .i64 x0))] h =
fin false σ (List.replicate 6 []::h) [(.p (.int .i64 (IntKind.wrap .i64 (Int.tdiv ((if x0>0 then x0 else 0)) 8))))]:=by kernel_rfl
end
end Go.Ev
namespace Go.Ev
open Go.Proofs
set_option linter.unusedVariables false
set_option linter.unusedSimpArgs false
set_option maxRecDepth 100000
section
variable {β α : Type} {Q : β→α→Prop} {K : Exit × Env × H→Option α}
def z3u (x0:Int):Option (Int) :=
some ((IntKind.wrap .i64 (Int.tdiv ((if x0>0 then x0 else 0)) 8)))
theorem z6o {h:H} {σ:Stamp} (x0:Int):Sim (z3u x0) (ev G X0 76 σ [(.p (.int .i64 x0))] h) (fun r s=>s=([.v (.p (.int .i64 r))],h)):=by
 refine .ev rfl (Sim.ext (zcd _ _ _ _ _) ?_)
 rw [z3u]
 have S0:Fm 6 h [] [] [] (List.replicate 6 []::h):=Fm.start0
 exact .fin (S0.finN (lC (sI _ _).lv lN)) rfl
end
end Go.Ev
namespace Go.Ev
open Go.Proofs
set_option linter.unusedVariables false
set_option linter.unusedSimpArgs false
set_option maxRecDepth 100000
noncomputable section
abbrev KT26:=Exit→Env→H→Option (List C × H)
variable (rec : CallF) (loop : LoopV) (σ : Stamp)
theorem ze8 (x0:V) (x1:Int) (x2:V) (h:H):cvBody G rec loop 33 σ [x0,(.p (.int .i64 x1)),x2] h =
(callO rec 72 (2::0::1::0::σ) [x0,(.p (.int .i64 x1))] (List.replicate 34 []::h) (some 10)).bind fun q1 =>
(callO rec 73 (3::0::0::1::1::0::σ) [x0,x2,(.p (.int .i64 x1))] q1.2 (some 14)).bind fun q2 =>
(asB q2.1).bind fun b3 =>
(bif b3 then ((callO rec 74 (7::0::0::1::1::0::σ) [x2,q1.1] q2.2 (some 18)).bind fun q4 =>
(asB q4.1).bind fun b5 =>
some ((.p (.bool (!b5))),q4.2)) else (some ((.p (.bool false)),q2.2))).bind fun q6 =>
(asB q6.1).bind fun b7 =>
(bif b7 then ((callO rec 75 (13::0::0::1::1::0::σ) [x0,q1.1] q6.2 (some 24)).bind fun q8 =>
(castI .i64 q8.1).bind fun n9 =>
(callO rec 76 (16::0::0::1::1::0::σ) [(.p (.int .i64 x1))] q8.2 (some 27)).bind fun q10 =>
(castI .i64 q10.1).bind fun n11 =>
some ((.p (.bool (decide (n9>(IntKind.wrap .i64 (x1-n11)))))),q10.2)) else (some ((.p (.bool false)),q6.2))).bind fun q12 =>
(asB q12.1).bind fun b13 =>
bif b13 then (
(callO rec 77 (1::0::1::0::1::1::0::σ) [x2] q12.2 (some 32)).bind fun q14 =>
fin false σ q14.2 [q14.1])
else (
fin false σ q12.2 [q1.1]):=by kernel_rfl
theorem z45 (x0:V) (h:H):cvBody G rec loop 77 σ [x0] h =
(binV Try.prog (List.replicate 8 []::h) .eql 43 x0 (.p (.slice .none 0 0))).bind fun t1 =>
(asB t1).bind fun b2 =>
bif b2 then (
fin false σ (List.replicate 8 []::h) [(.p (.slice .none 0 0))])
else (
(bSV Try.prog 43 0 []).bind fun t3 =>
(apO true 1 8 (2::0::1::1::0::σ) 7 (List.replicate 8 []::h) t3 x0).bind fun q4 =>
fin false σ q4.2 [q4.1]):=by kernel_rfl
def z8p:Code:=(codeAt (bodyOf Try.f72) [1,1,1,1,1,1,0,1,0,0])
def z8v:Lv:=⟨128,16,[(0,128)]⟩
def zd5:KT26:=(kBlock 0 (kSeq G rec loop (codeAt (bodyOf Try.f72) [1,1,1,1,1,1,1]) ⟨16,16,[]⟩ (1::1::1::1::1::1::0::σ) (finC G false Try.f72 (1::σ))))
theorem zg3 (x0:V) (x1:Int) (h:H):cvBody G rec loop 72 σ [x0,(.p (.int .i64 x1))] h =
(lenO x0).bind fun t1 =>
(castI .i64 t1).bind fun n2 =>
bif ((if n2<8 then n2 else 8))==0 then (
fin false σ (List.replicate 41 []::h) [(.p (.slice .none 0 0))])
else (
(slS 3 x0 none (some ((if n2<8 then n2 else 8))) none).bind fun t3 =>
(mkO 1 8 [.p (.int .i64 0)] (4::0::1::1::1::0::σ) 17 (List.replicate 41 []::h) ((if n2<8 then n2 else 8)) ((if n2<8 then n2 else 8))).bind fun q4 =>
need (slS 3 x0 none (some ((if n2<8 then n2 else 8))) none=some t3) (
(buildV Try.prog 186 [(0,t3),(1,q4.1)]).bind fun t5 =>
(boxO true (6::0::1::1::1::0::σ) 19 q4.2 t5).bind fun q6 =>
(callO rec 123 (4::0::1::1::1::1::0::σ) [q6.1,(.p (.int .i64 0)),(.p (.int .i64 ((if ((if 4096<x1 then 4096 else x1))>0 then ((if 4096<x1 then 4096 else x1)) else 0))))] q6.2 (some 24)).bind fun q7 =>
(nilChk q6.1).bind fun t8 =>
(fA t8 2).bind fun t9 =>
(ldO false 1 q7.2 t9).bind fun t10 =>
(lenO x0).bind fun t11 =>
(castI .i64 t11).bind fun n12 =>
(loop z8p z8v (1::0::1::1::1::1::1::1::0::σ) (envL [(7,t10),(32,(.p (.int .i64 (IntKind.wrap .i64 (n12-((if n2<8 then n2 else 8))))))),(33,(.p (.int .i64 0)))]) q7.2).bind fun r13=>zd5 rec loop σ r13.1 r13.2.1 r13.2.2)):=by kernel_rfl
theorem zjz (x7:V) (x32:Int) (x33:Int) (h:H):zo G rec loop z8p z8v σ (envL [(7,x7),(32,(.p (.int .i64 x32))),(33,(.p (.int .i64 x33)))]) h =
bif decide (x33<x32) then (
(bSV Try.prog 43 1 [(0,(.p (.int .i64 (-1))))]).bind fun t14 =>
(apO true 1 8 (2::0::1::1::0::σ) 37 h x7 t14).bind fun q15 =>
loop z8p z8v (1::σ) (envL [(7,q15.1),(32,(.p (.int .i64 x32))),(33,(.p (.int .i64 (IntKind.wrap .i64 (x33+1)))))]) q15.2)
else (
some ((.exit 0),(envL [(7,x7)]),h)):=by kernel_rfl
theorem zh0 (x7:V) (h:H):zd5 rec loop σ (.exit 0) (envL [(7,x7)]) h =
(callO rec 69 (1::0::1::1::1::1::1::1::1::0::σ) [x7] h (some 40)).bind fun q16 =>
fin false σ q16.2 [q16.1]:=by kernel_rfl
theorem z7x (x0:V) (h:H):cvBody G rec loop 69 σ [x0] h =
(lenO x0).bind fun t1 =>
(castI .i64 t1).bind fun n2 =>
(lenO x0).bind fun t3 =>
(castI .i64 t3).bind fun n4 =>
(slS 1 x0 none (some n2) (some n4)).bind fun t5 =>
fin false σ (List.replicate 9 []::h) [t5]:=by kernel_rfl
def z1n:Code:=(codeAt (bodyOf Try.f123) [1,1,0,0])
def z1k:Lv:=⟨0,0,[(0,0)]⟩
def z7q (rec:CallF) (loop:LoopV) (σ:Stamp):KT26:=(kBlock 0 (finC G false Try.f123 (1::σ)))
theorem zah (x0:V) (x1:Int) (x2:Int) (h:H):cvBody G rec loop 123 σ [x0,(.p (.int .i64 x1)),(.p (.int .i64 x2))] h =
(nilChk x0).bind fun t1 =>
(fA t1 0).bind fun t2 =>
(ldO false 1 (List.replicate 143 []::h) t2).bind fun t3 =>
(lenO t3).bind fun t4 =>
(castI .i64 t4).bind fun n5 =>
bif x1==n5 then (
need (∃ z,tzero Try.prog 134=some z∧slotOf (alO [.p (.int .i64 0),.p (.int .i64 0),.p (.int .i64 0),.p (.int .i64 0)] (18::0::1::0::0::σ) 6 (List.replicate 143 []::h)).2 6=some [.own (18::0::1::0::0::σ) (z.map .v)]) (
(nilChk x0).bind fun t6 =>
(fA t6 0).bind fun t7 =>
(ldO false 1 (alO [.p (.int .i64 0),.p (.int .i64 0),.p (.int .i64 0),.p (.int .i64 0)] (18::0::1::0::0::σ) 6 (List.replicate 143 []::h)).2 t7).bind fun t8 =>
(nilChk x0).bind fun t9 =>
(fA t9 1).bind fun t10 =>
(ldO false 1 (alO [.p (.int .i64 0),.p (.int .i64 0),.p (.int .i64 0),.p (.int .i64 0)] (18::0::1::0::0::σ) 6 (List.replicate 143 []::h)).2 t10).bind fun t11 =>
(nilChk x0).bind fun t12 =>
(fA t12 0).bind fun t13 =>
(ldO false 1 (alO [.p (.int .i64 0),.p (.int .i64 0),.p (.int .i64 0),.p (.int .i64 0)] (18::0::1::0::0::σ) 6 (List.replicate 143 []::h)).2 t13).bind fun t14 =>
(nilChk x0).bind fun t15 =>
(fA t15 1).bind fun t16 =>
(ldO false 1 (alO [.p (.int .i64 0),.p (.int .i64 0),.p (.int .i64 0),.p (.int .i64 0)] (18::0::1::0::0::σ) 6 (List.replicate 143 []::h)).2 t16).bind fun t17 =>
(callO rec 160 (8::0::1::0::0::σ) [t8,t11] (alO [.p (.int .i64 0),.p (.int .i64 0),.p (.int .i64 0),.p (.int .i64 0)] (18::0::1::0::0::σ) 6 (List.replicate 143 []::h)).2 (some 24)).bind fun q18 =>
need (ldO false 1 q18.2 t16=some t17) (
need (ldO false 1 q18.2 t13=some t14) (
need (∃ z,tzero Try.prog 134=some z∧slotOf q18.2 6=some [.own (18::0::1::0::0::σ) (z.map .v)]) (
(callO rec 75 (17::0::1::0::0::σ) [t14,t17] q18.2 (some 33)).bind fun q19 =>
(castI .i64 q19.1).bind fun n20 =>
need (∃ z,tzero Try.prog 134=some z∧slotOf q19.2 6=some [.own (18::0::1::0::0::σ) (z.map .v)]) (
((stO false 4 (19::0::1::0::0::σ) q19.2 (.ref (newLoc (alO [.p (.int .i64 0),.p (.int .i64 0),.p (.int .i64 0),.p (.int .i64 0)] (18::0::1::0::0::σ) 6 (List.replicate 143 []::h)).2 6 (18::0::1::0::0::σ)) 0) q18.1).map fun h=>(udf,h)).bind fun q21 =>
(nilChk x0).bind fun t22 =>
(fA t22 2).bind fun t23 =>
(ldO false 1 q21.2 t23).bind fun t24 =>
(binV Try.prog q21.2 .eql 43 t24 (.p (.slice .none 0 0))).bind fun t25 =>
(asB t25).bind fun b26 =>
(bif b26 then (some ((.p (.bool true)),q21.2)) else ((ldO true 4 q21.2 (.ref (newLoc (alO [.p (.int .i64 0),.p (.int .i64 0),.p (.int .i64 0),.p (.int .i64 0)] (18::0::1::0::0::σ) 6 (List.replicate 143 []::h)).2 6 (18::0::1::0::0::σ)) 0)).bind fun t27 =>
(nilChk x0).bind fun t28 =>
(fA t28 3).bind fun t29 =>
(ldO true 4 q21.2 t29).bind fun t30 =>
(callO rec 161 (11::0::0::1::1::0::0::σ) [t27,t30] q21.2 (some 45)).bind fun q31 =>
(asB q31.1).bind fun b32 =>
some ((.p (.bool b32)),q31.2))).bind fun q33 =>
(asB q33.1).bind fun b34 =>
(bif b34 then (some true) else ((ldO true 4 q33.2 (.ref (newLoc (alO [.p (.int .i64 0),.p (.int .i64 0),.p (.int .i64 0),.p (.int .i64 0)] (18::0::1::0::0::σ) 6 (List.replicate 143 []::h)).2 6 (18::0::1::0::0::σ)) 0)).bind fun t35 =>
(nilChk x0).bind fun t36 =>
(fA t36 3).bind fun t37 =>
(ldO true 4 q33.2 t37).bind fun t38 =>
(binV Try.prog q33.2 .eql 134 t35 t38).bind fun t39 =>
(asB t39).bind fun b40 =>
(bif b40 then ((nilChk x0).bind fun t41 =>
(fA t41 7).bind fun t42 =>
(ldO false 1 q33.2 t42).bind fun t43 =>
(castI .i64 t43).bind fun n44 =>
some (decide (n20<n44))) else (some false)).bind fun b45 =>
some b45)).bind fun b46 =>
bif b46 then (
(nilChk x0).bind fun t47 =>
(fA t47 1).bind fun t48 =>
(ldO false 1 q33.2 t48).bind fun t49 =>
(ldO true 4 q33.2 (.ref (newLoc (alO [.p (.int .i64 0),.p (.int .i64 0),.p (.int .i64 0),.p (.int .i64 0)] (18::0::1::0::0::σ) 6 (List.replicate 143 []::h)).2 6 (18::0::1::0::0::σ)) 0)).bind fun t50 =>
(callO rec 77 (7::1::0::1::1::0::0::σ) [t49] q33.2 (some 70)).bind fun q51 =>
need (ldO true 4 q51.2 (.ref (newLoc (alO [.p (.int .i64 0),.p (.int .i64 0),.p (.int .i64 0),.p (.int .i64 0)] (18::0::1::0::0::σ) 6 (List.replicate 143 []::h)).2 6 (18::0::1::0::0::σ)) 0)=some t50) (
(nilChk x0).bind fun t52 =>
(fA t52 2).bind fun t53 =>
((stO true 1 (12::1::0::1::1::0::0::σ) q51.2 t53 q51.1).map fun h=>(udf,h)).bind fun q54 =>
need (ldO true 4 q54.2 (.ref (newLoc (alO [.p (.int .i64 0),.p (.int .i64 0),.p (.int .i64 0),.p (.int .i64 0)] (18::0::1::0::0::σ) 6 (List.replicate 143 []::h)).2 6 (18::0::1::0::0::σ)) 0)=some t50) (
(nilChk x0).bind fun t55 =>
(fA t55 3).bind fun t56 =>
((stO false 4 (15::1::0::1::1::0::0::σ) q54.2 t56 t50).map fun h=>(udf,h)).bind fun q57 =>
(nilChk x0).bind fun t58 =>
(fA t58 7).bind fun t59 =>
((stO true 1 (18::1::0::1::1::0::0::σ) q57.2 t59 (.p (.int .i64 n20))).map fun h=>(udf,h)).bind fun q60 =>
fin false σ q60.2 [])))
else (
fin false σ q33.2 [])))))))
else (
(loop z1n z1k (1::1::0::σ) (envL [(0,x0),(1,(.p (.int .i64 x1))),(2,(.p (.int .i64 x2))),(8,(.p (.int .i64 (-1))))]) (List.replicate 143 []::h)).bind fun r61=>z7q rec loop σ r61.1 r61.2.1 r61.2.2):=by kernel_rfl
theorem zc4 (x0:V) (x1:Int) (x2:Int) (x8:Int) (h:H):zo G rec loop z1n z1k σ (envL [(0,x0),(1,(.p (.int .i64 x1))),(2,(.p (.int .i64 x2))),(8,(.p (.int .i64 x8)))]) h =
bif decide (x8<4) then (
(nilChk x0).bind fun t62 =>
(fA t62 0).bind fun t63 =>
(ldO false 1 h t63).bind fun t64 =>
(iS 3 t64 x1).bind fun t65 =>
(ldO true 3 h t65).bind fun t66 =>
(callO rec 124 (8::0::0::0::1::0::σ) [t66,(.p (.int .i64 x8))] h (some 91)).bind fun q67 =>
(asB q67.1).bind fun b68 =>
(bif !b68 then (some true) else ((bif decide (x8≥0) then ((nilChk x0).bind fun t69 =>
(fA t69 0).bind fun t70 =>
(ldO false 1 q67.2 t70).bind fun t71 =>
(iS 3 t71 x1).bind fun t72 =>
(fA t72 1).bind fun t73 =>
(ldO false 1 q67.2 t73).bind fun t74 =>
(iS 1 t74 x8).bind fun t75 =>
(ldO false 1 q67.2 t75).bind fun t76 =>
(castI .i64 t76).bind fun n77 =>
some (decide (n77>x2))) else (some false)).bind fun b78 =>
some b78)).bind fun b79 =>
bif b79 then (
loop z1n z1k (1::σ) (envL [(0,x0),(1,(.p (.int .i64 x1))),(2,(.p (.int .i64 x2))),(8,(.p (.int .i64 (IntKind.wrap .i64 (x8+1)))))]) q67.2)
else (
(nilChk x0).bind fun t80 =>
(fA t80 1).bind fun t81 =>
(ldO false 1 q67.2 t81).bind fun t82 =>
(iS 1 t82 x1).bind fun t83 =>
((stO true 1 (7::0::1::0::1::0::σ) q67.2 t83 (.p (.int .i64 x8))).map fun h=>(udf,h)).bind fun q84 =>
bif decide (x8≥0) then (
(nilChk x0).bind fun t85 =>
(fA t85 0).bind fun t86 =>
(ldO false 1 q84.2 t86).bind fun t87 =>
(iS 3 t87 x1).bind fun t88 =>
(fA t88 1).bind fun t89 =>
(ldO false 1 q84.2 t89).bind fun t90 =>
(iS 1 t90 x8).bind fun t91 =>
(ldO false 1 q84.2 t91).bind fun t92 =>
(castI .i64 t92).bind fun n93 =>
(callO rec 123 (16::1::1::1::0::1::0::σ) [x0,(.p (.int .i64 (IntKind.wrap .i64 (x1+1)))),(.p (.int .i64 (IntKind.wrap .i64 (x2-n93))))] q84.2 (some 137)).bind fun q94 =>
loop z1n z1k (1::σ) (envL [(0,x0),(1,(.p (.int .i64 x1))),(2,(.p (.int .i64 x2))),(8,(.p (.int .i64 (IntKind.wrap .i64 (x8+1)))))]) q94.2)
else (
(callO rec 123 (4::1::1::1::0::1::0::σ) [x0,(.p (.int .i64 (IntKind.wrap .i64 (x1+1)))),(.p (.int .i64 x2))] q84.2 (some 142)).bind fun q95 =>
loop z1n z1k (1::σ) (envL [(0,x0),(1,(.p (.int .i64 x1))),(2,(.p (.int .i64 x2))),(8,(.p (.int .i64 (IntKind.wrap .i64 (x8+1)))))]) q95.2)))
else (
some ((.exit 0),(envL []),h)):=by kernel_rfl
theorem zb3  (h:H):z7q rec loop σ (.exit 0) (envL []) h =
fin false σ h []:=by kernel_rfl
theorem zdr (x0:V) (x1:V) (h:H):cvBody G rec loop 161 σ [x0,x1] h =
(boxO false (0::0::0::σ) 2 (List.replicate 9 []::h) x0).bind fun q1 =>
(boxO false (1::0::0::σ) 3 q1.2 x1).bind fun q2 =>
(slA 4 1 q2.2 q1.1 none none none).bind fun t3 =>
(slA 4 1 q2.2 q2.1 none none none).bind fun t4 =>
(callO rec 177 (2::0::1::0::σ) [t3,t4] q2.2 (some 7)).bind fun q5 =>
(castI .i64 q5.1).bind fun n6 =>
fin false σ q5.2 [(.p (.bool (decide (n6>0))))]:=by kernel_rfl
def z1g:Code:=(codeAt (bodyOf Try.f177) [1,0,1,0,0])
def z1f:Lv:=⟨3,16,[(0,3)]⟩
def z2b:KT26:=(kBlock 0 (kSeq G rec loop (codeAt (bodyOf Try.f177) [1,1]) ⟨16,16,[]⟩ (1::0::σ) (finC G false Try.f177 (1::σ))))
theorem z6v (x0:V) (x1:V) (h:H):cvBody G rec loop 177 σ [x0,x1] h =
(lenO x0).bind fun t1 =>
(castI .i64 t1).bind fun n2 =>
(loop z1g z1f (1::0::1::0::σ) (envL [(0,x0),(1,x1),(9,x0),(10,(.p (.int .i64 n2))),(11,(.p (.int .i64 0)))]) (List.replicate 36 []::h)).bind fun r3=>z2b rec loop σ r3.1 r3.2.1 r3.2.2:=by kernel_rfl
theorem z7w (x0:V) (x1:V) (x9:V) (x10:Int) (x11:Int) (h:H):zo G rec loop z1g z1f σ (envL [(0,x0),(1,x1),(9,x9),(10,(.p (.int .i64 x10))),(11,(.p (.int .i64 x11)))]) h =
bif decide (x11<x10) then (
(iS 1 x9 x11).bind fun t4 =>
(ldO false 1 h t4).bind fun t5 =>
(castI .i64 t5).bind fun n6 =>
(lenO x1).bind fun t7 =>
(castI .i64 t7).bind fun n8 =>
bif decide (x11≥n8) then (
some (.ret,(envL [(4,(.p (.int .i64 1)))]),h))
else (
(iS 1 x1 x11).bind fun t9 =>
(ldO false 1 h t9).bind fun t10 =>
(castI .i64 t10).bind fun n11 =>
(callO rec 119 (2::0::1::1::1::0::1::1::0::σ) [(.p (.int .i64 n6)),(.p (.int .i64 n11))] h (some 26)).bind fun q12 =>
(castI .i64 q12.1).bind fun n13 =>
bif n13 != 0 then (
some (.ret,(envL [(4,(.p (.int .i64 n13)))]),q12.2))
else (
loop z1g z1f (1::σ) (envL [(0,x0),(1,x1),(9,x9),(10,(.p (.int .i64 x10))),(11,(.p (.int .i64 (IntKind.wrap .i64 (x11+1)))))]) q12.2)))
else (
some ((.exit 0),(envL [(0,x0),(1,x1)]),h)):=by kernel_rfl
theorem z70 (x0:V) (x1:V) (h:H):z2b rec loop σ (.exit 0) (envL [(0,x0),(1,x1)]) h =
(lenO x0).bind fun t14 =>
(castI .i64 t14).bind fun n15 =>
(lenO x1).bind fun t16 =>
(castI .i64 t16).bind fun n17 =>
bif decide (n15<n17) then (
fin false σ h [(.p (.int .i64 (-1)))])
else (
fin false σ h [(.p (.int .i64 0))]):=by kernel_rfl
theorem z6b (x4:Int) (h:H):z2b rec loop σ .ret (envL [(4,(.p (.int .i64 x4)))]) h =
fin false σ h [(.p (.int .i64 x4))]:=by kernel_rfl
theorem zaa (x0:Int) (x1:Int) (h:H):cvBody G rec loop 119 σ [(.p (.int .i64 x0)),(.p (.int .i64 x1))] h =
(callO rec 157 (1::0::1::0::σ) [(.p (.int .i64 x0))] (List.replicate 20 []::h) (some 8)).bind fun q1 =>
(asB q1.1).bind fun b2 =>
(callO rec 157 (1::0::1::1::0::σ) [(.p (.int .i64 x1))] q1.2 (some 10)).bind fun q3 =>
(asB q3.1).bind fun b4 =>
bif b2 then (
bif b4 then (
fin false σ q3.2 [(.p (.int .i64 0))])
else (
fin false σ q3.2 [(.p (.int .i64 (-1)))]))
else (
bif b4 then (
fin false σ q3.2 [(.p (.int .i64 1))])
else (
bif decide (x0<x1) then (
fin false σ q3.2 [(.p (.int .i64 (-1)))])
else (
bif decide (x0>x1) then (
fin false σ q3.2 [(.p (.int .i64 1))])
else (
fin false σ q3.2 [(.p (.int .i64 0))])))):=by kernel_rfl
theorem zbx (x0:Int) (h:H):cvBody G rec loop 157 σ [(.p (.int .i64 x0))] h =
fin false σ (List.replicate 6 []::h) [(.p (.bool (x0 != x0)))]:=by kernel_rfl
end
end Go.Ev
namespace Go.Ev
open Go.Proofs
set_option linter.unusedVariables false
set_option linter.unusedSimpArgs false
set_option maxRecDepth 100000
section
variable {β α : Type} {Q : β→α→Prop} {K : Exit × Env × H→Option α}
def z4r (x0:Int):Option (Bool) :=
some ((x0 != x0))
theorem z8k {h:H} {σ:Stamp} (x0:Int):Sim (z4r x0) (ev G X0 157 σ [(.p (.int .i64 x0))] h) (fun r s=>s=([.v (.p (.bool r))],h)):=by
 refine .ev rfl (Sim.ext (zbx _ _ _ _ _) ?_)
 rw [z4r]
 have S0:Fm 6 h [] [] [] (List.replicate 6 []::h):=Fm.start0
 exact .fin (S0.finN (lC (sB _).lv lN)) rfl
def z5l (x0:Int) (x1:Int):Option (Int) :=
(z4r x0).bind fun r1 =>
(z4r x1).bind fun r6 =>
bif r1 then (
bif r6 then (
some (0))
else (
some ((-1))))
else (
bif r6 then (
some (1))
else (
bif decide (x0<x1) then (
some ((-1)))
else (
bif decide (x0>x1) then (
some (1))
else (
some (0)))))
theorem zd2 {h:H} {σ:Stamp} (x0:Int) (x1:Int):Sim (z5l x0 x1) (ev G X0 119 σ [(.p (.int .i64 x0)),(.p (.int .i64 x1))] h) (fun r s=>s=([.v (.p (.int .i64 r))],h)):=by
 refine .ev rfl (Sim.ext (zaa _ _ _ _ _ _) ?_)
 rw [z5l]
 have S0:Fm 20 h [] [] [] (List.replicate 20 []::h):=Fm.start0
 refine .call (z8k x0) fun r1 cs2 H3 h4 q5=>?_
 cases q5
 refine .ab ?_
 refine .call (z8k x1) fun r6 cs7 H8 h9 q10=>?_
 cases q10
 refine .ab ?_
 refine .cq ?_ ?_
 ·refine .cq ?_ ?_
  ·exact .fin (S0.finN (lC (sI _ _).lv lN)) rfl
  exact .fin (S0.finN (lC (sI _ _).lv lN)) rfl
 refine .cq ?_ ?_
 ·exact .fin (S0.finN (lC (sI _ _).lv lN)) rfl
 refine .cq ?_ ?_
 ·exact .fin (S0.finN (lC (sI _ _).lv lN)) rfl
 refine .cq ?_ ?_
 ·exact .fin (S0.finN (lC (sI _ _).lv lN)) rfl
 exact .fin (S0.finN (lC (sI _ _).lv lN)) rfl
def z1c {β:Type} (k:Nat) (kE0:(List Int)→(List Int)→Option β) (kE1:Int→Option β) (x0:(List Int)) (x1:(List Int)) (x9:(List Int)) (x10:Int) (x11:Int):Option β:=match k with
| 0=>none
| k+1 =>
bif decide (x11<x10) then (
(ix x9 x11).bind fun a10 =>
bif decide (x11≥((x1.length:Int))) then (
kE1 1)
else (
(ix x1 x11).bind fun a14 =>
(z5l a10 a14).bind fun r17 =>
bif r17 != 0 then (
kE1 r17)
else (
z1c k kE0 kE1 x0 x1 x9 x10 (IntKind.wrap .i64 (x11+1)))))
else (
kE0 x0 x1)
def z2f (k:Nat) (x0:(List Int)) (x1:(List Int)):Option (Int) :=
z1c k (fun r31_0 r31_1 =>
bif decide (((r31_0.length:Int))<((r31_1.length:Int))) then (
some ((-1)))
else (
some (0))) (fun r39_4 =>
some (r39_4)) x0 x1 x0 ((x0.length:Int)) 0
theorem z6u {h:H}  {kE0:(List Int)→(List Int)→Option β} {kE1:Int→Option β} (hE0:∀ (q0:(List Int)) (q1:(List Int)) (v25:V) (h26:SlH h (dI .i64) q0 v25) (v27:V) (h28:SlH h (dI .i64) q1 v27) (H23:Go.Ev.H) (_:Fm 36 h [] [] [] H23),Sim (kE0 q0 q1) (K ((.exit 0),(envL [(0,v25),(1,v27)]),H23)) Q) (hE1:∀ (q4:Int) (H29:Go.Ev.H) (_:Fm 36 h [] [] [] H29),Sim (kE1 q4) (K (.ret,(envL [(4,(.p (.int .i64 q4)))]),H29)) Q) (k:Nat):∀ (x0:(List Int)) (x1:(List Int)) (x9:(List Int)) (x10:Int) (x11:Int) (v3:V) (h4:SlH h (dI .i64) x0 v3) (v5:V) (h6:SlH h (dI .i64) x1 v5) (v7:V) (h8:SlH h (dI .i64) x9 v7) (H1:Go.Ev.H) (_:Fm 36 h [] [] [] H1) {σ:Stamp},Sim (z1c k kE0 kE1 x0 x1 x9 x10 x11) ((cvL G X0 z1g z1f σ (envL [(0,v3),(1,v5),(9,v7),(10,(.p (.int .i64 x10))),(11,(.p (.int .i64 x11)))]) H1).bind K) Q:=by
 induction k with
 | zero=>intros;exact .no
 | succ k ih =>
  intro x0 x1 x9 x10 x11 v3 h4 v5 h6 v7 h8 H1 S2 σ
  rw [z1c]
  refine .round (Sim.ext (z7w _ _ _ _ _ _ _ _ _) ?_)
  refine .cq ?_ ?_
  ·refine .bd fun a10 h11=>?_
   refine .op ((S2.low h8).iS h11 rfl) ?_
   obtain ⟨_,rfl,hE12⟩:=(S2.low h8).el h11 rfl
   refine .op (hE12.ld (j:=0) rfl) ?_
   refine .ci ?_
   refine .op ((S2.low h6).len) ?_
   refine .ci ?_
   refine .cq ?_ ?_
   ·exact hE1 1 H1 (S2.wk2 aN aN)
   refine .bd fun a14 h15=>?_
   refine .op ((S2.low h6).iS h15 rfl) ?_
   obtain ⟨_,rfl,hE16⟩:=(S2.low h6).el h15 rfl
   refine .op (hE16.ld (j:=0) rfl) ?_
   refine .ci ?_
   refine .call (zd2 a10 a14) fun r17 cs18 H19 h20 q21=>?_
   cases q21
   refine .ci ?_
   refine .cq ?_ ?_
   ·exact hE1 r17 H1 (S2.wk2 aN aN)
   exact ih x0 x1 x9 x10 (IntKind.wrap .i64 (x11+1)) v3 h4 v5 h6 v7 h8 H1 (S2.wk2 aN aN)
  exact hE0 x0 x1 v3 h4 v5 h6 H1 (S2.wk2 aN aN)
theorem z7v (k:Nat) {h:H} {σ:Stamp} (x0:List Int) {u0:V} (hu0:SlH h (dI .i64) x0 u0) (x1:List Int) {u1:V} (hu1:SlH h (dI .i64) x1 u1):Sim (z2f k x0 x1) (ev G X0 177 σ [u0,u1] h) (fun r s=>s=([.v (.p (.int .i64 r))],h)):=by
 refine .ev rfl (Sim.ext (z6v _ _ _ _ _ _) ?_)
 rw [z2f]
 have S0:Fm 36 h [] [] [] (List.replicate 36 []::h):=Fm.start0
 refine .op ((S0.low hu0).len) ?_
 refine .ci ?_
 refine .as (z6u ?_ ?_ k x0 x1 x0 ((x0.length:Int)) 0 u0 hu0 u1 hu1 u0 hu0 (List.replicate 36 []::h) (S0.wk2 aN aN))
 ·intro r31_0 r31_1 v34 h35 v36 h37 H32 S33
  refine .ext (z70 _ _ _ _ _ _) ?_
  refine .op ((S33.low h35).len) ?_
  refine .ci ?_
  refine .op ((S33.low h37).len) ?_
  refine .ci ?_
  refine .cq ?_ ?_
  ·exact .fin (S33.finN (lC (sI _ _).lv lN)) rfl
  exact .fin (S33.finN (lC (sI _ _).lv lN)) rfl
 ·intro r39_4 H40 S41
  refine .ext (z6b _ _ _ _ _) ?_
  exact .fin (S41.finN (lC (sI _ _).lv lN)) rfl
def z7t (k:Nat) (x0:(List Int)) (x1:(List Int)):Option (Bool) :=
(z2f k ([((x0.getD 0 0)),((x0.getD 1 0)),((x0.getD 2 0)),((x0.getD 3 0))]) ([((x1.getD 0 0)),((x1.getD 1 0)),((x1.getD 2 0)),((x1.getD 3 0))])).bind fun r9 =>
some ((decide (r9>0)))
theorem zgl (k:Nat) {h:H} {σ:Stamp} (x0:(List Int)) {u0:List V} (hu0:(dA 4 (dI .i64)).R x0 u0) (x1:(List Int)) {u1:List V} (hu1:(dA 4 (dI .i64)).R x1 u1):Sim (z7t k x0 x1) (ev G X0 161 σ [(.agg u0),(.agg u1)] h) (fun r s=>s=([.v (.p (.bool r))],h)):=by
 refine .ev rfl (Sim.ext (zdr _ _ _ _ _ _) ?_)
 rw [z7t]
 obtain rfl:u0=[(.p (.int .i64 ((x0.getD 0 0)))),(.p (.int .i64 ((x0.getD 1 0)))),(.p (.int .i64 ((x0.getD 2 0)))),(.p (.int .i64 ((x0.getD 3 0))))]:=dA_int hu0
 obtain rfl:u1=[(.p (.int .i64 ((x1.getD 0 0)))),(.p (.int .i64 ((x1.getD 1 0)))),(.p (.int .i64 ((x1.getD 2 0)))),(.p (.int .i64 ((x1.getD 3 0))))]:=dA_int hu1
 have S0:Fm 9 h [] [] [] (List.replicate 9 []::h):=Fm.start0
 obtain ⟨H1,e2,S3⟩:=S0.box (own:=false) (d:=2) (s:=(0::0::0::σ)) (xs:=[(.p (.int .i64 ((x0.getD 0 0)))),(.p (.int .i64 ((x0.getD 1 0)))),(.p (.int .i64 ((x0.getD 2 0)))),(.p (.int .i64 ((x0.getD 3 0))))]) (sC (sI _ _) (sC (sI _ _) (sC (sI _ _) (sC (sI _ _) sN)))) (by decide) rfl
 refine .op (e2) ?_
 obtain ⟨H5,e6,S7⟩:=S3.box (own:=false) (d:=3) (s:=(1::0::0::σ)) (xs:=[(.p (.int .i64 ((x1.getD 0 0)))),(.p (.int .i64 ((x1.getD 1 0)))),(.p (.int .i64 ((x1.getD 2 0)))),(.p (.int .i64 ((x1.getD 3 0))))]) (sC (sI _ _) (sC (sI _ _) (sC (sI _ _) (sC (sI _ _) sN)))) (by decide) rfl
 refine .op (e6) ?_
 refine .op ((slA_ok (S7.atG (i:=1) rfl) (xs:=[((x0.getD 0 0)),((x0.getD 1 0)),((x0.getD 2 0)),((x0.getD 3 0))]) (j:=0) (n:=4) (f:=fun z=>.p (.int .i64 z)) rfl (dI_map _) rfl (by decide) rfl).1) ?_
 refine .op ((slA_ok (S7.atG (i:=0) rfl) (xs:=[((x1.getD 0 0)),((x1.getD 1 0)),((x1.getD 2 0)),((x1.getD 3 0))]) (j:=0) (n:=4) (f:=fun z=>.p (.int .i64 z)) rfl (dI_map _) rfl (by decide) rfl).1) ?_
 refine .call (z7v k ([((x0.getD 0 0)),((x0.getD 1 0)),((x0.getD 2 0)),((x0.getD 3 0))]) (slA_ok (S7.atG (i:=1) rfl) (xs:=[((x0.getD 0 0)),((x0.getD 1 0)),((x0.getD 2 0)),((x0.getD 3 0))]) (j:=0) (n:=4) (f:=fun z=>.p (.int .i64 z)) rfl (dI_map _) rfl (by decide) rfl).2 ([((x1.getD 0 0)),((x1.getD 1 0)),((x1.getD 2 0)),((x1.getD 3 0))]) (slA_ok (S7.atG (i:=0) rfl) (xs:=[((x1.getD 0 0)),((x1.getD 1 0)),((x1.getD 2 0)),((x1.getD 3 0))]) (j:=0) (n:=4) (f:=fun z=>.p (.int .i64 z)) rfl (dI_map _) rfl (by decide) rfl).2) fun r9 cs10 H11 h12 q13=>?_
 cases q13
 refine .ci ?_
 exact .fin (S7.finN (lC (sB _).lv lN)) rfl
end
end Go.Ev
namespace Go.Ev
open Go.Proofs
set_option linter.unusedVariables false
set_option linter.unusedSimpArgs false
set_option maxRecDepth 100000
noncomputable section
abbrev KT27:=Exit→Env→H→Option (List C × H)
variable (rec : CallF) (loop : LoopV) (σ : Stamp)
def z4x:Code:=(codeAt (bodyOf Try.f75) [1,1,0,1,0,0])
def z50:Lv:=⟨32,16,[(0,32)]⟩
def zcn:KT27:=(kBlock 0 (kSeq G rec loop (codeAt (bodyOf Try.f75) [1,1,1]) ⟨16,16,[]⟩ (1::1::0::σ) (finC G false Try.f75 (1::σ))))
theorem zfl (x0:V) (x1:V) (h:H):cvBody G rec loop 75 σ [x0,x1] h =
(lenO x1).bind fun t1 =>
(castI .i64 t1).bind fun n2 =>
(lenO x0).bind fun t3 =>
(castI .i64 t3).bind fun n4 =>
(slS 1 x1 none (some ((if n4<n2 then n4 else n2))) none).bind fun t5 =>
(lenO t5).bind fun t6 =>
(castI .i64 t6).bind fun n7 =>
(loop z4x z50 (1::0::1::1::0::σ) (envL [(0,x0),(5,(.p (.int .i64 0))),(14,t5),(15,(.p (.int .i64 n7))),(16,(.p (.int .i64 0)))]) (List.replicate 39 []::h)).bind fun r8=>zcn rec loop σ r8.1 r8.2.1 r8.2.2:=by kernel_rfl
theorem zj0 (x0:V) (x5:Int) (x14:V) (x15:Int) (x16:Int) (h:H):zo G rec loop z4x z50 σ (envL [(0,x0),(5,(.p (.int .i64 x5))),(14,x14),(15,(.p (.int .i64 x15))),(16,(.p (.int .i64 x16)))]) h =
bif decide (x16<x15) then (
(iS 1 x14 x16).bind fun t9 =>
(ldO false 1 h t9).bind fun t10 =>
(castI .i64 t10).bind fun n11 =>
(iS 3 x0 x16).bind fun t12 =>
(ldO true 3 h t12).bind fun t13 =>
(callO rec 125 (5::0::1::0::1::1::0::σ) [t13,(.p (.int .i64 n11))] h (some 26)).bind fun q14 =>
(asB q14.1).bind fun b15 =>
bif b15 then (
(iS 3 x0 x16).bind fun t16 =>
(fA t16 1).bind fun t17 =>
(ldO false 1 q14.2 t17).bind fun t18 =>
(iS 1 t18 n11).bind fun t19 =>
(ldO false 1 q14.2 t19).bind fun t20 =>
(castI .i64 t20).bind fun n21 =>
(callO rec 126 (9::1::1::0::1::1::0::σ) [(.p (.int .i64 x5)),(.p (.int .i64 n21))] q14.2 (some 36)).bind fun q22 =>
(castI .i64 q22.1).bind fun n23 =>
loop z4x z50 (1::σ) (envL [(0,x0),(5,(.p (.int .i64 n23))),(14,x14),(15,(.p (.int .i64 x15))),(16,(.p (.int .i64 (IntKind.wrap .i64 (x16+1)))))]) q22.2)
else (
loop z4x z50 (1::σ) (envL [(0,x0),(5,(.p (.int .i64 x5))),(14,x14),(15,(.p (.int .i64 x15))),(16,(.p (.int .i64 (IntKind.wrap .i64 (x16+1)))))]) q14.2))
else (
some ((.exit 0),(envL [(5,(.p (.int .i64 x5)))]),h)):=by kernel_rfl
theorem zgh (x5:Int) (h:H):zcn rec loop σ (.exit 0) (envL [(5,(.p (.int .i64 x5)))]) h =
fin false σ h [(.p (.int .i64 x5))]:=by kernel_rfl
theorem zgs (x0:Int) (x1:Int) (h:H):cvBody G rec loop 126 σ [(.p (.int .i64 x0)),(.p (.int .i64 x1))] h =
bif decide (x0>(IntKind.wrap .i64 (9223372036854775807-x1))) then (
fin false σ (List.replicate 12 []::h) [(.p (.int .i64 9223372036854775807))])
else (
fin false σ (List.replicate 12 []::h) [(.p (.int .i64 (IntKind.wrap .i64 (x0+x1))))]):=by kernel_rfl
end
end Go.Ev
namespace Go.Ev
open Go.Proofs
set_option linter.unusedVariables false
set_option linter.unusedSimpArgs false
set_option maxRecDepth 100000
section
variable {β α : Type} {Q : β→α→Prop} {K : Exit × Env × H→Option α}
def zbk (x0:Int) (x1:Int):Option (Int) :=
bif decide (x0>(IntKind.wrap .i64 (9223372036854775807-x1))) then (
some (9223372036854775807))
else (
some ((IntKind.wrap .i64 (x0+x1))))
theorem zk4 {h:H} {σ:Stamp} (x0:Int) (x1:Int):Sim (zbk x0 x1) (ev G X0 126 σ [(.p (.int .i64 x0)),(.p (.int .i64 x1))] h) (fun r s=>s=([.v (.p (.int .i64 r))],h)):=by
 refine .ev rfl (Sim.ext (zgs _ _ _ _ _ _) ?_)
 rw [zbk]
 have S0:Fm 12 h [] [] [] (List.replicate 12 []::h):=Fm.start0
 refine .cq ?_ ?_
 ·exact .fin (S0.finN (lC (sI _ _).lv lN)) rfl
 exact .fin (S0.finN (lC (sI _ _).lv lN)) rfl
end
end Go.Ev
namespace Go.Ev
open Go.Proofs
set_option linter.unusedVariables false
set_option linter.unusedSimpArgs false
set_option maxRecDepth 100000
noncomputable section
abbrev KT28:=Exit→Env→H→Option (List C × H)
variable (rec : CallF) (loop : LoopV) (σ : Stamp)
theorem zgj (x0:V) (x1:Int) (h:H):cvBody G rec loop 125 σ [x0,(.p (.int .i64 x1))] h =
(boxO false (0::0::0::σ) 2 (List.replicate 23 []::h) x0).bind fun q1 =>
(bif decide (x1≥0) then ((fA q1.1 1).bind fun t2 =>
(ldO false 1 q1.2 t2).bind fun t3 =>
(lenO t3).bind fun t4 =>
(castI .i64 t4).bind fun n5 =>
some (decide (x1<((if n5<4 then n5 else 4))))) else (some false)).bind fun b6 =>
(bif b6 then ((fA q1.1 1).bind fun t7 =>
(ldO false 1 q1.2 t7).bind fun t8 =>
(iS 1 t8 x1).bind fun t9 =>
(ldO false 1 q1.2 t9).bind fun t10 =>
(castI .i64 t10).bind fun n11 =>
some (decide (n11≥0))) else (some false)).bind fun b12 =>
fin false σ q1.2 [(.p (.bool b12))]:=by kernel_rfl
end
end Go.Ev
namespace Go.Ev
open Go.Proofs
set_option linter.unusedVariables false
set_option linter.unusedSimpArgs false
set_option maxRecDepth 100000
section
variable {β α : Type} {Q : β→α→Prop} {K : Exit × Env × H→Option α}
def z82 (x0:z5) (x1:Int):Option (Bool) :=
(bif decide (x1≥0) then (some (decide (x1<((if ((x0.Costs.length:Int))<4 then ((x0.Costs.length:Int)) else 4))))) else (some false)).bind fun b9 =>
(bif b9 then ((ix x0.Costs x1).bind fun a13 =>
some (decide (a13≥0))) else (some false)).bind fun b16 =>
some (b16)
theorem zdu {h:H} {σ:Stamp} (x0:z5) {u0:List V} (hu0:z4.R x0 u0) (x1:Int):Sim (z82 x0 x1) (ev G X0 125 σ [(.agg u0),(.p (.int .i64 x1))] h) (fun r s=>s=([.v (.p (.bool r))],h)):=by
 refine .ev rfl (Sim.ext (zgj _ _ _ _ _ _) ?_)
 rw [z82]
 obtain ⟨v1,v3,rfl,h2,h4⟩:=z4.inv hu0
 have S0:Fm 23 h [] [] [] (List.replicate 23 []::h):=Fm.start0
 obtain ⟨H5,e6,S7⟩:=S0.box (own:=false) (d:=2) (s:=(0::0::0::σ)) (xs:=[(.p (.int .i64 x0.Class)),v1,v3]) (sC (sI _ _) (sC h2.still (sC h4.still sN))) (by decide) rfl
 refine .op (e6) ?_
 refine .ch (P:=fun r y=>r=y) ?_ (fun b9 y10 h11 h12=>?_)
 ·refine .cq ?_ ?_
  ·refine .fa ?_
   refine .op ((S7.atG (i:=0) rfl).ld (j:=1) rfl) ?_
   refine .op ((h2.h H5).len) ?_
   refine .ci ?_
   exact .ret rfl rfl
  ·exact .ret rfl rfl
 subst h12
 refine .ch (P:=fun r y=>r=y) ?_ (fun b16 y17 h18 h19=>?_)
 ·refine .cq ?_ ?_
  ·refine .fa ?_
   refine .op ((S7.atG (i:=0) rfl).ld (j:=1) rfl) ?_
   refine .bd fun a13 h14=>?_
   refine .op ((h2.h H5).iS h14 rfl) ?_
   obtain ⟨_,rfl,hE15⟩:=(h2.h H5).el h14 rfl
   refine .op (hE15.ld (j:=0) rfl) ?_
   refine .ci ?_
   exact .ret rfl rfl
  ·exact .ret rfl rfl
 subst h19
 exact .fin (S7.finN (lC (sB _).lv lN)) rfl
def z3x {β:Type} (k:Nat) (kE0:Int→Option β) (x0:(List z5)) (x5:Int) (x14:(List Int)) (x15:Int) (x16:Int):Option β:=match k with
| 0=>none
| k+1 =>
bif decide (x16<x15) then (
(ix x14 x16).bind fun a10 =>
(ix x0 x16).bind fun a13 =>
(z82 a13 a10).bind fun r22 =>
bif r22 then (
(ix x0 x16).bind fun a28 =>
(ix a28.Costs a10).bind fun a44 =>
(zbk x5 a44).bind fun r47 =>
z3x k kE0 x0 r47 x14 x15 (IntKind.wrap .i64 (x16+1)))
else (
z3x k kE0 x0 x5 x14 x15 (IntKind.wrap .i64 (x16+1))))
else (
kE0 x5)
def z5m (k:Nat) (x0:(List z5)) (x1:(List Int)):Option (Int) :=
(sub x1 0 ((if ((x0.length:Int))<((x1.length:Int)) then ((x0.length:Int)) else ((x1.length:Int))))).bind fun a1 =>
z3x k (fun r54_5 =>
some (r54_5)) x0 0 a1 ((a1.length:Int)) 0
theorem zfk {h:H}  {kE0:Int→Option β} (hE0:∀ (q5:Int) (H52:Go.Ev.H) (_:Fm 39 h [] [] [] H52),Sim (kE0 q5) (K ((.exit 0),(envL [(5,(.p (.int .i64 q5)))]),H52)) Q) (k:Nat):∀ (x0:(List z5)) (x5:Int) (x14:(List Int)) (x15:Int) (x16:Int) (v5:V) (h6:SlH h z4 x0 v5) (v7:V) (h8:SlH h (dI .i64) x14 v7) (H3:Go.Ev.H) (_:Fm 39 h [] [] [] H3) {σ:Stamp},Sim (z3x k kE0 x0 x5 x14 x15 x16) ((cvL G X0 z4x z50 σ (envL [(0,v5),(5,(.p (.int .i64 x5))),(14,v7),(15,(.p (.int .i64 x15))),(16,(.p (.int .i64 x16)))]) H3).bind K) Q:=by
 induction k with
 | zero=>intros;exact .no
 | succ k ih =>
  intro x0 x5 x14 x15 x16 v5 h6 v7 h8 H3 S4 σ
  rw [z3x]
  refine .round (Sim.ext (zj0 _ _ _ _ _ _ _ _ _) ?_)
  refine .cq ?_ ?_
  ·refine .bd fun a10 h11=>?_
   refine .op ((S4.low h8).iS h11 rfl) ?_
   obtain ⟨_,rfl,hE12⟩:=(S4.low h8).el h11 rfl
   refine .op (hE12.ld (j:=0) rfl) ?_
   refine .ci ?_
   refine .bd fun a13 h14=>?_
   refine .op ((S4.low h6).iS h14 rfl) ?_
   obtain ⟨w16,h17,hE15⟩:=(S4.low h6).el h14 rfl
   obtain ⟨v18,v20,rfl,h19,h21⟩:=z4.inv h17
   refine .op (hE15.all (by simp)) ?_
   refine .call (zdu a13 (show z4.R a13 [.p (.int .i64 a13.Class),v18,v20] from (z4.mk h19 h21)) a10) fun r22 cs23 H24 h25 q26=>?_
   cases q26
   refine .ab ?_
   refine .cq ?_ ?_
   ·refine .bd fun a28 h29=>?_
    refine .op ((S4.low h6).iS h29 rfl) ?_
    obtain ⟨w31,h32,hE30⟩:=(S4.low h6).el h29 rfl
    obtain ⟨v33,v35,rfl,h34,h36⟩:=z4.inv h32
    refine .op (hE30.fa (j:=1) (by simp)) ?_
    obtain ⟨w38,h39,hE37⟩:=(S4.low h6).el h29 rfl
    obtain ⟨v40,v42,rfl,h41,h43⟩:=z4.inv h39
    refine .op (hE37.ld (j:=1) rfl) ?_
    refine .bd fun a44 h45=>?_
    refine .op ((h41.h H3).iS h45 rfl) ?_
    obtain ⟨_,rfl,hE46⟩:=(h41.h H3).el h45 rfl
    refine .op (hE46.ld (j:=0) rfl) ?_
    refine .ci ?_
    refine .call (zk4 x5 a44) fun r47 cs48 H49 h50 q51=>?_
    cases q51
    refine .ci ?_
    exact ih x0 r47 x14 x15 (IntKind.wrap .i64 (x16+1)) v5 h6 v7 h8 H3 (S4.wk2 aN aN)
   exact ih x0 x5 x14 x15 (IntKind.wrap .i64 (x16+1)) v5 h6 v7 h8 H3 (S4.wk2 aN aN)
  exact hE0 x5 H3 (S4.wk2 aN aN)
theorem z97 (k:Nat) {h:H} {σ:Stamp} (x0:List z5) {u0:V} (hu0:SlH h z4 x0 u0) (x1:List Int) {u1:V} (hu1:SlH h (dI .i64) x1 u1):Sim (z5m k x0 x1) (ev G X0 75 σ [u0,u1] h) (fun r s=>s=([.v (.p (.int .i64 r))],h)):=by
 refine .ev rfl (Sim.ext (zfl _ _ _ _ _ _) ?_)
 rw [z5m]
 have S0:Fm 39 h [] [] [] (List.replicate 39 []::h):=Fm.start0
 refine .op ((S0.low hu1).len) ?_
 refine .ci ?_
 refine .op ((S0.low hu0).len) ?_
 refine .ci ?_
 refine .bd fun a1 h2=>?_
 refine .op ((S0.low hu1).slS h2 rfl rfl rfl) ?_
 refine .op (((S0.low hu1).sub h2 (e:=1) rfl).len) ?_
 refine .ci ?_
 refine .as (zfk ?_ k x0 0 a1 ((a1.length:Int)) 0 u0 hu0 (subV 1 u1 (Int.toNat (0)) (Int.toNat ((if ((x0.length:Int))<((x1.length:Int)) then ((x0.length:Int)) else ((x1.length:Int)))))) (hu1.sub h2 (e:=1) rfl) (List.replicate 39 []::h) (S0.wk2 aN aN))
 ·intro r54_5 H55 S56
  refine .ext (zgh _ _ _ _ _) ?_
  exact .fin (S56.finN (lC (sI _ _).lv lN)) rfl
end
end Go.Ev
namespace Go.Ev
open Go.Proofs
set_option linter.unusedVariables false
set_option linter.unusedSimpArgs false
set_option maxRecDepth 100000
noncomputable section
abbrev KT29:=Exit→Env→H→Option (List C × H)
variable (rec : CallF) (loop : LoopV) (σ : Stamp)
def z53:Code:=(codeAt (bodyOf Try.f160) [1,1,0,1,0,0])
def z51:Lv:=⟨48,16,[(0,48)]⟩
def zc5:KT29:=(kBlock 0 (kSeq G rec loop (codeAt (bodyOf Try.f160) [1,1,1]) ⟨16,16,[]⟩ (1::1::0::σ) (finC G false Try.f160 (1::σ))))
theorem zg1 (x0:V) (x1:V) (h:H):cvBody G rec loop 160 σ [x0,x1] h =
(some (alO [.p (.int .i64 0),.p (.int .i64 0),.p (.int .i64 0),.p (.int .i64 0)] (0::0::0::σ) 4 (List.replicate 52 []::h))).bind fun q1 =>
(some (alO [.p (.int .i64 0),.p (.int .i64 0),.p (.int .i64 0),.p (.int .i64 0)] (0::0::1::0::σ) 5 q1.2)).bind fun q2 =>
(lenO x1).bind fun t3 =>
(castI .i64 t3).bind fun n4 =>
(lenO x0).bind fun t5 =>
(castI .i64 t5).bind fun n6 =>
(slS 1 x1 none (some ((if n6<n4 then n6 else n4))) none).bind fun t7 =>
(lenO t7).bind fun t8 =>
(castI .i64 t8).bind fun n9 =>
(loop z53 z51 (1::0::1::1::0::σ) (envL [(0,x0),(4,q1.1),(5,q2.1),(14,t7),(15,(.p (.int .i64 n9))),(16,(.p (.int .i64 0)))]) q2.2).bind fun r10=>zc5 rec loop σ r10.1 r10.2.1 r10.2.2:=by kernel_rfl
theorem zje (x0:V) (x4:V) (x5:V) (x14:V) (x15:Int) (x16:Int) (h:H):zo G rec loop z53 z51 σ (envL [(0,x0),(4,x4),(5,x5),(14,x14),(15,(.p (.int .i64 x15))),(16,(.p (.int .i64 x16)))]) h =
bif decide (x16<x15) then (
(iS 1 x14 x16).bind fun t11 =>
(ldO false 1 h t11).bind fun t12 =>
(castI .i64 t12).bind fun n13 =>
(bif decide (n13≥0) then ((iS 3 x0 x16).bind fun t14 =>
(ldO true 3 h t14).bind fun t15 =>
(callO rec 124 (8::0::1::0::1::1::0::σ) [t15,(.p (.int .i64 n13))] h (some 29)).bind fun q16 =>
(asB q16.1).bind fun b17 =>
some ((.p (.bool b17)),q16.2)) else (some ((.p (.bool false)),h))).bind fun q18 =>
(asB q18.1).bind fun b19 =>
bif b19 then (
(iS 3 x0 x16).bind fun t20 =>
(fA t20 0).bind fun t21 =>
(ldO false 1 q18.2 t21).bind fun t22 =>
(castI .i64 t22).bind fun n23 =>
(iA 4 1 x5 n23).bind fun t24 =>
(ldO false 1 q18.2 t24).bind fun t25 =>
(castI .i64 t25).bind fun n26 =>
(iS 3 x0 x16).bind fun t27 =>
(fA t27 2).bind fun t28 =>
(ldO false 1 q18.2 t28).bind fun t29 =>
(iS 1 t29 n13).bind fun t30 =>
(ldO false 1 q18.2 t30).bind fun t31 =>
(castI .i64 t31).bind fun n32 =>
(iA 4 1 x5 n23).bind fun t33 =>
((stO true 1 (19::1::1::0::1::1::0::σ) q18.2 t33 (.p (.int .i64 (IntKind.wrap .i64 (n26+((if ((if 1073741824<n32 then 1073741824 else n32))>0 then ((if 1073741824<n32 then 1073741824 else n32)) else 0))))))).map fun h=>(udf,h)).bind fun q34 =>
loop z53 z51 (1::σ) (envL [(0,x0),(4,x4),(5,x5),(14,x14),(15,(.p (.int .i64 x15))),(16,(.p (.int .i64 (IntKind.wrap .i64 (x16+1)))))]) q34.2)
else (
loop z53 z51 (1::σ) (envL [(0,x0),(4,x4),(5,x5),(14,x14),(15,(.p (.int .i64 x15))),(16,(.p (.int .i64 (IntKind.wrap .i64 (x16+1)))))]) q18.2))
else (
some ((.exit 0),(envL [(4,x4),(5,x5)]),h)):=by kernel_rfl
theorem zgf (x4:V) (x5:V) (h:H):zc5 rec loop σ (.exit 0) (envL [(4,x4),(5,x5)]) h =
(ldO true 4 h x5).bind fun t35 =>
((stO false 4 (1::0::1::1::1::0::σ) h x4 t35).map fun h=>(udf,h)).bind fun q36 =>
((ldO true 4 q36.2 x4).bind fun t37=>(some []).map (t37::·)).bind fun t38=>fin false σ q36.2 t38:=by kernel_rfl
theorem zfb (x0:V) (x1:Int) (h:H):cvBody G rec loop 124 σ [x0,(.p (.int .i64 x1))] h =
(boxO false (0::0::0::σ) 2 (List.replicate 29 []::h) x0).bind fun q1 =>
(bif x1==(-1) then (some ((.p (.bool true)),q1.2)) else ((ldO true 3 q1.2 q1.1).bind fun t2 =>
(callO rec 125 (5::0::1::0::σ) [t2,(.p (.int .i64 x1))] q1.2 (some 10)).bind fun q3 =>
(asB q3.1).bind fun b4 =>
(bif b4 then ((fA q1.1 2).bind fun t5 =>
(ldO false 1 q3.2 t5).bind fun t6 =>
(lenO t6).bind fun t7 =>
(castI .i64 t7).bind fun n8 =>
some (decide (x1<n8))) else (some false)).bind fun b9 =>
(bif b9 then ((fA q1.1 0).bind fun t10 =>
(ldO false 1 q3.2 t10).bind fun t11 =>
(castI .i64 t11).bind fun n12 =>
some (decide (n12≥0))) else (some false)).bind fun b13 =>
(bif b13 then ((fA q1.1 0).bind fun t14 =>
(ldO false 1 q3.2 t14).bind fun t15 =>
(castI .i64 t15).bind fun n16 =>
some (decide (n16<4))) else (some false)).bind fun b17 =>
some ((.p (.bool b17)),q3.2))).bind fun q18 =>
(asB q18.1).bind fun b19 =>
fin false σ q18.2 [(.p (.bool b19))]:=by kernel_rfl
end
end Go.Ev
namespace Go.Ev
open Go.Proofs
set_option linter.unusedVariables false
set_option linter.unusedSimpArgs false
set_option maxRecDepth 100000
section
variable {β α : Type} {Q : β→α→Prop} {K : Exit × Env × H→Option α}
def z5s (x0:z5) (x1:Int):Option (Bool) :=
(bif x1==(-1) then (some true) else ((z82 x0 x1).bind fun r9 =>
(bif r9 then (some (decide (x1<((x0.Goods.length:Int))))) else (some false)).bind fun b14 =>
(bif b14 then (some (decide (x0.Class≥0))) else (some false)).bind fun b18 =>
(bif b18 then (some (decide (x0.Class<4))) else (some false)).bind fun b22 =>
some b22)).bind fun b26 =>
some (b26)
theorem z96 {h:H} {σ:Stamp} (x0:z5) {u0:List V} (hu0:z4.R x0 u0) (x1:Int):Sim (z5s x0 x1) (ev G X0 124 σ [(.agg u0),(.p (.int .i64 x1))] h) (fun r s=>s=([.v (.p (.bool r))],h)):=by
 refine .ev rfl (Sim.ext (zfb _ _ _ _ _ _) ?_)
 rw [z5s]
 obtain ⟨v1,v3,rfl,h2,h4⟩:=z4.inv hu0
 have S0:Fm 29 h [] [] [] (List.replicate 29 []::h):=Fm.start0
 obtain ⟨H5,e6,S7⟩:=S0.box (own:=false) (d:=2) (s:=(0::0::0::σ)) (xs:=[(.p (.int .i64 x0.Class)),v1,v3]) (sC (sI _ _) (sC h2.still (sC h4.still sN))) (by decide) rfl
 refine .op (e6) ?_
 refine .ch (P:=fun r y=>(.p (.bool r),H5)=y) ?_ (fun b26 y27 h28 h29=>?_)
 ·refine .cq ?_ ?_
  ·exact .ret rfl rfl
  ·refine .op ((S7.atG (i:=0) rfl).ldVs (j:=0) (xs:=[(.p (.int .i64 x0.Class)),v1,v3]) rfl rfl (by decide)) ?_
   refine .call (zdu x0 hu0 x1) fun r9 cs10 H11 h12 q13=>?_
   cases q13
   refine .ab ?_
   refine .ch (P:=fun r y=>r=y) ?_ (fun b14 y15 h16 h17=>?_)
   ·refine .cq ?_ ?_
    ·refine .fa ?_
     refine .op ((S7.atG (i:=0) rfl).ld (j:=2) rfl) ?_
     refine .op ((h4.h H5).len) ?_
     refine .ci ?_
     exact .ret rfl rfl
    ·exact .ret rfl rfl
   subst h17
   refine .ch (P:=fun r y=>r=y) ?_ (fun b18 y19 h20 h21=>?_)
   ·refine .cq ?_ ?_
    ·refine .fa ?_
     refine .op ((S7.atG (i:=0) rfl).ld (j:=0) rfl) ?_
     refine .ci ?_
     exact .ret rfl rfl
    ·exact .ret rfl rfl
   subst h21
   refine .ch (P:=fun r y=>r=y) ?_ (fun b22 y23 h24 h25=>?_)
   ·refine .cq ?_ ?_
    ·refine .fa ?_
     refine .op ((S7.atG (i:=0) rfl).ld (j:=0) rfl) ?_
     refine .ci ?_
     exact .ret rfl rfl
    ·exact .ret rfl rfl
   subst h25
   exact .ret rfl rfl
 subst h29
 refine .ab ?_
 exact .fin (S7.finN (lC (sB _).lv lN)) rfl
def z3z {β:Type} (k:Nat) (kE0:(List Int)→(List Int)→Option β) (x0:(List z5)) (x14:(List Int)) (x15:Int) (x16:Int) (yg4:(List Int)) (yg8:(List Int)):Option β:=match k with
| 0=>none
| k+1 =>
bif decide (x16<x15) then (
(ix x14 x16).bind fun a22 =>
(bif decide (a22≥0) then ((ix x0 x16).bind fun a25 =>
(z5s a25 a22).bind fun r34 =>
some r34) else (some false)).bind fun b39 =>
bif b39 then (
(ix x0 x16).bind fun a44 =>
(ix [((yg8.getD 0 0)),((yg8.getD 1 0)),((yg8.getD 2 0)),((yg8.getD 3 0))] a44.Class).bind fun a60 =>
(ix x0 x16).bind fun a62 =>
(ix a62.Goods a22).bind fun a78 =>
(ix [((yg8.getD 0 0)),((yg8.getD 1 0)),((yg8.getD 2 0)),((yg8.getD 3 0))] a44.Class).bind fun a81 =>
(stx [((yg8.getD 0 0)),((yg8.getD 1 0)),((yg8.getD 2 0)),((yg8.getD 3 0))] a44.Class (IntKind.wrap .i64 (a60+((if ((if 1073741824<a78 then 1073741824 else a78))>0 then ((if 1073741824<a78 then 1073741824 else a78)) else 0))))).bind fun a86 =>
z3z k kE0 x0 x14 x15 (IntKind.wrap .i64 (x16+1)) ([((yg4.getD 0 0)),((yg4.getD 1 0)),((yg4.getD 2 0)),((yg4.getD 3 0))]) ([((a86.getD 0 0)),((a86.getD 1 0)),((a86.getD 2 0)),((a86.getD 3 0))]))
else (
z3z k kE0 x0 x14 x15 (IntKind.wrap .i64 (x16+1)) ([((yg4.getD 0 0)),((yg4.getD 1 0)),((yg4.getD 2 0)),((yg4.getD 3 0))]) ([((yg8.getD 0 0)),((yg8.getD 1 0)),((yg8.getD 2 0)),((yg8.getD 3 0))])))
else (
kE0 ([((yg4.getD 0 0)),((yg4.getD 1 0)),((yg4.getD 2 0)),((yg4.getD 3 0))]) ([((yg8.getD 0 0)),((yg8.getD 1 0)),((yg8.getD 2 0)),((yg8.getD 3 0))]))
def za8 (k:Nat) (x0:(List z5)) (x1:(List Int)):Option ((List Int)) :=
(sub x1 0 ((if ((x0.length:Int))<((x1.length:Int)) then ((x0.length:Int)) else ((x1.length:Int))))).bind fun a9 =>
z3z k (fun yg18 yg20 =>
some (([((yg20.getD 0 0)),((yg20.getD 1 0)),((yg20.getD 2 0)),((yg20.getD 3 0))]))) x0 a9 ((a9.length:Int)) 0 ([0,0,0,0]) ([0,0,0,0])
theorem zex {h:H}  {kE0:(List Int)→(List Int)→Option β} (hE0:∀ (yg18:(List Int)) (yg20:(List Int)) (s90:Stamp) (s92:Stamp) (H88:Go.Ev.H) (_:Fm 52 h [] [(4,s90,List.map C.v [(.p (.int .i64 ((yg18.getD 0 0)))),(.p (.int .i64 ((yg18.getD 1 0)))),(.p (.int .i64 ((yg18.getD 2 0)))),(.p (.int .i64 ((yg18.getD 3 0))))]),(5,s92,List.map C.v [(.p (.int .i64 ((yg20.getD 0 0)))),(.p (.int .i64 ((yg20.getD 1 0)))),(.p (.int .i64 ((yg20.getD 2 0)))),(.p (.int .i64 ((yg20.getD 3 0))))])] [] H88),Sim (kE0 yg18 yg20) (K ((.exit 0),(envL [(4,(.ref ⟨h.length,4,0,s90,[]⟩ 0)),(5,(.ref ⟨h.length,5,0,s92,[]⟩ 0))]),H88)) Q) (k:Nat):∀ (x0:(List z5)) (x14:(List Int)) (x15:Int) (x16:Int) (yg4:(List Int)) (yg8:(List Int)) (v13:V) (h14:SlH h z4 x0 v13) (v15:V) (h16:SlH h (dI .i64) x14 v15) (s17:Stamp) (s19:Stamp) (H11:Go.Ev.H) (_:Fm 52 h [] [(4,s17,List.map C.v [(.p (.int .i64 ((yg4.getD 0 0)))),(.p (.int .i64 ((yg4.getD 1 0)))),(.p (.int .i64 ((yg4.getD 2 0)))),(.p (.int .i64 ((yg4.getD 3 0))))]),(5,s19,List.map C.v [(.p (.int .i64 ((yg8.getD 0 0)))),(.p (.int .i64 ((yg8.getD 1 0)))),(.p (.int .i64 ((yg8.getD 2 0)))),(.p (.int .i64 ((yg8.getD 3 0))))])] [] H11) {σ:Stamp},Sim (z3z k kE0 x0 x14 x15 x16 yg4 yg8) ((cvL G X0 z53 z51 σ (envL [(0,v13),(4,(.ref ⟨h.length,4,0,s17,[]⟩ 0)),(5,(.ref ⟨h.length,5,0,s19,[]⟩ 0)),(14,v15),(15,(.p (.int .i64 x15))),(16,(.p (.int .i64 x16)))]) H11).bind K) Q:=by
 induction k with
 | zero=>intros;exact .no
 | succ k ih =>
  intro x0 x14 x15 x16 yg4 yg8 v13 h14 v15 h16 s17 s19 H11 S12 σ
  rw [z3z]
  refine .round (Sim.ext (zje _ _ _ _ _ _ _ _ _ _) ?_)
  refine .cq ?_ ?_
  ·refine .bd fun a22 h23=>?_
   refine .op ((S12.low h16).iS h23 rfl) ?_
   obtain ⟨_,rfl,hE24⟩:=(S12.low h16).el h23 rfl
   refine .op (hE24.ld (j:=0) rfl) ?_
   refine .ci ?_
   refine .ch (P:=fun r y=>(.p (.bool r),H11)=y) ?_ (fun b39 y40 h41 h42=>?_)
   ·refine .cq ?_ ?_
    ·refine .bd fun a25 h26=>?_
     refine .op ((S12.low h14).iS h26 rfl) ?_
     obtain ⟨w28,h29,hE27⟩:=(S12.low h14).el h26 rfl
     obtain ⟨v30,v32,rfl,h31,h33⟩:=z4.inv h29
     refine .op (hE27.all (by simp)) ?_
     refine .call (z96 a25 (show z4.R a25 [.p (.int .i64 a25.Class),v30,v32] from (z4.mk h31 h33)) a22) fun r34 cs35 H36 h37 q38=>?_
     cases q38
     refine .ab ?_
     exact .ret rfl rfl
    ·exact .ret rfl rfl
   subst h42
   refine .ab ?_
   refine .cq ?_ ?_
   ·refine .bd fun a44 h45=>?_
    refine .op ((S12.low h14).iS h45 rfl) ?_
    obtain ⟨w47,h48,hE46⟩:=(S12.low h14).el h45 rfl
    obtain ⟨v49,v51,rfl,h50,h52⟩:=z4.inv h48
    refine .op (hE46.fa (j:=0) (by simp)) ?_
    obtain ⟨w54,h55,hE53⟩:=(S12.low h14).el h45 rfl
    obtain ⟨v56,v58,rfl,h57,h59⟩:=z4.inv h55
    refine .op (hE53.ld (j:=0) rfl) ?_
    refine .ci ?_
    refine .bd fun a60 h61=>?_
    refine .op (iA_ok h61 rfl) ?_
    refine .op ((S12.atG (i:=1) rfl).ldIx (xs:=[((yg8.getD 0 0)),((yg8.getD 1 0)),((yg8.getD 2 0)),((yg8.getD 3 0))]) (j:=0) (n:=4) (f:=fun z=>.p (.int .i64 z)) rfl h61 rfl) ?_
    refine .ci ?_
    refine .bd fun a62 h63=>?_
    refine .op ((S12.low h14).iS h63 rfl) ?_
    obtain ⟨w65,h66,hE64⟩:=(S12.low h14).el h63 rfl
    obtain ⟨v67,v69,rfl,h68,h70⟩:=z4.inv h66
    refine .op (hE64.fa (j:=2) (by simp)) ?_
    obtain ⟨w72,h73,hE71⟩:=(S12.low h14).el h63 rfl
    obtain ⟨v74,v76,rfl,h75,h77⟩:=z4.inv h73
    refine .op (hE71.ld (j:=2) rfl) ?_
    refine .bd fun a78 h79=>?_
    refine .op ((h77.h H11).iS h79 rfl) ?_
    obtain ⟨_,rfl,hE80⟩:=(h77.h H11).el h79 rfl
    refine .op (hE80.ld (j:=0) rfl) ?_
    refine .ci ?_
    refine .bd fun a81 h82=>?_
    refine .op (iA_ok h82 rfl) ?_
    refine .bd fun a86 h87=>?_
    obtain ⟨H83,e84,S85⟩:=S12.stIxG (i:=1) (j:=0) (n:=4) (own:=true) (σ:=(19::1::1::0::1::1::0::σ)) (xs:=[((yg8.getD 0 0)),((yg8.getD 1 0)),((yg8.getD 2 0)),((yg8.getD 3 0))]) (f:=fun z=>.p (.int .i64 z)) (y:=(IntKind.wrap .i64 (a60+((if ((if 1073741824<a78 then 1073741824 else a78))>0 then ((if 1073741824<a78 then 1073741824 else a78)) else 0))))) rfl rfl (fun _=>sI _ _) rfl h87 rfl 0
    refine .op (sM e84) ?_
    exact ih x0 x14 x15 (IntKind.wrap .i64 (x16+1)) ([((yg4.getD 0 0)),((yg4.getD 1 0)),((yg4.getD 2 0)),((yg4.getD 3 0))]) ([((a86.getD 0 0)),((a86.getD 1 0)),((a86.getD 2 0)),((a86.getD 3 0))]) v13 h14 v15 h16 s17 s19 H83 (S85.wk2 (aC (aM 0 rfl) (aC (aM 1 rfl) aN)) aN)
   exact ih x0 x14 x15 (IntKind.wrap .i64 (x16+1)) ([((yg4.getD 0 0)),((yg4.getD 1 0)),((yg4.getD 2 0)),((yg4.getD 3 0))]) ([((yg8.getD 0 0)),((yg8.getD 1 0)),((yg8.getD 2 0)),((yg8.getD 3 0))]) v13 h14 v15 h16 s17 s19 H11 (S12.wk2 (aC (aM 0 rfl) (aC (aM 1 rfl) aN)) aN)
  exact hE0 ([((yg4.getD 0 0)),((yg4.getD 1 0)),((yg4.getD 2 0)),((yg4.getD 3 0))]) ([((yg8.getD 0 0)),((yg8.getD 1 0)),((yg8.getD 2 0)),((yg8.getD 3 0))]) s17 s19 H11 (S12.wk2 (aC (aM 0 rfl) (aC (aM 1 rfl) aN)) aN)
theorem zio (k:Nat) {h:H} {σ:Stamp} (x0:List z5) {u0:V} (hu0:SlH h z4 x0 u0) (x1:List Int) {u1:V} (hu1:SlH h (dI .i64) x1 u1):Sim (za8 k x0 x1) (ev G X0 160 σ [u0,u1] h) (fun r s=>∃ (w0:List V),(dA 4 (dI .i64)).R r w0∧s=([.v (.agg w0)],h)):=by
 refine .ev rfl (Sim.ext (zg1 _ _ _ _ _ _) ?_)
 rw [za8]
 have S0:Fm 52 h [] [] [] (List.replicate 52 []::h):=Fm.start0
 obtain ⟨H1,e2,S3⟩:=S0.al (d:=4) (s:=(0::0::0::σ)) (z:=[(.p (.int .i64 0)),(.p (.int .i64 0)),(.p (.int .i64 0)),(.p (.int .i64 0))]) (by decide) rfl
 refine .op (congrArg some e2) ?_
 obtain ⟨H5,e6,S7⟩:=S3.al (d:=5) (s:=(0::0::1::0::σ)) (z:=[(.p (.int .i64 0)),(.p (.int .i64 0)),(.p (.int .i64 0)),(.p (.int .i64 0))]) (by decide) rfl
 refine .op (congrArg some e6) ?_
 refine .op ((S7.low hu1).len) ?_
 refine .ci ?_
 refine .op ((S7.low hu0).len) ?_
 refine .ci ?_
 refine .bd fun a9 h10=>?_
 refine .op ((S7.low hu1).slS h10 rfl rfl rfl) ?_
 refine .op (((S7.low hu1).sub h10 (e:=1) rfl).len) ?_
 refine .ci ?_
 refine .as (zex ?_ k x0 a9 ((a9.length:Int)) 0 ([0,0,0,0]) ([0,0,0,0]) u0 hu0 (subV 1 u1 (Int.toNat (0)) (Int.toNat ((if ((x0.length:Int))<((x1.length:Int)) then ((x0.length:Int)) else ((x1.length:Int)))))) (hu1.sub h10 (e:=1) rfl) (0::0::0::σ) (0::0::1::0::σ) H5 (S7.wk2 (aC (aM 1 rfl) (aC (aM 0 rfl) aN)) aN))
 ·intro yg18 yg20 s97 s99 H95 S96
  refine .ext (zgf _ _ _ _ _ _) ?_
  refine .op ((S96.atG (i:=1) rfl).ldVs (j:=0) (xs:=[.p (.int .i64 ((yg20.getD 0 0))),.p (.int .i64 ((yg20.getD 1 0))),.p (.int .i64 ((yg20.getD 2 0))),.p (.int .i64 ((yg20.getD 3 0)))]) rfl rfl (by decide)) ?_
  obtain ⟨H101,e102,S103⟩:=S96.stGv (i:=0) (j:=0) (own:=false) (σ:=(1::0::1::1::1::0::σ)) (xs:=[.p (.int .i64 ((yg20.getD 0 0))),.p (.int .i64 ((yg20.getD 1 0))),.p (.int .i64 ((yg20.getD 2 0))),.p (.int .i64 ((yg20.getD 3 0)))]) rfl rfl (sC (sI _ _) (sC (sI _ _) (sC (sI _ _) (sC (sI _ _) sN)))) rfl rfl
  refine .op (sM e102) ?_
  have e104:ldO true 4 H101 (.ref ⟨h.length,4,0,s97,[]⟩ 0)=some (.agg [.p (.int .i64 ((yg20.getD 0 0))),.p (.int .i64 ((yg20.getD 1 0))),.p (.int .i64 ((yg20.getD 2 0))),.p (.int .i64 ((yg20.getD 3 0)))]):=(S103.atG (i:=0) rfl).ldVs (j:=0) rfl rfl (by decide)
  refine .op (congrArg (Option.bind · _) e104) ?_
  exact .fin (S103.finN (lC (Stills.lv ((dA 4 (dI .i64)).still (⟨rfl,dI_map [((yg20.getD 0 0)),((yg20.getD 1 0)),((yg20.getD 2 0)),((yg20.getD 3 0))]⟩:(dA 4 (dI .i64)).R [((yg20.getD 0 0)),((yg20.getD 1 0)),((yg20.getD 2 0)),((yg20.getD 3 0))] [.p (.int .i64 ((yg20.getD 0 0))),.p (.int .i64 ((yg20.getD 1 0))),.p (.int .i64 ((yg20.getD 2 0))),.p (.int .i64 ((yg20.getD 3 0)))]))) lN)) ⟨_,(⟨rfl,dI_map [((yg20.getD 0 0)),((yg20.getD 1 0)),((yg20.getD 2 0)),((yg20.getD 3 0))]⟩:(dA 4 (dI .i64)).R [((yg20.getD 0 0)),((yg20.getD 1 0)),((yg20.getD 2 0)),((yg20.getD 3 0))] [.p (.int .i64 ((yg20.getD 0 0))),.p (.int .i64 ((yg20.getD 1 0))),.p (.int .i64 ((yg20.getD 2 0))),.p (.int .i64 ((yg20.getD 3 0)))]),rfl⟩
end
end Go.Ev
