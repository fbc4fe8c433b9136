/- A part of the proof that follows: Chapter 6's runs: reports of sixty tapes, each thing of them turned; bytes cut off, each byte turned; reports of each type and count. -/
import Derived.Test.YtocbjhoaamkonaaMRtcpNumbers4
import Derived.KernelRfl
namespace Go.Ev
open Go.Proofs
set_option linter.unusedVariables false
set_option linter.unusedSimpArgs false
set_option maxRecDepth 100000
def p_zl6_RtcpNumbers_l3 {β : Type} (k : Nat) (kE0 : Int→Int→TaiReport→TaiReport→Option β) (kE1 : Bool→Option β) (x1 : Int) (x5 : Int) (x42 : (List Int)) (x43 : Int) (x44 : Int) (yg93 : TaiReport) (yg103 : TaiReport) : Option β:=match k with
| 0 => none
| k + 1 =>
bif decide (x44 < x43) then (
(ix x42 x44).bind fun a131 =>
(p_zl6_odd yg93 x5 a131).bind fun r134 =>
(p_zl6_same k ([r134])).bind fun r150 =>
bif !r150 then (
kE1 false)
else (
p_zl6_RtcpNumbers_l3 k kE0 kE1 x1 x5 x42 x43 (IntKind.wrap .i64 (x44 + 1)) yg93 yg103))
else (
kE0 x1 x5 yg93 yg103)
def p_zl6_RtcpNumbers_l1 {β : Type} (k : Nat) (kE0 : Int→TaiReport→TaiReport→Option β) (kE1 : Bool→Option β) (x1 : Int) (x5 : Int) (yg54 : TaiReport) (yg58 : TaiReport) : Option β:=match k with
| 0 => none
| k + 1 =>
bif decide (x5 < 11) then (
p_zl6_RtcpNumbers_l3 k (fun r180_1 r180_5 yg119 yg129 =>
p_zl6_RtcpNumbers_l1 k kE0 kE1 r180_1 (IntKind.wrap .i64 (r180_5 + 1)) yg119 yg129) (fun r203_0 =>
kE1 r203_0) x1 x5 ([(-1),0,1,3,6,7,31,32,191,192,205,206,223,224,255,256,511,512,131072,131073,1099511627776]) ((([(-1),0,1,3,6,7,31,32,191,192,205,206,223,224,255,256,511,512,131072,131073,1099511627776]).length : Int)) 0 yg54 yg58)
else (
kE0 x1 yg54 yg58)
def p_zl6_RtcpNumbers_l4 {β : Type} (k : Nat) (kE0 : Int→Option β) (kE1 : Bool→Option β) (x1 : Int) (x8 : (List Int)) (x10 : Int) : Option β:=match k with
| 0 => none
| k + 1 =>
(bif decide (x10 < ((x8.length : Int))) then (some (decide (x1 < 25))) else (some false)).bind fun b265 =>
bif b265 then (
(ap 1 (([] : List Int)) x8).bind fun a273 =>
(ix a273 x10).bind fun a279 =>
(shP .shl .u8 1 (IntKind.wrap .u64 (Int.tmod (IntKind.wrap .i64 (x10 + x1)) 8))).bind fun n282 =>
(ix a273 x10).bind fun a284 =>
(stx a273 x10 (intBits .xor .u8 a279 n282)).bind fun a289 =>
(sub x8 0 x10).bind fun a291 =>
(p_zl6_reads k a291).bind fun r293 =>
bif !r293 then ((bif true then (some true) else ((sub x8 x10 ((x8.length : Int))).bind fun a320 =>
(p_zl6_reads k a320).bind fun r322 =>
some (!r322))).bind fun b327 =>
bif b327 then (
kE1 false)
else (
p_zl6_RtcpNumbers_l4 k kE0 kE1 x1 x8 (IntKind.wrap .i64 (x10 + 1)))) else ((p_zl6_reads k a289).bind fun r303 =>
(bif !r303 then (some true) else ((sub x8 x10 ((x8.length : Int))).bind fun a308 =>
(p_zl6_reads k a308).bind fun r310 =>
some (!r310))).bind fun b315 =>
bif b315 then (
kE1 false)
else (
p_zl6_RtcpNumbers_l4 k kE0 kE1 x1 x8 (IntKind.wrap .i64 (x10 + 1)))))
else (
kE0 x1)
def p_zl6_RtcpNumbers_l0 {β : Type} (k : Nat) (kE0 : Unit→Option β) (kE1 : Bool→Option β) (x1 : Int) : Option β:=match k with
| 0 => none
| k + 1 =>
bif decide (x1 < 60) then (
(p_zl6_tape k x1).bind fun r4 =>
(p_zk_Tape_Report k (⟨r4,0⟩ : TzTape)).bind fun r15 =>
(p_zk_Tape_Report k r15.2).bind fun r33 =>
(p_zl6_same k ([r15.1,r33.1])).bind fun r66 =>
(bif !r66 then (some true) else ((p_zl6_same k ([r15.1])).bind fun r72 =>
some (!r72))).bind fun b77 =>
bif b77 then (
kE1 false)
else (
p_zl6_RtcpNumbers_l1 k (fun r230_1 yg93 yg103 =>
(p_zr6_Bytes k ([yg93,yg103])).bind fun r254 =>
p_zl6_RtcpNumbers_l4 k (fun r336_1 =>
p_zl6_RtcpNumbers_l0 k kE0 kE1 (IntKind.wrap .i64 (r336_1 + 1))) (fun r339_0 =>
kE1 r339_0) r230_1 r254.1 0) (fun r342_0 =>
kE1 r342_0) x1 0 r15.1 r33.1))
else (
kE0 ())
def p_zl6_RtcpNumbers_l6 {β : Type} (k : Nat) (kE0 : Int→Int→Option β) (kE1 : Bool→Option β) (x12 : Int) (x13 : Int) (x14 : Int) : Option β:=match k with
| 0 => none
| k + 1 =>
bif decide (x14 < 6) then (
(zB (IntKind.wrap .i64 (4 * x14))).bind fun a364 =>
(ap 1 ([(IntKind.wrap .u8 (intBits .or .i64 128 x13)),(IntKind.wrap .u8 x12),0,(IntKind.wrap .u8 x14)]) a364).bind fun a366 =>
(p_zl6_reads k a366).bind fun r377 =>
bif !r377 then (
kE1 false)
else (
p_zl6_RtcpNumbers_l6 k kE0 kE1 x12 x13 (IntKind.wrap .i64 (x14 + 1))))
else (
kE0 x12 x13)
def p_zl6_RtcpNumbers_l5 {β : Type} (k : Nat) (kE0 : Int→Option β) (kE1 : Bool→Option β) (x12 : Int) (x13 : Int) : Option β:=match k with
| 0 => none
| k + 1 =>
bif decide (x13 < 32) then (
p_zl6_RtcpNumbers_l6 k (fun r387_12 r387_13 =>
p_zl6_RtcpNumbers_l5 k kE0 kE1 r387_12 (IntKind.wrap .i64 (r387_13 + 1))) (fun r390_0 =>
kE1 r390_0) x12 x13 0)
else (
kE0 x12)
def p_zl6_RtcpNumbers_l2 {β : Type} (k : Nat) (kE0 : Unit→Option β) (kE1 : Bool→Option β) (x12 : Int) : Option β:=match k with
| 0 => none
| k + 1 =>
bif decide (x12 < 226) then (
p_zl6_RtcpNumbers_l5 k (fun r397_12 =>
p_zl6_RtcpNumbers_l2 k kE0 kE1 (IntKind.wrap .i64 (r397_12 + 1))) (fun r400_0 =>
kE1 r400_0) x12 0)
else (
kE0 ())
def p_zl6_RtcpNumbers (k : Nat)  : Option (Bool) :=
p_zl6_RtcpNumbers_l0 k (fun (_ : Unit) =>
p_zl6_RtcpNumbers_l2 k (fun (_ : Unit) =>
(mk 1 0 1504).bind fun a410 =>
(p_zl6_reads k a410).bind fun r422 =>
(bif r422 then ((p_zl6_same k (([] : List TaiReport))).bind fun r427 =>
some r427) else (some false)).bind fun b432 =>
(bif b432 then ((p_zl6_known k).bind fun r436 =>
some r436) else (some false)).bind fun b441 =>
some (b441)) (fun r445_0 =>
some (r445_0)) 190) (fun r448_0 =>
some (r448_0)) 0
theorem zl6_RtcpNumbers_l3_ok {h : H}  {β α : Type} {Q : β→α→Prop} {K : Exit × Env × H→Option α} {kE0 : Int→Int→TaiReport→TaiReport→Option β} {kE1 : Bool→Option β} (hE0 : ∀ (q1 : Int) (q5 : Int) (yg119 : TaiReport) (yg129 : TaiReport) (v158 : V) (h159 : SlF dTaiTuple yg119.Tuples v158) (v160 : V) (h161 : SlF (dI .u32) yg119.Abouts v160) (v162 : V) (h163 : SlF (dI .i64) yg119.Numbers v162) (v164 : V) (h165 : SlF (dI .u8) yg119.Body v164) (s166 : Stamp) (v168 : V) (h169 : SlF dTaiTuple yg129.Tuples v168) (v170 : V) (h171 : SlF (dI .u32) yg129.Abouts v170) (v172 : V) (h173 : SlF (dI .i64) yg129.Numbers v172) (v174 : V) (h175 : SlF (dI .u8) yg129.Body v174) (s176 : Stamp) (H156 : Go.Ev.H) (_ : Fm 138 h [] [(3,s166,List.map C.v [(.p (.int .i64 yg119.Kind)),(.p (.int .u32 yg119.From)),(.p (.int .u32 yg119.About)),v158,v160,v162,(.p (.int .u64 yg119.Rate)),(.p (.int .i64 yg119.f_Type)),(.p (.int .i64 yg119.Count)),v164]),(4,s176,List.map C.v [(.p (.int .i64 yg129.Kind)),(.p (.int .u32 yg129.From)),(.p (.int .u32 yg129.About)),v168,v170,v172,(.p (.int .u64 yg129.Rate)),(.p (.int .i64 yg129.f_Type)),(.p (.int .i64 yg129.Count)),v174])] [] H156),Sim (kE0 q1 q5 yg119 yg129) (K ((.exit 4),(envL [(1,(.p (.int .i64 q1))),(3,(.ref ⟨h.length,3,0,s166,[]⟩ 0)),(4,(.ref ⟨h.length,4,0,s176,[]⟩ 0)),(5,(.p (.int .i64 q5)))]),H156)) Q) (hE1 : ∀ (q0 : Bool) (H178 : Go.Ev.H) (_ : Fm 138 h [] [] [] H178),Sim (kE1 q0) (K (.ret,(envL [(0,(.p (.bool q0)))]),H178)) Q) (k : Nat) : ∀ (x1 : Int) (x5 : Int) (x42 : (List Int)) (x43 : Int) (x44 : Int) (yg93 : TaiReport) (yg103 : TaiReport) (v108 : V) (h109 : SlF (dI .i64) x42 v108) (v110 : V) (h111 : SlF dTaiTuple yg93.Tuples v110) (v112 : V) (h113 : SlF (dI .u32) yg93.Abouts v112) (v114 : V) (h115 : SlF (dI .i64) yg93.Numbers v114) (v116 : V) (h117 : SlF (dI .u8) yg93.Body v116) (s118 : Stamp) (v120 : V) (h121 : SlF dTaiTuple yg103.Tuples v120) (v122 : V) (h123 : SlF (dI .u32) yg103.Abouts v122) (v124 : V) (h125 : SlF (dI .i64) yg103.Numbers v124) (v126 : V) (h127 : SlF (dI .u8) yg103.Body v126) (s128 : Stamp) (H106 : Go.Ev.H) (_ : Fm 138 h [] [(3,s118,List.map C.v [(.p (.int .i64 yg93.Kind)),(.p (.int .u32 yg93.From)),(.p (.int .u32 yg93.About)),v110,v112,v114,(.p (.int .u64 yg93.Rate)),(.p (.int .i64 yg93.f_Type)),(.p (.int .i64 yg93.Count)),v116]),(4,s128,List.map C.v [(.p (.int .i64 yg103.Kind)),(.p (.int .u32 yg103.From)),(.p (.int .u32 yg103.About)),v120,v122,v124,(.p (.int .u64 yg103.Rate)),(.p (.int .i64 yg103.f_Type)),(.p (.int .i64 yg103.Count)),v126])] [] H106) {σ : Stamp},Sim (p_zl6_RtcpNumbers_l3 k kE0 kE1 x1 x5 x42 x43 x44 yg93 yg103) ((cvL G X0 zl6_RtcpNumbers_c3 zl6_RtcpNumbers_l3 σ (envL [(1,(.p (.int .i64 x1))),(3,(.ref ⟨h.length,3,0,s118,[]⟩ 0)),(4,(.ref ⟨h.length,4,0,s128,[]⟩ 0)),(5,(.p (.int .i64 x5))),(42,v108),(43,(.p (.int .i64 x43))),(44,(.p (.int .i64 x44)))]) H106).bind K) Q:=by
  induction k with
  | zero => intros; exact Sim.no
  | succ k ih =>
    intro x1 x5 x42 x43 x44 yg93 yg103 v108 h109 v110 h111 v112 h113 v114 h115 v116 h117 s118 v120 h121 v122 h123 v124 h125 v126 h127 s128 H106 S107 σ
    rw [p_zl6_RtcpNumbers_l3]
    refine Sim.round (Sim.ext (zl6_RtcpNumbers_r3 _ _ _ _ _ _ _ _ _ _ _) ?_)
    refine Sim.cq ?_ ?_
    · refine Sim.bd fun a131 h132 => ?_
      refine Sim.op ((h109.h H106).iS h132 rfl) ?_
      obtain ⟨_,rfl,hE133⟩:=(h109.h H106).el h132 rfl
      refine Sim.op (hE133.ld (j:=0) rfl) ?_
      refine Sim.ci ?_
      refine Sim.op ((S107.atG (i:=0) rfl).ldVs (j:=0) (xs:=[.p (.int .i64 yg93.Kind),.p (.int .u32 yg93.From),.p (.int .u32 yg93.About),v110,v112,v114,.p (.int .u64 yg93.Rate),.p (.int .i64 yg93.f_Type),.p (.int .i64 yg93.Count),v116]) rfl rfl (by decide)) ?_
      refine Sim.call (zl6_odd_ok yg93 (show dTaiReport.R yg93 [.p (.int .i64 yg93.Kind),.p (.int .u32 yg93.From),.p (.int .u32 yg93.About),v110,v112,v114,.p (.int .u64 yg93.Rate),.p (.int .i64 yg93.f_Type),.p (.int .i64 yg93.Count),v116] from (dTaiReport.mk h111 h113 h115 h117)) x5 a131) fun r134 cs135 H136 h137 q138 => ?_
      obtain ⟨w139,h140,q138⟩:=q138
      cases q138
      obtain ⟨v141,v143,v145,v147,rfl,h142,h144,h146,h148⟩:=dTaiReport.inv h140
      have h149 : SlF dTaiReport [r134] (.fz [(.p (.int .i64 r134.Kind)),(.p (.int .u32 r134.From)),(.p (.int .u32 r134.About)),v141,v143,v145,(.p (.int .u64 r134.Rate)),(.p (.int .i64 r134.f_Type)),(.p (.int .i64 r134.Count)),v147] 1 10 true):=SlF.lit (cs:=[(.p (.int .i64 r134.Kind)),(.p (.int .u32 r134.From)),(.p (.int .u32 r134.About)),v141,v143,v145,(.p (.int .u64 r134.Rate)),(.p (.int .i64 r134.f_Type)),(.p (.int .i64 r134.Count)),v147]) (RL.cons h140 RL.nil) rfl rfl true
      refine Sim.op (bldS (pC (c:=[(.p (.int .i64 r134.Kind)),(.p (.int .u32 r134.From)),(.p (.int .u32 r134.About)),v141,v143,v145,(.p (.int .u64 r134.Rate)),(.p (.int .i64 r134.f_Type)),(.p (.int .i64 r134.Count)),v147]) rfl pN) (by kernel_rfl : _ = some (vOf h149))) ?_
      erw [callFO_eq (frzAs_cons (frzA_F h149) frzAs_nil)]
      refine Sim.call (zl6_same_ok k ([r134]) h149) fun r150 cs151 H152 h153 q154 => ?_
      cases q154
      refine Sim.ab ?_
      refine Sim.cq ?_ ?_
      · exact hE1 false H106 (S107.wk2 aN aN)
      exact ih x1 x5 x42 x43 (IntKind.wrap .i64 (x44 + 1)) yg93 yg103 v108 h109 v110 h111 v112 h113 v114 h115 v116 h117 s118 v120 h121 v122 h123 v124 h125 v126 h127 s128 H106 (S107.wk2 (aC (aM 0 rfl) (aC (aM 1 rfl) aN)) aN)
    exact hE0 x1 x5 yg93 yg103 v110 h111 v112 h113 v114 h115 v116 h117 s118 v120 h121 v122 h123 v124 h125 v126 h127 s128 H106 (S107.wk2 (aC (aM 0 rfl) (aC (aM 1 rfl) aN)) aN)
theorem zl6_RtcpNumbers_l1_ok {h : H}  {β α : Type} {Q : β→α→Prop} {K : Exit × Env × H→Option α} {kE0 : Int→TaiReport→TaiReport→Option β} {kE1 : Bool→Option β} (hE0 : ∀ (q1 : Int) (yg93 : TaiReport) (yg103 : TaiReport) (v208 : V) (h209 : SlF dTaiTuple yg93.Tuples v208) (v210 : V) (h211 : SlF (dI .u32) yg93.Abouts v210) (v212 : V) (h213 : SlF (dI .i64) yg93.Numbers v212) (v214 : V) (h215 : SlF (dI .u8) yg93.Body v214) (s216 : Stamp) (v218 : V) (h219 : SlF dTaiTuple yg103.Tuples v218) (v220 : V) (h221 : SlF (dI .u32) yg103.Abouts v220) (v222 : V) (h223 : SlF (dI .i64) yg103.Numbers v222) (v224 : V) (h225 : SlF (dI .u8) yg103.Body v224) (s226 : Stamp) (H206 : Go.Ev.H) (_ : Fm 138 h [] [(3,s216,List.map C.v [(.p (.int .i64 yg93.Kind)),(.p (.int .u32 yg93.From)),(.p (.int .u32 yg93.About)),v208,v210,v212,(.p (.int .u64 yg93.Rate)),(.p (.int .i64 yg93.f_Type)),(.p (.int .i64 yg93.Count)),v214]),(4,s226,List.map C.v [(.p (.int .i64 yg103.Kind)),(.p (.int .u32 yg103.From)),(.p (.int .u32 yg103.About)),v218,v220,v222,(.p (.int .u64 yg103.Rate)),(.p (.int .i64 yg103.f_Type)),(.p (.int .i64 yg103.Count)),v224])] [] H206),Sim (kE0 q1 yg93 yg103) (K ((.exit 2),(envL [(1,(.p (.int .i64 q1))),(3,(.ref ⟨h.length,3,0,s216,[]⟩ 0)),(4,(.ref ⟨h.length,4,0,s226,[]⟩ 0))]),H206)) Q) (hE1 : ∀ (q0 : Bool) (H228 : Go.Ev.H) (_ : Fm 138 h [] [] [] H228),Sim (kE1 q0) (K (.ret,(envL [(0,(.p (.bool q0)))]),H228)) Q) (k : Nat) : ∀ (x1 : Int) (x5 : Int) (yg54 : TaiReport) (yg58 : TaiReport) (v84 : V) (h85 : SlF dTaiTuple yg54.Tuples v84) (v86 : V) (h87 : SlF (dI .u32) yg54.Abouts v86) (v88 : V) (h89 : SlF (dI .i64) yg54.Numbers v88) (v90 : V) (h91 : SlF (dI .u8) yg54.Body v90) (s92 : Stamp) (v94 : V) (h95 : SlF dTaiTuple yg58.Tuples v94) (v96 : V) (h97 : SlF (dI .u32) yg58.Abouts v96) (v98 : V) (h99 : SlF (dI .i64) yg58.Numbers v98) (v100 : V) (h101 : SlF (dI .u8) yg58.Body v100) (s102 : Stamp) (H82 : Go.Ev.H) (_ : Fm 138 h [] [(3,s92,List.map C.v [(.p (.int .i64 yg54.Kind)),(.p (.int .u32 yg54.From)),(.p (.int .u32 yg54.About)),v84,v86,v88,(.p (.int .u64 yg54.Rate)),(.p (.int .i64 yg54.f_Type)),(.p (.int .i64 yg54.Count)),v90]),(4,s102,List.map C.v [(.p (.int .i64 yg58.Kind)),(.p (.int .u32 yg58.From)),(.p (.int .u32 yg58.About)),v94,v96,v98,(.p (.int .u64 yg58.Rate)),(.p (.int .i64 yg58.f_Type)),(.p (.int .i64 yg58.Count)),v100])] [] H82) {σ : Stamp},Sim (p_zl6_RtcpNumbers_l1 k kE0 kE1 x1 x5 yg54 yg58) ((cvL G X0 zl6_RtcpNumbers_c1 zl6_RtcpNumbers_l1 σ (envL [(1,(.p (.int .i64 x1))),(3,(.ref ⟨h.length,3,0,s92,[]⟩ 0)),(4,(.ref ⟨h.length,4,0,s102,[]⟩ 0)),(5,(.p (.int .i64 x5)))]) H82).bind K) Q:=by
  induction k with
  | zero => intros; exact Sim.no
  | succ k ih =>
    intro x1 x5 yg54 yg58 v84 h85 v86 h87 v88 h89 v90 h91 s92 v94 h95 v96 h97 v98 h99 v100 h101 s102 H82 S83 σ
    rw [p_zl6_RtcpNumbers_l1]
    refine Sim.round (Sim.ext (zl6_RtcpNumbers_r1 _ _ _ _ _ _ _ _) ?_)
    refine Sim.cq ?_ ?_
    · have h105 : SlF (dI .i64) [(-1),0,1,3,6,7,31,32,191,192,205,206,223,224,255,256,511,512,131072,131073,1099511627776] (.fz [(.p (.int .i64 (-1))),(.p (.int .i64 0)),(.p (.int .i64 1)),(.p (.int .i64 3)),(.p (.int .i64 6)),(.p (.int .i64 7)),(.p (.int .i64 31)),(.p (.int .i64 32)),(.p (.int .i64 191)),(.p (.int .i64 192)),(.p (.int .i64 205)),(.p (.int .i64 206)),(.p (.int .i64 223)),(.p (.int .i64 224)),(.p (.int .i64 255)),(.p (.int .i64 256)),(.p (.int .i64 511)),(.p (.int .i64 512)),(.p (.int .i64 131072)),(.p (.int .i64 131073)),(.p (.int .i64 1099511627776))] 21 1 true):=SlF.lit (cs:=[(.p (.int .i64 (-1))),(.p (.int .i64 0)),(.p (.int .i64 1)),(.p (.int .i64 3)),(.p (.int .i64 6)),(.p (.int .i64 7)),(.p (.int .i64 31)),(.p (.int .i64 32)),(.p (.int .i64 191)),(.p (.int .i64 192)),(.p (.int .i64 205)),(.p (.int .i64 206)),(.p (.int .i64 223)),(.p (.int .i64 224)),(.p (.int .i64 255)),(.p (.int .i64 256)),(.p (.int .i64 511)),(.p (.int .i64 512)),(.p (.int .i64 131072)),(.p (.int .i64 131073)),(.p (.int .i64 1099511627776))]) (RL.cons (show (dI .i64).R (-1) [(.p (.int .i64 (-1)))] from rfl) (RL.cons (show (dI .i64).R 0 [(.p (.int .i64 0))] from rfl) (RL.cons (show (dI .i64).R 1 [(.p (.int .i64 1))] from rfl) (RL.cons (show (dI .i64).R 3 [(.p (.int .i64 3))] from rfl) (RL.cons (show (dI .i64).R 6 [(.p (.int .i64 6))] from rfl) (RL.cons (show (dI .i64).R 7 [(.p (.int .i64 7))] from rfl) (RL.cons (show (dI .i64).R 31 [(.p (.int .i64 31))] from rfl) (RL.cons (show (dI .i64).R 32 [(.p (.int .i64 32))] from rfl) (RL.cons (show (dI .i64).R 191 [(.p (.int .i64 191))] from rfl) (RL.cons (show (dI .i64).R 192 [(.p (.int .i64 192))] from rfl) (RL.cons (show (dI .i64).R 205 [(.p (.int .i64 205))] from rfl) (RL.cons (show (dI .i64).R 206 [(.p (.int .i64 206))] from rfl) (RL.cons (show (dI .i64).R 223 [(.p (.int .i64 223))] from rfl) (RL.cons (show (dI .i64).R 224 [(.p (.int .i64 224))] from rfl) (RL.cons (show (dI .i64).R 255 [(.p (.int .i64 255))] from rfl) (RL.cons (show (dI .i64).R 256 [(.p (.int .i64 256))] from rfl) (RL.cons (show (dI .i64).R 511 [(.p (.int .i64 511))] from rfl) (RL.cons (show (dI .i64).R 512 [(.p (.int .i64 512))] from rfl) (RL.cons (show (dI .i64).R 131072 [(.p (.int .i64 131072))] from rfl) (RL.cons (show (dI .i64).R 131073 [(.p (.int .i64 131073))] from rfl) (RL.cons (show (dI .i64).R 1099511627776 [(.p (.int .i64 1099511627776))] from rfl) RL.nil))))))))))))))))))))) rfl rfl true
      refine Sim.op (bldS (pC rfl (pC rfl (pC rfl (pC rfl (pC rfl (pC rfl (pC rfl (pC rfl (pC rfl (pC rfl (pC rfl (pC rfl (pC rfl (pC rfl (pC rfl (pC rfl (pC rfl (pC rfl (pC rfl (pC rfl (pC rfl pN))))))))))))))))))))) (by kernel_rfl : _ = some (vOf h105))) ?_
      refine Sim.op ((h105.h H82).len) ?_
      refine Sim.ci ?_
      refine Sim.as (zl6_RtcpNumbers_l3_ok ?_ ?_ k x1 x5 ([(-1),0,1,3,6,7,31,32,191,192,205,206,223,224,255,256,511,512,131072,131073,1099511627776]) ((([(-1),0,1,3,6,7,31,32,191,192,205,206,223,224,255,256,511,512,131072,131073,1099511627776]).length : Int)) 0 yg54 yg58 (.fz [(.p (.int .i64 (-1))),(.p (.int .i64 0)),(.p (.int .i64 1)),(.p (.int .i64 3)),(.p (.int .i64 6)),(.p (.int .i64 7)),(.p (.int .i64 31)),(.p (.int .i64 32)),(.p (.int .i64 191)),(.p (.int .i64 192)),(.p (.int .i64 205)),(.p (.int .i64 206)),(.p (.int .i64 223)),(.p (.int .i64 224)),(.p (.int .i64 255)),(.p (.int .i64 256)),(.p (.int .i64 511)),(.p (.int .i64 512)),(.p (.int .i64 131072)),(.p (.int .i64 131073)),(.p (.int .i64 1099511627776))] 21 1 true) h105 v84 h85 v86 h87 v88 h89 v90 h91 s92 v94 h95 v96 h97 v98 h99 v100 h101 s102 H82 (S83.wk2 (aC (aM 0 rfl) (aC (aM 1 rfl) aN)) aN))
      · intro r180_1 r180_5 yg119 yg129 v183 h184 v185 h186 v187 h188 v189 h190 s191 v193 h194 v195 h196 v197 h198 v199 h200 s201 H181 S182
        refine Sim.ext (zl6_RtcpNumbers_a3_4 _ _ _ _ _ _ _ _) ?_
        exact ih r180_1 (IntKind.wrap .i64 (r180_5 + 1)) yg119 yg129 v183 h184 v185 h186 v187 h188 v189 h190 s191 v193 h194 v195 h196 v197 h198 v199 h200 s201 H181 (S182.wk2 (aC (aM 0 rfl) (aC (aM 1 rfl) aN)) aN)
      · intro r203_0 H204 S205
        refine Sim.ext (zl6_RtcpNumbers_a3_ret _ _ _ _ _) ?_
        exact hE1 r203_0 H204 (S205.wk2 aN aN)
    exact hE0 x1 yg54 yg58 v84 h85 v86 h87 v88 h89 v90 h91 s92 v94 h95 v96 h97 v98 h99 v100 h101 s102 H82 (S83.wk2 (aC (aM 0 rfl) (aC (aM 1 rfl) aN)) aN)
theorem zl6_RtcpNumbers_l4_ok {h : H}  {β α : Type} {Q : β→α→Prop} {K : Exit × Env × H→Option α} {kE0 : Int→Option β} {kE1 : Bool→Option β} (hE0 : ∀ (q1 : Int) (H332 : Go.Ev.H) (_ : Fm 138 h [] [] [] H332),Sim (kE0 q1) (K ((.exit 6),(envL [(1,(.p (.int .i64 q1)))]),H332)) Q) (hE1 : ∀ (q0 : Bool) (H334 : Go.Ev.H) (_ : Fm 138 h [] [] [] H334),Sim (kE1 q0) (K (.ret,(envL [(0,(.p (.bool q0)))]),H334)) Q) (k : Nat) : ∀ (x1 : Int) (x8 : (List Int)) (x10 : Int) (v263 : V) (h264 : SlF (dI .u8) x8 v263) (H261 : Go.Ev.H) (_ : Fm 138 h [] [] [] H261) {σ : Stamp},Sim (p_zl6_RtcpNumbers_l4 k kE0 kE1 x1 x8 x10) ((cvL G X0 zl6_RtcpNumbers_c4 zl6_RtcpNumbers_l4 σ (envL [(1,(.p (.int .i64 x1))),(8,v263),(10,(.p (.int .i64 x10)))]) H261).bind K) Q:=by
  induction k with
  | zero => intros; exact Sim.no
  | succ k ih =>
    intro x1 x8 x10 v263 h264 H261 S262 σ
    rw [p_zl6_RtcpNumbers_l4]
    refine Sim.round (Sim.ext (zl6_RtcpNumbers_r4 _ _ _ _ _ _ _) ?_)
    refine Sim.op ((h264.h H261).len) ?_
    refine Sim.ci ?_
    refine Sim.ch (P:=fun r y => r = y) ?_ (fun b265 y266 h267 h268 => ?_)
    · refine Sim.cq ?_ ?_
      · exact Sim.ret rfl rfl
      · exact Sim.ret rfl rfl
    subst h268
    refine Sim.cq ?_ ?_
    · have h270 : SlF (dI .u8) ([] : List Int) (.fz [] 0 1 true):=SlF.lit (cs:=[]) RL.nil rfl rfl true
      refine Sim.op (bldS pN (by kernel_rfl : _ = some (vOf h270))) ?_
      have S272:=S262.nil' (dI .u8) [] (e:=1) rfl
      refine Sim.bd fun a273 h274 => ?_
      obtain ⟨v275,H276,e277,S278⟩:=S272.app (i:=0) (d:=75) (e:=1) (own:=true) (σ:=(2::0::0::1::0::σ)) rfl (h264.h H261).y h274 rfl (by decide) (by decide) rfl
      refine Sim.op (e277) ?_
      refine Sim.bd fun a279 h280 => ?_
      refine Sim.op ((S278.sl (i:=0) rfl).iS h280 rfl) ?_
      obtain ⟨_,rfl,hE281⟩:=(S278.sl (i:=0) rfl).el h280 rfl
      refine Sim.op (hE281.ld (j:=0) rfl) ?_
      refine Sim.ci ?_
      refine Sim.bd fun n282 h283 => ?_
      refine Sim.op (shP_ok h283) ?_
      refine Sim.ci ?_
      refine Sim.bd fun a284 h285 => ?_
      refine Sim.op ((S278.sl (i:=0) rfl).iS h285 rfl) ?_
      refine Sim.bd fun a289 h290 => ?_
      obtain ⟨H286,e287,S288⟩:=S278.setD (i:=0) (e:=1) (own:=true) (σ:=(12::0::1::0::1::0::σ)) (xv:=(.p (.int .u8 (intBits .xor .u8 a279 n282)))) rfl h290 rfl rfl rfl rfl
      refine Sim.op (sM e287) ?_
      refine Sim.bd fun a291 h292 => ?_
      refine Sim.op ((h264.h H286).slS h292 rfl rfl rfl) ?_
      erw [callFO_eq (frzAs_cons (frzA_F (h264.sub h292 (e:=1) rfl)) frzAs_nil)]
      refine Sim.call (zl6_reads_ok k a291 (h264.sub h292 (e:=1) rfl)) fun r293 cs294 H295 h296 q297 => ?_
      cases q297
      refine Sim.ab ?_
      refine Sim.cqk ?_ ?_
      · refine Sim.as ?_
        refine Sim.pure ?_
        refine Sim.ab ?_
        refine Sim.ch (P:=fun r y => (.p (.bool r),H286) = y) ?_ (fun b327 y328 h329 h330 => ?_)
        · refine Sim.cq ?_ ?_
          · exact Sim.ret rfl rfl
          · refine Sim.bd fun a320 h321 => ?_
            refine Sim.op ((h264.h H286).slS h321 rfl rfl rfl) ?_
            erw [callFO_eq (frzAs_cons (frzA_F (h264.sub h321 (e:=1) rfl)) frzAs_nil)]
            refine Sim.call (zl6_reads_ok k a320 (h264.sub h321 (e:=1) rfl)) fun r322 cs323 H324 h325 q326 => ?_
            cases q326
            refine Sim.ab ?_
            exact Sim.ret rfl rfl
        subst h330
        refine Sim.ab ?_
        refine Sim.cq ?_ ?_
        · exact hE1 false H286 (S288.wk2 aN aN)
        exact ih x1 x8 (IntKind.wrap .i64 (x10 + 1)) v263 h264 H286 (S288.wk2 aN aN)
      · refine Sim.as ?_
        obtain ⟨v298,H299,e300,h301,S302⟩:=S288.layF (i:=0) rfl rfl
        erw [callFO_eq (frzAs_cons e300 frzAs_nil)]
        refine Sim.call (zl6_reads_ok k a289 h301) fun r303 cs304 H305 h306 q307 => ?_
        cases q307
        refine Sim.ab ?_
        refine Sim.pure ?_
        refine Sim.ab ?_
        refine Sim.ch (P:=fun r y => (.p (.bool r),H299) = y) ?_ (fun b315 y316 h317 h318 => ?_)
        · refine Sim.cq ?_ ?_
          · exact Sim.ret rfl rfl
          · refine Sim.bd fun a308 h309 => ?_
            refine Sim.op ((h264.h H299).slS h309 rfl rfl rfl) ?_
            erw [callFO_eq (frzAs_cons (frzA_F (h264.sub h309 (e:=1) rfl)) frzAs_nil)]
            refine Sim.call (zl6_reads_ok k a308 (h264.sub h309 (e:=1) rfl)) fun r310 cs311 H312 h313 q314 => ?_
            cases q314
            refine Sim.ab ?_
            exact Sim.ret rfl rfl
        subst h318
        refine Sim.ab ?_
        refine Sim.cq ?_ ?_
        · exact hE1 false H299 (S302.wk2 aN aN)
        exact ih x1 x8 (IntKind.wrap .i64 (x10 + 1)) v263 h264 H299 (S302.wk2 aN aN)
    exact hE0 x1 H261 (S262.wk2 aN aN)
theorem zl6_RtcpNumbers_l0_ok {h : H}  {β α : Type} {Q : β→α→Prop} {K : Exit × Env × H→Option α} {kE0 : Unit→Option β} {kE1 : Bool→Option β} (hE0 : ∀ (_u : Unit) (H345 : Go.Ev.H) (_ : Fm 138 h [] [] [] H345),Sim (kE0 ()) (K ((.exit 0),(envL []),H345)) Q) (hE1 : ∀ (q0 : Bool) (H347 : Go.Ev.H) (_ : Fm 138 h [] [] [] H347),Sim (kE1 q0) (K (.ret,(envL [(0,(.p (.bool q0)))]),H347)) Q) (k : Nat) : ∀ (x1 : Int) (H1 : Go.Ev.H) (_ : Fm 138 h [] [] [] H1) {σ : Stamp},Sim (p_zl6_RtcpNumbers_l0 k kE0 kE1 x1) ((cvL G X0 zl6_RtcpNumbers_c0 zl6_RtcpNumbers_l0 σ (envL [(1,(.p (.int .i64 x1)))]) H1).bind K) Q:=by
  induction k with
  | zero => intros; exact Sim.no
  | succ k ih =>
    intro x1 H1 S2 σ
    rw [p_zl6_RtcpNumbers_l0]
    refine Sim.round (Sim.ext (zl6_RtcpNumbers_r0 _ _ _ _ _) ?_)
    refine Sim.cq ?_ ?_
    · refine Sim.call (zl6_tape_ok k x1) fun r4 cs5 H6 h7 q8 => ?_
      obtain ⟨v9,h10,q8⟩:=q8
      cases q8
      refine Sim.op (bldV (pC h10.still.cells pN) (by kernel_rfl : _ = some (.agg [v9,.p (.int .i64 0)]))) ?_
      obtain ⟨H11,e12,S13⟩:=S2.box (own:=false) (d:=22) (s:=(3::0::0::1::0::σ)) (xs:=[v9,.p (.int .i64 0)]) (sC h10.still (sC (sI _ _) sN)) (by decide) rfl
      refine Sim.op (e12) ?_
      refine Sim.call (zk_Tape_Report_ok k (⟨r4,0⟩ : TzTape) h10 (S13.atG (i:=0) rfl)) fun r15 cs16 H17 h18 q19 => ?_
      obtain ⟨w20,v22,h21,h23,q19⟩:=q19
      cases q19
      obtain ⟨v25,v27,v29,v31,rfl,h26,h28,h30,h32⟩:=dTaiReport.inv h21
      have S24:=S13.setG (i:=0) (cs':=List.map C.v [v22,(.p (.int .i64 r15.2.f_At))]) rfl rfl rfl
      refine Sim.call (zk_Tape_Report_ok k r15.2 h23 (S24.atG (i:=0) rfl)) fun r33 cs34 H35 h36 q37 => ?_
      obtain ⟨w38,v40,h39,h41,q37⟩:=q37
      cases q37
      obtain ⟨v43,v45,v47,v49,rfl,h44,h46,h48,h50⟩:=dTaiReport.inv h39
      have S42:=S24.setG (i:=0) (cs':=List.map C.v [v40,(.p (.int .i64 r33.2.f_At))]) rfl rfl rfl
      obtain ⟨H51,e52,S53⟩:=S42.al (d:=3) (s:=(4::0::1::0::1::0::σ)) (z:=[(.p (.int .i64 0)),(.p (.int .u32 0)),(.p (.int .u32 0)),(.p (.slice none 0 0)),(.p (.slice none 0 0)),(.p (.slice none 0 0)),(.p (.int .u64 0)),(.p (.int .i64 0)),(.p (.int .i64 0)),(.p (.slice none 0 0))]) (by decide) rfl
      refine Sim.op (congrArg some e52) ?_
      obtain ⟨H55,e56,S57⟩:=S53.al (d:=4) (s:=(5::0::1::0::1::0::σ)) (z:=[(.p (.int .i64 0)),(.p (.int .u32 0)),(.p (.int .u32 0)),(.p (.slice none 0 0)),(.p (.slice none 0 0)),(.p (.slice none 0 0)),(.p (.int .u64 0)),(.p (.int .i64 0)),(.p (.int .i64 0)),(.p (.slice none 0 0))]) (by decide) rfl
      refine Sim.op (congrArg some e56) ?_
      obtain ⟨H59,e60,S61⟩:=S57.stGv (i:=1) (j:=0) (own:=false) (σ:=(6::0::1::0::1::0::σ)) (xs:=[(.p (.int .i64 r15.1.Kind)),(.p (.int .u32 r15.1.From)),(.p (.int .u32 r15.1.About)),v25,v27,v29,(.p (.int .u64 r15.1.Rate)),(.p (.int .i64 r15.1.f_Type)),(.p (.int .i64 r15.1.Count)),v31]) rfl rfl (sC (sI _ _) (sC (sI _ _) (sC (sI _ _) (sC h26.still (sC h28.still (sC h30.still (sC (sI _ _) (sC (sI _ _) (sC (sI _ _) (sC h32.still sN)))))))))) rfl rfl
      refine Sim.op (sM e60) ?_
      obtain ⟨H62,e63,S64⟩:=S61.stGv (i:=0) (j:=0) (own:=false) (σ:=(7::0::1::0::1::0::σ)) (xs:=[(.p (.int .i64 r33.1.Kind)),(.p (.int .u32 r33.1.From)),(.p (.int .u32 r33.1.About)),v43,v45,v47,(.p (.int .u64 r33.1.Rate)),(.p (.int .i64 r33.1.f_Type)),(.p (.int .i64 r33.1.Count)),v49]) rfl rfl (sC (sI _ _) (sC (sI _ _) (sC (sI _ _) (sC h44.still (sC h46.still (sC h48.still (sC (sI _ _) (sC (sI _ _) (sC (sI _ _) (sC h50.still sN)))))))))) rfl rfl
      refine Sim.op (sM e63) ?_
      refine Sim.op ((S64.atG (i:=1) rfl).ldVs (j:=0) (xs:=[(.p (.int .i64 r15.1.Kind)),(.p (.int .u32 r15.1.From)),(.p (.int .u32 r15.1.About)),v25,v27,v29,(.p (.int .u64 r15.1.Rate)),(.p (.int .i64 r15.1.f_Type)),(.p (.int .i64 r15.1.Count)),v31]) rfl rfl (by decide)) ?_
      refine Sim.op ((S64.atG (i:=0) rfl).ldVs (j:=0) (xs:=[(.p (.int .i64 r33.1.Kind)),(.p (.int .u32 r33.1.From)),(.p (.int .u32 r33.1.About)),v43,v45,v47,(.p (.int .u64 r33.1.Rate)),(.p (.int .i64 r33.1.f_Type)),(.p (.int .i64 r33.1.Count)),v49]) rfl rfl (by decide)) ?_
      have h65 : SlF dTaiReport [r15.1,r33.1] (.fz [(.p (.int .i64 r15.1.Kind)),(.p (.int .u32 r15.1.From)),(.p (.int .u32 r15.1.About)),v25,v27,v29,(.p (.int .u64 r15.1.Rate)),(.p (.int .i64 r15.1.f_Type)),(.p (.int .i64 r15.1.Count)),v31,(.p (.int .i64 r33.1.Kind)),(.p (.int .u32 r33.1.From)),(.p (.int .u32 r33.1.About)),v43,v45,v47,(.p (.int .u64 r33.1.Rate)),(.p (.int .i64 r33.1.f_Type)),(.p (.int .i64 r33.1.Count)),v49] 2 10 true):=SlF.lit (cs:=[(.p (.int .i64 r15.1.Kind)),(.p (.int .u32 r15.1.From)),(.p (.int .u32 r15.1.About)),v25,v27,v29,(.p (.int .u64 r15.1.Rate)),(.p (.int .i64 r15.1.f_Type)),(.p (.int .i64 r15.1.Count)),v31,(.p (.int .i64 r33.1.Kind)),(.p (.int .u32 r33.1.From)),(.p (.int .u32 r33.1.About)),v43,v45,v47,(.p (.int .u64 r33.1.Rate)),(.p (.int .i64 r33.1.f_Type)),(.p (.int .i64 r33.1.Count)),v49]) (RL.cons h21 (RL.cons h39 RL.nil)) rfl rfl true
      refine Sim.op (bldS (pC (c:=[(.p (.int .i64 r15.1.Kind)),(.p (.int .u32 r15.1.From)),(.p (.int .u32 r15.1.About)),v25,v27,v29,(.p (.int .u64 r15.1.Rate)),(.p (.int .i64 r15.1.f_Type)),(.p (.int .i64 r15.1.Count)),v31]) rfl (pC (c:=[(.p (.int .i64 r33.1.Kind)),(.p (.int .u32 r33.1.From)),(.p (.int .u32 r33.1.About)),v43,v45,v47,(.p (.int .u64 r33.1.Rate)),(.p (.int .i64 r33.1.f_Type)),(.p (.int .i64 r33.1.Count)),v49]) rfl pN)) (by kernel_rfl : _ = some (vOf h65))) ?_
      erw [callFO_eq (frzAs_cons (frzA_F h65) frzAs_nil)]
      refine Sim.call (zl6_same_ok k ([r15.1,r33.1]) h65) fun r66 cs67 H68 h69 q70 => ?_
      cases q70
      refine Sim.ab ?_
      refine Sim.ch (P:=fun r y => (.p (.bool r),H62) = y) ?_ (fun b77 y78 h79 h80 => ?_)
      · refine Sim.cq ?_ ?_
        · exact Sim.ret rfl rfl
        · refine Sim.op ((S64.atG (i:=1) rfl).ldVs (j:=0) (xs:=[(.p (.int .i64 r15.1.Kind)),(.p (.int .u32 r15.1.From)),(.p (.int .u32 r15.1.About)),v25,v27,v29,(.p (.int .u64 r15.1.Rate)),(.p (.int .i64 r15.1.f_Type)),(.p (.int .i64 r15.1.Count)),v31]) rfl rfl (by decide)) ?_
          have h71 : SlF dTaiReport [r15.1] (.fz [(.p (.int .i64 r15.1.Kind)),(.p (.int .u32 r15.1.From)),(.p (.int .u32 r15.1.About)),v25,v27,v29,(.p (.int .u64 r15.1.Rate)),(.p (.int .i64 r15.1.f_Type)),(.p (.int .i64 r15.1.Count)),v31] 1 10 true):=SlF.lit (cs:=[(.p (.int .i64 r15.1.Kind)),(.p (.int .u32 r15.1.From)),(.p (.int .u32 r15.1.About)),v25,v27,v29,(.p (.int .u64 r15.1.Rate)),(.p (.int .i64 r15.1.f_Type)),(.p (.int .i64 r15.1.Count)),v31]) (RL.cons h21 RL.nil) rfl rfl true
          refine Sim.op (bldS (pC (c:=[(.p (.int .i64 r15.1.Kind)),(.p (.int .u32 r15.1.From)),(.p (.int .u32 r15.1.About)),v25,v27,v29,(.p (.int .u64 r15.1.Rate)),(.p (.int .i64 r15.1.f_Type)),(.p (.int .i64 r15.1.Count)),v31]) rfl pN) (by kernel_rfl : _ = some (vOf h71))) ?_
          erw [callFO_eq (frzAs_cons (frzA_F h71) frzAs_nil)]
          refine Sim.call (zl6_same_ok k ([r15.1]) h71) fun r72 cs73 H74 h75 q76 => ?_
          cases q76
          refine Sim.ab ?_
          exact Sim.ret rfl rfl
      subst h80
      refine Sim.ab ?_
      refine Sim.cq ?_ ?_
      · exact hE1 false H62 (S64.wk2 aN aN)
      refine Sim.as (zl6_RtcpNumbers_l1_ok ?_ ?_ k x1 0 r15.1 r33.1 v25 h26 v27 h28 v29 h30 v31 h32 (4::0::1::0::1::0::σ) v43 h44 v45 h46 v47 h48 v49 h50 (5::0::1::0::1::0::σ) H62 (S64.wk2 (aC (aM 1 rfl) (aC (aM 0 rfl) aN)) aN))
      · intro r230_1 yg93 yg103 v233 h234 v235 h236 v237 h238 v239 h240 s241 v243 h244 v245 h246 v247 h248 v249 h250 s251 H231 S232
        refine Sim.ext (zl6_RtcpNumbers_a1_2 _ _ _ _ _ _ _) ?_
        refine Sim.op ((S232.atG (i:=0) rfl).ldVs (j:=0) (xs:=[.p (.int .i64 yg93.Kind),.p (.int .u32 yg93.From),.p (.int .u32 yg93.About),v233,v235,v237,.p (.int .u64 yg93.Rate),.p (.int .i64 yg93.f_Type),.p (.int .i64 yg93.Count),v239]) rfl rfl (by decide)) ?_
        refine Sim.op ((S232.atG (i:=1) rfl).ldVs (j:=0) (xs:=[.p (.int .i64 yg103.Kind),.p (.int .u32 yg103.From),.p (.int .u32 yg103.About),v243,v245,v247,.p (.int .u64 yg103.Rate),.p (.int .i64 yg103.f_Type),.p (.int .i64 yg103.Count),v249]) rfl rfl (by decide)) ?_
        have h253 : SlF dTaiReport [yg93,yg103] (.fz [(.p (.int .i64 yg93.Kind)),(.p (.int .u32 yg93.From)),(.p (.int .u32 yg93.About)),v233,v235,v237,(.p (.int .u64 yg93.Rate)),(.p (.int .i64 yg93.f_Type)),(.p (.int .i64 yg93.Count)),v239,(.p (.int .i64 yg103.Kind)),(.p (.int .u32 yg103.From)),(.p (.int .u32 yg103.About)),v243,v245,v247,(.p (.int .u64 yg103.Rate)),(.p (.int .i64 yg103.f_Type)),(.p (.int .i64 yg103.Count)),v249] 2 10 true):=SlF.lit (cs:=[(.p (.int .i64 yg93.Kind)),(.p (.int .u32 yg93.From)),(.p (.int .u32 yg93.About)),v233,v235,v237,(.p (.int .u64 yg93.Rate)),(.p (.int .i64 yg93.f_Type)),(.p (.int .i64 yg93.Count)),v239,(.p (.int .i64 yg103.Kind)),(.p (.int .u32 yg103.From)),(.p (.int .u32 yg103.About)),v243,v245,v247,(.p (.int .u64 yg103.Rate)),(.p (.int .i64 yg103.f_Type)),(.p (.int .i64 yg103.Count)),v249]) (RL.cons (show dTaiReport.R yg93 [.p (.int .i64 yg93.Kind),.p (.int .u32 yg93.From),.p (.int .u32 yg93.About),v233,v235,v237,.p (.int .u64 yg93.Rate),.p (.int .i64 yg93.f_Type),.p (.int .i64 yg93.Count),v239] from (dTaiReport.mk h234 h236 h238 h240)) (RL.cons (show dTaiReport.R yg103 [.p (.int .i64 yg103.Kind),.p (.int .u32 yg103.From),.p (.int .u32 yg103.About),v243,v245,v247,.p (.int .u64 yg103.Rate),.p (.int .i64 yg103.f_Type),.p (.int .i64 yg103.Count),v249] from (dTaiReport.mk h244 h246 h248 h250)) RL.nil)) rfl rfl true
        refine Sim.op (bldS (pC (c:=[.p (.int .i64 yg93.Kind),.p (.int .u32 yg93.From),.p (.int .u32 yg93.About),v233,v235,v237,.p (.int .u64 yg93.Rate),.p (.int .i64 yg93.f_Type),.p (.int .i64 yg93.Count),v239]) rfl (pC (c:=[.p (.int .i64 yg103.Kind),.p (.int .u32 yg103.From),.p (.int .u32 yg103.About),v243,v245,v247,.p (.int .u64 yg103.Rate),.p (.int .i64 yg103.f_Type),.p (.int .i64 yg103.Count),v249]) rfl pN)) (by kernel_rfl : _ = some (vOf h253))) ?_
        refine Sim.call (zr6_Bytes_ok k ([yg93,yg103]) (h253.h H231)) fun r254 cs255 H256 h257 q258 => ?_
        obtain ⟨v259,h260,q258⟩:=q258
        cases q258
        refine Sim.or ?_
        refine Sim.or ?_
        refine Sim.ci ?_
        refine Sim.as (zl6_RtcpNumbers_l4_ok ?_ ?_ k r230_1 r254.1 0 v259 h260 H231 (S232.wk2 aN aN))
        · intro r336_1 H337 S338
          refine Sim.ext (zl6_RtcpNumbers_a4_6 _ _ _ _ _) ?_
          exact ih (IntKind.wrap .i64 (r336_1 + 1)) H337 (S338.wk2 aN aN)
        · intro r339_0 H340 S341
          refine Sim.ext (zl6_RtcpNumbers_a4_ret _ _ _ _ _) ?_
          exact hE1 r339_0 H340 (S341.wk2 aN aN)
      · intro r342_0 H343 S344
        refine Sim.ext (zl6_RtcpNumbers_a1_ret _ _ _ _ _) ?_
        exact hE1 r342_0 H343 (S344.wk2 aN aN)
    exact hE0 () H1 (S2.wk2 aN aN)
theorem zl6_RtcpNumbers_l6_ok {h : H}  {β α : Type} {Q : β→α→Prop} {K : Exit × Env × H→Option α} {kE0 : Int→Int→Option β} {kE1 : Bool→Option β} (hE0 : ∀ (q12 : Int) (q13 : Int) (H383 : Go.Ev.H) (_ : Fm 138 h [] [] [] H383),Sim (kE0 q12 q13) (K ((.exit 12),(envL [(12,(.p (.int .i64 q12))),(13,(.p (.int .i64 q13)))]),H383)) Q) (hE1 : ∀ (q0 : Bool) (H385 : Go.Ev.H) (_ : Fm 138 h [] [] [] H385),Sim (kE1 q0) (K (.ret,(envL [(0,(.p (.bool q0)))]),H385)) Q) (k : Nat) : ∀ (x12 : Int) (x13 : Int) (x14 : Int) (H358 : Go.Ev.H) (_ : Fm 138 h [] [] [] H358) {σ : Stamp},Sim (p_zl6_RtcpNumbers_l6 k kE0 kE1 x12 x13 x14) ((cvL G X0 zl6_RtcpNumbers_c6 zl6_RtcpNumbers_l6 σ (envL [(12,(.p (.int .i64 x12))),(13,(.p (.int .i64 x13))),(14,(.p (.int .i64 x14)))]) H358).bind K) Q:=by
  induction k with
  | zero => intros; exact Sim.no
  | succ k ih =>
    intro x12 x13 x14 H358 S359 σ
    rw [p_zl6_RtcpNumbers_l6]
    refine Sim.round (Sim.ext (zl6_RtcpNumbers_r6 _ _ _ _ _ _ _) ?_)
    refine Sim.cq ?_ ?_
    · have h361 : SlF (dI .u8) [(IntKind.wrap .u8 (intBits .or .i64 128 x13)),(IntKind.wrap .u8 x12),0,(IntKind.wrap .u8 x14)] (.fz [(.p (.int .u8 (IntKind.wrap .u8 (intBits .or .i64 128 x13)))),(.p (.int .u8 (IntKind.wrap .u8 x12))),(.p (.int .u8 0)),(.p (.int .u8 (IntKind.wrap .u8 x14)))] 4 1 true):=SlF.lit (cs:=[(.p (.int .u8 (IntKind.wrap .u8 (intBits .or .i64 128 x13)))),(.p (.int .u8 (IntKind.wrap .u8 x12))),(.p (.int .u8 0)),(.p (.int .u8 (IntKind.wrap .u8 x14)))]) (RL.cons (show (dI .u8).R (IntKind.wrap .u8 (intBits .or .i64 128 x13)) [(.p (.int .u8 (IntKind.wrap .u8 (intBits .or .i64 128 x13))))] from rfl) (RL.cons (show (dI .u8).R (IntKind.wrap .u8 x12) [(.p (.int .u8 (IntKind.wrap .u8 x12)))] from rfl) (RL.cons (show (dI .u8).R 0 [(.p (.int .u8 0))] from rfl) (RL.cons (show (dI .u8).R (IntKind.wrap .u8 x14) [(.p (.int .u8 (IntKind.wrap .u8 x14)))] from rfl) RL.nil)))) rfl rfl true
      refine Sim.op (bldS (pC rfl (pC rfl (pC rfl (pC rfl pN)))) (by kernel_rfl : _ = some (vOf h361))) ?_
      have S363:=S359.lit (d:=(dI .u8)) (xs:=[(IntKind.wrap .u8 (intBits .or .i64 128 x13)),(IntKind.wrap .u8 x12),0,(IntKind.wrap .u8 x14)]) (cs:=[(.p (.int .u8 (IntKind.wrap .u8 (intBits .or .i64 128 x13)))),(.p (.int .u8 (IntKind.wrap .u8 x12))),(.p (.int .u8 0)),(.p (.int .u8 (IntKind.wrap .u8 x14)))]) (n:=4) (e:=1) (m:=1000001) (RL.cons (show (dI .u8).R (IntKind.wrap .u8 (intBits .or .i64 128 x13)) [(.p (.int .u8 (IntKind.wrap .u8 (intBits .or .i64 128 x13))))] from rfl) (RL.cons (show (dI .u8).R (IntKind.wrap .u8 x12) [(.p (.int .u8 (IntKind.wrap .u8 x12)))] from rfl) (RL.cons (show (dI .u8).R 0 [(.p (.int .u8 0))] from rfl) (RL.cons (show (dI .u8).R (IntKind.wrap .u8 x14) [(.p (.int .u8 (IntKind.wrap .u8 x14)))] from rfl) RL.nil)))) rfl rfl (by decide)
      refine Sim.bd fun a364 h365 => ?_
      refine Sim.bd fun a366 h367 => ?_
      obtain ⟨v368,H369,e370,S371⟩:=S363.appZ (i:=0) (d:=127) (own:=true) (σ:=(10::0::0::1::0::σ)) rfl h365 h367 (by decide) rfl
      refine Sim.op (e370) ?_
      obtain ⟨v372,H373,e374,h375,S376⟩:=S371.layF (i:=0) rfl rfl
      erw [callFO_eq (frzAs_cons e374 frzAs_nil)]
      refine Sim.call (zl6_reads_ok k a366 h375) fun r377 cs378 H379 h380 q381 => ?_
      cases q381
      refine Sim.ab ?_
      refine Sim.cq ?_ ?_
      · exact hE1 false H373 (S376.wk2 aN aN)
      exact ih x12 x13 (IntKind.wrap .i64 (x14 + 1)) H373 (S376.wk2 aN aN)
    exact hE0 x12 x13 H358 (S359.wk2 aN aN)
theorem zl6_RtcpNumbers_l5_ok {h : H}  {β α : Type} {Q : β→α→Prop} {K : Exit × Env × H→Option α} {kE0 : Int→Option β} {kE1 : Bool→Option β} (hE0 : ∀ (q12 : Int) (H393 : Go.Ev.H) (_ : Fm 138 h [] [] [] H393),Sim (kE0 q12) (K ((.exit 10),(envL [(12,(.p (.int .i64 q12)))]),H393)) Q) (hE1 : ∀ (q0 : Bool) (H395 : Go.Ev.H) (_ : Fm 138 h [] [] [] H395),Sim (kE1 q0) (K (.ret,(envL [(0,(.p (.bool q0)))]),H395)) Q) (k : Nat) : ∀ (x12 : Int) (x13 : Int) (H355 : Go.Ev.H) (_ : Fm 138 h [] [] [] H355) {σ : Stamp},Sim (p_zl6_RtcpNumbers_l5 k kE0 kE1 x12 x13) ((cvL G X0 zl6_RtcpNumbers_c5 zl6_RtcpNumbers_l5 σ (envL [(12,(.p (.int .i64 x12))),(13,(.p (.int .i64 x13)))]) H355).bind K) Q:=by
  induction k with
  | zero => intros; exact Sim.no
  | succ k ih =>
    intro x12 x13 H355 S356 σ
    rw [p_zl6_RtcpNumbers_l5]
    refine Sim.round (Sim.ext (zl6_RtcpNumbers_r5 _ _ _ _ _ _) ?_)
    refine Sim.cq ?_ ?_
    · refine Sim.as (zl6_RtcpNumbers_l6_ok ?_ ?_ k x12 x13 0 H355 (S356.wk2 aN aN))
      · intro r387_12 r387_13 H388 S389
        refine Sim.ext (zl6_RtcpNumbers_a6_12 _ _ _ _ _ _) ?_
        exact ih r387_12 (IntKind.wrap .i64 (r387_13 + 1)) H388 (S389.wk2 aN aN)
      · intro r390_0 H391 S392
        refine Sim.ext (zl6_RtcpNumbers_a6_ret _ _ _ _ _) ?_
        exact hE1 r390_0 H391 (S392.wk2 aN aN)
    exact hE0 x12 H355 (S356.wk2 aN aN)
theorem zl6_RtcpNumbers_l2_ok {h : H}  {β α : Type} {Q : β→α→Prop} {K : Exit × Env × H→Option α} {kE0 : Unit→Option β} {kE1 : Bool→Option β} (hE0 : ∀ (_u : Unit) (H403 : Go.Ev.H) (_ : Fm 138 h [] [] [] H403),Sim (kE0 ()) (K ((.exit 8),(envL []),H403)) Q) (hE1 : ∀ (q0 : Bool) (H405 : Go.Ev.H) (_ : Fm 138 h [] [] [] H405),Sim (kE1 q0) (K (.ret,(envL [(0,(.p (.bool q0)))]),H405)) Q) (k : Nat) : ∀ (x12 : Int) (H352 : Go.Ev.H) (_ : Fm 138 h [] [] [] H352) {σ : Stamp},Sim (p_zl6_RtcpNumbers_l2 k kE0 kE1 x12) ((cvL G X0 zl6_RtcpNumbers_c2 zl6_RtcpNumbers_l2 σ (envL [(12,(.p (.int .i64 x12)))]) H352).bind K) Q:=by
  induction k with
  | zero => intros; exact Sim.no
  | succ k ih =>
    intro x12 H352 S353 σ
    rw [p_zl6_RtcpNumbers_l2]
    refine Sim.round (Sim.ext (zl6_RtcpNumbers_r2 _ _ _ _ _) ?_)
    refine Sim.cq ?_ ?_
    · refine Sim.as (zl6_RtcpNumbers_l5_ok ?_ ?_ k x12 0 H352 (S353.wk2 aN aN))
      · intro r397_12 H398 S399
        refine Sim.ext (zl6_RtcpNumbers_a5_10 _ _ _ _ _) ?_
        exact ih (IntKind.wrap .i64 (r397_12 + 1)) H398 (S399.wk2 aN aN)
      · intro r400_0 H401 S402
        refine Sim.ext (zl6_RtcpNumbers_a5_ret _ _ _ _ _) ?_
        exact hE1 r400_0 H401 (S402.wk2 aN aN)
    exact hE0 () H352 (S353.wk2 aN aN)
theorem zl6_RtcpNumbers_ok (k : Nat) {h : H} {σ : Stamp}  : Sim (p_zl6_RtcpNumbers k ) (ev G X0 3 σ [] h) (fun r s => s = ([.v (.p (.bool r))],h)):=by
  refine Sim.ev rfl (Sim.ext (zl6_RtcpNumbers_entry _ _ _ _) ?_)
  rw [p_zl6_RtcpNumbers]
  have S0 : Fm 138 h [] [] [] (List.replicate 138 []::h):=Fm.start0
  refine Sim.as (zl6_RtcpNumbers_l0_ok ?_ ?_ k 0 (List.replicate 138 []::h) (S0.wk2 aN aN))
  · intro _u H350 S351
    refine Sim.ext (zl6_RtcpNumbers_a0_0 _ _ _ _) ?_
    refine Sim.as (zl6_RtcpNumbers_l2_ok ?_ ?_ k 190 H350 (S351.wk2 aN aN))
    · intro _u H408 S409
      refine Sim.ext (zl6_RtcpNumbers_a2_8 _ _ _ _) ?_
      refine Sim.bd fun a410 h411 => ?_
      obtain ⟨v412,H413,e414,S415⟩:=S409.mk (dt:=(dI .u8)) (d:=130) (e:=1) (zv:=[(.p (.int .u8 0))]) (σ:=(0::0::1::1::1::0::σ)) h411 rfl rfl (by decide) (by decide) rfl
      refine Sim.op (e414) ?_
      obtain ⟨v417,H418,e419,h420,S421⟩:=S415.layF (i:=0) rfl rfl
      erw [callFO_eq (frzAs_cons e419 frzAs_nil)]
      refine Sim.call (zl6_reads_ok k a410 h420) fun r422 cs423 H424 h425 q426 => ?_
      cases q426
      refine Sim.ab ?_
      refine Sim.ch (P:=fun r y => (.p (.bool r),H418) = y) ?_ (fun b432 y433 h434 h435 => ?_)
      · refine Sim.cq ?_ ?_
        · erw [callFO_eq (frzAs_cons (frzA_F (SlF.nil dTaiReport)) frzAs_nil)]
          refine Sim.call (zl6_same_ok k (([] : List TaiReport)) (SlF.nil dTaiReport)) fun r427 cs428 H429 h430 q431 => ?_
          cases q431
          refine Sim.ab ?_
          exact Sim.ret rfl rfl
        · exact Sim.ret rfl rfl
      subst h435
      refine Sim.ab ?_
      refine Sim.ch (P:=fun r y => (.p (.bool r),H418) = y) ?_ (fun b441 y442 h443 h444 => ?_)
      · refine Sim.cq ?_ ?_
        · refine Sim.call (zl6_known_ok k ) fun r436 cs437 H438 h439 q440 => ?_
          cases q440
          refine Sim.ab ?_
          exact Sim.ret rfl rfl
        · exact Sim.ret rfl rfl
      subst h444
      refine Sim.ab ?_
      exact Sim.fin (S421.finN (lC (sB _).lv lN)) rfl
    · intro r445_0 H446 S447
      refine Sim.ext (zl6_RtcpNumbers_a2_ret _ _ _ _ _) ?_
      exact Sim.fin (S447.finN (lC (sB _).lv lN)) rfl
  · intro r448_0 H449 S450
    refine Sim.ext (zl6_RtcpNumbers_a0_ret _ _ _ _ _) ?_
    exact Sim.fin (S450.finN (lC (sB _).lv lN)) rfl
end Go.Ev
namespace Go.Ev
set_option maxRecDepth 100000
set_option linter.unusedSimpArgs false
set_option linter.unusedVariables false
set_option simprocs false
theorem btl_loop (s : ByteArray) (i : Nat) (r : List UInt8) : ByteArray.toList.loop s i r = r.reverse ++ s.data.toList.drop i:=by
  fun_induction ByteArray.toList.loop s i r with
  | case1 i r h ih =>
    rw [ih,List.reverse_cons,List.append_assoc]
    congr 1
    have h' : i < s.data.toList.length:=by rw [Array.length_toList]; exact h
    rw [List.drop_eq_getElem_cons h']
    simp [ByteArray.get!]
    have : s.data.size = s.size:=rfl
    rw [getElem!_pos s.data i (by rw [this]; exact h)]
  | case2 i r h =>
    rw [List.drop_of_length_le,List.append_nil]
    have : s.data.toList.length = s.size:=by rw [Array.length_toList]; rfl
    omega
theorem btl (s : ByteArray) : s.toList = s.data.toList:=by
  unfold ByteArray.toList
  rw [btl_loop]; simp
def forceI {β : Type} (x : Int) (k : Int→Option β) : Option β:=match x with
  | .ofNat n => (match n with | 0 => k 0 | m + 1 => k (.ofNat (m + 1)))
  | .negSucc n => (match n with | 0 => k (-1) | m + 1 => k (.negSucc (m + 1)))
theorem forceI_eq {β : Type} (x : Int) (k : Int→Option β) : forceI x k = k x:=by
  rcases x with n | n <;> cases n <;> rfl
def forceL {β : Type} : List Int→(List Int→Option β)→Option β
  | [],k => k []
  | x::xs,k => forceI x fun x => forceL xs fun xs => k (x::xs)
theorem forceL_eq {β : Type} : ∀ (l : List Int) (k : List Int→Option β),forceL l k = k l
  | [],k => rfl
  | x::xs,k => by rw [forceL,forceI_eq,forceL_eq xs]
def forceT {β : Type} : List TaiTuple→(List TaiTuple→Option β)→Option β
  | [],k => k []
  | x::xs,k => forceI x.Owner fun a => forceI x.Rate fun b => forceI x.Over fun c => forceT xs fun xs => k (⟨a,b,c⟩::xs)
theorem forceT_eq {β : Type} : ∀ (l : List TaiTuple) (k : List TaiTuple→Option β),forceT l k = k l
  | [],k => rfl
  | x::xs,k => by rw [forceT,forceI_eq,forceI_eq,forceI_eq,forceT_eq xs]
def forceR {β : Type} (r : TaiReport) (k : TaiReport→Option β) : Option β :=
  forceI r.Kind fun a => forceI r.From fun b => forceI r.About fun c => forceT r.Tuples fun d => forceL r.Abouts fun e => forceL r.Numbers fun f => forceI r.Rate fun g => forceI r.f_Type fun h => forceI r.Count fun i => forceL r.Body fun j => k ⟨a,b,c,d,e,f,g,h,i,j⟩
theorem forceR_eq {β : Type} (r : TaiReport) (k : TaiReport→Option β) : forceR r k = k r:=by
  unfold forceR
  rw [forceI_eq,forceI_eq,forceI_eq,forceT_eq,forceL_eq,forceL_eq,forceI_eq,forceI_eq,forceI_eq,forceL_eq]
def f_zr6_Same_l0 {β : Type} (k : Nat) (kE0 : Unit→Option β) (kE1 : Bool→Option β) (x82 : Int) (x83 : Int) (yg20 : TaiReport) (yg24 : TaiReport) : Option β:=match k with
| 0 => none
| k + 1 =>
bif decide (x83 < x82) then (
(ix yg20.Numbers x83).bind fun a95 =>
(ix yg24.Numbers x83).bind fun a98 =>
bif a95 != a98 then (
kE1 false)
else (
f_zr6_Same_l0 k kE0 kE1 x82 (IntKind.wrap .i64 (x83 + 1)) yg20 yg24))
else (
kE0 ())
theorem f_zr6_Same_l0_eq {β : Type} : ∀ k : Nat,@p_zr6_Same_l0 β k = @f_zr6_Same_l0 β k
  | 0 => rfl
  | k + 1 => by
    funext kE0 kE1 x82 x83 yg20 yg24
    rw [p_zr6_Same_l0,f_zr6_Same_l0]
    simp only [btl,forceL_eq,forceR_eq,f_zr6_Same_l0_eq k]
def f_zr6_Same (k : Nat) (x0 : TaiReport) (x1 : TaiReport) : Option (Bool) :=
(bif x0.Kind != x1.Kind then (some true) else (some (x0.From != x1.From))).bind fun b25 =>
(bif b25 then (some true) else (some (x0.About != x1.About))).bind fun b29 =>
(bif b29 then (some true) else (some (x0.Rate != x1.Rate))).bind fun b33 =>
(bif b33 then (some true) else (some (x0.f_Type != x1.f_Type))).bind fun b37 =>
(bif b37 then (some true) else (some (x0.Count != x1.Count))).bind fun b41 =>
(bif b41 then (some true) else (some (!((strB x0.Body).data.toList == (strB x1.Body).data.toList)))).bind fun b45 =>
(bif b45 then (some true) else ((p_zr6_nums k x0.Abouts x1.Abouts).bind fun r49 =>
some (!r49))).bind fun b54 =>
(bif b54 then (some true) else ((p_zr6_Tuples k x0.Tuples x1.Tuples).bind fun r58 =>
some (!r58))).bind fun b63 =>
(bif b63 then (some true) else (some (((x0.Numbers.length : Int)) != ((x1.Numbers.length : Int))))).bind fun b67 =>
bif b67 then (
some (false))
else (
f_zr6_Same_l0 k (fun (_ : Unit) =>
some (true)) (fun r109_4 =>
some (r109_4)) ((x0.Numbers.length : Int)) 0 x0 x1)
theorem f_zr6_Same_eq (k : Nat) : p_zr6_Same k = f_zr6_Same k:=by
  funext x0 x1
  unfold p_zr6_Same f_zr6_Same
  simp only [btl,forceL_eq,forceR_eq,f_zr6_Same_l0_eq]
def f_zr6_All_l0 {β : Type} (k : Nat) (kE0 : Unit→Option β) (kE1 : Bool→Option β) (x0 : (List TaiReport)) (x1 : (List TaiReport)) (x12 : Int) (x13 : Int) : Option β:=match k with
| 0 => none
| k + 1 =>
bif decide (x13 < x12) then (
(ix x0 x13).bind fun a9 =>
(ix x1 x13).bind fun a22 =>
(f_zr6_Same k a9 a22).bind fun r35 =>
bif !r35 then (
kE1 false)
else (
f_zr6_All_l0 k kE0 kE1 x0 x1 x12 (IntKind.wrap .i64 (x13 + 1))))
else (
kE0 ())
theorem f_zr6_All_l0_eq {β : Type} : ∀ k : Nat,@p_zr6_All_l0 β k = @f_zr6_All_l0 β k
  | 0 => rfl
  | k + 1 => by
    funext kE0 kE1 x0 x1 x12 x13
    rw [p_zr6_All_l0,f_zr6_All_l0]
    simp only [btl,forceL_eq,forceR_eq,f_zr6_Same_l0_eq,f_zr6_Same_eq,f_zr6_All_l0_eq k]
def f_zr6_All (k : Nat) (x0 : (List TaiReport)) (x1 : (List TaiReport)) : Option (Bool) :=
bif ((x0.length : Int)) != ((x1.length : Int)) then (
some (false))
else (
f_zr6_All_l0 k (fun (_ : Unit) =>
some (true)) (fun r48_4 =>
some (r48_4)) x0 x1 ((x0.length : Int)) 0)
theorem f_zr6_All_eq (k : Nat) : p_zr6_All k = f_zr6_All k:=by
  funext x0 x1
  unfold p_zr6_All f_zr6_All
  simp only [btl,forceL_eq,forceR_eq,f_zr6_Same_l0_eq,f_zr6_Same_eq,f_zr6_All_l0_eq]
def f_zr6_Read_l0 {β : Type} (k : Nat) (kE0 : (List TaiReport)→Option β) (kE1 : Int→Option β) (x0 : (List Int)) (x4 : (List TaiReport)) (x5 : Int) : Option β:=match k with
| 0 => none
| k + 1 =>
bif decide (x5 < ((x0.length : Int))) then (
(p_zr1_Get k x0 (IntKind.wrap .i64 (x5 + 2)) 2).bind fun r12 =>
(p_zr1_Cut x0 x5 (IntKind.wrap .i64 (4 + (IntKind.wrap .i64 (4 * (IntKind.wrap .i64 r12.1)))))).bind fun r17 =>
(bif !r12.2 then (some true) else (some (!r17.2))).bind fun b24 =>
bif b24 then (
kE1 13)
else (
(ix r17.1 0).bind fun a29 =>
(bif (Int.fdiv a29 (2 ^ 5)) != 4 then (some true) else ((ix r17.1 1).bind fun a32 =>
some (decide (a32 < 192)))).bind fun b35 =>
(bif b35 then (some true) else ((ix r17.1 1).bind fun a39 =>
some (decide (a39 > 223)))).bind fun b42 =>
bif b42 then (
kE1 12)
else (
(ix r17.1 1).bind fun a49 =>
(ix r17.1 0).bind fun a52 =>
(sub r17.1 4 ((r17.1.length : Int))).bind fun a55 =>
(p_zr6_parse k (IntKind.wrap .i64 a49) (IntKind.wrap .i64 (intBits .and .u8 a52 31)) a55).bind fun r57 =>
(p_zr6_Right k r57).bind fun r75 =>
bif r75 != 0 then (bif true then (
kE1 12)
else (
(ap 136 x4 ([r57])).bind fun a118 =>
f_zr6_Read_l0 k kE0 kE1 x0 a118 (IntKind.wrap .i64 (x5 + ((r17.1.length : Int)))))) else ((p_zr6_one k r57).bind fun r80 =>
(p_zr6_short k r17.1 r57).bind fun r94 =>
bif !((strB r80).data.toList == (strB r94).data.toList) then (
kE1 12)
else (
(ap 136 x4 ([r57])).bind fun a110 =>
f_zr6_Read_l0 k kE0 kE1 x0 a110 (IntKind.wrap .i64 (x5 + ((r17.1.length : Int)))))))))
else (
kE0 x4)
theorem f_zr6_Read_l0_eq {β : Type} : ∀ k : Nat,@p_zr6_Read_l0 β k = @f_zr6_Read_l0 β k
  | 0 => rfl
  | k + 1 => by
    funext kE0 kE1 x0 x4 x5
    rw [p_zr6_Read_l0,f_zr6_Read_l0]
    simp only [btl,forceL_eq,forceR_eq,f_zr6_Same_l0_eq,f_zr6_Same_eq,f_zr6_All_l0_eq,f_zr6_All_eq,f_zr6_Read_l0_eq k]
def f_zr6_Read (k : Nat) (x0 : (List Int)) : Option ((List TaiReport) × Int) :=
bif decide (((x0.length : Int)) > 1500) then (
some ((([] : List TaiReport)),3))
else (
bif ((x0.length : Int)) == 0 then (
some ((([] : List TaiReport)),13))
else (
f_zr6_Read_l0 k (fun r132_4 =>
some (r132_4,0)) (fun r143_3 =>
some ((([] : List TaiReport)),r143_3)) x0 (([] : List TaiReport)) 0))
theorem f_zr6_Read_eq (k : Nat) : p_zr6_Read k = f_zr6_Read k:=by
  funext x0
  unfold p_zr6_Read f_zr6_Read
  simp only [btl,forceL_eq,forceR_eq,f_zr6_Same_l0_eq,f_zr6_Same_eq,f_zr6_All_l0_eq,f_zr6_All_eq,f_zr6_Read_l0_eq]
def f_zl6_reads (k : Nat) (x0 : (List Int)) : Option (Bool):=forceL x0 fun x0 =>
(p_rtcp_Read k x0).bind fun r1 =>
(f_zr6_Read k x0).bind fun r8 =>
(bif r1.2 == r8.2 then ((f_zr6_All k r1.1 r8.1).bind fun r15 =>
some r15) else (some false)).bind fun b20 =>
(bif b20 then ((p_rtcp_Is x0).bind fun r24 =>
(p_zr6_Is x0).bind fun r29 =>
some (r24 == r29)) else (some false)).bind fun b34 =>
some (b34)
theorem f_zl6_reads_eq (k : Nat) : p_zl6_reads k = f_zl6_reads k:=by
  funext x0
  unfold p_zl6_reads f_zl6_reads
  simp only [btl,forceL_eq,forceR_eq,f_zr6_Same_l0_eq,f_zr6_Same_eq,f_zr6_All_l0_eq,f_zr6_All_eq,f_zr6_Read_l0_eq,f_zr6_Read_eq]
def f_zl6_same_l0 {β : Type} (k : Nat) (kE0 : (List Int)→Int→(List Int)→Int→Option β) (kE1 : Bool→Option β) (x3 : (List Int)) (x4 : Int) (x5 : (List Int)) (x6 : Int) (x19 : (List TaiReport)) (x20 : Int) (x21 : Int) : Option β:=match k with
| 0 => none
| k + 1 =>
bif decide (x21 < x20) then (
(ix x19 x21).bind fun a24 =>
(p_rtcp_Right k a24).bind fun r44 =>
(p_zr6_Right k a24).bind fun r49 =>
(bif r44 != r49 then (some true) else ((p_rtcp_Same k a24 a24).bind fun r54 =>
some (!r54))).bind fun b59 =>
bif b59 then (
kE1 false)
else (
f_zl6_same_l0 k kE0 kE1 x3 x4 x5 x6 x19 x20 (IntKind.wrap .i64 (x21 + 1))))
else (
kE0 x3 x4 x5 x6)
theorem f_zl6_same_l0_eq {β : Type} : ∀ k : Nat,@p_zl6_same_l0 β k = @f_zl6_same_l0 β k
  | 0 => rfl
  | k + 1 => by
    funext kE0 kE1 x3 x4 x5 x6 x19 x20 x21
    rw [p_zl6_same_l0,f_zl6_same_l0]
    simp only [btl,forceL_eq,forceR_eq,f_zr6_Same_l0_eq,f_zr6_Same_eq,f_zr6_All_l0_eq,f_zr6_All_eq,f_zr6_Read_l0_eq,f_zr6_Read_eq,f_zl6_reads_eq,f_zl6_same_l0_eq k]
def f_zl6_same (k : Nat) (x0 : (List TaiReport)) : Option (Bool) :=
(p_rtcp_Bytes k x0).bind fun r1 =>
(p_zr6_Bytes k x0).bind fun r8 =>
f_zl6_same_l0 k (fun r72_3 r72_4 r72_5 r72_6 =>
(bif r72_4 == r72_6 then (some ((strB r72_3).data.toList == (strB r72_5).data.toList)) else (some false)).bind fun b79 =>
(bif b79 then ((bif r72_6 != 0 then (some true) else ((f_zl6_reads k r72_5).bind fun r83 =>
some r83)).bind fun b88 =>
some b88) else (some false)).bind fun b92 =>
some (b92)) (fun r96_2 =>
some (r96_2)) r1.1 r1.2 r8.1 r8.2 x0 ((x0.length : Int)) 0
theorem f_zl6_same_eq (k : Nat) : p_zl6_same k = f_zl6_same k:=by
  funext x0
  unfold p_zl6_same f_zl6_same
  simp only [btl,forceL_eq,forceR_eq,f_zr6_Same_l0_eq,f_zr6_Same_eq,f_zr6_All_l0_eq,f_zr6_All_eq,f_zr6_Read_l0_eq,f_zr6_Read_eq,f_zl6_reads_eq,f_zl6_same_l0_eq]
def f_zl6_RtcpNumbers_l3 {β : Type} (k : Nat) (kE0 : Int→Int→TaiReport→TaiReport→Option β) (kE1 : Bool→Option β) (x1 : Int) (x5 : Int) (x42 : (List Int)) (x43 : Int) (x44 : Int) (yg93 : TaiReport) (yg103 : TaiReport) : Option β:=match k with
| 0 => none
| k + 1 =>
bif decide (x44 < x43) then (
(ix x42 x44).bind fun a131 =>
(p_zl6_odd yg93 x5 a131).bind fun r134 =>
(forceR r134 fun r134 => f_zl6_same k ([r134])).bind fun r150 =>
bif !r150 then (
kE1 false)
else (
f_zl6_RtcpNumbers_l3 k kE0 kE1 x1 x5 x42 x43 (IntKind.wrap .i64 (x44 + 1)) yg93 yg103))
else (
kE0 x1 x5 yg93 yg103)
theorem f_zl6_RtcpNumbers_l3_eq {β : Type} : ∀ k : Nat,@p_zl6_RtcpNumbers_l3 β k = @f_zl6_RtcpNumbers_l3 β k
  | 0 => rfl
  | k + 1 => by
    funext kE0 kE1 x1 x5 x42 x43 x44 yg93 yg103
    rw [p_zl6_RtcpNumbers_l3,f_zl6_RtcpNumbers_l3]
    simp only [btl,forceL_eq,forceR_eq,f_zr6_Same_l0_eq,f_zr6_Same_eq,f_zr6_All_l0_eq,f_zr6_All_eq,f_zr6_Read_l0_eq,f_zr6_Read_eq,f_zl6_reads_eq,f_zl6_same_l0_eq,f_zl6_same_eq,f_zl6_RtcpNumbers_l3_eq k]
def f_zl6_RtcpNumbers_l1 {β : Type} (k : Nat) (kE0 : Int→TaiReport→TaiReport→Option β) (kE1 : Bool→Option β) (x1 : Int) (x5 : Int) (yg54 : TaiReport) (yg58 : TaiReport) : Option β:=match k with
| 0 => none
| k + 1 =>
bif decide (x5 < 11) then (
f_zl6_RtcpNumbers_l3 k (fun r180_1 r180_5 yg119 yg129 =>
f_zl6_RtcpNumbers_l1 k kE0 kE1 r180_1 (IntKind.wrap .i64 (r180_5 + 1)) yg119 yg129) (fun r203_0 =>
kE1 r203_0) x1 x5 ([(-1),0,1,3,6,7,31,32,191,192,205,206,223,224,255,256,511,512,131072,131073,1099511627776]) ((([(-1),0,1,3,6,7,31,32,191,192,205,206,223,224,255,256,511,512,131072,131073,1099511627776]).length : Int)) 0 yg54 yg58)
else (
kE0 x1 yg54 yg58)
theorem f_zl6_RtcpNumbers_l1_eq {β : Type} : ∀ k : Nat,@p_zl6_RtcpNumbers_l1 β k = @f_zl6_RtcpNumbers_l1 β k
  | 0 => rfl
  | k + 1 => by
    funext kE0 kE1 x1 x5 yg54 yg58
    rw [p_zl6_RtcpNumbers_l1,f_zl6_RtcpNumbers_l1]
    simp only [btl,forceL_eq,forceR_eq,f_zr6_Same_l0_eq,f_zr6_Same_eq,f_zr6_All_l0_eq,f_zr6_All_eq,f_zr6_Read_l0_eq,f_zr6_Read_eq,f_zl6_reads_eq,f_zl6_same_l0_eq,f_zl6_same_eq,f_zl6_RtcpNumbers_l3_eq,f_zl6_RtcpNumbers_l1_eq k]
def f_zl6_RtcpNumbers_l4 {β : Type} (k : Nat) (kE0 : Int→Option β) (kE1 : Bool→Option β) (x1 : Int) (x8 : (List Int)) (x10 : Int) : Option β:=match k with
| 0 => none
| k + 1 =>
(bif decide (x10 < ((x8.length : Int))) then (some (decide (x1 < 25))) else (some false)).bind fun b265 =>
bif b265 then (
(ap 1 (([] : List Int)) x8).bind fun a273 =>
(ix a273 x10).bind fun a279 =>
(shP .shl .u8 1 (IntKind.wrap .u64 (Int.tmod (IntKind.wrap .i64 (x10 + x1)) 8))).bind fun n282 =>
(ix a273 x10).bind fun a284 =>
(stx a273 x10 (intBits .xor .u8 a279 n282)).bind fun a289 =>
(sub x8 0 x10).bind fun a291 =>
(f_zl6_reads k a291).bind fun r293 =>
bif !r293 then ((bif true then (some true) else ((sub x8 x10 ((x8.length : Int))).bind fun a320 =>
(f_zl6_reads k a320).bind fun r322 =>
some (!r322))).bind fun b327 =>
bif b327 then (
kE1 false)
else (
f_zl6_RtcpNumbers_l4 k kE0 kE1 x1 x8 (IntKind.wrap .i64 (x10 + 1)))) else ((f_zl6_reads k a289).bind fun r303 =>
(bif !r303 then (some true) else ((sub x8 x10 ((x8.length : Int))).bind fun a308 =>
(f_zl6_reads k a308).bind fun r310 =>
some (!r310))).bind fun b315 =>
bif b315 then (
kE1 false)
else (
f_zl6_RtcpNumbers_l4 k kE0 kE1 x1 x8 (IntKind.wrap .i64 (x10 + 1)))))
else (
kE0 x1)
theorem f_zl6_RtcpNumbers_l4_eq {β : Type} : ∀ k : Nat,@p_zl6_RtcpNumbers_l4 β k = @f_zl6_RtcpNumbers_l4 β k
  | 0 => rfl
  | k + 1 => by
    funext kE0 kE1 x1 x8 x10
    rw [p_zl6_RtcpNumbers_l4,f_zl6_RtcpNumbers_l4]
    simp only [btl,forceL_eq,forceR_eq,f_zr6_Same_l0_eq,f_zr6_Same_eq,f_zr6_All_l0_eq,f_zr6_All_eq,f_zr6_Read_l0_eq,f_zr6_Read_eq,f_zl6_reads_eq,f_zl6_same_l0_eq,f_zl6_same_eq,f_zl6_RtcpNumbers_l3_eq,f_zl6_RtcpNumbers_l1_eq,f_zl6_RtcpNumbers_l4_eq k]
def f_zl6_RtcpNumbers_l6 {β : Type} (k : Nat) (kE0 : Int→Int→Option β) (kE1 : Bool→Option β) (x12 : Int) (x13 : Int) (x14 : Int) : Option β:=match k with
| 0 => none
| k + 1 =>
bif decide (x14 < 6) then (
(zB (IntKind.wrap .i64 (4 * x14))).bind fun a364 =>
(ap 1 ([(IntKind.wrap .u8 (intBits .or .i64 128 x13)),(IntKind.wrap .u8 x12),0,(IntKind.wrap .u8 x14)]) a364).bind fun a366 =>
(f_zl6_reads k a366).bind fun r377 =>
bif !r377 then (
kE1 false)
else (
f_zl6_RtcpNumbers_l6 k kE0 kE1 x12 x13 (IntKind.wrap .i64 (x14 + 1))))
else (
kE0 x12 x13)
theorem f_zl6_RtcpNumbers_l6_eq {β : Type} : ∀ k : Nat,@p_zl6_RtcpNumbers_l6 β k = @f_zl6_RtcpNumbers_l6 β k
  | 0 => rfl
  | k + 1 => by
    funext kE0 kE1 x12 x13 x14
    rw [p_zl6_RtcpNumbers_l6,f_zl6_RtcpNumbers_l6]
    simp only [btl,forceL_eq,forceR_eq,f_zr6_Same_l0_eq,f_zr6_Same_eq,f_zr6_All_l0_eq,f_zr6_All_eq,f_zr6_Read_l0_eq,f_zr6_Read_eq,f_zl6_reads_eq,f_zl6_same_l0_eq,f_zl6_same_eq,f_zl6_RtcpNumbers_l3_eq,f_zl6_RtcpNumbers_l1_eq,f_zl6_RtcpNumbers_l4_eq,f_zl6_RtcpNumbers_l6_eq k]
def f_zl6_RtcpNumbers_l5 {β : Type} (k : Nat) (kE0 : Int→Option β) (kE1 : Bool→Option β) (x12 : Int) (x13 : Int) : Option β:=match k with
| 0 => none
| k + 1 =>
bif decide (x13 < 32) then (
f_zl6_RtcpNumbers_l6 k (fun r387_12 r387_13 =>
f_zl6_RtcpNumbers_l5 k kE0 kE1 r387_12 (IntKind.wrap .i64 (r387_13 + 1))) (fun r390_0 =>
kE1 r390_0) x12 x13 0)
else (
kE0 x12)
theorem f_zl6_RtcpNumbers_l5_eq {β : Type} : ∀ k : Nat,@p_zl6_RtcpNumbers_l5 β k = @f_zl6_RtcpNumbers_l5 β k
  | 0 => rfl
  | k + 1 => by
    funext kE0 kE1 x12 x13
    rw [p_zl6_RtcpNumbers_l5,f_zl6_RtcpNumbers_l5]
    simp only [btl,forceL_eq,forceR_eq,f_zr6_Same_l0_eq,f_zr6_Same_eq,f_zr6_All_l0_eq,f_zr6_All_eq,f_zr6_Read_l0_eq,f_zr6_Read_eq,f_zl6_reads_eq,f_zl6_same_l0_eq,f_zl6_same_eq,f_zl6_RtcpNumbers_l3_eq,f_zl6_RtcpNumbers_l1_eq,f_zl6_RtcpNumbers_l4_eq,f_zl6_RtcpNumbers_l6_eq,f_zl6_RtcpNumbers_l5_eq k]
def f_zl6_RtcpNumbers_l2 {β : Type} (k : Nat) (kE0 : Unit→Option β) (kE1 : Bool→Option β) (x12 : Int) : Option β:=match k with
| 0 => none
| k + 1 =>
bif decide (x12 < 226) then (
f_zl6_RtcpNumbers_l5 k (fun r397_12 =>
f_zl6_RtcpNumbers_l2 k kE0 kE1 (IntKind.wrap .i64 (r397_12 + 1))) (fun r400_0 =>
kE1 r400_0) x12 0)
else (
kE0 ())
theorem f_zl6_RtcpNumbers_l2_eq {β : Type} : ∀ k : Nat,@p_zl6_RtcpNumbers_l2 β k = @f_zl6_RtcpNumbers_l2 β k
  | 0 => rfl
  | k + 1 => by
    funext kE0 kE1 x12
    rw [p_zl6_RtcpNumbers_l2,f_zl6_RtcpNumbers_l2]
    simp only [btl,forceL_eq,forceR_eq,f_zr6_Same_l0_eq,f_zr6_Same_eq,f_zr6_All_l0_eq,f_zr6_All_eq,f_zr6_Read_l0_eq,f_zr6_Read_eq,f_zl6_reads_eq,f_zl6_same_l0_eq,f_zl6_same_eq,f_zl6_RtcpNumbers_l3_eq,f_zl6_RtcpNumbers_l1_eq,f_zl6_RtcpNumbers_l4_eq,f_zl6_RtcpNumbers_l6_eq,f_zl6_RtcpNumbers_l5_eq,f_zl6_RtcpNumbers_l2_eq k]
end Go.Ev
namespace Go.Ev
theorem ap_eq {α : Type} {b : Nat} {xs ys : List α} (hb : b ≤ 64) (h : xs.length + ys.length < 2 ^ 40) : ap b xs ys = some (xs ++ ys):=by
  unfold ap
  refine if_pos ⟨?_,by omega⟩
  have : (xs.length + ys.length) * b ≤ (xs.length + ys.length) * 64:=Nat.mul_le_mul_left _ hb
  omega
theorem wrap_i64 {n : Int} (h1 : -9223372036854775808 ≤ n) (h2 : n < 9223372036854775808) : IntKind.wrap .i64 n = n:=wrap64 h1 h2
end Go.Ev
namespace Go.Ev
set_option maxRecDepth 100000
set_option linter.unusedSimpArgs false
set_option simprocs false
def tapeE (k x : Int) : Int:=Int.tmod (IntKind.wrap .i64 ((IntKind.wrap .i64 ((IntKind.wrap .i64 ((IntKind.wrap .i64 (x * x)) * 7)) + (IntKind.wrap .i64 (k * 31)))) + (IntKind.wrap .i64 (x * k)))) 211
def tapeL (k : Int) : Nat→Int→List Int
  | 0,_ => []
  | n + 1,i => tapeE k i::tapeL k n (i + 1)
theorem tape6_l0 {β : Type} (kE0 : List Int→Option β) (k : Int) : ∀ (m j : Nat) (pre : List Int),pre.length + m = 400→p_zl6_tape_l0 (j + m + 1) kE0 k pre (pre.length : Int) = kE0 (pre ++ tapeL k m (pre.length : Int))
  | 0,j,pre,h => by
    rw [p_zl6_tape_l0]
    have : decide ((pre.length : Int) < 400) = false:=decide_eq_false (by omega)
    rw [this,cond_false,tapeL,List.append_nil]
  | m + 1,j,pre,h => by
    rw [show j + (m + 1) + 1 = (j + m + 1) + 1 from rfl,p_zl6_tape_l0]
    have : decide ((pre.length : Int) < 400) = true:=decide_eq_true (by omega)
    have e1 : IntKind.wrap .i64 ((pre.length : Int) + 1) = (((pre ++ [tapeE k pre.length]).length : Nat) : Int):=by rw [wrap_i64 (by omega) (by omega)]; simp
    rw [this,cond_true,ap_eq (by decide) (by simp only [List.length_cons,List.length_nil]; omega),Option.bind_some,e1]
    refine (tape6_l0 kE0 k m j (pre ++ [tapeE k pre.length]) (by rw [List.length_append]; simp only [List.length_cons,List.length_nil]; omega)).trans ?_
    rw [tapeL,List.append_assoc]
    congr 2
    simp
theorem tape6 (k : Int) (n : Nat) : p_zl6_tape (n + 401) k = some (tapeL k 400 0):=by
  unfold p_zl6_tape
  exact (tape6_l0 (fun r => some r) k 400 n [] rfl).trans (by simp)
def numB {β : Type} (k : Nat) (x1 : Int) (r4 : List Int) (kN : Int→Option β) (kE1 : Bool→Option β) : Option β :=
(p_zk_Tape_Report k (⟨r4,0⟩ : TzTape)).bind fun r15 =>
(p_zk_Tape_Report k r15.2).bind fun r33 =>
forceR r15.1 fun q1 => forceR r33.1 fun q2 =>
(f_zl6_same k ([q1,q2])).bind fun r66 =>
(bif !r66 then (some true) else ((f_zl6_same k ([q1])).bind fun r72 =>
some (!r72))).bind fun b77 =>
bif b77 then (
kE1 false)
else (
f_zl6_RtcpNumbers_l1 k (fun r230_1 yg93 yg103 =>
(p_zr6_Bytes k ([yg93,yg103])).bind fun r254 =>
forceL r254.1 fun q3 => f_zl6_RtcpNumbers_l4 k (fun r336_1 =>
kN (IntKind.wrap .i64 (r336_1 + 1))) (fun r339_0 =>
kE1 r339_0) r230_1 q3 0) (fun r342_0 =>
kE1 r342_0) x1 0 q1 q2)
theorem num_step {β : Type} (n : Nat) (kE0 : Unit→Option β) (kE1 : Bool→Option β) (x1 : Int) (h : decide (x1 < 60) = true) : p_zl6_RtcpNumbers_l0 (n + 401 + 1) kE0 kE1 x1 = numB (n + 401) x1 (tapeL x1 400 0) (p_zl6_RtcpNumbers_l0 (n + 401) kE0 kE1) kE1:=by
  rw [p_zl6_RtcpNumbers_l0,h,cond_true,tape6,Option.bind_some]
  simp only [forceL_eq,forceR_eq,f_zr6_Same_l0_eq,f_zr6_Same_eq,f_zr6_All_l0_eq,f_zr6_All_eq,f_zr6_Read_l0_eq,f_zr6_Read_eq,f_zl6_reads_eq,f_zl6_same_l0_eq,f_zl6_same_eq,f_zl6_RtcpNumbers_l3_eq,f_zl6_RtcpNumbers_l1_eq,f_zl6_RtcpNumbers_l4_eq,f_zl6_RtcpNumbers_l6_eq,f_zl6_RtcpNumbers_l5_eq,f_zl6_RtcpNumbers_l2_eq,numB]
end Go.Ev
