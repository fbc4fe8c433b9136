/- A part of the proof that follows: Control messages that are not the same have not the same bytes, and each tells how long it is: for any two tapes. -/
import Derived.Test.YtigkdihkmihmmaaMCtlApart3
import Derived.KernelRfl
/- Lifted by lift.py: ctl_Bytes as a plain function. -/
namespace Go.Ev
open Go.Proofs
set_option linter.unusedVariables false
set_option linter.unusedSimpArgs false
set_option maxRecDepth 100000
def p_ctl_Bytes_l0 {β : Type} (k : Nat) (kE0 : (List Int) → T_api_Ctl → Option β) (x5 : (List Int)) (x16 : (List T_api_Layer)) (x17 : Int) (x18 : Int) (yg6 : T_api_Ctl) : Option β := match k with
| 0 => none
| k + 1 =>
bif decide (x18 < x17) then (
(ix x16 x18).bind fun a24 =>
(p_octet_Put k (([] : List Int)) (IntKind.wrap .u64 a24.Ssrc) 4).bind fun r36 =>
(p_octet_Put k r36 (IntKind.wrap .u64 a24.Height) 2).bind fun r50 =>
(ap 1 r50 (bytesS a24.Rid)).bind fun a64 =>
(p_ctl_field x5 2 a64).bind fun r70 =>
p_ctl_Bytes_l0 k kE0 r70 x16 x17 (IntKind.wrap .i64 (x18 + 1)) ((⟨yg6.Kind, yg6.Cap, yg6.Layers, yg6.Peer, yg6.Height, yg6.Class, yg6.Layer, yg6.Code⟩ : T_api_Ctl)))
else (
kE0 x5 ((⟨yg6.Kind, yg6.Cap, yg6.Layers, yg6.Peer, yg6.Height, yg6.Class, yg6.Layer, yg6.Code⟩ : T_api_Ctl)))
def p_ctl_Bytes_l1 {β : Type} (k : Nat) (kE0 : (List Int) → T_api_Ctl → Option β) (x5 : (List Int)) (x54 : (List T_struct_name_int_size_int_n_int64)) (x55 : Int) (x56 : Int) (yg104 : T_api_Ctl) : Option β := match k with
| 0 => none
| k + 1 =>
bif decide (x56 < x55) then (
(ix x54 x56).bind fun a116 =>
(p_ctl_has yg104.Kind a116.name).bind fun r128 =>
bif r128 then (
(p_octet_Put k (([] : List Int)) (IntKind.wrap .u64 a116.n) a116.size).bind fun r133 =>
(p_ctl_field x5 a116.name r133).bind fun r147 =>
p_ctl_Bytes_l1 k kE0 r147 x54 x55 (IntKind.wrap .i64 (x56 + 1)) ((⟨yg104.Kind, yg104.Cap, yg104.Layers, yg104.Peer, yg104.Height, yg104.Class, yg104.Layer, yg104.Code⟩ : T_api_Ctl)))
else (
p_ctl_Bytes_l1 k kE0 x5 x54 x55 (IntKind.wrap .i64 (x56 + 1)) ((⟨yg104.Kind, yg104.Cap, yg104.Layers, yg104.Peer, yg104.Height, yg104.Class, yg104.Layer, yg104.Code⟩ : T_api_Ctl))))
else (
kE0 x5 ((⟨yg104.Kind, yg104.Cap, yg104.Layers, yg104.Peer, yg104.Height, yg104.Class, yg104.Layer, yg104.Code⟩ : T_api_Ctl)))
def p_ctl_Bytes (k : Nat) (x0 : T_api_Ctl) : Option ((List Int) × Int) :=
(p_ctl_Right k ((⟨x0.Kind, x0.Cap, x0.Layers, x0.Peer, x0.Height, x0.Class, x0.Layer, x0.Code⟩ : T_api_Ctl))).bind fun r7 =>
bif r7 != 0 then (
some ((([] : List Int)), r7))
else (
p_ctl_Bytes_l0 k (fun r96_5 yg23 =>
p_ctl_Bytes_l1 k (fun r171_5 yg115 =>
(p_octet_Put k ([(IntKind.wrap .u8 yg115.Kind)]) (IntKind.wrap .u64 ((r171_5.length : Int))) 2).bind fun r181 =>
(p_slices_Concat_Lbyte_byte k ([r181, r171_5])).bind fun r206 =>
some (r206, 0)) r96_5 ([((⟨1, 8, yg23.Cap⟩ : T_struct_name_int_size_int_n_int64)), ((⟨3, 1, yg23.Peer⟩ : T_struct_name_int_size_int_n_int64)), ((⟨4, 2, yg23.Height⟩ : T_struct_name_int_size_int_n_int64)), ((⟨5, 1, yg23.Class⟩ : T_struct_name_int_size_int_n_int64)), ((⟨6, 1, yg23.Layer⟩ : T_struct_name_int_size_int_n_int64)), ((⟨7, 1, yg23.Code⟩ : T_struct_name_int_size_int_n_int64))]) ((([((⟨1, 8, yg23.Cap⟩ : T_struct_name_int_size_int_n_int64)), ((⟨3, 1, yg23.Peer⟩ : T_struct_name_int_size_int_n_int64)), ((⟨4, 2, yg23.Height⟩ : T_struct_name_int_size_int_n_int64)), ((⟨5, 1, yg23.Class⟩ : T_struct_name_int_size_int_n_int64)), ((⟨6, 1, yg23.Layer⟩ : T_struct_name_int_size_int_n_int64)), ((⟨7, 1, yg23.Code⟩ : T_struct_name_int_size_int_n_int64))]).length : Int)) 0 ((⟨yg23.Kind, yg23.Cap, yg23.Layers, yg23.Peer, yg23.Height, yg23.Class, yg23.Layer, yg23.Code⟩ : T_api_Ctl))) (([] : List Int)) x0.Layers ((x0.Layers.length : Int)) 0 ((⟨x0.Kind, x0.Cap, x0.Layers, x0.Peer, x0.Height, x0.Class, x0.Layer, x0.Code⟩ : T_api_Ctl)))
theorem ctl_Bytes_l0_ok {h : H}  {β α : Type} {Q : β → α → Prop} {K : Exit × Env × H → Option α} {kE0 : (List Int) → T_api_Ctl → Option β} (hE0 : ∀ (q5 : (List Int)) (yg23 : T_api_Ctl) (v88 : V) (v90 : V) (h91 : SlF dT_api_Layer yg23.Layers v90) (s92 : Stamp) (H86 : Go.Ev.H) (_ : Fm 87 h [] [(1, s92, List.map C.v [(.p (.int .i64 yg23.Kind)), (.p (.int .i64 yg23.Cap)), v90, (.p (.int .i64 yg23.Peer)), (.p (.int .i64 yg23.Height)), (.p (.int .i64 yg23.Class)), (.p (.int .i64 yg23.Layer)), (.p (.int .i64 yg23.Code))])] [⟨[34], v88, (dI .u8), q5⟩] H86), Sim (kE0 q5 yg23) (K ((.exit 0), (envL [(1, (.ref ⟨h.length, 1, 0, s92, []⟩ 0)), (5, v88)]), H86)) Q) (k : Nat) : ∀ (x5 : (List Int)) (x16 : (List T_api_Layer)) (x17 : Int) (x18 : Int) (yg6 : T_api_Ctl) (v16 : V) (v18 : V) (h19 : SlF dT_api_Layer x16 v18) (v20 : V) (h21 : SlF dT_api_Layer yg6.Layers v20) (s22 : Stamp) (H14 : Go.Ev.H) (_ : Fm 87 h [] [(1, s22, List.map C.v [(.p (.int .i64 yg6.Kind)), (.p (.int .i64 yg6.Cap)), v20, (.p (.int .i64 yg6.Peer)), (.p (.int .i64 yg6.Height)), (.p (.int .i64 yg6.Class)), (.p (.int .i64 yg6.Layer)), (.p (.int .i64 yg6.Code))])] [⟨[34], v16, (dI .u8), x5⟩] H14) {σ : Stamp}, Sim (p_ctl_Bytes_l0 k kE0 x5 x16 x17 x18 yg6) ((cvL G X0 ctl_Bytes_c0 ctl_Bytes_l0 σ (envL [(1, (.ref ⟨h.length, 1, 0, s22, []⟩ 0)), (5, v16), (16, v18), (17, (.p (.int .i64 x17))), (18, (.p (.int .i64 x18)))]) H14).bind K) Q := by
  induction k with
  | zero => intros; exact Sim.no
  | succ k ih =>
    intro x5 x16 x17 x18 yg6 v16 v18 h19 v20 h21 s22 H14 S15 σ
    rw [p_ctl_Bytes_l0]
    refine Sim.round (Sim.ext (ctl_Bytes_r0 _ _ _ _ _ _ _ _ _) ?_)
    refine Sim.cd (fun hc => ?_) (fun hc => ?_)
    · refine Sim.bd fun a24 h25 => ?_
      refine Sim.op ((h19.h H14).iS h25 rfl) ?_
      obtain ⟨w27, h28, hE26⟩ := (h19.h H14).el h25 rfl
      obtain rfl := dT_api_Layer.inv h28
      refine Sim.op (hE26.all (by simp)) ?_
      obtain ⟨H29, e30, S31⟩ := S15.al (d := 7) (s := (2 :: 0 :: 0 :: 1 :: 1 :: 0 :: σ)) (z := [(.p (.string ((⟨#[]⟩ : ByteArray)))), (.p (.int .u32 0)), (.p (.int .i64 0))]) (by decide) rfl
      refine Sim.op (congrArg some e30) ?_
      obtain ⟨H33, e34, S35⟩ := S31.stGv (i := 0) (j := 0) (own := false) (σ := (3 :: 0 :: 0 :: 1 :: 1 :: 0 :: σ)) (xs := [.p (.string a24.Rid), .p (.int .u32 a24.Ssrc), .p (.int .i64 a24.Height)]) rfl rfl (stills_cons (still_str _) (stills_cons (still_int _ _) (stills_cons (still_int _ _) stills_nil))) rfl rfl
      refine Sim.op (st_map e34) ?_
      refine Sim.op (fA_ref _ _ _) ?_
      refine Sim.op ((S35.atG (i := 0) rfl).ld (j := 1) rfl) ?_
      refine Sim.op (castI_p _ _) ?_
      refine Sim.op (fA_ref _ _ _) ?_
      refine Sim.op ((S35.atG (i := 0) rfl).ld (j := 2) rfl) ?_
      refine Sim.op (castI_p _ _) ?_
      refine Sim.op (fA_ref _ _ _) ?_
      refine Sim.op ((S35.atG (i := 0) rfl).ld (j := 0) rfl) ?_
      refine Sim.op (castS_p _) ?_
      refine Sim.call (octet_Put_ok k (([] : List Int)) ((SlF.nil (dI .u8)).h H33) (IntKind.wrap .u64 a24.Ssrc) 4) fun r36 cs37 H38 h39 q40 => ?_
      obtain ⟨c41, cs42, h43, h44, q40⟩ := q40
      cases q40
      obtain ⟨v45, H46, e47, S48⟩ := S35.land (dt := (dI .u8)) (d := 26) (e := 0) (n := 0) h43 h44 (by decide) rfl
      erw [e47]
      refine Sim.nd ((S48.atG (i := 0) rfl).ld (j := 0) rfl) ?_
      refine Sim.nd (rfl) ?_
      refine Sim.nd ((S48.atG (i := 0) rfl).ld (j := 2) rfl) ?_
      refine Sim.call (octet_Put_ok k r36 (S48.sl (i := 0) rfl) (IntKind.wrap .u64 a24.Height) 2) fun r50 cs51 H52 h53 q54 => ?_
      obtain ⟨c55, cs56, h57, h58, q54⟩ := q54
      cases q54
      obtain ⟨v59, H60, e61, S62⟩ := S48.land (dt := (dI .u8)) (d := 30) (e := 0) (n := 0) h57 h58 (by decide) rfl
      erw [e61]
      refine Sim.nd ((S62.atG (i := 0) rfl).ld (j := 0) rfl) ?_
      refine Sim.bd fun a64 h65 => ?_
      obtain ⟨v66, H67, e68, S69⟩ := S62.app (i := 0) (d := 33) (e := 1) (own := true) (σ := (11 :: 1 :: 0 :: 1 :: 1 :: 0 :: σ)) rfl (ysS H60 a24.Rid) h65 rfl (by decide) (by decide) rfl
      refine Sim.op (e68) ?_
      refine Sim.call (ctl_field_ok x5 (S69.ownA (i := 2) rfl) 2 a64 (fun _ hk => (S69.killA (i := 2) rfl rfl hk).sl (i := 0) rfl)) fun r70 cs71 H72 h73 q74 => ?_
      obtain ⟨c75, cs76, h77, h78, h79, q74⟩ := q74
      obtain rfl : cs71 = [c75] := q74
      have S80 := S69.killA (i := 2) rfl rfl h79
      obtain ⟨v81, H82, e83, S84⟩ := S80.land (dt := (dI .u8)) (d := 34) (e := 0) (n := 0) h77 h78 (by decide) rfl
      erw [e83]
      exact ih r70 x16 x17 (IntKind.wrap .i64 (x18 + 1)) ((⟨yg6.Kind, yg6.Cap, yg6.Layers, yg6.Peer, yg6.Height, yg6.Class, yg6.Layer, yg6.Code⟩ : T_api_Ctl)) v81 v18 h19 v20 h21 s22 H82 (S84.wk2 (all_cons (at_mem 1 rfl) all_nil) (all_cons ⟨[34], by simp, at_mem 0 rfl⟩ all_nil))
    · exact hE0 x5 ((⟨yg6.Kind, yg6.Cap, yg6.Layers, yg6.Peer, yg6.Height, yg6.Class, yg6.Layer, yg6.Code⟩ : T_api_Ctl)) v16 v20 h21 s22 H14 (S15.wk2 (all_cons (at_mem 0 rfl) all_nil) (all_cons ⟨[34], by simp, at_mem 0 rfl⟩ all_nil))
theorem ctl_Bytes_l1_ok {h : H}  {β α : Type} {Q : β → α → Prop} {K : Exit × Env × H → Option α} {kE0 : (List Int) → T_api_Ctl → Option β} (hE0 : ∀ (q5 : (List Int)) (yg115 : T_api_Ctl) (v165 : V) (v167 : V) (h168 : SlF dT_api_Layer yg115.Layers v167) (s169 : Stamp) (H163 : Go.Ev.H) (_ : Fm 87 h [] [(1, s169, List.map C.v [(.p (.int .i64 yg115.Kind)), (.p (.int .i64 yg115.Cap)), v167, (.p (.int .i64 yg115.Peer)), (.p (.int .i64 yg115.Height)), (.p (.int .i64 yg115.Class)), (.p (.int .i64 yg115.Layer)), (.p (.int .i64 yg115.Code))])] [⟨[34, 74], v165, (dI .u8), q5⟩] H163), Sim (kE0 q5 yg115) (K ((.exit 2), (envL [(1, (.ref ⟨h.length, 1, 0, s169, []⟩ 0)), (5, v165)]), H163)) Q) (k : Nat) : ∀ (x5 : (List Int)) (x54 : (List T_struct_name_int_size_int_n_int64)) (x55 : Int) (x56 : Int) (yg104 : T_api_Ctl) (v108 : V) (v110 : V) (h111 : SlF dT_struct_name_int_size_int_n_int64 x54 v110) (v112 : V) (h113 : SlF dT_api_Layer yg104.Layers v112) (s114 : Stamp) (H106 : Go.Ev.H) (_ : Fm 87 h [] [(1, s114, List.map C.v [(.p (.int .i64 yg104.Kind)), (.p (.int .i64 yg104.Cap)), v112, (.p (.int .i64 yg104.Peer)), (.p (.int .i64 yg104.Height)), (.p (.int .i64 yg104.Class)), (.p (.int .i64 yg104.Layer)), (.p (.int .i64 yg104.Code))])] [⟨[34, 74], v108, (dI .u8), x5⟩] H106) {σ : Stamp}, Sim (p_ctl_Bytes_l1 k kE0 x5 x54 x55 x56 yg104) ((cvL G X0 ctl_Bytes_c1 ctl_Bytes_l1 σ (envL [(1, (.ref ⟨h.length, 1, 0, s114, []⟩ 0)), (5, v108), (54, v110), (55, (.p (.int .i64 x55))), (56, (.p (.int .i64 x56)))]) H106).bind K) Q := by
  induction k with
  | zero => intros; exact Sim.no
  | succ k ih =>
    intro x5 x54 x55 x56 yg104 v108 v110 h111 v112 h113 s114 H106 S107 σ
    rw [p_ctl_Bytes_l1]
    refine Sim.round (Sim.ext (ctl_Bytes_r1 _ _ _ _ _ _ _ _ _) ?_)
    refine Sim.cd (fun hc => ?_) (fun hc => ?_)
    · refine Sim.bd fun a116 h117 => ?_
      refine Sim.op ((h111.h H106).iS h117 rfl) ?_
      obtain ⟨w119, h120, hE118⟩ := (h111.h H106).el h117 rfl
      obtain rfl := dT_struct_name_int_size_int_n_int64.inv h120
      refine Sim.op (hE118.all (by simp)) ?_
      obtain ⟨H121, e122, S123⟩ := S107.al (d := 9) (s := (2 :: 0 :: 0 :: 1 :: 1 :: 0 :: σ)) (z := [(.p (.int .i64 0)), (.p (.int .i64 0)), (.p (.int .i64 0))]) (by decide) rfl
      refine Sim.op (congrArg some e122) ?_
      obtain ⟨H125, e126, S127⟩ := S123.stGv (i := 0) (j := 0) (own := false) (σ := (3 :: 0 :: 0 :: 1 :: 1 :: 0 :: σ)) (xs := [.p (.int .i64 a116.name), .p (.int .i64 a116.size), .p (.int .i64 a116.n)]) rfl rfl (stills_cons (still_int _ _) (stills_cons (still_int _ _) (stills_cons (still_int _ _) stills_nil))) rfl rfl
      refine Sim.op (st_map e126) ?_
      refine Sim.op (fA_ref _ _ _) ?_
      refine Sim.op ((S127.atG (i := 1) rfl).ld (j := 0) rfl) ?_
      refine Sim.op (castI_p _ _) ?_
      refine Sim.op (fA_ref _ _ _) ?_
      refine Sim.op ((S127.atG (i := 0) rfl).ld (j := 0) rfl) ?_
      refine Sim.op (castI_p _ _) ?_
      refine Sim.call (ctl_has_ok yg104.Kind a116.name) fun r128 cs129 H130 h131 q132 => ?_
      cases q132
      refine Sim.op (asB_p _) ?_
      refine Sim.cd (fun hc => ?_) (fun hc => ?_)
      · refine Sim.op (fA_ref _ _ _) ?_
        refine Sim.op ((S127.atG (i := 0) rfl).ld (j := 0) rfl) ?_
        refine Sim.op (castI_p _ _) ?_
        refine Sim.op (fA_ref _ _ _) ?_
        refine Sim.op ((S127.atG (i := 0) rfl).ld (j := 2) rfl) ?_
        refine Sim.op (castI_p _ _) ?_
        refine Sim.op (fA_ref _ _ _) ?_
        refine Sim.op ((S127.atG (i := 0) rfl).ld (j := 1) rfl) ?_
        refine Sim.op (castI_p _ _) ?_
        refine Sim.call (octet_Put_ok k (([] : List Int)) ((SlF.nil (dI .u8)).h H125) (IntKind.wrap .u64 a116.n) a116.size) fun r133 cs134 H135 h136 q137 => ?_
        obtain ⟨c138, cs139, h140, h141, q137⟩ := q137
        cases q137
        obtain ⟨v142, H143, e144, S145⟩ := S127.land (dt := (dI .u8)) (d := 73) (e := 0) (n := 0) h140 h141 (by decide) rfl
        erw [e144]
        refine Sim.nd ((S145.atG (i := 0) rfl).ld (j := 0) rfl) ?_
        refine Sim.call (ctl_field_ok x5 (S145.ownA (i := 1) rfl) a116.name r133 (fun _ hk => (S145.killA (i := 1) rfl rfl hk).sl (i := 0) rfl)) fun r147 cs148 H149 h150 q151 => ?_
        obtain ⟨c152, cs153, h154, h155, h156, q151⟩ := q151
        obtain rfl : cs148 = [c152] := q151
        have S157 := S145.killA (i := 1) rfl rfl h156
        obtain ⟨v158, H159, e160, S161⟩ := S157.land (dt := (dI .u8)) (d := 74) (e := 0) (n := 0) h154 h155 (by decide) rfl
        erw [e160]
        exact ih r147 x54 x55 (IntKind.wrap .i64 (x56 + 1)) ((⟨yg104.Kind, yg104.Cap, yg104.Layers, yg104.Peer, yg104.Height, yg104.Class, yg104.Layer, yg104.Code⟩ : T_api_Ctl)) v158 v110 h111 v112 h113 s114 H159 (S161.wk2 (all_cons (at_mem 1 rfl) all_nil) (all_cons ⟨[74], by simp, at_mem 0 rfl⟩ all_nil))
      · exact ih x5 x54 x55 (IntKind.wrap .i64 (x56 + 1)) ((⟨yg104.Kind, yg104.Cap, yg104.Layers, yg104.Peer, yg104.Height, yg104.Class, yg104.Layer, yg104.Code⟩ : T_api_Ctl)) v108 v110 h111 v112 h113 s114 H125 (S127.wk2 (all_cons (at_mem 1 rfl) all_nil) (all_cons ⟨[34, 74], by simp, at_mem 0 rfl⟩ all_nil))
    · exact hE0 x5 ((⟨yg104.Kind, yg104.Cap, yg104.Layers, yg104.Peer, yg104.Height, yg104.Class, yg104.Layer, yg104.Code⟩ : T_api_Ctl)) v108 v112 h113 s114 H106 (S107.wk2 (all_cons (at_mem 0 rfl) all_nil) (all_cons ⟨[34, 74], by simp, at_mem 0 rfl⟩ all_nil))
theorem ctl_Bytes_ok (k : Nat) {h : H} {σ : Stamp} (x0 : T_api_Ctl) {u0 : List V} (hu0 : dT_api_Ctl.R x0 u0) : Sim (p_ctl_Bytes k x0) (ev G X0 29 σ [(.agg u0)] h) (fun r s => ∃ (v0 : V), SlF (dI .u8) r.1 v0 ∧ s = ([.v v0, .v (.p (.int .i64 r.2))], h)) := by
  refine Sim.ev rfl (Sim.ext (ctl_Bytes_entry _ _ _ _ _) ?_)
  rw [p_ctl_Bytes]
  obtain ⟨v1, rfl, h2⟩ := dT_api_Ctl.inv hu0
  have S0 : Fm 87 h [] [] [] (List.replicate 87 [] :: h) := Fm.start0
  obtain ⟨H3, e4, S5⟩ := S0.box (own := false) (d := 1) (s := (0 :: 0 :: 0 :: σ)) (xs := [(.p (.int .i64 x0.Kind)), (.p (.int .i64 x0.Cap)), v1, (.p (.int .i64 x0.Peer)), (.p (.int .i64 x0.Height)), (.p (.int .i64 x0.Class)), (.p (.int .i64 x0.Layer)), (.p (.int .i64 x0.Code))]) (stills_cons (still_int _ _) (stills_cons (still_int _ _) (stills_cons h2.still (stills_cons (still_int _ _) (stills_cons (still_int _ _) (stills_cons (still_int _ _) (stills_cons (still_int _ _) (stills_cons (still_int _ _) stills_nil)))))))) (by decide) rfl
  refine Sim.op (e4) ?_
  refine Sim.op ((S5.atG (i := 0) rfl).ldVs (j := 0) (xs := [.p (.int .i64 x0.Kind), .p (.int .i64 x0.Cap), v1, .p (.int .i64 x0.Peer), .p (.int .i64 x0.Height), .p (.int .i64 x0.Class), .p (.int .i64 x0.Layer), .p (.int .i64 x0.Code)]) rfl rfl (by decide)) ?_
  refine Sim.call (ctl_Right_ok k ((⟨x0.Kind, x0.Cap, x0.Layers, x0.Peer, x0.Height, x0.Class, x0.Layer, x0.Code⟩ : T_api_Ctl)) (show dT_api_Ctl.R ((⟨x0.Kind, x0.Cap, x0.Layers, x0.Peer, x0.Height, x0.Class, x0.Layer, x0.Code⟩ : T_api_Ctl)) [.p (.int .i64 x0.Kind), .p (.int .i64 x0.Cap), v1, .p (.int .i64 x0.Peer), .p (.int .i64 x0.Height), .p (.int .i64 x0.Class), .p (.int .i64 x0.Layer), .p (.int .i64 x0.Code)] from (dT_api_Ctl.mk h2))) fun r7 cs8 H9 h10 q11 => ?_
  cases q11
  refine Sim.op (castI_p _ _) ?_
  refine Sim.cd (fun hc => ?_) (fun hc => ?_)
  · exact Sim.fin (S5.finN (lv_cons (SlF.nil (dI .u8)).still.lv (lv_cons (still_int _ _).lv lv_nil))) ⟨(.p (.slice none 0 0)), (SlF.nil (dI .u8)), rfl⟩
  · refine Sim.op (fA_ref _ _ _) ?_
    refine Sim.op ((S5.atG (i := 0) rfl).ld (j := 2) rfl) ?_
    refine Sim.op ((h2.h H3).len) ?_
    refine Sim.op (castI_p _ _) ?_
    have S95 := S5.nil (dI .u8) []
    refine Sim.as (ctl_Bytes_l0_ok ?_ k (([] : List Int)) x0.Layers ((x0.Layers.length : Int)) 0 ((⟨x0.Kind, x0.Cap, x0.Layers, x0.Peer, x0.Height, x0.Class, x0.Layer, x0.Code⟩ : T_api_Ctl)) (.p (.slice none 0 0)) v1 h2 v1 h2 (0 :: 0 :: 0 :: σ) H3 (S95.wk2 (all_cons (at_mem 0 rfl) all_nil) (all_cons ⟨[], by simp, at_mem 0 rfl⟩ all_nil))) 
    · intro r96_5 yg23 v99 v101 h102 s103 H97 S98
      refine Sim.ext (ctl_Bytes_a0_0 _ _ _ _ _ _) ?_
      refine Sim.op (fA_ref _ _ _) ?_
      refine Sim.op ((S98.atG (i := 0) rfl).ld (j := 1) rfl) ?_
      refine Sim.op (castI_p _ _) ?_
      refine Sim.op (bldV (pt_cons rfl (pt_cons rfl (pt_cons rfl pt_nil))) (by kernel_rfl : _ = some (.agg [.p (.int .i64 1), .p (.int .i64 8), .p (.int .i64 yg23.Cap)]))) ?_
      refine Sim.op (fA_ref _ _ _) ?_
      refine Sim.op ((S98.atG (i := 0) rfl).ld (j := 3) rfl) ?_
      refine Sim.op (castI_p _ _) ?_
      refine Sim.op (bldV (pt_cons rfl (pt_cons rfl (pt_cons rfl pt_nil))) (by kernel_rfl : _ = some (.agg [.p (.int .i64 3), .p (.int .i64 1), .p (.int .i64 yg23.Peer)]))) ?_
      refine Sim.op (fA_ref _ _ _) ?_
      refine Sim.op ((S98.atG (i := 0) rfl).ld (j := 4) rfl) ?_
      refine Sim.op (castI_p _ _) ?_
      refine Sim.op (bldV (pt_cons rfl (pt_cons rfl (pt_cons rfl pt_nil))) (by kernel_rfl : _ = some (.agg [.p (.int .i64 4), .p (.int .i64 2), .p (.int .i64 yg23.Height)]))) ?_
      refine Sim.op (fA_ref _ _ _) ?_
      refine Sim.op ((S98.atG (i := 0) rfl).ld (j := 5) rfl) ?_
      refine Sim.op (castI_p _ _) ?_
      refine Sim.op (bldV (pt_cons rfl (pt_cons rfl (pt_cons rfl pt_nil))) (by kernel_rfl : _ = some (.agg [.p (.int .i64 5), .p (.int .i64 1), .p (.int .i64 yg23.Class)]))) ?_
      refine Sim.op (fA_ref _ _ _) ?_
      refine Sim.op ((S98.atG (i := 0) rfl).ld (j := 6) rfl) ?_
      refine Sim.op (castI_p _ _) ?_
      refine Sim.op (bldV (pt_cons rfl (pt_cons rfl (pt_cons rfl pt_nil))) (by kernel_rfl : _ = some (.agg [.p (.int .i64 6), .p (.int .i64 1), .p (.int .i64 yg23.Layer)]))) ?_
      refine Sim.op (fA_ref _ _ _) ?_
      refine Sim.op ((S98.atG (i := 0) rfl).ld (j := 7) rfl) ?_
      refine Sim.op (castI_p _ _) ?_
      refine Sim.op (bldV (pt_cons rfl (pt_cons rfl (pt_cons rfl pt_nil))) (by kernel_rfl : _ = some (.agg [.p (.int .i64 7), .p (.int .i64 1), .p (.int .i64 yg23.Code)]))) ?_
      have h105 : SlF dT_struct_name_int_size_int_n_int64 [((⟨1, 8, yg23.Cap⟩ : T_struct_name_int_size_int_n_int64)), ((⟨3, 1, yg23.Peer⟩ : T_struct_name_int_size_int_n_int64)), ((⟨4, 2, yg23.Height⟩ : T_struct_name_int_size_int_n_int64)), ((⟨5, 1, yg23.Class⟩ : T_struct_name_int_size_int_n_int64)), ((⟨6, 1, yg23.Layer⟩ : T_struct_name_int_size_int_n_int64)), ((⟨7, 1, yg23.Code⟩ : T_struct_name_int_size_int_n_int64))] (.fz [(.p (.int .i64 1)), (.p (.int .i64 8)), (.p (.int .i64 yg23.Cap)), (.p (.int .i64 3)), (.p (.int .i64 1)), (.p (.int .i64 yg23.Peer)), (.p (.int .i64 4)), (.p (.int .i64 2)), (.p (.int .i64 yg23.Height)), (.p (.int .i64 5)), (.p (.int .i64 1)), (.p (.int .i64 yg23.Class)), (.p (.int .i64 6)), (.p (.int .i64 1)), (.p (.int .i64 yg23.Layer)), (.p (.int .i64 7)), (.p (.int .i64 1)), (.p (.int .i64 yg23.Code))] 6 3 true) := SlF.lit (cs := [(.p (.int .i64 1)), (.p (.int .i64 8)), (.p (.int .i64 yg23.Cap)), (.p (.int .i64 3)), (.p (.int .i64 1)), (.p (.int .i64 yg23.Peer)), (.p (.int .i64 4)), (.p (.int .i64 2)), (.p (.int .i64 yg23.Height)), (.p (.int .i64 5)), (.p (.int .i64 1)), (.p (.int .i64 yg23.Class)), (.p (.int .i64 6)), (.p (.int .i64 1)), (.p (.int .i64 yg23.Layer)), (.p (.int .i64 7)), (.p (.int .i64 1)), (.p (.int .i64 yg23.Code))]) (RL.cons (show dT_struct_name_int_size_int_n_int64.R ((⟨1, 8, yg23.Cap⟩ : T_struct_name_int_size_int_n_int64)) [.p (.int .i64 1), .p (.int .i64 8), .p (.int .i64 yg23.Cap)] from (dT_struct_name_int_size_int_n_int64.mk)) (RL.cons (show dT_struct_name_int_size_int_n_int64.R ((⟨3, 1, yg23.Peer⟩ : T_struct_name_int_size_int_n_int64)) [.p (.int .i64 3), .p (.int .i64 1), .p (.int .i64 yg23.Peer)] from (dT_struct_name_int_size_int_n_int64.mk)) (RL.cons (show dT_struct_name_int_size_int_n_int64.R ((⟨4, 2, yg23.Height⟩ : T_struct_name_int_size_int_n_int64)) [.p (.int .i64 4), .p (.int .i64 2), .p (.int .i64 yg23.Height)] from (dT_struct_name_int_size_int_n_int64.mk)) (RL.cons (show dT_struct_name_int_size_int_n_int64.R ((⟨5, 1, yg23.Class⟩ : T_struct_name_int_size_int_n_int64)) [.p (.int .i64 5), .p (.int .i64 1), .p (.int .i64 yg23.Class)] from (dT_struct_name_int_size_int_n_int64.mk)) (RL.cons (show dT_struct_name_int_size_int_n_int64.R ((⟨6, 1, yg23.Layer⟩ : T_struct_name_int_size_int_n_int64)) [.p (.int .i64 6), .p (.int .i64 1), .p (.int .i64 yg23.Layer)] from (dT_struct_name_int_size_int_n_int64.mk)) (RL.cons (show dT_struct_name_int_size_int_n_int64.R ((⟨7, 1, yg23.Code⟩ : T_struct_name_int_size_int_n_int64)) [.p (.int .i64 7), .p (.int .i64 1), .p (.int .i64 yg23.Code)] from (dT_struct_name_int_size_int_n_int64.mk)) RL.nil)))))) rfl rfl true
      refine Sim.op (bldS (pt_cons (c := [.p (.int .i64 1), .p (.int .i64 8), .p (.int .i64 yg23.Cap)]) rfl (pt_cons (c := [.p (.int .i64 3), .p (.int .i64 1), .p (.int .i64 yg23.Peer)]) rfl (pt_cons (c := [.p (.int .i64 4), .p (.int .i64 2), .p (.int .i64 yg23.Height)]) rfl (pt_cons (c := [.p (.int .i64 5), .p (.int .i64 1), .p (.int .i64 yg23.Class)]) rfl (pt_cons (c := [.p (.int .i64 6), .p (.int .i64 1), .p (.int .i64 yg23.Layer)]) rfl (pt_cons (c := [.p (.int .i64 7), .p (.int .i64 1), .p (.int .i64 yg23.Code)]) rfl pt_nil)))))) (by kernel_rfl : _ = some (.fz [(.p (.int .i64 1)), (.p (.int .i64 8)), (.p (.int .i64 yg23.Cap)), (.p (.int .i64 3)), (.p (.int .i64 1)), (.p (.int .i64 yg23.Peer)), (.p (.int .i64 4)), (.p (.int .i64 2)), (.p (.int .i64 yg23.Height)), (.p (.int .i64 5)), (.p (.int .i64 1)), (.p (.int .i64 yg23.Class)), (.p (.int .i64 6)), (.p (.int .i64 1)), (.p (.int .i64 yg23.Layer)), (.p (.int .i64 7)), (.p (.int .i64 1)), (.p (.int .i64 yg23.Code))] 6 3 true))) ?_
      refine Sim.op ((h105.h H97).len) ?_
      refine Sim.op (castI_p _ _) ?_
      refine Sim.as (ctl_Bytes_l1_ok ?_ k r96_5 ([((⟨1, 8, yg23.Cap⟩ : T_struct_name_int_size_int_n_int64)), ((⟨3, 1, yg23.Peer⟩ : T_struct_name_int_size_int_n_int64)), ((⟨4, 2, yg23.Height⟩ : T_struct_name_int_size_int_n_int64)), ((⟨5, 1, yg23.Class⟩ : T_struct_name_int_size_int_n_int64)), ((⟨6, 1, yg23.Layer⟩ : T_struct_name_int_size_int_n_int64)), ((⟨7, 1, yg23.Code⟩ : T_struct_name_int_size_int_n_int64))]) ((([((⟨1, 8, yg23.Cap⟩ : T_struct_name_int_size_int_n_int64)), ((⟨3, 1, yg23.Peer⟩ : T_struct_name_int_size_int_n_int64)), ((⟨4, 2, yg23.Height⟩ : T_struct_name_int_size_int_n_int64)), ((⟨5, 1, yg23.Class⟩ : T_struct_name_int_size_int_n_int64)), ((⟨6, 1, yg23.Layer⟩ : T_struct_name_int_size_int_n_int64)), ((⟨7, 1, yg23.Code⟩ : T_struct_name_int_size_int_n_int64))]).length : Int)) 0 ((⟨yg23.Kind, yg23.Cap, yg23.Layers, yg23.Peer, yg23.Height, yg23.Class, yg23.Layer, yg23.Code⟩ : T_api_Ctl)) v99 (.fz [(.p (.int .i64 1)), (.p (.int .i64 8)), (.p (.int .i64 yg23.Cap)), (.p (.int .i64 3)), (.p (.int .i64 1)), (.p (.int .i64 yg23.Peer)), (.p (.int .i64 4)), (.p (.int .i64 2)), (.p (.int .i64 yg23.Height)), (.p (.int .i64 5)), (.p (.int .i64 1)), (.p (.int .i64 yg23.Class)), (.p (.int .i64 6)), (.p (.int .i64 1)), (.p (.int .i64 yg23.Layer)), (.p (.int .i64 7)), (.p (.int .i64 1)), (.p (.int .i64 yg23.Code))] 6 3 true) h105 v101 h102 s103 H97 (S98.wk2 (all_cons (at_mem 0 rfl) all_nil) (all_cons ⟨[34], by simp, at_mem 0 rfl⟩ all_nil))) 
      · intro r171_5 yg115 v174 v176 h177 s178 H172 S173
        refine Sim.ext (ctl_Bytes_a1_2 _ _ _ _ _ _) ?_
        refine Sim.op (fA_ref _ _ _) ?_
        refine Sim.op ((S173.atG (i := 0) rfl).ld (j := 0) rfl) ?_
        refine Sim.op (castI_p _ _) ?_
        have h180 : SlF (dI .u8) [(IntKind.wrap .u8 yg115.Kind)] (.fz [(.p (.int .u8 (IntKind.wrap .u8 yg115.Kind)))] 1 1 true) := SlF.lit (cs := [(.p (.int .u8 (IntKind.wrap .u8 yg115.Kind)))]) (RL.cons (show (dI .u8).R (IntKind.wrap .u8 yg115.Kind) [(.p (.int .u8 (IntKind.wrap .u8 yg115.Kind)))] from rfl) RL.nil) rfl rfl true
        refine Sim.op (bldS (pt_cons rfl pt_nil) (by kernel_rfl : _ = some (.fz [(.p (.int .u8 (IntKind.wrap .u8 yg115.Kind)))] 1 1 true))) ?_
        refine Sim.op ((S173.sl (i := 0) rfl).len) ?_
        refine Sim.op (castI_p _ _) ?_
        refine Sim.call (octet_Put_ok k ([(IntKind.wrap .u8 yg115.Kind)]) (h180.h H172) (IntKind.wrap .u64 ((r171_5.length : Int))) 2) fun r181 cs182 H183 h184 q185 => ?_
        obtain ⟨c186, cs187, h188, h189, q185⟩ := q185
        cases q185
        obtain ⟨v190, H191, e192, S193⟩ := S173.land (dt := (dI .u8)) (d := 83) (e := 0) (n := 0) h188 h189 (by decide) rfl
        erw [e192]
        refine Sim.op (bldS (pt_cons (S193.cellsD (i := 0) rfl) (pt_cons (S193.cellsD (i := 1) rfl) pt_nil)) (by kernel_rfl : _ = some (.fz [v190, v174] 2 1 true))) ?_
        obtain ⟨v195, H196, e197, h198, S199⟩ := S193.layD (i := 0) rfl rfl
        obtain ⟨v200, H201, e202, h203, S204⟩ := S199.layD (i := 0) rfl rfl
        have h205 : SlF (dSl (dI .u8)) [r181, r171_5] (.fz [v195, v200] 2 1 true) := SlF.lit (cs := [v195, v200]) (RL.cons (show (dSl (dI .u8)).R r181 [v195] from ⟨_, rfl, h198⟩) (RL.cons (show (dSl (dI .u8)).R r171_5 [v200] from ⟨_, rfl, h203⟩) RL.nil)) rfl rfl true
        erw [callFO_eq (frzAs_cons (frzA_fz (frzCs_cons e197 (frzCs_cons e202 frzCs_nil))) frzAs_nil)]
        refine Sim.call (slices_Concat_Lbyte_byte_ok k ([r181, r171_5]) (h205.h H201)) fun r206 cs207 H208 h209 q210 => ?_
        obtain ⟨c211, cs212, h213, h214, q210⟩ := q210
        cases q210
        obtain ⟨v215, H216, e217, S218⟩ := S204.land (dt := (dI .u8)) (d := 86) (e := 0) (n := 0) h213 h214 (by decide) rfl
        erw [e217]
        obtain ⟨v225, H220, e221, h223, S222⟩ := S218.expFrz (i := 0) (τ := 0 :: 1 :: σ) rfl rfl
        exact Sim.fin (S222.finE (Ex.st e221 (Ex.pl (still_int _ _).lv Ex.nil))) ⟨v225, h223, rfl⟩
end Go.Ev
/- Equations, printed by tracer2.py. -/
namespace Go.Ev
open Go.Proofs
set_option linter.unusedVariables false
set_option maxRecDepth 100000
-- 30 limelight/ctl.Read
noncomputable def ctl_Read_c0 : Code := (codeAt (bodyOf Try.f30) [1, 1, 1, 1, 0, 1, 0, 0])
def ctl_Read_l0 : Lv := ⟨69, 12, [(0, 69)]⟩
noncomputable def ctl_Read_k0 (rec : CallF) (loop : LoopV) (σ : Stamp) : Exit → Env → H → Option (List C × H) := (kBlock 0 (kSeq G rec loop (codeAt (bodyOf Try.f30) [1, 1, 1, 1, 1]) ⟨12, 12, []⟩ (1 :: 1 :: 1 :: 1 :: 0 :: σ) (finC G false Try.f30 (1 :: σ))))
theorem ctl_Read_entry (rec : CallF) (loop : LoopV) (σ : Stamp) (x0 : V) (h : H) : cvBody G rec loop 30 σ [x0] h =
 (some (alO [.p (.int .i64 0), .p (.int .i64 0), .p (.slice none 0 0), .p (.int .i64 0), .p (.int .i64 0), .p (.int .i64 0), .p (.int .i64 0), .p (.int .i64 0)] (0 :: 0 :: 0 :: σ) 2 (List.replicate 82 [] :: h))).bind fun q1 =>
 (callO rec 70 (1 :: 0 :: 1 :: 0 :: σ) [x0, (.p (.int .i64 1)), (.p (.int .i64 2))] q1.2 (some 14)).bind fun q2 =>
 (extV q2.1 0).bind fun t3 =>
 (castI .u64 t3).bind fun n4 =>
 (extV q2.1 1).bind fun t5 =>
 (asB t5).bind fun b6 =>
 (lenO x0).bind fun t7 =>
 (castI .i64 t7).bind fun n8 =>
 (bif decide (n8 < 3) then (some true) else ((lenO x0).bind fun t9 =>
 (castI .i64 t9).bind fun n10 =>
 some (decide ((IntKind.wrap .i64 (n10 - 3)) < (IntKind.wrap .i64 n4))))).bind fun b11 =>
 bif b11 then (
 (buildV Try.prog 58 []).bind fun t12 =>
 ((stO false 8 (1 :: 0 :: 1 :: 0 :: 1 :: 1 :: 0 :: σ) q2.2 q1.1 t12).map fun h => (udf, h)).bind fun q13 =>
 ((ldO true 8 q13.2 q1.1).bind fun t14 => ((some []).map ((.p (.int .i64 13)) :: ·)).map (t14 :: ·)).bind fun t15 => fin false σ q13.2 t15)
 else (
 (iS 1 x0 0).bind fun t16 =>
 (ldO false 1 q2.2 t16).bind fun t17 =>
 (castI .u8 t17).bind fun n18 =>
 (buildV Try.prog 58 [(0, (.p (.int .i64 (IntKind.wrap .i64 n18))))]).bind fun t19 =>
 (some (alO [.p (.int .i64 0), .p (.int .i64 0), .p (.slice none 0 0), .p (.int .i64 0), .p (.int .i64 0), .p (.int .i64 0), .p (.int .i64 0), .p (.int .i64 0)] (5 :: 0 :: 1 :: 1 :: 1 :: 0 :: σ) 6 q2.2)).bind fun q20 =>
 ((stO false 8 (6 :: 0 :: 1 :: 1 :: 1 :: 0 :: σ) q20.2 q20.1 t19).map fun h => (udf, h)).bind fun q21 =>
 (loop ctl_Read_c0 ctl_Read_l0 (1 :: 0 :: 1 :: 1 :: 1 :: 1 :: 0 :: σ) (envL [(0, x0), (2, q1.1), (6, q20.1), (7, (.p (.int .i64 3)))]) q21.2).bind fun r22 => ctl_Read_k0 rec loop σ r22.1 r22.2.1 r22.2.2) := by kernel_rfl
theorem ctl_Read_r0 (rec : CallF) (loop : LoopV) (σ : Stamp) (x0 : V) (x2 : V) (x6 : V) (x7 : Int) (h : H) : cvRound G rec loop ctl_Read_c0 ctl_Read_l0 σ (envL [(0, x0), (2, x2), (6, x6), (7, (.p (.int .i64 x7)))]) h =
 (lenO x0).bind fun t23 =>
 (castI .i64 t23).bind fun n24 =>
 bif decide ((IntKind.wrap .i64 (x7 + 1)) < n24) then (
 (iS 1 x0 (IntKind.wrap .i64 (x7 + 1))).bind fun t25 =>
 (ldO false 1 h t25).bind fun t26 =>
 (castI .u8 t26).bind fun n27 =>
 (callO rec 59 (9 :: 0 :: 1 :: 0 :: σ) [x0, (.p (.int .i64 (IntKind.wrap .i64 (x7 + 2)))), (.p (.int .i64 (IntKind.wrap .i64 n27)))] h (some 49)).bind fun q28 =>
 (extV q28.1 0).bind fun t29 =>
 (extV q28.1 1).bind fun t30 =>
 (asB t30).bind fun b31 =>
 bif !b31 then (
 (buildV Try.prog 58 []).bind fun t32 =>
 ((stO false 8 (1 :: 0 :: 1 :: 0 :: 1 :: 1 :: 0 :: σ) q28.2 x2 t32).map fun h => (udf, h)).bind fun q33 =>
 some (.ret, (envL [(2, x2), (3, (.p (.int .i64 12)))]), q33.2))
 else (
 (iS 1 x0 x7).bind fun t34 =>
 (ldO false 1 q28.2 t34).bind fun t35 =>
 (castI .u8 t35).bind fun n36 =>
 (callO rec 71 (6 :: 0 :: 1 :: 1 :: 1 :: 0 :: σ) [x6, (.p (.int .i64 (IntKind.wrap .i64 n36))), t29] q28.2 (some 61)).bind fun q37 =>
 (lenO t29).bind fun t38 =>
 (castI .i64 t38).bind fun n39 =>
 loop ctl_Read_c0 ctl_Read_l0 (1 :: σ) (envL [(0, x0), (2, x2), (6, x6), (7, (.p (.int .i64 (IntKind.wrap .i64 (x7 + (IntKind.wrap .i64 (2 + n39)))))))]) q37.2))
 else (
 some ((.exit 0), (envL [(0, x0), (2, x2), (6, x6)]), h)) := by kernel_rfl
theorem ctl_Read_a0_0 (rec : CallF) (loop : LoopV) (σ : Stamp) (x0 : V) (x2 : V) (x6 : V) (h : H) : ctl_Read_k0 rec loop σ (.exit 0) (envL [(0, x0), (2, x2), (6, x6)]) h =
 (ldO true 8 h x6).bind fun t40 =>
 (callFO rec 29 (1 :: 0 :: 0 :: 1 :: 1 :: 1 :: 1 :: 1 :: 0 :: σ) [t40] h (some 69)).bind fun q41 =>
 (extV q41.1 0).bind fun t42 =>
 (extV q41.1 1).bind fun t43 =>
 (castI .i64 t43).bind fun n44 =>
 (bif n44 != 0 then (some ((.p (.bool true)), q41.2)) else ((callO rec 72 (5 :: 0 :: 1 :: 0 :: 1 :: 1 :: 1 :: 1 :: 1 :: 0 :: σ) [t42, x0] q41.2 (some 77)).bind fun q45 =>
 (asB q45.1).bind fun b46 =>
 some ((.p (.bool (!b46))), q45.2))).bind fun q47 =>
 (asB q47.1).bind fun b48 =>
 bif b48 then (
 (buildV Try.prog 58 []).bind fun t49 =>
 ((stO false 8 (1 :: 0 :: 1 :: 1 :: 0 :: 1 :: 1 :: 1 :: 1 :: 1 :: 0 :: σ) q47.2 x2 t49).map fun h => (udf, h)).bind fun q50 =>
 ((ldO true 8 q50.2 x2).bind fun t51 => ((some []).map ((.p (.int .i64 12)) :: ·)).map (t51 :: ·)).bind fun t52 => fin false σ q50.2 t52)
 else (
 (ldO true 8 q47.2 x6).bind fun t53 =>
 ((stO false 8 (1 :: 0 :: 1 :: 1 :: 1 :: 1 :: 1 :: 1 :: 0 :: σ) q47.2 x2 t53).map fun h => (udf, h)).bind fun q54 =>
 ((ldO true 8 q54.2 x2).bind fun t55 => ((some []).map ((.p (.int .i64 0)) :: ·)).map (t55 :: ·)).bind fun t56 => fin false σ q54.2 t56) := by kernel_rfl
theorem ctl_Read_a0_ret (rec : CallF) (loop : LoopV) (σ : Stamp) (x2 : V) (x3 : Int) (h : H) : ctl_Read_k0 rec loop σ .ret (envL [(2, x2), (3, (.p (.int .i64 x3)))]) h =
 ((ldO true 8 h x2).bind fun t57 => ((some []).map ((.p (.int .i64 x3)) :: ·)).map (t57 :: ·)).bind fun t58 => fin false σ h t58 := by kernel_rfl
end Go.Ev
/- Equations, printed by tracer2.py. -/
namespace Go.Ev
open Go.Proofs
set_option linter.unusedVariables false
set_option maxRecDepth 100000
-- 71 limelight/ctl.take
theorem ctl_take_entry (rec : CallF) (loop : LoopV) (σ : Stamp) (x0 : V) (x1 : Int) (x2 : V) (h : H) : cvBody G rec loop 71 σ [x0, (.p (.int .i64 x1)), x2] h =
 (lenO x2).bind fun t1 =>
 (castI .i64 t1).bind fun n2 =>
 (callO rec 70 (3 :: 0 :: 0 :: σ) [x2, (.p (.int .i64 0)), (.p (.int .i64 n2))] (List.replicate 105 [] :: h) (some 18)).bind fun q3 =>
 (extV q3.1 0).bind fun t4 =>
 (castI .u64 t4).bind fun n5 =>
 (extV q3.1 1).bind fun t6 =>
 (asB t6).bind fun b7 =>
 bif x1 == 1 then (
 (nilChk x0).bind fun t8 =>
 (fA t8 1).bind fun t9 =>
 ((stO true 1 (5 :: 1 :: 1 :: 1 :: 0 :: σ) q3.2 t9 (.p (.int .i64 (IntKind.wrap .i64 n5)))).map fun h => (udf, h)).bind fun q10 =>
 fin false σ q10.2 [])
 else (
 bif x1 == 2 then (
 (callO rec 70 (1 :: 0 :: 1 :: 1 :: 1 :: 1 :: 0 :: σ) [x2, (.p (.int .i64 0)), (.p (.int .i64 4))] q3.2 (some 33)).bind fun q11 =>
 (extV q11.1 0).bind fun t12 =>
 (castI .u64 t12).bind fun n13 =>
 (extV q11.1 1).bind fun t14 =>
 (asB t14).bind fun b15 =>
 (callO rec 70 (1 :: 0 :: 1 :: 1 :: 1 :: 1 :: 1 :: 0 :: σ) [x2, (.p (.int .i64 4)), (.p (.int .i64 2))] q11.2 (some 38)).bind fun q16 =>
 (extV q16.1 0).bind fun t17 =>
 (castI .u64 t17).bind fun n18 =>
 (extV q16.1 1).bind fun t19 =>
 (asB t19).bind fun b20 =>
 (lenO x2).bind fun t21 =>
 (castI .i64 t21).bind fun n22 =>
 (lenO x2).bind fun t23 =>
 (castI .i64 t23).bind fun n24 =>
 (callO rec 59 (9 :: 0 :: 1 :: 1 :: 1 :: 1 :: 1 :: 1 :: 0 :: σ) [x2, (.p (.int .i64 ((if n22 < 6 then n22 else 6)))), (.p (.int .i64 ((if (IntKind.wrap .i64 ((IntKind.wrap .i64 (n24 - 4)) - 2)) > 0 then (IntKind.wrap .i64 ((IntKind.wrap .i64 (n24 - 4)) - 2)) else 0))))] q16.2 (some 51)).bind fun q25 =>
 (extV q25.1 0).bind fun t26 =>
 (extV q25.1 1).bind fun t27 =>
 (asB t27).bind fun b28 =>
 (nilChk x0).bind fun t29 =>
 (fA t29 2).bind fun t30 =>
 (ldO false 1 q25.2 t30).bind fun t31 =>
 (strO q25.2 t26).bind fun t32 =>
 (castS t32).bind fun s33 =>
 (buildV Try.prog 70 [(0, (.p (.string s33))), (1, (.p (.int .u32 (IntKind.wrap .u32 n13)))), (2, (.p (.int .i64 (IntKind.wrap .i64 n18))))]).bind fun t34 =>
 (buildSliceV Try.prog 56 1 [(0, t34)]).bind fun t35 =>
 (apO false 3 32 (13 :: 1 :: 1 :: 1 :: 1 :: 1 :: 1 :: 1 :: 0 :: σ) 67 q25.2 t31 t35).bind fun q36 =>
 (nilChk x0).bind fun t37 =>
 (fA t37 2).bind fun t38 =>
 ((stO true 1 (16 :: 1 :: 1 :: 1 :: 1 :: 1 :: 1 :: 1 :: 0 :: σ) q36.2 t38 q36.1).map fun h => (udf, h)).bind fun q39 =>
 fin false σ q39.2 [])
 else (
 bif x1 == 3 then (
 (nilChk x0).bind fun t40 =>
 (fA t40 3).bind fun t41 =>
 ((stO true 1 (5 :: 1 :: 1 :: 1 :: 1 :: 1 :: 0 :: σ) q3.2 t41 (.p (.int .i64 (IntKind.wrap .i64 n5)))).map fun h => (udf, h)).bind fun q42 =>
 fin false σ q42.2 [])
 else (
 bif x1 == 4 then (
 (nilChk x0).bind fun t43 =>
 (fA t43 4).bind fun t44 =>
 ((stO true 1 (5 :: 1 :: 1 :: 1 :: 1 :: 1 :: 1 :: 0 :: σ) q3.2 t44 (.p (.int .i64 (IntKind.wrap .i64 n5)))).map fun h => (udf, h)).bind fun q45 =>
 fin false σ q45.2 [])
 else (
 bif x1 == 5 then (
 (nilChk x0).bind fun t46 =>
 (fA t46 5).bind fun t47 =>
 ((stO true 1 (5 :: 1 :: 1 :: 1 :: 1 :: 1 :: 1 :: 1 :: 0 :: σ) q3.2 t47 (.p (.int .i64 (IntKind.wrap .i64 n5)))).map fun h => (udf, h)).bind fun q48 =>
 fin false σ q48.2 [])
 else (
 bif x1 == 6 then (
 (nilChk x0).bind fun t49 =>
 (fA t49 6).bind fun t50 =>
 ((stO true 1 (5 :: 1 :: 1 :: 1 :: 1 :: 1 :: 1 :: 1 :: 1 :: 0 :: σ) q3.2 t50 (.p (.int .i64 (IntKind.wrap .i64 n5)))).map fun h => (udf, h)).bind fun q51 =>
 fin false σ q51.2 [])
 else (
 bif x1 == 7 then (
 (nilChk x0).bind fun t52 =>
 (fA t52 7).bind fun t53 =>
 ((stO true 1 (5 :: 1 :: 1 :: 1 :: 1 :: 1 :: 1 :: 1 :: 1 :: 1 :: 0 :: σ) q3.2 t53 (.p (.int .i64 (IntKind.wrap .i64 n5)))).map fun h => (udf, h)).bind fun q54 =>
 fin false σ q54.2 [])
 else (
 fin false σ q3.2 []))))))) := by kernel_rfl
end Go.Ev
/- Equations, printed by tracer2.py. -/
namespace Go.Ev
open Go.Proofs
set_option linter.unusedVariables false
set_option maxRecDepth 100000
-- 70 limelight/octet.Get
noncomputable def octet_Get_c0 : Code := (codeAt (bodyOf Try.f70) [1, 1, 1, 1, 0, 1, 0, 0])
def octet_Get_l0 : Lv := ⟨1024, 192, [(0, 1024)]⟩
noncomputable def octet_Get_k0 (rec : CallF) (loop : LoopV) (σ : Stamp) : Exit → Env → H → Option (List C × H) := (kBlock 0 (kSeq G rec loop (codeAt (bodyOf Try.f70) [1, 1, 1, 1, 1]) ⟨192, 192, []⟩ (1 :: 1 :: 1 :: 1 :: 0 :: σ) (finC G false Try.f70 (1 :: σ))))
theorem octet_Get_entry (rec : CallF) (loop : LoopV) (σ : Stamp) (x0 : V) (x1 : Int) (x2 : Int) (h : H) : cvBody G rec loop 70 σ [x0, (.p (.int .i64 x1)), (.p (.int .i64 x2))] h =
 (callO rec 59 (3 :: 0 :: 1 :: 0 :: σ) [x0, (.p (.int .i64 x1)), (.p (.int .i64 x2))] (List.replicate 43 [] :: h) (some 17)).bind fun q1 =>
 (extV q1.1 0).bind fun t2 =>
 (extV q1.1 1).bind fun t3 =>
 (asB t3).bind fun b4 =>
 (bif !b4 then (some true) else (some (decide (x2 < 1)))).bind fun b5 =>
 (bif b5 then (some true) else (some (decide (x2 > 8)))).bind fun b6 =>
 bif b6 then (
 fin false σ q1.2 [(.p (.int .u64 0)), (.p (.bool false))])
 else (
 (lenO t2).bind fun t7 =>
 (castI .i64 t7).bind fun n8 =>
 (loop octet_Get_c0 octet_Get_l0 (1 :: 0 :: 1 :: 1 :: 1 :: 1 :: 0 :: σ) (envL [(10, (.p (.int .u64 0))), (30, t2), (31, (.p (.int .i64 n8))), (32, (.p (.int .i64 0)))]) q1.2).bind fun r9 => octet_Get_k0 rec loop σ r9.1 r9.2.1 r9.2.2) := by kernel_rfl
theorem octet_Get_r0 (rec : CallF) (loop : LoopV) (σ : Stamp) (x10 : Int) (x30 : V) (x31 : Int) (x32 : Int) (h : H) : cvRound G rec loop octet_Get_c0 octet_Get_l0 σ (envL [(10, (.p (.int .u64 x10))), (30, x30), (31, (.p (.int .i64 x31))), (32, (.p (.int .i64 x32)))]) h =
 bif decide (x32 < x31) then (
 (iS 1 x30 x32).bind fun t10 =>
 (ldO false 1 h t10).bind fun t11 =>
 (castI .u8 t11).bind fun n12 =>
 loop octet_Get_c0 octet_Get_l0 (1 :: σ) (envL [(10, (.p (.int .u64 (intBits .or .u64 (IntKind.wrap .u64 (x10 * 2 ^ 8)) (IntKind.wrap .u64 n12))))), (30, x30), (31, (.p (.int .i64 x31))), (32, (.p (.int .i64 (IntKind.wrap .i64 (x32 + 1)))))]) h)
 else (
 some ((.exit 0), (envL [(10, (.p (.int .u64 x10)))]), h)) := by kernel_rfl
theorem octet_Get_a0_0 (rec : CallF) (loop : LoopV) (σ : Stamp) (x10 : Int) (h : H) : octet_Get_k0 rec loop σ (.exit 0) (envL [(10, (.p (.int .u64 x10)))]) h =
 fin false σ h [(.p (.int .u64 x10)), (.p (.bool true))] := by kernel_rfl
end Go.Ev
/- Lifted by lift.py: octet_Get as a plain function. -/
namespace Go.Ev
open Go.Proofs
set_option linter.unusedVariables false
set_option linter.unusedSimpArgs false
set_option maxRecDepth 100000
def p_octet_Get_l0 {β : Type} (k : Nat) (kE0 : Int → Option β) (x10 : Int) (x30 : (List Int)) (x31 : Int) (x32 : Int) : Option β := match k with
| 0 => none
| k + 1 =>
bif decide (x32 < x31) then (
(ix x30 x32).bind fun a20 =>
p_octet_Get_l0 k kE0 (intBits .or .u64 (IntKind.wrap .u64 (x10 * 2 ^ 8)) (IntKind.wrap .u64 a20)) x30 x31 (IntKind.wrap .i64 (x32 + 1)))
else (
kE0 x10)
def p_octet_Get (k : Nat) (x0 : (List Int)) (x1 : Int) (x2 : Int) : Option (Int × Bool) :=
(p_octet_Cut x0 x1 x2).bind fun r1 =>
(bif !r1.2 then (some true) else (some (decide (x2 < 1)))).bind fun b8 =>
(bif b8 then (some true) else (some (decide (x2 > 8)))).bind fun b12 =>
bif b12 then (
some (0, false))
else (
p_octet_Get_l0 k (fun r25_10 =>
some (r25_10, true)) 0 r1.1 ((r1.1.length : Int)) 0)
theorem octet_Get_l0_ok {h : H}  {β α : Type} {Q : β → α → Prop} {K : Exit × Env × H → Option α} {kE0 : Int → Option β} (hE0 : ∀ (q10 : Int) (H23 : Go.Ev.H) (_ : Fm 43 h [] [] [] H23), Sim (kE0 q10) (K ((.exit 0), (envL [(10, (.p (.int .u64 q10)))]), H23)) Q) (k : Nat) : ∀ (x10 : Int) (x30 : (List Int)) (x31 : Int) (x32 : Int) (v18 : V) (h19 : SlF (dI .u8) x30 v18) (H16 : Go.Ev.H) (_ : Fm 43 h [] [] [] H16) {σ : Stamp}, Sim (p_octet_Get_l0 k kE0 x10 x30 x31 x32) ((cvL G X0 octet_Get_c0 octet_Get_l0 σ (envL [(10, (.p (.int .u64 x10))), (30, v18), (31, (.p (.int .i64 x31))), (32, (.p (.int .i64 x32)))]) H16).bind K) Q := by
  induction k with
  | zero => intros; exact Sim.no
  | succ k ih =>
    intro x10 x30 x31 x32 v18 h19 H16 S17 σ
    rw [p_octet_Get_l0]
    refine Sim.round (Sim.ext (octet_Get_r0 _ _ _ _ _ _ _ _) ?_)
    refine Sim.cd (fun hc => ?_) (fun hc => ?_)
    · refine Sim.bd fun a20 h21 => ?_
      refine Sim.op ((h19.h H16).iS h21 rfl) ?_
      obtain ⟨_, rfl, hE22⟩ := (h19.h H16).el h21 rfl
      refine Sim.op (hE22.ld (j := 0) rfl) ?_
      refine Sim.op (castI_p _ _) ?_
      exact ih (intBits .or .u64 (IntKind.wrap .u64 (x10 * 2 ^ 8)) (IntKind.wrap .u64 a20)) x30 x31 (IntKind.wrap .i64 (x32 + 1)) v18 h19 H16 (S17.wk2 all_nil all_nil)
    · exact hE0 x10 H16 (S17.wk2 all_nil all_nil)
theorem octet_Get_ok (k : Nat) {h : H} {σ : Stamp} (x0 : List Int) {u0 : V} (hu0 : SlH h (dI .u8) x0 u0) (x1 : Int) (x2 : Int) : Sim (p_octet_Get k x0 x1 x2) (ev G X0 70 σ [u0, (.p (.int .i64 x1)), (.p (.int .i64 x2))] h) (fun r s => s = ([.v (.p (.int .u64 r.1)), .v (.p (.bool r.2))], h)) := by
  refine Sim.ev rfl (Sim.ext (octet_Get_entry _ _ _ _ _ _ _) ?_)
  rw [p_octet_Get]
  have S0 : Fm 43 h [] [] [] (List.replicate 43 [] :: h) := Fm.start0
  refine Sim.call (octet_Cut_ok x0 (S0.low hu0) x1 x2) fun r1 cs2 H3 h4 q5 => ?_
  obtain ⟨v6, h7, q5⟩ := q5
  cases q5
  refine Sim.op (rfl) ?_
  refine Sim.op (rfl) ?_
  refine Sim.op (asB_p _) ?_
  refine Sim.ch (P := fun r y => r = y) ?_ (fun b8 y9 h10 h11 => ?_)
  · refine Sim.cd (fun hc => ?_) (fun hc => ?_)
    · exact Sim.ret rfl rfl
    · exact Sim.ret rfl rfl
  subst h11
  refine Sim.ch (P := fun r y => r = y) ?_ (fun b12 y13 h14 h15 => ?_)
  · refine Sim.cd (fun hc => ?_) (fun hc => ?_)
    · exact Sim.ret rfl rfl
    · exact Sim.ret rfl rfl
  subst h15
  refine Sim.cd (fun hc => ?_) (fun hc => ?_)
  · exact Sim.fin (S0.finN (lv_cons (still_int _ _).lv (lv_cons (still_bool _).lv lv_nil))) rfl
  · refine Sim.op ((h7.h (List.replicate 43 [] :: h)).len) ?_
    refine Sim.op (castI_p _ _) ?_
    refine Sim.as (octet_Get_l0_ok ?_ k 0 r1.1 ((r1.1.length : Int)) 0 v6 h7 (List.replicate 43 [] :: h) (S0.wk2 all_nil all_nil)) 
    · intro r25_10 H26 S27
      refine Sim.ext (octet_Get_a0_0 _ _ _ _ _) ?_
      exact Sim.fin (S27.finN (lv_cons (still_int _ _).lv (lv_cons (still_bool _).lv lv_nil))) rfl
end Go.Ev
/- Lifted by lift.py: ctl_take as a plain function. -/
namespace Go.Ev
open Go.Proofs
set_option linter.unusedVariables false
set_option linter.unusedSimpArgs false
set_option maxRecDepth 100000
def p_ctl_take (k : Nat) (x0 : T_api_Ctl) (x1 : Int) (x2 : (List Int)) : Option (T_api_Ctl) :=
(p_octet_Get k x2 0 ((x2.length : Int))).bind fun r1 =>
bif x1 == 1 then (
some ((⟨x0.Kind, (IntKind.wrap .i64 r1.1), x0.Layers, x0.Peer, x0.Height, x0.Class, x0.Layer, x0.Code⟩ : T_api_Ctl)))
else (
bif x1 == 2 then (
(p_octet_Get k x2 0 4).bind fun r9 =>
(p_octet_Get k x2 4 2).bind fun r14 =>
(p_octet_Cut x2 ((if ((x2.length : Int)) < 6 then ((x2.length : Int)) else 6)) ((if (IntKind.wrap .i64 ((IntKind.wrap .i64 (((x2.length : Int)) - 4)) - 2)) > 0 then (IntKind.wrap .i64 ((IntKind.wrap .i64 (((x2.length : Int)) - 4)) - 2)) else 0))).bind fun r19 =>
(ap 32 x0.Layers ([((⟨(strB r19.1), (IntKind.wrap .u32 r9.1), (IntKind.wrap .i64 r14.1)⟩ : T_api_Layer))])).bind fun a27 =>
some ((⟨x0.Kind, x0.Cap, a27, x0.Peer, x0.Height, x0.Class, x0.Layer, x0.Code⟩ : T_api_Ctl)))
else (
bif x1 == 3 then (
some ((⟨x0.Kind, x0.Cap, x0.Layers, (IntKind.wrap .i64 r1.1), x0.Height, x0.Class, x0.Layer, x0.Code⟩ : T_api_Ctl)))
else (
bif x1 == 4 then (
some ((⟨x0.Kind, x0.Cap, x0.Layers, x0.Peer, (IntKind.wrap .i64 r1.1), x0.Class, x0.Layer, x0.Code⟩ : T_api_Ctl)))
else (
bif x1 == 5 then (
some ((⟨x0.Kind, x0.Cap, x0.Layers, x0.Peer, x0.Height, (IntKind.wrap .i64 r1.1), x0.Layer, x0.Code⟩ : T_api_Ctl)))
else (
bif x1 == 6 then (
some ((⟨x0.Kind, x0.Cap, x0.Layers, x0.Peer, x0.Height, x0.Class, (IntKind.wrap .i64 r1.1), x0.Code⟩ : T_api_Ctl)))
else (
bif x1 == 7 then (
some ((⟨x0.Kind, x0.Cap, x0.Layers, x0.Peer, x0.Height, x0.Class, x0.Layer, (IntKind.wrap .i64 r1.1)⟩ : T_api_Ctl)))
else (
some ((⟨x0.Kind, x0.Cap, x0.Layers, x0.Peer, x0.Height, x0.Class, x0.Layer, x0.Code⟩ : T_api_Ctl)))))))))
theorem ctl_take_ok (k : Nat) {h : H} {σ : Stamp} (x0 : T_api_Ctl) {c0_2 : C} (hc0_2 : SoC dT_api_Layer x0.Layers c0_2) (hn0_2 : ∀ v, c0_2 = .v v → v = .p (.slice none 0 0) ∨ v = .fz [] 0 3 true) {l0 : Loc} {o0 : Nat} (ha0 : AtC h l0 o0 ([.v (.p (.int .i64 x0.Kind)), .v (.p (.int .i64 x0.Cap)), c0_2, .v (.p (.int .i64 x0.Peer)), .v (.p (.int .i64 x0.Height)), .v (.p (.int .i64 x0.Class)), .v (.p (.int .i64 x0.Layer)), .v (.p (.int .i64 x0.Code))])) (x1 : Int) (x2 : List Int) {u2 : V} (hu2 : SlF (dI .u8) x2 u2) : Sim (p_ctl_take k x0 x1 x2) (ev G X0 71 σ [(.ref l0 o0), (.p (.int .i64 x1)), u2] h) (fun r s => ∃ (cb0_2 : C), SoC dT_api_Layer r.Layers cb0_2 ∧ (∀ v, cb0_2 = .v v → v = .p (.slice none 0 0) ∨ v = .fz [] 0 3 true) ∧ s = ([], pts h [⟨l0, o0, [.v (.p (.int .i64 r.Kind)), .v (.p (.int .i64 r.Cap)), cb0_2, .v (.p (.int .i64 r.Peer)), .v (.p (.int .i64 r.Height)), .v (.p (.int .i64 r.Class)), .v (.p (.int .i64 r.Layer)), .v (.p (.int .i64 r.Code))]⟩])) := by
  refine Sim.ev rfl (Sim.ext (ctl_take_entry _ _ _ _ _ _ _) ?_)
  rw [p_ctl_take]
  have S0 : Fm 105 h [⟨l0, o0, [.v (.p (.int .i64 x0.Kind)), .v (.p (.int .i64 x0.Cap)), c0_2, .v (.p (.int .i64 x0.Peer)), .v (.p (.int .i64 x0.Height)), .v (.p (.int .i64 x0.Class)), .v (.p (.int .i64 x0.Layer)), .v (.p (.int .i64 x0.Code))]⟩] [] [] (List.replicate 105 [] :: h) := Fm.start1 ha0
  refine Sim.op ((hu2.h (List.replicate 105 [] :: h)).len) ?_
  refine Sim.op (castI_p _ _) ?_
  refine Sim.call (octet_Get_ok k x2 (hu2.h (List.replicate 105 [] :: h)) 0 ((x2.length : Int))) fun r1 cs2 H3 h4 q5 => ?_
  cases q5
  refine Sim.op (rfl) ?_
  refine Sim.op (castI_p _ _) ?_
  refine Sim.op (rfl) ?_
  refine Sim.op (asB_p _) ?_
  refine Sim.cd (fun hc => ?_) (fun hc => ?_)
  · refine Sim.op (nilChk_ref _ _) ?_
    refine Sim.op (fA_ref _ _ _) ?_
    obtain ⟨H6, e7, S8⟩ := S0.stB (i := 0) (j := 1) (own := true) (σ := (5 :: 1 :: 1 :: 1 :: 0 :: σ)) (x := (.p (.int .i64 (IntKind.wrap .i64 r1.1)))) rfl (still_int _ _) rfl
    refine Sim.op (st_map e7) ?_
    exact Sim.fin (S8.finN lv_nil) ⟨c0_2, hc0_2, hn0_2, rfl⟩
  · refine Sim.cd (fun hc => ?_) (fun hc => ?_)
    · refine Sim.call (octet_Get_ok k x2 (hu2.h (List.replicate 105 [] :: h)) 0 4) fun r9 cs10 H11 h12 q13 => ?_
      cases q13
      refine Sim.op (rfl) ?_
      refine Sim.op (castI_p _ _) ?_
      refine Sim.op (rfl) ?_
      refine Sim.op (asB_p _) ?_
      refine Sim.call (octet_Get_ok k x2 (hu2.h (List.replicate 105 [] :: h)) 4 2) fun r14 cs15 H16 h17 q18 => ?_
      cases q18
      refine Sim.op (rfl) ?_
      refine Sim.op (castI_p _ _) ?_
      refine Sim.op (rfl) ?_
      refine Sim.op (asB_p _) ?_
      refine Sim.op ((hu2.h (List.replicate 105 [] :: h)).len) ?_
      refine Sim.op (castI_p _ _) ?_
      refine Sim.op ((hu2.h (List.replicate 105 [] :: h)).len) ?_
      refine Sim.op (castI_p _ _) ?_
      refine Sim.call (octet_Cut_ok x2 (hu2.h (List.replicate 105 [] :: h)) ((if ((x2.length : Int)) < 6 then ((x2.length : Int)) else 6)) ((if (IntKind.wrap .i64 ((IntKind.wrap .i64 (((x2.length : Int)) - 4)) - 2)) > 0 then (IntKind.wrap .i64 ((IntKind.wrap .i64 (((x2.length : Int)) - 4)) - 2)) else 0))) fun r19 cs20 H21 h22 q23 => ?_
      obtain ⟨v24, h25, q23⟩ := q23
      cases q23
      refine Sim.op (rfl) ?_
      refine Sim.op (rfl) ?_
      refine Sim.op (asB_p _) ?_
      refine Sim.op (nilChk_ref _ _) ?_
      refine Sim.op (fA_ref _ _ _) ?_
      refine Sim.op (hc0_2.ld (S0.atB (i := 0) rfl) (j := 2) rfl) ?_
      refine Sim.op ((h25.h (List.replicate 105 [] :: h)).str) ?_
      refine Sim.op (castS_p _) ?_
      refine Sim.op (bldV (pt_cons rfl (pt_cons rfl (pt_cons rfl pt_nil))) (by kernel_rfl : _ = some (.agg [.p (.string (strB r19.1)), .p (.int .u32 (IntKind.wrap .u32 r9.1)), .p (.int .i64 (IntKind.wrap .i64 r14.1))]))) ?_
      have h26 : SlF dT_api_Layer [((⟨(strB r19.1), (IntKind.wrap .u32 r9.1), (IntKind.wrap .i64 r14.1)⟩ : T_api_Layer))] (.fz [(.p (.string (strB r19.1))), (.p (.int .u32 (IntKind.wrap .u32 r9.1))), (.p (.int .i64 (IntKind.wrap .i64 r14.1)))] 1 3 true) := SlF.lit (cs := [(.p (.string (strB r19.1))), (.p (.int .u32 (IntKind.wrap .u32 r9.1))), (.p (.int .i64 (IntKind.wrap .i64 r14.1)))]) (RL.cons (show dT_api_Layer.R ((⟨(strB r19.1), (IntKind.wrap .u32 r9.1), (IntKind.wrap .i64 r14.1)⟩ : T_api_Layer)) [.p (.string (strB r19.1)), .p (.int .u32 (IntKind.wrap .u32 r9.1)), .p (.int .i64 (IntKind.wrap .i64 r14.1))] from (dT_api_Layer.mk)) RL.nil) rfl rfl true
      refine Sim.op (bldS (pt_cons (c := [.p (.string (strB r19.1)), .p (.int .u32 (IntKind.wrap .u32 r9.1)), .p (.int .i64 (IntKind.wrap .i64 r14.1))]) rfl pt_nil) (by kernel_rfl : _ = some (.fz [(.p (.string (strB r19.1))), (.p (.int .u32 (IntKind.wrap .u32 r9.1))), (.p (.int .i64 (IntKind.wrap .i64 r14.1)))] 1 3 true))) ?_
      refine Sim.bd fun a27 h28 => ?_
      obtain ⟨v29, c30, H31, e32, S33⟩ := S0.appB (i := 0) (j := 2) (d := 67) (e := 3) (own := false) (σ := (13 :: 1 :: 1 :: 1 :: 1 :: 1 :: 1 :: 1 :: 0 :: σ)) rfl rfl hc0_2 hn0_2 (h26.h (List.replicate 105 [] :: h)).y h28 (by simp) rfl (by decide) (by decide) rfl
      refine Sim.op (e32) ?_
      refine Sim.op (nilChk_ref _ _) ?_
      refine Sim.op (fA_ref _ _ _) ?_
      obtain ⟨c38, H35, e36, h39, h40, S37⟩ := S33.mvB (i := 0) (j := 2) (k := 0) (σ := (16 :: 1 :: 1 :: 1 :: 1 :: 1 :: 1 :: 1 :: 0 :: σ)) rfl rfl rfl rfl rfl
      refine Sim.op (st_map e36) ?_
      exact Sim.fin (S37.finN lv_nil) ⟨c38, h39, h40, rfl⟩
    · refine Sim.cd (fun hc => ?_) (fun hc => ?_)
      · refine Sim.op (nilChk_ref _ _) ?_
        refine Sim.op (fA_ref _ _ _) ?_
        obtain ⟨H41, e42, S43⟩ := S0.stB (i := 0) (j := 3) (own := true) (σ := (5 :: 1 :: 1 :: 1 :: 1 :: 1 :: 0 :: σ)) (x := (.p (.int .i64 (IntKind.wrap .i64 r1.1)))) rfl (still_int _ _) rfl
        refine Sim.op (st_map e42) ?_
        exact Sim.fin (S43.finN lv_nil) ⟨c0_2, hc0_2, hn0_2, rfl⟩
      · refine Sim.cd (fun hc => ?_) (fun hc => ?_)
        · refine Sim.op (nilChk_ref _ _) ?_
          refine Sim.op (fA_ref _ _ _) ?_
          obtain ⟨H44, e45, S46⟩ := S0.stB (i := 0) (j := 4) (own := true) (σ := (5 :: 1 :: 1 :: 1 :: 1 :: 1 :: 1 :: 0 :: σ)) (x := (.p (.int .i64 (IntKind.wrap .i64 r1.1)))) rfl (still_int _ _) rfl
          refine Sim.op (st_map e45) ?_
          exact Sim.fin (S46.finN lv_nil) ⟨c0_2, hc0_2, hn0_2, rfl⟩
        · refine Sim.cd (fun hc => ?_) (fun hc => ?_)
          · refine Sim.op (nilChk_ref _ _) ?_
            refine Sim.op (fA_ref _ _ _) ?_
            obtain ⟨H47, e48, S49⟩ := S0.stB (i := 0) (j := 5) (own := true) (σ := (5 :: 1 :: 1 :: 1 :: 1 :: 1 :: 1 :: 1 :: 0 :: σ)) (x := (.p (.int .i64 (IntKind.wrap .i64 r1.1)))) rfl (still_int _ _) rfl
            refine Sim.op (st_map e48) ?_
            exact Sim.fin (S49.finN lv_nil) ⟨c0_2, hc0_2, hn0_2, rfl⟩
          · refine Sim.cd (fun hc => ?_) (fun hc => ?_)
            · refine Sim.op (nilChk_ref _ _) ?_
              refine Sim.op (fA_ref _ _ _) ?_
              obtain ⟨H50, e51, S52⟩ := S0.stB (i := 0) (j := 6) (own := true) (σ := (5 :: 1 :: 1 :: 1 :: 1 :: 1 :: 1 :: 1 :: 1 :: 0 :: σ)) (x := (.p (.int .i64 (IntKind.wrap .i64 r1.1)))) rfl (still_int _ _) rfl
              refine Sim.op (st_map e51) ?_
              exact Sim.fin (S52.finN lv_nil) ⟨c0_2, hc0_2, hn0_2, rfl⟩
            · refine Sim.cd (fun hc => ?_) (fun hc => ?_)
              · refine Sim.op (nilChk_ref _ _) ?_
                refine Sim.op (fA_ref _ _ _) ?_
                obtain ⟨H53, e54, S55⟩ := S0.stB (i := 0) (j := 7) (own := true) (σ := (5 :: 1 :: 1 :: 1 :: 1 :: 1 :: 1 :: 1 :: 1 :: 1 :: 0 :: σ)) (x := (.p (.int .i64 (IntKind.wrap .i64 r1.1)))) rfl (still_int _ _) rfl
                refine Sim.op (st_map e54) ?_
                exact Sim.fin (S55.finN lv_nil) ⟨c0_2, hc0_2, hn0_2, rfl⟩
              · exact Sim.fin (S0.finN lv_nil) ⟨c0_2, hc0_2, hn0_2, rfl⟩
end Go.Ev
/- Equations, printed by tracer2.py. -/
namespace Go.Ev
open Go.Proofs
set_option linter.unusedVariables false
set_option maxRecDepth 100000
-- 72 slices.Equal[[]byte,byte]
noncomputable def slices_Equal_Lbyte_byte_c0 : Code := (codeAt (bodyOf Try.f72) [1, 1, 0, 1, 0, 0])
def slices_Equal_Lbyte_byte_l0 : Lv := ⟨0, 16, [(0, 0)]⟩
noncomputable def slices_Equal_Lbyte_byte_k0 (rec : CallF) (loop : LoopV) (σ : Stamp) : Exit → Env → H → Option (List C × H) := (kBlock 0 (kSeq G rec loop (codeAt (bodyOf Try.f72) [1, 1, 1]) ⟨16, 16, []⟩ (1 :: 1 :: 0 :: σ) (finC G false Try.f72 (1 :: σ))))
theorem slices_Equal_Lbyte_byte_entry (rec : CallF) (loop : LoopV) (σ : Stamp) (x0 : V) (x1 : V) (h : H) : cvBody G rec loop 72 σ [x0, x1] h =
 (lenO x0).bind fun t1 =>
 (castI .i64 t1).bind fun n2 =>
 (lenO x1).bind fun t3 =>
 (castI .i64 t3).bind fun n4 =>
 bif n2 != n4 then (
 fin false σ (List.replicate 26 [] :: h) [(.p (.bool false))])
 else (
 (lenO x0).bind fun t5 =>
 (castI .i64 t5).bind fun n6 =>
 (loop slices_Equal_Lbyte_byte_c0 slices_Equal_Lbyte_byte_l0 (1 :: 0 :: 1 :: 1 :: 0 :: σ) (envL [(0, x0), (1, x1), (12, (.p (.int .i64 n6))), (13, (.p (.int .i64 0)))]) (List.replicate 26 [] :: h)).bind fun r7 => slices_Equal_Lbyte_byte_k0 rec loop σ r7.1 r7.2.1 r7.2.2) := by kernel_rfl
theorem slices_Equal_Lbyte_byte_r0 (rec : CallF) (loop : LoopV) (σ : Stamp) (x0 : V) (x1 : V) (x12 : Int) (x13 : Int) (h : H) : cvRound G rec loop slices_Equal_Lbyte_byte_c0 slices_Equal_Lbyte_byte_l0 σ (envL [(0, x0), (1, x1), (12, (.p (.int .i64 x12))), (13, (.p (.int .i64 x13)))]) h =
 bif decide (x13 < x12) then (
 (iS 1 x0 x13).bind fun t8 =>
 (ldO false 1 h t8).bind fun t9 =>
 (castI .u8 t9).bind fun n10 =>
 (iS 1 x1 x13).bind fun t11 =>
 (ldO false 1 h t11).bind fun t12 =>
 (castI .u8 t12).bind fun n13 =>
 bif n10 != n13 then (
 some (.ret, (envL [(4, (.p (.bool false)))]), h))
 else (
 loop slices_Equal_Lbyte_byte_c0 slices_Equal_Lbyte_byte_l0 (1 :: σ) (envL [(0, x0), (1, x1), (12, (.p (.int .i64 x12))), (13, (.p (.int .i64 (IntKind.wrap .i64 (x13 + 1)))))]) h))
 else (
 some ((.exit 0), (envL []), h)) := by kernel_rfl
theorem slices_Equal_Lbyte_byte_a0_0 (rec : CallF) (loop : LoopV) (σ : Stamp)  (h : H) : slices_Equal_Lbyte_byte_k0 rec loop σ (.exit 0) (envL []) h =
 fin false σ h [(.p (.bool true))] := by kernel_rfl
theorem slices_Equal_Lbyte_byte_a0_ret (rec : CallF) (loop : LoopV) (σ : Stamp) (x4 : Bool) (h : H) : slices_Equal_Lbyte_byte_k0 rec loop σ .ret (envL [(4, (.p (.bool x4)))]) h =
 fin false σ h [(.p (.bool x4))] := by kernel_rfl
end Go.Ev
/- Lifted by lift.py: slices_Equal_Lbyte_byte as a plain function. -/
namespace Go.Ev
open Go.Proofs
set_option linter.unusedVariables false
set_option linter.unusedSimpArgs false
set_option maxRecDepth 100000
def p_slices_Equal_Lbyte_byte_l0 {β : Type} (k : Nat) (kE0 : Unit → Option β) (kE1 : Bool → Option β) (x0 : (List Int)) (x1 : (List Int)) (x12 : Int) (x13 : Int) : Option β := match k with
| 0 => none
| k + 1 =>
bif decide (x13 < x12) then (
(ix x0 x13).bind fun a7 =>
(ix x1 x13).bind fun a10 =>
bif a7 != a10 then (
kE1 false)
else (
p_slices_Equal_Lbyte_byte_l0 k kE0 kE1 x0 x1 x12 (IntKind.wrap .i64 (x13 + 1))))
else (
kE0 ())
def p_slices_Equal_Lbyte_byte (k : Nat) (x0 : (List Int)) (x1 : (List Int)) : Option (Bool) :=
bif ((x0.length : Int)) != ((x1.length : Int)) then (
some (false))
else (
p_slices_Equal_Lbyte_byte_l0 k (fun (_ : Unit) =>
some (true)) (fun r20_4 =>
some (r20_4)) x0 x1 ((x0.length : Int)) 0)
theorem slices_Equal_Lbyte_byte_l0_ok {h : H}  {β α : Type} {Q : β → α → Prop} {K : Exit × Env × H → Option α} {kE0 : Unit → Option β} {kE1 : Bool → Option β} (hE0 : ∀ (_u : Unit) (H13 : Go.Ev.H) (_ : Fm 26 h [] [] [] H13), Sim (kE0 ()) (K ((.exit 0), (envL []), H13)) Q) (hE1 : ∀ (q4 : Bool) (H15 : Go.Ev.H) (_ : Fm 26 h [] [] [] H15), Sim (kE1 q4) (K (.ret, (envL [(4, (.p (.bool q4)))]), H15)) Q) (k : Nat) : ∀ (x0 : (List Int)) (x1 : (List Int)) (x12 : Int) (x13 : Int) (v3 : V) (h4 : SlH h (dI .u8) x0 v3) (v5 : V) (h6 : SlH h (dI .u8) x1 v5) (H1 : Go.Ev.H) (_ : Fm 26 h [] [] [] H1) {σ : Stamp}, Sim (p_slices_Equal_Lbyte_byte_l0 k kE0 kE1 x0 x1 x12 x13) ((cvL G X0 slices_Equal_Lbyte_byte_c0 slices_Equal_Lbyte_byte_l0 σ (envL [(0, v3), (1, v5), (12, (.p (.int .i64 x12))), (13, (.p (.int .i64 x13)))]) H1).bind K) Q := by
  induction k with
  | zero => intros; exact Sim.no
  | succ k ih =>
    intro x0 x1 x12 x13 v3 h4 v5 h6 H1 S2 σ
    rw [p_slices_Equal_Lbyte_byte_l0]
    refine Sim.round (Sim.ext (slices_Equal_Lbyte_byte_r0 _ _ _ _ _ _ _ _) ?_)
    refine Sim.cd (fun hc => ?_) (fun hc => ?_)
    · refine Sim.bd fun a7 h8 => ?_
      refine Sim.op ((S2.low h4).iS h8 rfl) ?_
      obtain ⟨_, rfl, hE9⟩ := (S2.low h4).el h8 rfl
      refine Sim.op (hE9.ld (j := 0) rfl) ?_
      refine Sim.op (castI_p _ _) ?_
      refine Sim.bd fun a10 h11 => ?_
      refine Sim.op ((S2.low h6).iS h11 rfl) ?_
      obtain ⟨_, rfl, hE12⟩ := (S2.low h6).el h11 rfl
      refine Sim.op (hE12.ld (j := 0) rfl) ?_
      refine Sim.op (castI_p _ _) ?_
      refine Sim.cd (fun hc => ?_) (fun hc => ?_)
      · exact hE1 false H1 (S2.wk2 all_nil all_nil)
      · exact ih x0 x1 x12 (IntKind.wrap .i64 (x13 + 1)) v3 h4 v5 h6 H1 (S2.wk2 all_nil all_nil)
    · exact hE0 () H1 (S2.wk2 all_nil all_nil)
theorem slices_Equal_Lbyte_byte_ok (k : Nat) {h : H} {σ : Stamp} (x0 : List Int) {u0 : V} (hu0 : SlH h (dI .u8) x0 u0) (x1 : List Int) {u1 : V} (hu1 : SlH h (dI .u8) x1 u1) : Sim (p_slices_Equal_Lbyte_byte k x0 x1) (ev G X0 72 σ [u0, u1] h) (fun r s => s = ([.v (.p (.bool r))], h)) := by
  refine Sim.ev rfl (Sim.ext (slices_Equal_Lbyte_byte_entry _ _ _ _ _ _) ?_)
  rw [p_slices_Equal_Lbyte_byte]
  have S0 : Fm 26 h [] [] [] (List.replicate 26 [] :: h) := Fm.start0
  refine Sim.op ((S0.low hu0).len) ?_
  refine Sim.op (castI_p _ _) ?_
  refine Sim.op ((S0.low hu1).len) ?_
  refine Sim.op (castI_p _ _) ?_
  refine Sim.cd (fun hc => ?_) (fun hc => ?_)
  · exact Sim.fin (S0.finN (lv_cons (still_bool _).lv lv_nil)) rfl
  · refine Sim.op ((S0.low hu0).len) ?_
    refine Sim.op (castI_p _ _) ?_
    refine Sim.as (slices_Equal_Lbyte_byte_l0_ok ?_ ?_ k x0 x1 ((x0.length : Int)) 0 u0 hu0 u1 hu1 (List.replicate 26 [] :: h) (S0.wk2 all_nil all_nil)) 
    · intro _u H18 S19
      refine Sim.ext (slices_Equal_Lbyte_byte_a0_0 _ _ _ _) ?_
      exact Sim.fin (S19.finN (lv_cons (still_bool _).lv lv_nil)) rfl
    · intro r20_4 H21 S22
      refine Sim.ext (slices_Equal_Lbyte_byte_a0_ret _ _ _ _ _) ?_
      exact Sim.fin (S22.finN (lv_cons (still_bool _).lv lv_nil)) rfl
end Go.Ev
/- Lifted by lift.py: ctl_Read as a plain function. -/
namespace Go.Ev
open Go.Proofs
set_option linter.unusedVariables false
set_option linter.unusedSimpArgs false
set_option maxRecDepth 100000
def p_ctl_Read_l0 {β : Type} (k : Nat) (kE0 : (List Int) → T_api_Ctl → T_api_Ctl → Option β) (kE1 : Int → T_api_Ctl → Option β) (x0 : (List Int)) (x7 : Int) (yg4 : T_api_Ctl) (yg24 : T_api_Ctl) : Option β := match k with
| 0 => none
| k + 1 =>
bif decide ((IntKind.wrap .i64 (x7 + 1)) < ((x0.length : Int))) then (
(ix x0 (IntKind.wrap .i64 (x7 + 1))).bind fun a41 =>
(p_octet_Cut x0 (IntKind.wrap .i64 (x7 + 2)) (IntKind.wrap .i64 a41)).bind fun r44 =>
bif !r44.2 then (
kE1 12 ((⟨0, 0, (([] : List T_api_Layer)), 0, 0, 0, 0, 0⟩ : T_api_Ctl)))
else (
(ix x0 x7).bind fun a54 =>
(p_ctl_take k (⟨yg24.Kind, yg24.Cap, yg24.Layers, yg24.Peer, yg24.Height, yg24.Class, yg24.Layer, yg24.Code⟩ : T_api_Ctl) (IntKind.wrap .i64 a54) r44.1).bind fun r57 =>
p_ctl_Read_l0 k kE0 kE1 x0 (IntKind.wrap .i64 (x7 + (IntKind.wrap .i64 (2 + ((r44.1.length : Int)))))) ((⟨yg4.Kind, yg4.Cap, yg4.Layers, yg4.Peer, yg4.Height, yg4.Class, yg4.Layer, yg4.Code⟩ : T_api_Ctl)) ((⟨r57.Kind, r57.Cap, r57.Layers, r57.Peer, r57.Height, r57.Class, r57.Layer, r57.Code⟩ : T_api_Ctl))))
else (
kE0 x0 ((⟨yg4.Kind, yg4.Cap, yg4.Layers, yg4.Peer, yg4.Height, yg4.Class, yg4.Layer, yg4.Code⟩ : T_api_Ctl)) ((⟨yg24.Kind, yg24.Cap, yg24.Layers, yg24.Peer, yg24.Height, yg24.Class, yg24.Layer, yg24.Code⟩ : T_api_Ctl)))
def p_ctl_Read (k : Nat) (x0 : (List Int)) : Option (T_api_Ctl × Int) :=
(p_octet_Get k x0 1 2).bind fun r5 =>
(bif decide (((x0.length : Int)) < 3) then (some true) else (some (decide ((IntKind.wrap .i64 (((x0.length : Int)) - 3)) < (IntKind.wrap .i64 r5.1))))).bind fun b10 =>
bif b10 then (
some (((⟨0, 0, (([] : List T_api_Layer)), 0, 0, 0, 0, 0⟩ : T_api_Ctl)), 13))
else (
(ix x0 0).bind fun a18 =>
p_ctl_Read_l0 k (fun r85_0 yg35 yg40 =>
(p_ctl_Bytes k ((⟨yg40.Kind, yg40.Cap, yg40.Layers, yg40.Peer, yg40.Height, yg40.Class, yg40.Layer, yg40.Code⟩ : T_api_Ctl))).bind fun r109 =>
(bif r109.2 != 0 then (some true) else ((p_slices_Equal_Lbyte_byte k r109.1 r85_0).bind fun r116 =>
some (!r116))).bind fun b121 =>
bif b121 then (
some (((⟨0, 0, (([] : List T_api_Layer)), 0, 0, 0, 0, 0⟩ : T_api_Ctl)), 12))
else (
some (((⟨yg40.Kind, yg40.Cap, yg40.Layers, yg40.Peer, yg40.Height, yg40.Class, yg40.Layer, yg40.Code⟩ : T_api_Ctl)), 0))) (fun r133_3 yg35 =>
some (((⟨yg35.Kind, yg35.Cap, yg35.Layers, yg35.Peer, yg35.Height, yg35.Class, yg35.Layer, yg35.Code⟩ : T_api_Ctl)), r133_3)) x0 3 ((⟨0, 0, (([] : List T_api_Layer)), 0, 0, 0, 0, 0⟩ : T_api_Ctl)) ((⟨(IntKind.wrap .i64 a18), 0, (([] : List T_api_Layer)), 0, 0, 0, 0, 0⟩ : T_api_Ctl)))
theorem ctl_Read_l0_ok {h : H}  {β α : Type} {Q : β → α → Prop} {K : Exit × Env × H → Option α} {kE0 : (List Int) → T_api_Ctl → T_api_Ctl → Option β} {kE1 : Int → T_api_Ctl → Option β} (hE0 : ∀ (q0 : (List Int)) (yg35 : T_api_Ctl) (yg40 : T_api_Ctl) (v68 : V) (h69 : SlH h (dI .u8) q0 v68) (v70 : V) (h71 : SlF dT_api_Layer yg35.Layers v70) (s72 : Stamp) (c74 : C) (h75 : SoC dT_api_Layer yg40.Layers c74) (h76 : ∀ v, c74 = .v v → v = .p (.slice none 0 0) ∨ v = .fz [] 0 3 true) (s77 : Stamp) (H66 : Go.Ev.H) (_ : Fm 82 h [] [(2, s72, List.map C.v [(.p (.int .i64 yg35.Kind)), (.p (.int .i64 yg35.Cap)), v70, (.p (.int .i64 yg35.Peer)), (.p (.int .i64 yg35.Height)), (.p (.int .i64 yg35.Class)), (.p (.int .i64 yg35.Layer)), (.p (.int .i64 yg35.Code))]), (6, s77, [.v (.p (.int .i64 yg40.Kind)), .v (.p (.int .i64 yg40.Cap)), c74, .v (.p (.int .i64 yg40.Peer)), .v (.p (.int .i64 yg40.Height)), .v (.p (.int .i64 yg40.Class)), .v (.p (.int .i64 yg40.Layer)), .v (.p (.int .i64 yg40.Code))])] [] H66), Sim (kE0 q0 yg35 yg40) (K ((.exit 0), (envL [(0, v68), (2, (.ref ⟨h.length, 2, 0, s72, []⟩ 0)), (6, (.ref ⟨h.length, 6, 0, s77, []⟩ 0))]), H66)) Q) (hE1 : ∀ (q3 : Int) (yg35 : T_api_Ctl) (v81 : V) (h82 : SlF dT_api_Layer yg35.Layers v81) (s83 : Stamp) (H79 : Go.Ev.H) (_ : Fm 82 h [] [(2, s83, List.map C.v [(.p (.int .i64 yg35.Kind)), (.p (.int .i64 yg35.Cap)), v81, (.p (.int .i64 yg35.Peer)), (.p (.int .i64 yg35.Height)), (.p (.int .i64 yg35.Class)), (.p (.int .i64 yg35.Layer)), (.p (.int .i64 yg35.Code))])] [] H79), Sim (kE1 q3 yg35) (K (.ret, (envL [(2, (.ref ⟨h.length, 2, 0, s83, []⟩ 0)), (3, (.p (.int .i64 q3)))]), H79)) Q) (k : Nat) : ∀ (x0 : (List Int)) (x7 : Int) (yg4 : T_api_Ctl) (yg24 : T_api_Ctl) (v30 : V) (h31 : SlH h (dI .u8) x0 v30) (v32 : V) (h33 : SlF dT_api_Layer yg4.Layers v32) (s34 : Stamp) (c36 : C) (h37 : SoC dT_api_Layer yg24.Layers c36) (h38 : ∀ v, c36 = .v v → v = .p (.slice none 0 0) ∨ v = .fz [] 0 3 true) (s39 : Stamp) (H28 : Go.Ev.H) (_ : Fm 82 h [] [(2, s34, List.map C.v [(.p (.int .i64 yg4.Kind)), (.p (.int .i64 yg4.Cap)), v32, (.p (.int .i64 yg4.Peer)), (.p (.int .i64 yg4.Height)), (.p (.int .i64 yg4.Class)), (.p (.int .i64 yg4.Layer)), (.p (.int .i64 yg4.Code))]), (6, s39, [.v (.p (.int .i64 yg24.Kind)), .v (.p (.int .i64 yg24.Cap)), c36, .v (.p (.int .i64 yg24.Peer)), .v (.p (.int .i64 yg24.Height)), .v (.p (.int .i64 yg24.Class)), .v (.p (.int .i64 yg24.Layer)), .v (.p (.int .i64 yg24.Code))])] [] H28) {σ : Stamp}, Sim (p_ctl_Read_l0 k kE0 kE1 x0 x7 yg4 yg24) ((cvL G X0 ctl_Read_c0 ctl_Read_l0 σ (envL [(0, v30), (2, (.ref ⟨h.length, 2, 0, s34, []⟩ 0)), (6, (.ref ⟨h.length, 6, 0, s39, []⟩ 0)), (7, (.p (.int .i64 x7)))]) H28).bind K) Q := by
  induction k with
  | zero => intros; exact Sim.no
  | succ k ih =>
    intro x0 x7 yg4 yg24 v30 h31 v32 h33 s34 c36 h37 h38 s39 H28 S29 σ
    rw [p_ctl_Read_l0]
    refine Sim.round (Sim.ext (ctl_Read_r0 _ _ _ _ _ _ _ _) ?_)
    refine Sim.op ((S29.low h31).len) ?_
    refine Sim.op (castI_p _ _) ?_
    refine Sim.cd (fun hc => ?_) (fun hc => ?_)
    · refine Sim.bd fun a41 h42 => ?_
      refine Sim.op ((S29.low h31).iS h42 rfl) ?_
      obtain ⟨_, rfl, hE43⟩ := (S29.low h31).el h42 rfl
      refine Sim.op (hE43.ld (j := 0) rfl) ?_
      refine Sim.op (castI_p _ _) ?_
      refine Sim.call (octet_Cut_ok x0 (S29.low h31) (IntKind.wrap .i64 (x7 + 2)) (IntKind.wrap .i64 a41)) fun r44 cs45 H46 h47 q48 => ?_
      obtain ⟨v49, h50, q48⟩ := q48
      cases q48
      refine Sim.op (rfl) ?_
      refine Sim.op (rfl) ?_
      refine Sim.op (asB_p _) ?_
      refine Sim.cd (fun hc => ?_) (fun hc => ?_)
      · refine Sim.op (bldV pt_nil (by kernel_rfl : _ = some (.agg [.p (.int .i64 0), .p (.int .i64 0), .p (.slice none 0 0), .p (.int .i64 0), .p (.int .i64 0), .p (.int .i64 0), .p (.int .i64 0), .p (.int .i64 0)]))) ?_
        obtain ⟨H51, e52, S53⟩ := S29.stGv (i := 0) (j := 0) (own := false) (σ := (1 :: 0 :: 1 :: 0 :: 1 :: 1 :: 0 :: σ)) (xs := [.p (.int .i64 0), .p (.int .i64 0), .p (.slice none 0 0), .p (.int .i64 0), .p (.int .i64 0), .p (.int .i64 0), .p (.int .i64 0), .p (.int .i64 0)]) rfl rfl (stills_cons (still_int _ _) (stills_cons (still_int _ _) (stills_cons (SlF.nil dT_api_Layer).still (stills_cons (still_int _ _) (stills_cons (still_int _ _) (stills_cons (still_int _ _) (stills_cons (still_int _ _) (stills_cons (still_int _ _) stills_nil)))))))) rfl rfl
        refine Sim.op (st_map e52) ?_
        exact hE1 12 ((⟨0, 0, (([] : List T_api_Layer)), 0, 0, 0, 0, 0⟩ : T_api_Ctl)) (.p (.slice none 0 0)) (SlF.nil dT_api_Layer) s34 H51 (S53.wk2 (all_cons (at_mem 0 rfl) all_nil) all_nil)
      · refine Sim.bd fun a54 h55 => ?_
        refine Sim.op ((S29.low h31).iS h55 rfl) ?_
        obtain ⟨_, rfl, hE56⟩ := (S29.low h31).el h55 rfl
        refine Sim.op (hE56.ld (j := 0) rfl) ?_
        refine Sim.op (castI_p _ _) ?_
        refine Sim.call (ctl_take_ok k (⟨yg24.Kind, yg24.Cap, yg24.Layers, yg24.Peer, yg24.Height, yg24.Class, yg24.Layer, yg24.Code⟩ : T_api_Ctl) h37 h38 (S29.atG (i := 1) rfl) (IntKind.wrap .i64 a54) r44.1 h50) fun r57 cs58 H59 h60 q61 => ?_
        obtain ⟨c62, h63, h64, q61⟩ := q61
        cases q61
        have S65 := S29.setG (i := 1) (cs' := [.v (.p (.int .i64 r57.Kind)), .v (.p (.int .i64 r57.Cap)), c62, .v (.p (.int .i64 r57.Peer)), .v (.p (.int .i64 r57.Height)), .v (.p (.int .i64 r57.Class)), .v (.p (.int .i64 r57.Layer)), .v (.p (.int .i64 r57.Code))]) rfl rfl rfl
        refine Sim.op ((h50.h (ptC H28 ⟨h.length, 6, 0, s39, []⟩ 0 ([.v (.p (.int .i64 r57.Kind)), .v (.p (.int .i64 r57.Cap)), c62, .v (.p (.int .i64 r57.Peer)), .v (.p (.int .i64 r57.Height)), .v (.p (.int .i64 r57.Class)), .v (.p (.int .i64 r57.Layer)), .v (.p (.int .i64 r57.Code))]))).len) ?_
        refine Sim.op (castI_p _ _) ?_
        exact ih x0 (IntKind.wrap .i64 (x7 + (IntKind.wrap .i64 (2 + ((r44.1.length : Int)))))) ((⟨yg4.Kind, yg4.Cap, yg4.Layers, yg4.Peer, yg4.Height, yg4.Class, yg4.Layer, yg4.Code⟩ : T_api_Ctl)) ((⟨r57.Kind, r57.Cap, r57.Layers, r57.Peer, r57.Height, r57.Class, r57.Layer, r57.Code⟩ : T_api_Ctl)) v30 h31 v32 h33 s34 c62 h63 h64 s39 (ptC H28 ⟨h.length, 6, 0, s39, []⟩ 0 ([.v (.p (.int .i64 r57.Kind)), .v (.p (.int .i64 r57.Cap)), c62, .v (.p (.int .i64 r57.Peer)), .v (.p (.int .i64 r57.Height)), .v (.p (.int .i64 r57.Class)), .v (.p (.int .i64 r57.Layer)), .v (.p (.int .i64 r57.Code))])) (S65.wk2 (all_cons (at_mem 0 rfl) (all_cons (at_mem 1 rfl) all_nil)) all_nil)
    · exact hE0 x0 ((⟨yg4.Kind, yg4.Cap, yg4.Layers, yg4.Peer, yg4.Height, yg4.Class, yg4.Layer, yg4.Code⟩ : T_api_Ctl)) ((⟨yg24.Kind, yg24.Cap, yg24.Layers, yg24.Peer, yg24.Height, yg24.Class, yg24.Layer, yg24.Code⟩ : T_api_Ctl)) v30 h31 v32 h33 s34 c36 h37 h38 s39 H28 (S29.wk2 (all_cons (at_mem 0 rfl) (all_cons (at_mem 1 rfl) all_nil)) all_nil)
theorem ctl_Read_ok (k : Nat) {h : H} {σ : Stamp} (x0 : List Int) {u0 : V} (hu0 : SlH h (dI .u8) x0 u0) : Sim (p_ctl_Read k x0) (ev G X0 30 σ [u0] h) (fun r s => ∃ (w0 : List V), dT_api_Ctl.R r.1 w0 ∧ s = ([.v (.agg w0), .v (.p (.int .i64 r.2))], h)) := by
  refine Sim.ev rfl (Sim.ext (ctl_Read_entry _ _ _ _ _) ?_)
  rw [p_ctl_Read]
  have S0 : Fm 82 h [] [] [] (List.replicate 82 [] :: h) := Fm.start0
  obtain ⟨H1, e2, S3⟩ := S0.al (d := 2) (s := (0 :: 0 :: 0 :: σ)) (z := [(.p (.int .i64 0)), (.p (.int .i64 0)), (.p (.slice none 0 0)), (.p (.int .i64 0)), (.p (.int .i64 0)), (.p (.int .i64 0)), (.p (.int .i64 0)), (.p (.int .i64 0))]) (by decide) rfl
  refine Sim.op (congrArg some e2) ?_
  refine Sim.call (octet_Get_ok k x0 (S3.low hu0) 1 2) fun r5 cs6 H7 h8 q9 => ?_
  cases q9
  refine Sim.op (rfl) ?_
  refine Sim.op (castI_p _ _) ?_
  refine Sim.op (rfl) ?_
  refine Sim.op (asB_p _) ?_
  refine Sim.op ((S3.low hu0).len) ?_
  refine Sim.op (castI_p _ _) ?_
  refine Sim.ch (P := fun r y => r = y) ?_ (fun b10 y11 h12 h13 => ?_)
  · refine Sim.cd (fun hc => ?_) (fun hc => ?_)
    · exact Sim.ret rfl rfl
    · refine Sim.op ((S3.low hu0).len) ?_
      refine Sim.op (castI_p _ _) ?_
      exact Sim.ret rfl rfl
  subst h13
  refine Sim.cd (fun hc => ?_) (fun hc => ?_)
  · refine Sim.op (bldV pt_nil (by kernel_rfl : _ = some (.agg [.p (.int .i64 0), .p (.int .i64 0), .p (.slice none 0 0), .p (.int .i64 0), .p (.int .i64 0), .p (.int .i64 0), .p (.int .i64 0), .p (.int .i64 0)]))) ?_
    obtain ⟨H14, e15, S16⟩ := S3.stGv (i := 0) (j := 0) (own := false) (σ := (1 :: 0 :: 1 :: 0 :: 1 :: 1 :: 0 :: σ)) (xs := [.p (.int .i64 0), .p (.int .i64 0), .p (.slice none 0 0), .p (.int .i64 0), .p (.int .i64 0), .p (.int .i64 0), .p (.int .i64 0), .p (.int .i64 0)]) rfl rfl (stills_cons (still_int _ _) (stills_cons (still_int _ _) (stills_cons (SlF.nil dT_api_Layer).still (stills_cons (still_int _ _) (stills_cons (still_int _ _) (stills_cons (still_int _ _) (stills_cons (still_int _ _) (stills_cons (still_int _ _) stills_nil)))))))) rfl rfl
    refine Sim.op (st_map e15) ?_
    have e17 : ldO true 8 H14 (.ref ⟨h.length, 2, 0, (0 :: 0 :: 0 :: σ), []⟩ 0) = some (.agg [.p (.int .i64 0), .p (.int .i64 0), .p (.slice none 0 0), .p (.int .i64 0), .p (.int .i64 0), .p (.int .i64 0), .p (.int .i64 0), .p (.int .i64 0)]) := (S16.atG (i := 0) rfl).ldVs (j := 0) (xs := [.p (.int .i64 0), .p (.int .i64 0), .p (.slice none 0 0), .p (.int .i64 0), .p (.int .i64 0), .p (.int .i64 0), .p (.int .i64 0), .p (.int .i64 0)]) rfl rfl (by decide)
    refine Sim.op (show _ = some [(.agg [.p (.int .i64 0), .p (.int .i64 0), .p (.slice none 0 0), .p (.int .i64 0), .p (.int .i64 0), .p (.int .i64 0), .p (.int .i64 0), .p (.int .i64 0)]), (.p (.int .i64 13))] from by simp only [e17, Option.bind_some, Option.map_some]) ?_
    exact Sim.fin (S16.finN (lv_cons (Stills.lv (dT_api_Ctl.still (dT_api_Ctl.mk (SlF.nil dT_api_Layer)))) (lv_cons (still_int _ _).lv lv_nil))) ⟨[.p (.int .i64 0), .p (.int .i64 0), .p (.slice none 0 0), .p (.int .i64 0), .p (.int .i64 0), .p (.int .i64 0), .p (.int .i64 0), .p (.int .i64 0)], (show dT_api_Ctl.R ((⟨0, 0, (([] : List T_api_Layer)), 0, 0, 0, 0, 0⟩ : T_api_Ctl)) [.p (.int .i64 0), .p (.int .i64 0), .p (.slice none 0 0), .p (.int .i64 0), .p (.int .i64 0), .p (.int .i64 0), .p (.int .i64 0), .p (.int .i64 0)] from (dT_api_Ctl.mk (SlF.nil dT_api_Layer))), rfl⟩
  · refine Sim.bd fun a18 h19 => ?_
    refine Sim.op ((S3.low hu0).iS h19 rfl) ?_
    obtain ⟨_, rfl, hE20⟩ := (S3.low hu0).el h19 rfl
    refine Sim.op (hE20.ld (j := 0) rfl) ?_
    refine Sim.op (castI_p _ _) ?_
    refine Sim.op (bldV (pt_cons rfl pt_nil) (by kernel_rfl : _ = some (.agg [.p (.int .i64 (IntKind.wrap .i64 a18)), .p (.int .i64 0), .p (.slice none 0 0), .p (.int .i64 0), .p (.int .i64 0), .p (.int .i64 0), .p (.int .i64 0), .p (.int .i64 0)]))) ?_
    obtain ⟨H21, e22, S23⟩ := S3.al (d := 6) (s := (5 :: 0 :: 1 :: 1 :: 1 :: 0 :: σ)) (z := [(.p (.int .i64 0)), (.p (.int .i64 0)), (.p (.slice none 0 0)), (.p (.int .i64 0)), (.p (.int .i64 0)), (.p (.int .i64 0)), (.p (.int .i64 0)), (.p (.int .i64 0))]) (by decide) rfl
    refine Sim.op (congrArg some e22) ?_
    obtain ⟨H25, e26, S27⟩ := S23.stGv (i := 0) (j := 0) (own := false) (σ := (6 :: 0 :: 1 :: 1 :: 1 :: 0 :: σ)) (xs := [.p (.int .i64 (IntKind.wrap .i64 a18)), .p (.int .i64 0), .p (.slice none 0 0), .p (.int .i64 0), .p (.int .i64 0), .p (.int .i64 0), .p (.int .i64 0), .p (.int .i64 0)]) rfl rfl (stills_cons (still_int _ _) (stills_cons (still_int _ _) (stills_cons (SlF.nil dT_api_Layer).still (stills_cons (still_int _ _) (stills_cons (still_int _ _) (stills_cons (still_int _ _) (stills_cons (still_int _ _) (stills_cons (still_int _ _) stills_nil)))))))) rfl rfl
    refine Sim.op (st_map e26) ?_
    refine Sim.as (ctl_Read_l0_ok ?_ ?_ k x0 3 ((⟨0, 0, (([] : List T_api_Layer)), 0, 0, 0, 0, 0⟩ : T_api_Ctl)) ((⟨(IntKind.wrap .i64 a18), 0, (([] : List T_api_Layer)), 0, 0, 0, 0, 0⟩ : T_api_Ctl)) u0 hu0 (.p (.slice none 0 0)) (SlF.nil dT_api_Layer) (0 :: 0 :: 0 :: σ) (.v (.p (.slice none 0 0))) (SoC.frz (SlF.nil dT_api_Layer)) (fun v h => by cases h; simp) (5 :: 0 :: 1 :: 1 :: 1 :: 0 :: σ) H25 (S27.wk2 (all_cons (at_mem 1 rfl) (all_cons (at_mem 0 rfl) all_nil)) all_nil)) 
    · intro r85_0 yg35 yg40 v88 h89 v90 h91 s92 c94 h95 h96 s97 H86 S87
      refine Sim.ext (ctl_Read_a0_0 _ _ _ _ _ _ _) ?_
      obtain ⟨v99, h100, h101⟩ := h95.fr
      obtain ⟨w102, H103, h108, e104, e105, e106, S107⟩ := S87.frzV (i := 1) (n := 8) (ys := [(.p (.int .i64 yg40.Kind)), (.p (.int .i64 yg40.Cap)), v99, (.p (.int .i64 yg40.Peer)), (.p (.int .i64 yg40.Height)), (.p (.int .i64 yg40.Class)), (.p (.int .i64 yg40.Layer)), (.p (.int .i64 yg40.Code))]) rfl rfl ⟨(FrC.v (still_int _ _)), ⟨(FrC.v (still_int _ _)), ⟨h100, ⟨(FrC.v (still_int _ _)), ⟨(FrC.v (still_int _ _)), ⟨(FrC.v (still_int _ _)), ⟨(FrC.v (still_int _ _)), ⟨(FrC.v (still_int _ _)), trivial⟩⟩⟩⟩⟩⟩⟩⟩ rfl (by decide)
      refine Sim.op (e104) ?_
      erw [callFO_eq (frzAs_cons (frzA_aggL (frz_of_lay e106)) frzAs_nil)]
      refine Sim.call (ctl_Bytes_ok k ((⟨yg40.Kind, yg40.Cap, yg40.Layers, yg40.Peer, yg40.Height, yg40.Class, yg40.Layer, yg40.Code⟩ : T_api_Ctl)) (show dT_api_Ctl.R ((⟨yg40.Kind, yg40.Cap, yg40.Layers, yg40.Peer, yg40.Height, yg40.Class, yg40.Layer, yg40.Code⟩ : T_api_Ctl)) [.p (.int .i64 yg40.Kind), .p (.int .i64 yg40.Cap), v99, .p (.int .i64 yg40.Peer), .p (.int .i64 yg40.Height), .p (.int .i64 yg40.Class), .p (.int .i64 yg40.Layer), .p (.int .i64 yg40.Code)] from (dT_api_Ctl.mk h101))) fun r109 cs110 H111 h112 q113 => ?_
      obtain ⟨v114, h115, q113⟩ := q113
      cases q113
      refine Sim.op (rfl) ?_
      refine Sim.op (rfl) ?_
      refine Sim.op (castI_p _ _) ?_
      refine Sim.ch (P := fun r y => (.p (.bool r), H103) = y) ?_ (fun b121 y122 h123 h124 => ?_)
      · refine Sim.cd (fun hc => ?_) (fun hc => ?_)
        · exact Sim.ret rfl rfl
        · refine Sim.call (slices_Equal_Lbyte_byte_ok k r109.1 (h115.h H103) r85_0 (S107.low h89)) fun r116 cs117 H118 h119 q120 => ?_
          cases q120
          refine Sim.op (asB_p _) ?_
          exact Sim.ret rfl rfl
      subst h124
      refine Sim.op (asB_p _) ?_
      refine Sim.cd (fun hc => ?_) (fun hc => ?_)
      · refine Sim.op (bldV pt_nil (by kernel_rfl : _ = some (.agg [.p (.int .i64 0), .p (.int .i64 0), .p (.slice none 0 0), .p (.int .i64 0), .p (.int .i64 0), .p (.int .i64 0), .p (.int .i64 0), .p (.int .i64 0)]))) ?_
        obtain ⟨H125, e126, S127⟩ := S107.stGv (i := 0) (j := 0) (own := false) (σ := (1 :: 0 :: 1 :: 1 :: 0 :: 1 :: 1 :: 1 :: 1 :: 1 :: 0 :: σ)) (xs := [.p (.int .i64 0), .p (.int .i64 0), .p (.slice none 0 0), .p (.int .i64 0), .p (.int .i64 0), .p (.int .i64 0), .p (.int .i64 0), .p (.int .i64 0)]) rfl rfl (stills_cons (still_int _ _) (stills_cons (still_int _ _) (stills_cons (SlF.nil dT_api_Layer).still (stills_cons (still_int _ _) (stills_cons (still_int _ _) (stills_cons (still_int _ _) (stills_cons (still_int _ _) (stills_cons (still_int _ _) stills_nil)))))))) rfl rfl
        refine Sim.op (st_map e126) ?_
        have e128 : ldO true 8 H125 (.ref ⟨h.length, 2, 0, s92, []⟩ 0) = some (.agg [.p (.int .i64 0), .p (.int .i64 0), .p (.slice none 0 0), .p (.int .i64 0), .p (.int .i64 0), .p (.int .i64 0), .p (.int .i64 0), .p (.int .i64 0)]) := (S127.atG (i := 0) rfl).ldVs (j := 0) (xs := [.p (.int .i64 0), .p (.int .i64 0), .p (.slice none 0 0), .p (.int .i64 0), .p (.int .i64 0), .p (.int .i64 0), .p (.int .i64 0), .p (.int .i64 0)]) rfl rfl (by decide)
        refine Sim.op (show _ = some [(.agg [.p (.int .i64 0), .p (.int .i64 0), .p (.slice none 0 0), .p (.int .i64 0), .p (.int .i64 0), .p (.int .i64 0), .p (.int .i64 0), .p (.int .i64 0)]), (.p (.int .i64 12))] from by simp only [e128, Option.bind_some, Option.map_some]) ?_
        exact Sim.fin (S127.finN (lv_cons (Stills.lv (dT_api_Ctl.still (dT_api_Ctl.mk (SlF.nil dT_api_Layer)))) (lv_cons (still_int _ _).lv lv_nil))) ⟨[.p (.int .i64 0), .p (.int .i64 0), .p (.slice none 0 0), .p (.int .i64 0), .p (.int .i64 0), .p (.int .i64 0), .p (.int .i64 0), .p (.int .i64 0)], (show dT_api_Ctl.R ((⟨0, 0, (([] : List T_api_Layer)), 0, 0, 0, 0, 0⟩ : T_api_Ctl)) [.p (.int .i64 0), .p (.int .i64 0), .p (.slice none 0 0), .p (.int .i64 0), .p (.int .i64 0), .p (.int .i64 0), .p (.int .i64 0), .p (.int .i64 0)] from (dT_api_Ctl.mk (SlF.nil dT_api_Layer))), rfl⟩
      · refine Sim.op ((S107.atG (i := 1) rfl).ldVs (j := 0) (xs := [.p (.int .i64 yg40.Kind), .p (.int .i64 yg40.Cap), v99, .p (.int .i64 yg40.Peer), .p (.int .i64 yg40.Height), .p (.int .i64 yg40.Class), .p (.int .i64 yg40.Layer), .p (.int .i64 yg40.Code)]) rfl rfl (by decide)) ?_
        obtain ⟨H129, e130, S131⟩ := S107.stGv (i := 0) (j := 0) (own := false) (σ := (1 :: 0 :: 1 :: 1 :: 1 :: 1 :: 1 :: 1 :: 0 :: σ)) (xs := [.p (.int .i64 yg40.Kind), .p (.int .i64 yg40.Cap), v99, .p (.int .i64 yg40.Peer), .p (.int .i64 yg40.Height), .p (.int .i64 yg40.Class), .p (.int .i64 yg40.Layer), .p (.int .i64 yg40.Code)]) rfl rfl (stills_cons (still_int _ _) (stills_cons (still_int _ _) (stills_cons h101.still (stills_cons (still_int _ _) (stills_cons (still_int _ _) (stills_cons (still_int _ _) (stills_cons (still_int _ _) (stills_cons (still_int _ _) stills_nil)))))))) rfl rfl
        refine Sim.op (st_map e130) ?_
        have e132 : ldO true 8 H129 (.ref ⟨h.length, 2, 0, s92, []⟩ 0) = some (.agg [.p (.int .i64 yg40.Kind), .p (.int .i64 yg40.Cap), v99, .p (.int .i64 yg40.Peer), .p (.int .i64 yg40.Height), .p (.int .i64 yg40.Class), .p (.int .i64 yg40.Layer), .p (.int .i64 yg40.Code)]) := (S131.atG (i := 0) rfl).ldVs (j := 0) (xs := [.p (.int .i64 yg40.Kind), .p (.int .i64 yg40.Cap), v99, .p (.int .i64 yg40.Peer), .p (.int .i64 yg40.Height), .p (.int .i64 yg40.Class), .p (.int .i64 yg40.Layer), .p (.int .i64 yg40.Code)]) rfl rfl (by decide)
        refine Sim.op (show _ = some [(.agg [.p (.int .i64 yg40.Kind), .p (.int .i64 yg40.Cap), v99, .p (.int .i64 yg40.Peer), .p (.int .i64 yg40.Height), .p (.int .i64 yg40.Class), .p (.int .i64 yg40.Layer), .p (.int .i64 yg40.Code)]), (.p (.int .i64 0))] from by simp only [e132, Option.bind_some, Option.map_some]) ?_
        exact Sim.fin (S131.finN (lv_cons (Stills.lv (dT_api_Ctl.still (dT_api_Ctl.mk h101))) (lv_cons (still_int _ _).lv lv_nil))) ⟨[.p (.int .i64 yg40.Kind), .p (.int .i64 yg40.Cap), v99, .p (.int .i64 yg40.Peer), .p (.int .i64 yg40.Height), .p (.int .i64 yg40.Class), .p (.int .i64 yg40.Layer), .p (.int .i64 yg40.Code)], (show dT_api_Ctl.R ((⟨yg40.Kind, yg40.Cap, yg40.Layers, yg40.Peer, yg40.Height, yg40.Class, yg40.Layer, yg40.Code⟩ : T_api_Ctl)) [.p (.int .i64 yg40.Kind), .p (.int .i64 yg40.Cap), v99, .p (.int .i64 yg40.Peer), .p (.int .i64 yg40.Height), .p (.int .i64 yg40.Class), .p (.int .i64 yg40.Layer), .p (.int .i64 yg40.Code)] from (dT_api_Ctl.mk h101)), rfl⟩
    · intro r133_3 yg35 v136 h137 s138 H134 S135
      refine Sim.ext (ctl_Read_a0_ret _ _ _ _ _ _) ?_
      have e140 : ldO true 8 H134 (.ref ⟨h.length, 2, 0, s138, []⟩ 0) = some (.agg [.p (.int .i64 yg35.Kind), .p (.int .i64 yg35.Cap), v136, .p (.int .i64 yg35.Peer), .p (.int .i64 yg35.Height), .p (.int .i64 yg35.Class), .p (.int .i64 yg35.Layer), .p (.int .i64 yg35.Code)]) := (S135.atG (i := 0) rfl).ldVs (j := 0) (xs := [.p (.int .i64 yg35.Kind), .p (.int .i64 yg35.Cap), v136, .p (.int .i64 yg35.Peer), .p (.int .i64 yg35.Height), .p (.int .i64 yg35.Class), .p (.int .i64 yg35.Layer), .p (.int .i64 yg35.Code)]) rfl rfl (by decide)
      refine Sim.op (show _ = some [(.agg [.p (.int .i64 yg35.Kind), .p (.int .i64 yg35.Cap), v136, .p (.int .i64 yg35.Peer), .p (.int .i64 yg35.Height), .p (.int .i64 yg35.Class), .p (.int .i64 yg35.Layer), .p (.int .i64 yg35.Code)]), (.p (.int .i64 r133_3))] from by simp only [e140, Option.bind_some, Option.map_some]) ?_
      exact Sim.fin (S135.finN (lv_cons (Stills.lv (dT_api_Ctl.still (dT_api_Ctl.mk h137))) (lv_cons (still_int _ _).lv lv_nil))) ⟨[.p (.int .i64 yg35.Kind), .p (.int .i64 yg35.Cap), v136, .p (.int .i64 yg35.Peer), .p (.int .i64 yg35.Height), .p (.int .i64 yg35.Class), .p (.int .i64 yg35.Layer), .p (.int .i64 yg35.Code)], (show dT_api_Ctl.R ((⟨yg35.Kind, yg35.Cap, yg35.Layers, yg35.Peer, yg35.Height, yg35.Class, yg35.Layer, yg35.Code⟩ : T_api_Ctl)) [.p (.int .i64 yg35.Kind), .p (.int .i64 yg35.Cap), v136, .p (.int .i64 yg35.Peer), .p (.int .i64 yg35.Height), .p (.int .i64 yg35.Class), .p (.int .i64 yg35.Layer), .p (.int .i64 yg35.Code)] from (dT_api_Ctl.mk h137)), rfl⟩
end Go.Ev
/- Equations, printed by tracer2.py. -/
namespace Go.Ev
open Go.Proofs
set_option linter.unusedVariables false
set_option maxRecDepth 100000
-- 73 limelight/ctl.Same
theorem ctl_Same_entry (rec : CallF) (loop : LoopV) (σ : Stamp) (x0 : V) (x1 : V) (h : H) : cvBody G rec loop 73 σ [x0, x1] h =
 (boxO false (0 :: 0 :: 0 :: σ) 2 (List.replicate 59 [] :: h) x0).bind fun q1 =>
 (boxO false (1 :: 0 :: 0 :: σ) 3 q1.2 x1).bind fun q2 =>
 (fA q1.1 0).bind fun t3 =>
 (ldO false 1 q2.2 t3).bind fun t4 =>
 (castI .i64 t4).bind fun n5 =>
 (fA q2.1 0).bind fun t6 =>
 (ldO false 1 q2.2 t6).bind fun t7 =>
 (castI .i64 t7).bind fun n8 =>
 (bif n5 == n8 then ((fA q1.1 1).bind fun t9 =>
 (ldO false 1 q2.2 t9).bind fun t10 =>
 (castI .i64 t10).bind fun n11 =>
 (fA q2.1 1).bind fun t12 =>
 (ldO false 1 q2.2 t12).bind fun t13 =>
 (castI .i64 t13).bind fun n14 =>
 some (n11 == n14)) else (some false)).bind fun b15 =>
 (bif b15 then ((fA q1.1 2).bind fun t16 =>
 (ldO false 1 q2.2 t16).bind fun t17 =>
 (fA q2.1 2).bind fun t18 =>
 (ldO false 1 q2.2 t18).bind fun t19 =>
 (callO rec 107 (17 :: 0 :: 1 :: 0 :: σ) [t17, t19] q2.2 (some 22)).bind fun q20 =>
 (asB q20.1).bind fun b21 =>
 some ((.p (.bool b21)), q20.2)) else (some ((.p (.bool false)), q2.2))).bind fun q22 =>
 (asB q22.1).bind fun b23 =>
 (bif b23 then ((fA q1.1 3).bind fun t24 =>
 (ldO false 1 q22.2 t24).bind fun t25 =>
 (castI .i64 t25).bind fun n26 =>
 (fA q2.1 3).bind fun t27 =>
 (ldO false 1 q22.2 t27).bind fun t28 =>
 (castI .i64 t28).bind fun n29 =>
 some (n26 == n29)) else (some false)).bind fun b30 =>
 (bif b30 then ((fA q1.1 4).bind fun t31 =>
 (ldO false 1 q22.2 t31).bind fun t32 =>
 (castI .i64 t32).bind fun n33 =>
 (fA q2.1 4).bind fun t34 =>
 (ldO false 1 q22.2 t34).bind fun t35 =>
 (castI .i64 t35).bind fun n36 =>
 some (n33 == n36)) else (some false)).bind fun b37 =>
 (bif b37 then ((fA q1.1 5).bind fun t38 =>
 (ldO false 1 q22.2 t38).bind fun t39 =>
 (castI .i64 t39).bind fun n40 =>
 (fA q2.1 5).bind fun t41 =>
 (ldO false 1 q22.2 t41).bind fun t42 =>
 (castI .i64 t42).bind fun n43 =>
 some (n40 == n43)) else (some false)).bind fun b44 =>
 (bif b44 then ((fA q1.1 6).bind fun t45 =>
 (ldO false 1 q22.2 t45).bind fun t46 =>
 (castI .i64 t46).bind fun n47 =>
 (fA q2.1 6).bind fun t48 =>
 (ldO false 1 q22.2 t48).bind fun t49 =>
 (castI .i64 t49).bind fun n50 =>
 some (n47 == n50)) else (some false)).bind fun b51 =>
 (bif b51 then ((fA q1.1 7).bind fun t52 =>
 (ldO false 1 q22.2 t52).bind fun t53 =>
 (castI .i64 t53).bind fun n54 =>
 (fA q2.1 7).bind fun t55 =>
 (ldO false 1 q22.2 t55).bind fun t56 =>
 (castI .i64 t56).bind fun n57 =>
 some (n54 == n57)) else (some false)).bind fun b58 =>
 fin false σ q22.2 [(.p (.bool b58))] := by kernel_rfl
end Go.Ev
/- Equations, printed by tracer2.py. -/
namespace Go.Ev
open Go.Proofs
set_option linter.unusedVariables false
set_option maxRecDepth 100000
-- 107 slices.Equal[[]limelight/api.Layer,limelight/api.Layer]
noncomputable def slices_Equal_Lapi_Layer_api_Layer_c0 : Code := (codeAt (bodyOf Try.f107) [1, 1, 0, 1, 0, 0])
def slices_Equal_Lapi_Layer_api_Layer_l0 : Lv := ⟨0, 16, [(0, 0)]⟩
noncomputable def slices_Equal_Lapi_Layer_api_Layer_k0 (rec : CallF) (loop : LoopV) (σ : Stamp) : Exit → Env → H → Option (List C × H) := (kBlock 0 (kSeq G rec loop (codeAt (bodyOf Try.f107) [1, 1, 1]) ⟨16, 16, []⟩ (1 :: 1 :: 0 :: σ) (finC G false Try.f107 (1 :: σ))))
theorem slices_Equal_Lapi_Layer_api_Layer_entry (rec : CallF) (loop : LoopV) (σ : Stamp) (x0 : V) (x1 : V) (h : H) : cvBody G rec loop 107 σ [x0, x1] h =
 (lenO x0).bind fun t1 =>
 (castI .i64 t1).bind fun n2 =>
 (lenO x1).bind fun t3 =>
 (castI .i64 t3).bind fun n4 =>
 bif n2 != n4 then (
 fin false σ (List.replicate 26 [] :: h) [(.p (.bool false))])
 else (
 (lenO x0).bind fun t5 =>
 (castI .i64 t5).bind fun n6 =>
 (loop slices_Equal_Lapi_Layer_api_Layer_c0 slices_Equal_Lapi_Layer_api_Layer_l0 (1 :: 0 :: 1 :: 1 :: 0 :: σ) (envL [(0, x0), (1, x1), (12, (.p (.int .i64 n6))), (13, (.p (.int .i64 0)))]) (List.replicate 26 [] :: h)).bind fun r7 => slices_Equal_Lapi_Layer_api_Layer_k0 rec loop σ r7.1 r7.2.1 r7.2.2) := by kernel_rfl
theorem slices_Equal_Lapi_Layer_api_Layer_r0 (rec : CallF) (loop : LoopV) (σ : Stamp) (x0 : V) (x1 : V) (x12 : Int) (x13 : Int) (h : H) : cvRound G rec loop slices_Equal_Lapi_Layer_api_Layer_c0 slices_Equal_Lapi_Layer_api_Layer_l0 σ (envL [(0, x0), (1, x1), (12, (.p (.int .i64 x12))), (13, (.p (.int .i64 x13)))]) h =
 bif decide (x13 < x12) then (
 (iS 3 x0 x13).bind fun t8 =>
 (ldO true 3 h t8).bind fun t9 =>
 (iS 3 x1 x13).bind fun t10 =>
 (ldO true 3 h t10).bind fun t11 =>
 (binV Try.prog h .neq 70 t9 t11).bind fun t12 =>
 (asB t12).bind fun b13 =>
 bif b13 then (
 some (.ret, (envL [(4, (.p (.bool false)))]), h))
 else (
 loop slices_Equal_Lapi_Layer_api_Layer_c0 slices_Equal_Lapi_Layer_api_Layer_l0 (1 :: σ) (envL [(0, x0), (1, x1), (12, (.p (.int .i64 x12))), (13, (.p (.int .i64 (IntKind.wrap .i64 (x13 + 1)))))]) h))
 else (
 some ((.exit 0), (envL []), h)) := by kernel_rfl
theorem slices_Equal_Lapi_Layer_api_Layer_a0_0 (rec : CallF) (loop : LoopV) (σ : Stamp)  (h : H) : slices_Equal_Lapi_Layer_api_Layer_k0 rec loop σ (.exit 0) (envL []) h =
 fin false σ h [(.p (.bool true))] := by kernel_rfl
theorem slices_Equal_Lapi_Layer_api_Layer_a0_ret (rec : CallF) (loop : LoopV) (σ : Stamp) (x4 : Bool) (h : H) : slices_Equal_Lapi_Layer_api_Layer_k0 rec loop σ .ret (envL [(4, (.p (.bool x4)))]) h =
 fin false σ h [(.p (.bool x4))] := by kernel_rfl
end Go.Ev
/- Lifted by lift.py: slices_Equal_Lapi_Layer_api_Layer as a plain function. -/
namespace Go.Ev
open Go.Proofs
set_option linter.unusedVariables false
set_option linter.unusedSimpArgs false
set_option maxRecDepth 100000
def p_slices_Equal_Lapi_Layer_api_Layer_l0 {β : Type} (k : Nat) (kE0 : Unit → Option β) (kE1 : Bool → Option β) (x0 : (List T_api_Layer)) (x1 : (List T_api_Layer)) (x12 : Int) (x13 : Int) : Option β := match k with
| 0 => none
| k + 1 =>
bif decide (x13 < x12) then (
(ix x0 x13).bind fun a7 =>
(ix x1 x13).bind fun a12 =>
bif !(andB [a7.Rid.toList == a12.Rid.toList, a7.Ssrc == a12.Ssrc, a7.Height == a12.Height]) then (
kE1 false)
else (
p_slices_Equal_Lapi_Layer_api_Layer_l0 k kE0 kE1 x0 x1 x12 (IntKind.wrap .i64 (x13 + 1))))
else (
kE0 ())
def p_slices_Equal_Lapi_Layer_api_Layer (k : Nat) (x0 : (List T_api_Layer)) (x1 : (List T_api_Layer)) : Option (Bool) :=
bif ((x0.length : Int)) != ((x1.length : Int)) then (
some (false))
else (
p_slices_Equal_Lapi_Layer_api_Layer_l0 k (fun (_ : Unit) =>
some (true)) (fun r24_4 =>
some (r24_4)) x0 x1 ((x0.length : Int)) 0)
theorem slices_Equal_Lapi_Layer_api_Layer_l0_ok {h : H}  {β α : Type} {Q : β → α → Prop} {K : Exit × Env × H → Option α} {kE0 : Unit → Option β} {kE1 : Bool → Option β} (hE0 : ∀ (_u : Unit) (H17 : Go.Ev.H) (_ : Fm 26 h [] [] [] H17), Sim (kE0 ()) (K ((.exit 0), (envL []), H17)) Q) (hE1 : ∀ (q4 : Bool) (H19 : Go.Ev.H) (_ : Fm 26 h [] [] [] H19), Sim (kE1 q4) (K (.ret, (envL [(4, (.p (.bool q4)))]), H19)) Q) (k : Nat) : ∀ (x0 : (List T_api_Layer)) (x1 : (List T_api_Layer)) (x12 : Int) (x13 : Int) (v3 : V) (h4 : SlH h dT_api_Layer x0 v3) (v5 : V) (h6 : SlH h dT_api_Layer x1 v5) (H1 : Go.Ev.H) (_ : Fm 26 h [] [] [] H1) {σ : Stamp}, Sim (p_slices_Equal_Lapi_Layer_api_Layer_l0 k kE0 kE1 x0 x1 x12 x13) ((cvL G X0 slices_Equal_Lapi_Layer_api_Layer_c0 slices_Equal_Lapi_Layer_api_Layer_l0 σ (envL [(0, v3), (1, v5), (12, (.p (.int .i64 x12))), (13, (.p (.int .i64 x13)))]) H1).bind K) Q := by
  induction k with
  | zero => intros; exact Sim.no
  | succ k ih =>
    intro x0 x1 x12 x13 v3 h4 v5 h6 H1 S2 σ
    rw [p_slices_Equal_Lapi_Layer_api_Layer_l0]
    refine Sim.round (Sim.ext (slices_Equal_Lapi_Layer_api_Layer_r0 _ _ _ _ _ _ _ _) ?_)
    refine Sim.cd (fun hc => ?_) (fun hc => ?_)
    · refine Sim.bd fun a7 h8 => ?_
      refine Sim.op ((S2.low h4).iS h8 rfl) ?_
      obtain ⟨w10, h11, hE9⟩ := (S2.low h4).el h8 rfl
      obtain rfl := dT_api_Layer.inv h11
      refine Sim.op (hE9.all (by simp)) ?_
      refine Sim.bd fun a12 h13 => ?_
      refine Sim.op ((S2.low h6).iS h13 rfl) ?_
      obtain ⟨w15, h16, hE14⟩ := (S2.low h6).el h13 rfl
      obtain rfl := dT_api_Layer.inv h16
      refine Sim.op (hE14.all (by simp)) ?_
      refine Sim.op (nqS_ok (by kernel_rfl : _ = andL [a7.Rid.toList == a12.Rid.toList, a7.Ssrc == a12.Ssrc, a7.Height == a12.Height])) ?_
      refine Sim.op (asB_p _) ?_
      refine Sim.cd (fun hc => ?_) (fun hc => ?_)
      · exact hE1 false H1 (S2.wk2 all_nil all_nil)
      · exact ih x0 x1 x12 (IntKind.wrap .i64 (x13 + 1)) v3 h4 v5 h6 H1 (S2.wk2 all_nil all_nil)
    · exact hE0 () H1 (S2.wk2 all_nil all_nil)
theorem slices_Equal_Lapi_Layer_api_Layer_ok (k : Nat) {h : H} {σ : Stamp} (x0 : List T_api_Layer) {u0 : V} (hu0 : SlH h dT_api_Layer x0 u0) (x1 : List T_api_Layer) {u1 : V} (hu1 : SlH h dT_api_Layer x1 u1) : Sim (p_slices_Equal_Lapi_Layer_api_Layer k x0 x1) (ev G X0 107 σ [u0, u1] h) (fun r s => s = ([.v (.p (.bool r))], h)) := by
  refine Sim.ev rfl (Sim.ext (slices_Equal_Lapi_Layer_api_Layer_entry _ _ _ _ _ _) ?_)
  rw [p_slices_Equal_Lapi_Layer_api_Layer]
  have S0 : Fm 26 h [] [] [] (List.replicate 26 [] :: h) := Fm.start0
  refine Sim.op ((S0.low hu0).len) ?_
  refine Sim.op (castI_p _ _) ?_
  refine Sim.op ((S0.low hu1).len) ?_
  refine Sim.op (castI_p _ _) ?_
  refine Sim.cd (fun hc => ?_) (fun hc => ?_)
  · exact Sim.fin (S0.finN (lv_cons (still_bool _).lv lv_nil)) rfl
  · refine Sim.op ((S0.low hu0).len) ?_
    refine Sim.op (castI_p _ _) ?_
    refine Sim.as (slices_Equal_Lapi_Layer_api_Layer_l0_ok ?_ ?_ k x0 x1 ((x0.length : Int)) 0 u0 hu0 u1 hu1 (List.replicate 26 [] :: h) (S0.wk2 all_nil all_nil)) 
    · intro _u H22 S23
      refine Sim.ext (slices_Equal_Lapi_Layer_api_Layer_a0_0 _ _ _ _) ?_
      exact Sim.fin (S23.finN (lv_cons (still_bool _).lv lv_nil)) rfl
    · intro r24_4 H25 S26
      refine Sim.ext (slices_Equal_Lapi_Layer_api_Layer_a0_ret _ _ _ _ _) ?_
      exact Sim.fin (S26.finN (lv_cons (still_bool _).lv lv_nil)) rfl
end Go.Ev
/- Lifted by lift.py: ctl_Same as a plain function. -/
namespace Go.Ev
open Go.Proofs
set_option linter.unusedVariables false
set_option linter.unusedSimpArgs false
set_option maxRecDepth 100000
def p_ctl_Same (k : Nat) (x0 : T_api_Ctl) (x1 : T_api_Ctl) : Option (Bool) :=
(bif x0.Kind == x1.Kind then (some (x0.Cap == x1.Cap)) else (some false)).bind fun b13 =>
(bif b13 then ((p_slices_Equal_Lapi_Layer_api_Layer k x0.Layers x1.Layers).bind fun r17 =>
some r17) else (some false)).bind fun b22 =>
(bif b22 then (some (x0.Peer == x1.Peer)) else (some false)).bind fun b26 =>
(bif b26 then (some (x0.Height == x1.Height)) else (some false)).bind fun b30 =>
(bif b30 then (some (x0.Class == x1.Class)) else (some false)).bind fun b34 =>
(bif b34 then (some (x0.Layer == x1.Layer)) else (some false)).bind fun b38 =>
(bif b38 then (some (x0.Code == x1.Code)) else (some false)).bind fun b42 =>
some (b42)
theorem ctl_Same_ok (k : Nat) {h : H} {σ : Stamp} (x0 : T_api_Ctl) {u0 : List V} (hu0 : dT_api_Ctl.R x0 u0) (x1 : T_api_Ctl) {u1 : List V} (hu1 : dT_api_Ctl.R x1 u1) : Sim (p_ctl_Same k x0 x1) (ev G X0 73 σ [(.agg u0), (.agg u1)] h) (fun r s => s = ([.v (.p (.bool r))], h)) := by
  refine Sim.ev rfl (Sim.ext (ctl_Same_entry _ _ _ _ _ _) ?_)
  rw [p_ctl_Same]
  obtain ⟨v1, rfl, h2⟩ := dT_api_Ctl.inv hu0
  obtain ⟨v3, rfl, h4⟩ := dT_api_Ctl.inv hu1
  have S0 : Fm 59 h [] [] [] (List.replicate 59 [] :: h) := Fm.start0
  obtain ⟨H5, e6, S7⟩ := S0.box (own := false) (d := 2) (s := (0 :: 0 :: 0 :: σ)) (xs := [(.p (.int .i64 x0.Kind)), (.p (.int .i64 x0.Cap)), v1, (.p (.int .i64 x0.Peer)), (.p (.int .i64 x0.Height)), (.p (.int .i64 x0.Class)), (.p (.int .i64 x0.Layer)), (.p (.int .i64 x0.Code))]) (stills_cons (still_int _ _) (stills_cons (still_int _ _) (stills_cons h2.still (stills_cons (still_int _ _) (stills_cons (still_int _ _) (stills_cons (still_int _ _) (stills_cons (still_int _ _) (stills_cons (still_int _ _) stills_nil)))))))) (by decide) rfl
  refine Sim.op (e6) ?_
  obtain ⟨H9, e10, S11⟩ := S7.box (own := false) (d := 3) (s := (1 :: 0 :: 0 :: σ)) (xs := [(.p (.int .i64 x1.Kind)), (.p (.int .i64 x1.Cap)), v3, (.p (.int .i64 x1.Peer)), (.p (.int .i64 x1.Height)), (.p (.int .i64 x1.Class)), (.p (.int .i64 x1.Layer)), (.p (.int .i64 x1.Code))]) (stills_cons (still_int _ _) (stills_cons (still_int _ _) (stills_cons h4.still (stills_cons (still_int _ _) (stills_cons (still_int _ _) (stills_cons (still_int _ _) (stills_cons (still_int _ _) (stills_cons (still_int _ _) stills_nil)))))))) (by decide) rfl
  refine Sim.op (e10) ?_
  refine Sim.op (fA_ref _ _ _) ?_
  refine Sim.op ((S11.atG (i := 1) rfl).ld (j := 0) rfl) ?_
  refine Sim.op (castI_p _ _) ?_
  refine Sim.op (fA_ref _ _ _) ?_
  refine Sim.op ((S11.atG (i := 0) rfl).ld (j := 0) rfl) ?_
  refine Sim.op (castI_p _ _) ?_
  refine Sim.ch (P := fun r y => r = y) ?_ (fun b13 y14 h15 h16 => ?_)
  · refine Sim.cd (fun hc => ?_) (fun hc => ?_)
    · refine Sim.op (fA_ref _ _ _) ?_
      refine Sim.op ((S11.atG (i := 1) rfl).ld (j := 1) rfl) ?_
      refine Sim.op (castI_p _ _) ?_
      refine Sim.op (fA_ref _ _ _) ?_
      refine Sim.op ((S11.atG (i := 0) rfl).ld (j := 1) rfl) ?_
      refine Sim.op (castI_p _ _) ?_
      exact Sim.ret rfl rfl
    · exact Sim.ret rfl rfl
  subst h16
  refine Sim.ch (P := fun r y => (.p (.bool r), H9) = y) ?_ (fun b22 y23 h24 h25 => ?_)
  · refine Sim.cd (fun hc => ?_) (fun hc => ?_)
    · refine Sim.op (fA_ref _ _ _) ?_
      refine Sim.op ((S11.atG (i := 1) rfl).ld (j := 2) rfl) ?_
      refine Sim.op (fA_ref _ _ _) ?_
      refine Sim.op ((S11.atG (i := 0) rfl).ld (j := 2) rfl) ?_
      refine Sim.call (slices_Equal_Lapi_Layer_api_Layer_ok k x0.Layers (h2.h H9) x1.Layers (h4.h H9)) fun r17 cs18 H19 h20 q21 => ?_
      cases q21
      refine Sim.op (asB_p _) ?_
      exact Sim.ret rfl rfl
    · exact Sim.ret rfl rfl
  subst h25
  refine Sim.op (asB_p _) ?_
  refine Sim.ch (P := fun r y => r = y) ?_ (fun b26 y27 h28 h29 => ?_)
  · refine Sim.cd (fun hc => ?_) (fun hc => ?_)
    · refine Sim.op (fA_ref _ _ _) ?_
      refine Sim.op ((S11.atG (i := 1) rfl).ld (j := 3) rfl) ?_
      refine Sim.op (castI_p _ _) ?_
      refine Sim.op (fA_ref _ _ _) ?_
      refine Sim.op ((S11.atG (i := 0) rfl).ld (j := 3) rfl) ?_
      refine Sim.op (castI_p _ _) ?_
      exact Sim.ret rfl rfl
    · exact Sim.ret rfl rfl
  subst h29
  refine Sim.ch (P := fun r y => r = y) ?_ (fun b30 y31 h32 h33 => ?_)
  · refine Sim.cd (fun hc => ?_) (fun hc => ?_)
    · refine Sim.op (fA_ref _ _ _) ?_
      refine Sim.op ((S11.atG (i := 1) rfl).ld (j := 4) rfl) ?_
      refine Sim.op (castI_p _ _) ?_
      refine Sim.op (fA_ref _ _ _) ?_
      refine Sim.op ((S11.atG (i := 0) rfl).ld (j := 4) rfl) ?_
      refine Sim.op (castI_p _ _) ?_
      exact Sim.ret rfl rfl
    · exact Sim.ret rfl rfl
  subst h33
  refine Sim.ch (P := fun r y => r = y) ?_ (fun b34 y35 h36 h37 => ?_)
  · refine Sim.cd (fun hc => ?_) (fun hc => ?_)
    · refine Sim.op (fA_ref _ _ _) ?_
      refine Sim.op ((S11.atG (i := 1) rfl).ld (j := 5) rfl) ?_
      refine Sim.op (castI_p _ _) ?_
      refine Sim.op (fA_ref _ _ _) ?_
      refine Sim.op ((S11.atG (i := 0) rfl).ld (j := 5) rfl) ?_
      refine Sim.op (castI_p _ _) ?_
      exact Sim.ret rfl rfl
    · exact Sim.ret rfl rfl
  subst h37
  refine Sim.ch (P := fun r y => r = y) ?_ (fun b38 y39 h40 h41 => ?_)
  · refine Sim.cd (fun hc => ?_) (fun hc => ?_)
    · refine Sim.op (fA_ref _ _ _) ?_
      refine Sim.op ((S11.atG (i := 1) rfl).ld (j := 6) rfl) ?_
      refine Sim.op (castI_p _ _) ?_
      refine Sim.op (fA_ref _ _ _) ?_
      refine Sim.op ((S11.atG (i := 0) rfl).ld (j := 6) rfl) ?_
      refine Sim.op (castI_p _ _) ?_
      exact Sim.ret rfl rfl
    · exact Sim.ret rfl rfl
  subst h41
  refine Sim.ch (P := fun r y => r = y) ?_ (fun b42 y43 h44 h45 => ?_)
  · refine Sim.cd (fun hc => ?_) (fun hc => ?_)
    · refine Sim.op (fA_ref _ _ _) ?_
      refine Sim.op ((S11.atG (i := 1) rfl).ld (j := 7) rfl) ?_
      refine Sim.op (castI_p _ _) ?_
      refine Sim.op (fA_ref _ _ _) ?_
      refine Sim.op ((S11.atG (i := 0) rfl).ld (j := 7) rfl) ?_
      refine Sim.op (castI_p _ _) ?_
      exact Sim.ret rfl rfl
    · exact Sim.ret rfl rfl
  subst h45
  exact Sim.fin (S11.finN (lv_cons (still_bool _).lv lv_nil)) rfl
end Go.Ev
/- Lifted by lift.py: limelightlaw8_known as a plain function. -/
namespace Go.Ev
open Go.Proofs
set_option linter.unusedVariables false
set_option linter.unusedSimpArgs false
set_option maxRecDepth 100000
def p_limelightlaw8_known (k : Nat)  : Option (Bool) :=
(p_ctl_Bytes k ((⟨2, 0, (([] : List T_api_Layer)), 0, 0, 0, 0, 0⟩ : T_api_Ctl))).bind fun r1 =>
(p_ctl_Bytes k ((⟨4, 0, (([] : List T_api_Layer)), 2, 300, 1, 0, 0⟩ : T_api_Ctl))).bind fun r8 =>
(p_ctl_Read k r8.1).bind fun r15 =>
(p_ctl_Read k (([] : List Int))).bind fun r31 =>
(bif r1.2 == 0 then (some ((strB r1.1).toList == ((⟨#[2, 0, 0]⟩ : ByteArray)).toList)) else (some false)).bind fun b47 =>
(bif b47 then (some (r8.2 == 0)) else (some false)).bind fun b51 =>
(bif b51 then (some ((strB r8.1).toList == ((⟨#[4, 0, 10, 3, 1, 2, 4, 2, 1, 44, 5, 1, 1]⟩ : ByteArray)).toList)) else (some false)).bind fun b55 =>
(bif b55 then (some (r15.2 == 0)) else (some false)).bind fun b59 =>
(bif b59 then (some (r15.1.Peer == 2)) else (some false)).bind fun b63 =>
(bif b63 then (some (r15.1.Height == 300)) else (some false)).bind fun b67 =>
(bif b67 then (some (r31.2 == 13)) else (some false)).bind fun b71 =>
(bif b71 then ((p_ctl_Layers k (([] : List T_api_Layer))).bind fun r75 =>
some (r75 == 26)) else (some false)).bind fun b80 =>
(bif b80 then ((p_ctl_Right k ((⟨0, 0, (([] : List T_api_Layer)), 0, 0, 0, 0, 0⟩ : T_api_Ctl))).bind fun r84 =>
some (r84 == 12)) else (some false)).bind fun b89 =>
(bif b89 then ((p_ctl_Same k ((⟨r15.1.Kind, r15.1.Cap, r15.1.Layers, r15.1.Peer, r15.1.Height, r15.1.Class, r15.1.Layer, r15.1.Code⟩ : T_api_Ctl)) ((⟨r15.1.Kind, r15.1.Cap, r15.1.Layers, r15.1.Peer, r15.1.Height, r15.1.Class, r15.1.Layer, r15.1.Code⟩ : T_api_Ctl))).bind fun r93 =>
some r93) else (some false)).bind fun b98 =>
(bif b98 then ((p_ctl_Right k ((⟨2, 1, (([] : List T_api_Layer)), 0, 0, 0, 0, 0⟩ : T_api_Ctl))).bind fun r102 =>
some (r102 == 12)) else (some false)).bind fun b107 =>
some (b107)
theorem limelightlaw8_known_ok (k : Nat) {h : H} {σ : Stamp}  : Sim (p_limelightlaw8_known k ) (ev G X0 32 σ [] h) (fun r s => s = ([.v (.p (.bool r))], h)) := by
  refine Sim.ev rfl (Sim.ext (limelightlaw8_known_entry _ _ _ _) ?_)
  rw [p_limelightlaw8_known]
  have S0 : Fm 81 h [] [] [] (List.replicate 81 [] :: h) := Fm.start0
  refine Sim.op (bldV (pt_cons rfl pt_nil) (by kernel_rfl : _ = some (.agg [.p (.int .i64 2), .p (.int .i64 0), .p (.slice none 0 0), .p (.int .i64 0), .p (.int .i64 0), .p (.int .i64 0), .p (.int .i64 0), .p (.int .i64 0)]))) ?_
  erw [callFO_eq (frzAs_cons (frzA_agg (dT_api_Ctl.still (dT_api_Ctl.mk (SlF.nil dT_api_Layer)))) frzAs_nil)]
  refine Sim.call (ctl_Bytes_ok k ((⟨2, 0, (([] : List T_api_Layer)), 0, 0, 0, 0, 0⟩ : T_api_Ctl)) (show dT_api_Ctl.R ((⟨2, 0, (([] : List T_api_Layer)), 0, 0, 0, 0, 0⟩ : T_api_Ctl)) [.p (.int .i64 2), .p (.int .i64 0), .p (.slice none 0 0), .p (.int .i64 0), .p (.int .i64 0), .p (.int .i64 0), .p (.int .i64 0), .p (.int .i64 0)] from (dT_api_Ctl.mk (SlF.nil dT_api_Layer)))) fun r1 cs2 H3 h4 q5 => ?_
  obtain ⟨v6, h7, q5⟩ := q5
  cases q5
  refine Sim.op (rfl) ?_
  refine Sim.op (rfl) ?_
  refine Sim.op (castI_p _ _) ?_
  refine Sim.op (bldV (pt_cons rfl (pt_cons rfl (pt_cons rfl (pt_cons rfl pt_nil)))) (by kernel_rfl : _ = some (.agg [.p (.int .i64 4), .p (.int .i64 0), .p (.slice none 0 0), .p (.int .i64 2), .p (.int .i64 300), .p (.int .i64 1), .p (.int .i64 0), .p (.int .i64 0)]))) ?_
  erw [callFO_eq (frzAs_cons (frzA_agg (dT_api_Ctl.still (dT_api_Ctl.mk (SlF.nil dT_api_Layer)))) frzAs_nil)]
  refine Sim.call (ctl_Bytes_ok k ((⟨4, 0, (([] : List T_api_Layer)), 2, 300, 1, 0, 0⟩ : T_api_Ctl)) (show dT_api_Ctl.R ((⟨4, 0, (([] : List T_api_Layer)), 2, 300, 1, 0, 0⟩ : T_api_Ctl)) [.p (.int .i64 4), .p (.int .i64 0), .p (.slice none 0 0), .p (.int .i64 2), .p (.int .i64 300), .p (.int .i64 1), .p (.int .i64 0), .p (.int .i64 0)] from (dT_api_Ctl.mk (SlF.nil dT_api_Layer)))) fun r8 cs9 H10 h11 q12 => ?_
  obtain ⟨v13, h14, q12⟩ := q12
  cases q12
  refine Sim.op (rfl) ?_
  refine Sim.op (rfl) ?_
  refine Sim.op (castI_p _ _) ?_
  refine Sim.call (ctl_Read_ok k r8.1 (h14.h (List.replicate 81 [] :: h))) fun r15 cs16 H17 h18 q19 => ?_
  obtain ⟨w20, h21, q19⟩ := q19
  cases q19
  obtain ⟨v22, rfl, h23⟩ := dT_api_Ctl.inv h21
  refine Sim.op (rfl) ?_
  refine Sim.op (rfl) ?_
  refine Sim.op (castI_p _ _) ?_
  obtain ⟨H24, e25, S26⟩ := S0.al (d := 5) (s := (5 :: 0 :: 1 :: 1 :: 1 :: 0 :: σ)) (z := [(.p (.int .i64 0)), (.p (.int .i64 0)), (.p (.slice none 0 0)), (.p (.int .i64 0)), (.p (.int .i64 0)), (.p (.int .i64 0)), (.p (.int .i64 0)), (.p (.int .i64 0))]) (by decide) rfl
  refine Sim.op (congrArg some e25) ?_
  obtain ⟨H28, e29, S30⟩ := S26.stGv (i := 0) (j := 0) (own := false) (σ := (6 :: 0 :: 1 :: 1 :: 1 :: 0 :: σ)) (xs := [(.p (.int .i64 r15.1.Kind)), (.p (.int .i64 r15.1.Cap)), v22, (.p (.int .i64 r15.1.Peer)), (.p (.int .i64 r15.1.Height)), (.p (.int .i64 r15.1.Class)), (.p (.int .i64 r15.1.Layer)), (.p (.int .i64 r15.1.Code))]) rfl rfl (stills_cons (still_int _ _) (stills_cons (still_int _ _) (stills_cons h23.still (stills_cons (still_int _ _) (stills_cons (still_int _ _) (stills_cons (still_int _ _) (stills_cons (still_int _ _) (stills_cons (still_int _ _) stills_nil)))))))) rfl rfl
  refine Sim.op (st_map e29) ?_
  refine Sim.call (ctl_Read_ok k (([] : List Int)) ((SlF.nil (dI .u8)).h H28)) fun r31 cs32 H33 h34 q35 => ?_
  obtain ⟨w36, h37, q35⟩ := q35
  cases q35
  obtain ⟨v38, rfl, h39⟩ := dT_api_Ctl.inv h37
  refine Sim.op (rfl) ?_
  refine Sim.op (rfl) ?_
  refine Sim.op (castI_p _ _) ?_
  obtain ⟨H40, e41, S42⟩ := S30.al (d := 7) (s := (4 :: 0 :: 1 :: 1 :: 1 :: 1 :: 0 :: σ)) (z := [(.p (.int .i64 0)), (.p (.int .i64 0)), (.p (.slice none 0 0)), (.p (.int .i64 0)), (.p (.int .i64 0)), (.p (.int .i64 0)), (.p (.int .i64 0)), (.p (.int .i64 0))]) (by decide) rfl
  refine Sim.op (congrArg some e41) ?_
  obtain ⟨H44, e45, S46⟩ := S42.stGv (i := 0) (j := 0) (own := false) (σ := (5 :: 0 :: 1 :: 1 :: 1 :: 1 :: 0 :: σ)) (xs := [(.p (.int .i64 r31.1.Kind)), (.p (.int .i64 r31.1.Cap)), v38, (.p (.int .i64 r31.1.Peer)), (.p (.int .i64 r31.1.Height)), (.p (.int .i64 r31.1.Class)), (.p (.int .i64 r31.1.Layer)), (.p (.int .i64 r31.1.Code))]) rfl rfl (stills_cons (still_int _ _) (stills_cons (still_int _ _) (stills_cons h39.still (stills_cons (still_int _ _) (stills_cons (still_int _ _) (stills_cons (still_int _ _) (stills_cons (still_int _ _) (stills_cons (still_int _ _) stills_nil)))))))) rfl rfl
  refine Sim.op (st_map e45) ?_
  refine Sim.ch (P := fun r y => r = y) ?_ (fun b47 y48 h49 h50 => ?_)
  · refine Sim.cd (fun hc => ?_) (fun hc => ?_)
    · refine Sim.op ((h7.h H44).str) ?_
      refine Sim.op (castS_p _) ?_
      exact Sim.ret rfl rfl
    · exact Sim.ret rfl rfl
  subst h50
  refine Sim.ch (P := fun r y => r = y) ?_ (fun b51 y52 h53 h54 => ?_)
  · refine Sim.cd (fun hc => ?_) (fun hc => ?_)
    · exact Sim.ret rfl rfl
    · exact Sim.ret rfl rfl
  subst h54
  refine Sim.ch (P := fun r y => r = y) ?_ (fun b55 y56 h57 h58 => ?_)
  · refine Sim.cd (fun hc => ?_) (fun hc => ?_)
    · refine Sim.op ((h14.h H44).str) ?_
      refine Sim.op (castS_p _) ?_
      exact Sim.ret rfl rfl
    · exact Sim.ret rfl rfl
  subst h58
  refine Sim.ch (P := fun r y => r = y) ?_ (fun b59 y60 h61 h62 => ?_)
  · refine Sim.cd (fun hc => ?_) (fun hc => ?_)
    · exact Sim.ret rfl rfl
    · exact Sim.ret rfl rfl
  subst h62
  refine Sim.ch (P := fun r y => r = y) ?_ (fun b63 y64 h65 h66 => ?_)
  · refine Sim.cd (fun hc => ?_) (fun hc => ?_)
    · refine Sim.op (fA_ref _ _ _) ?_
      refine Sim.op ((S46.atG (i := 1) rfl).ld (j := 3) rfl) ?_
      refine Sim.op (castI_p _ _) ?_
      exact Sim.ret rfl rfl
    · exact Sim.ret rfl rfl
  subst h66
  refine Sim.ch (P := fun r y => r = y) ?_ (fun b67 y68 h69 h70 => ?_)
  · refine Sim.cd (fun hc => ?_) (fun hc => ?_)
    · refine Sim.op (fA_ref _ _ _) ?_
      refine Sim.op ((S46.atG (i := 1) rfl).ld (j := 4) rfl) ?_
      refine Sim.op (castI_p _ _) ?_
      exact Sim.ret rfl rfl
    · exact Sim.ret rfl rfl
  subst h70
  refine Sim.ch (P := fun r y => r = y) ?_ (fun b71 y72 h73 h74 => ?_)
  · refine Sim.cd (fun hc => ?_) (fun hc => ?_)
    · exact Sim.ret rfl rfl
    · exact Sim.ret rfl rfl
  subst h74
  refine Sim.ch (P := fun r y => (.p (.bool r), H44) = y) ?_ (fun b80 y81 h82 h83 => ?_)
  · refine Sim.cd (fun hc => ?_) (fun hc => ?_)
    · refine Sim.call (ctl_Layers_ok k (([] : List T_api_Layer)) ((SlF.nil dT_api_Layer).h H44)) fun r75 cs76 H77 h78 q79 => ?_
      cases q79
      refine Sim.op (castI_p _ _) ?_
      exact Sim.ret rfl rfl
    · exact Sim.ret rfl rfl
  subst h83
  refine Sim.op (asB_p _) ?_
  refine Sim.ch (P := fun r y => (.p (.bool r), H44) = y) ?_ (fun b89 y90 h91 h92 => ?_)
  · refine Sim.cd (fun hc => ?_) (fun hc => ?_)
    · refine Sim.op (bldV pt_nil (by kernel_rfl : _ = some (.agg [.p (.int .i64 0), .p (.int .i64 0), .p (.slice none 0 0), .p (.int .i64 0), .p (.int .i64 0), .p (.int .i64 0), .p (.int .i64 0), .p (.int .i64 0)]))) ?_
      refine Sim.call (ctl_Right_ok k ((⟨0, 0, (([] : List T_api_Layer)), 0, 0, 0, 0, 0⟩ : T_api_Ctl)) (show dT_api_Ctl.R ((⟨0, 0, (([] : List T_api_Layer)), 0, 0, 0, 0, 0⟩ : T_api_Ctl)) [.p (.int .i64 0), .p (.int .i64 0), .p (.slice none 0 0), .p (.int .i64 0), .p (.int .i64 0), .p (.int .i64 0), .p (.int .i64 0), .p (.int .i64 0)] from (dT_api_Ctl.mk (SlF.nil dT_api_Layer)))) fun r84 cs85 H86 h87 q88 => ?_
      cases q88
      refine Sim.op (castI_p _ _) ?_
      exact Sim.ret rfl rfl
    · exact Sim.ret rfl rfl
  subst h92
  refine Sim.op (asB_p _) ?_
  refine Sim.ch (P := fun r y => (.p (.bool r), H44) = y) ?_ (fun b98 y99 h100 h101 => ?_)
  · refine Sim.cd (fun hc => ?_) (fun hc => ?_)
    · refine Sim.op ((S46.atG (i := 1) rfl).ldVs (j := 0) (xs := [.p (.int .i64 r15.1.Kind), .p (.int .i64 r15.1.Cap), v22, .p (.int .i64 r15.1.Peer), .p (.int .i64 r15.1.Height), .p (.int .i64 r15.1.Class), .p (.int .i64 r15.1.Layer), .p (.int .i64 r15.1.Code)]) rfl rfl (by decide)) ?_
      refine Sim.op ((S46.atG (i := 1) rfl).ldVs (j := 0) (xs := [.p (.int .i64 r15.1.Kind), .p (.int .i64 r15.1.Cap), v22, .p (.int .i64 r15.1.Peer), .p (.int .i64 r15.1.Height), .p (.int .i64 r15.1.Class), .p (.int .i64 r15.1.Layer), .p (.int .i64 r15.1.Code)]) rfl rfl (by decide)) ?_
      refine Sim.call (ctl_Same_ok k ((⟨r15.1.Kind, r15.1.Cap, r15.1.Layers, r15.1.Peer, r15.1.Height, r15.1.Class, r15.1.Layer, r15.1.Code⟩ : T_api_Ctl)) (show dT_api_Ctl.R ((⟨r15.1.Kind, r15.1.Cap, r15.1.Layers, r15.1.Peer, r15.1.Height, r15.1.Class, r15.1.Layer, r15.1.Code⟩ : T_api_Ctl)) [.p (.int .i64 r15.1.Kind), .p (.int .i64 r15.1.Cap), v22, .p (.int .i64 r15.1.Peer), .p (.int .i64 r15.1.Height), .p (.int .i64 r15.1.Class), .p (.int .i64 r15.1.Layer), .p (.int .i64 r15.1.Code)] from (dT_api_Ctl.mk h23)) ((⟨r15.1.Kind, r15.1.Cap, r15.1.Layers, r15.1.Peer, r15.1.Height, r15.1.Class, r15.1.Layer, r15.1.Code⟩ : T_api_Ctl)) (show dT_api_Ctl.R ((⟨r15.1.Kind, r15.1.Cap, r15.1.Layers, r15.1.Peer, r15.1.Height, r15.1.Class, r15.1.Layer, r15.1.Code⟩ : T_api_Ctl)) [.p (.int .i64 r15.1.Kind), .p (.int .i64 r15.1.Cap), v22, .p (.int .i64 r15.1.Peer), .p (.int .i64 r15.1.Height), .p (.int .i64 r15.1.Class), .p (.int .i64 r15.1.Layer), .p (.int .i64 r15.1.Code)] from (dT_api_Ctl.mk h23))) fun r93 cs94 H95 h96 q97 => ?_
      cases q97
      refine Sim.op (asB_p _) ?_
      exact Sim.ret rfl rfl
    · exact Sim.ret rfl rfl
  subst h101
  refine Sim.op (asB_p _) ?_
  refine Sim.ch (P := fun r y => (.p (.bool r), H44) = y) ?_ (fun b107 y108 h109 h110 => ?_)
  · refine Sim.cd (fun hc => ?_) (fun hc => ?_)
    · refine Sim.op (bldV (pt_cons rfl (pt_cons rfl pt_nil)) (by kernel_rfl : _ = some (.agg [.p (.int .i64 2), .p (.int .i64 1), .p (.slice none 0 0), .p (.int .i64 0), .p (.int .i64 0), .p (.int .i64 0), .p (.int .i64 0), .p (.int .i64 0)]))) ?_
      refine Sim.call (ctl_Right_ok k ((⟨2, 1, (([] : List T_api_Layer)), 0, 0, 0, 0, 0⟩ : T_api_Ctl)) (show dT_api_Ctl.R ((⟨2, 1, (([] : List T_api_Layer)), 0, 0, 0, 0, 0⟩ : T_api_Ctl)) [.p (.int .i64 2), .p (.int .i64 1), .p (.slice none 0 0), .p (.int .i64 0), .p (.int .i64 0), .p (.int .i64 0), .p (.int .i64 0), .p (.int .i64 0)] from (dT_api_Ctl.mk (SlF.nil dT_api_Layer)))) fun r102 cs103 H104 h105 q106 => ?_
      cases q106
      refine Sim.op (castI_p _ _) ?_
      exact Sim.ret rfl rfl
    · exact Sim.ret rfl rfl
  subst h110
  refine Sim.op (asB_p _) ?_
  exact Sim.fin (S46.finN (lv_cons (still_bool _).lv lv_nil)) rfl
end Go.Ev
/- Lifted by lift.py: limelightlaw8_CtlLayers as a plain function. -/
namespace Go.Ev
open Go.Proofs
set_option linter.unusedVariables false
set_option linter.unusedSimpArgs false
set_option maxRecDepth 100000
def p_limelightlaw8_CtlLayers (k : Nat) (x0 : (List Int)) (x1 : Int) : Option (Bool) :=
(p_limelightkeep_Tape_Layers k (⟨x0, 0⟩ : T_limelightkeep_Tape) (intBits .and .i64 x1 3)).bind fun r5 =>
(p_ctl_Layers k r5.1).bind fun r22 =>
bif r22 != 0 then (
some (false))
else (
bif decide (((r5.1.length : Int)) > 1) then (
(ap 32 (([] : List T_api_Layer)) r5.1).bind fun a30 =>
(ix a30 1).bind fun a36 =>
(ix a30 0).bind fun a41 =>
(ix a30 0).bind fun a46 =>
(stx a30 0 a36).bind fun a51 =>
(ix a51 1).bind fun a53 =>
(stx a51 1 a41).bind fun a58 =>
(ap 32 (([] : List T_api_Layer)) r5.1).bind fun a63 =>
(ix a63 0).bind fun a69 =>
(ix a63 1).bind fun a77 =>
(stx a63 1 ((⟨a77.Rid, a69.Ssrc, a77.Height⟩ : T_api_Layer))).bind fun a85 =>
(ap 32 (([] : List T_api_Layer)) r5.1).bind fun a90 =>
(ix a90 0).bind fun a96 =>
(ix a90 1).bind fun a104 =>
(stx a90 1 ((⟨a96.Rid, a104.Ssrc, a104.Height⟩ : T_api_Layer))).bind fun a112 =>
(p_ctl_Layers k a58).bind fun r114 =>
(bif r114 != 26 then (some true) else ((p_ctl_Layers k a85).bind fun r119 =>
some (r119 != 26))).bind fun b124 =>
(bif b124 then (some true) else ((p_ctl_Layers k a112).bind fun r128 =>
some (r128 != 26))).bind fun b133 =>
bif b133 then (
some (false))
else (
(ap 32 (([] : List T_api_Layer)) r5.1).bind fun a140 =>
(ap 32 a140 r5.1).bind fun a146 =>
(p_ctl_Layers k a146).bind fun r152 =>
(bif r152 == 26 then ((p_limelightlaw8_known k).bind fun r157 =>
some r157) else (some false)).bind fun b162 =>
some (b162)))
else (
(ap 32 (([] : List T_api_Layer)) r5.1).bind fun a169 =>
(ap 32 a169 r5.1).bind fun a175 =>
(p_ctl_Layers k a175).bind fun r181 =>
(bif r181 == 26 then ((p_limelightlaw8_known k).bind fun r186 =>
some r186) else (some false)).bind fun b191 =>
some (b191)))
theorem limelightlaw8_CtlLayers_ok (k : Nat) {h : H} {σ : Stamp} (x0 : List Int) {u0 : V} (hu0 : SlF (dI .i64) x0 u0) (x1 : Int) : Sim (p_limelightlaw8_CtlLayers k x0 x1) (ev G X0 10 σ [u0, (.p (.int .i64 x1))] h) (fun r s => s = ([.v (.p (.bool r))], h)) := by
  refine Sim.ev rfl (Sim.ext (limelightlaw8_CtlLayers_entry _ _ _ _ _ _) ?_)
  rw [p_limelightlaw8_CtlLayers]
  have S0 : Fm 77 h [] [] [] (List.replicate 77 [] :: h) := Fm.start0
  refine Sim.op (bldV (pt_cons hu0.still.cells pt_nil) (by kernel_rfl : _ = some (.agg [u0, .p (.int .i64 0)]))) ?_
  obtain ⟨H1, e2, S3⟩ := S0.box (own := false) (d := 11) (s := (2 :: 0 :: 1 :: 0 :: σ)) (xs := [u0, .p (.int .i64 0)]) (stills_cons hu0.still (stills_cons (still_int _ _) stills_nil)) (by decide) rfl
  refine Sim.op (e2) ?_
  refine Sim.call (limelightkeep_Tape_Layers_ok k (⟨x0, 0⟩ : T_limelightkeep_Tape) hu0 (S3.atG (i := 0) rfl) (intBits .and .i64 x1 3)) fun r5 cs6 H7 h8 q9 => ?_
  obtain ⟨c10, cs11, v14, h12, h13, h15, q9⟩ := q9
  cases q9
  have S16 := S3.setG (i := 0) (cs' := List.map C.v [v14, (.p (.int .i64 r5.2.f_At))]) rfl rfl rfl
  obtain ⟨v17, H18, e19, S20⟩ := S16.land (dt := dT_api_Layer) (d := 14) (e := 0) (n := 0) h12 h13 (by decide) rfl
  erw [e19]
  refine Sim.call (ctl_Layers_ok k r5.1 (S20.sl (i := 0) rfl)) fun r22 cs23 H24 h25 q26 => ?_
  cases q26
  refine Sim.op (castI_p _ _) ?_
  refine Sim.cd (fun hc => ?_) (fun hc => ?_)
  · exact Sim.fin (S20.finN (lv_cons (still_bool _).lv lv_nil)) rfl
  · refine Sim.op ((S20.sl (i := 0) rfl).len) ?_
    refine Sim.op (castI_p _ _) ?_
    refine Sim.cd (fun hc => ?_) (fun hc => ?_)
    · have h27 : SlF dT_api_Layer ([] : List T_api_Layer) (.fz [] 0 3 true) := SlF.lit (cs := []) RL.nil rfl rfl true
      refine Sim.op (bldS pt_nil (by kernel_rfl : _ = some (.fz [] 0 3 true))) ?_
      have S29 := S20.nil' dT_api_Layer [] (e := 3) rfl
      refine Sim.bd fun a30 h31 => ?_
      obtain ⟨v32, H33, e34, S35⟩ := S29.app (i := 0) (d := 23) (e := 3) (own := false) (σ := (2 :: 0 :: 1 :: 0 :: 1 :: 1 :: 1 :: 0 :: σ)) rfl (S29.sl (i := 1) rfl).y h31 rfl (by decide) (by decide) rfl
      refine Sim.op (e34) ?_
      refine Sim.bd fun a36 h37 => ?_
      refine Sim.op ((S35.sl (i := 0) rfl).iS h37 rfl) ?_
      obtain ⟨w39, h40, hE38⟩ := (S35.sl (i := 0) rfl).el h37 rfl
      obtain rfl := dT_api_Layer.inv h40
      refine Sim.op (hE38.all (by simp)) ?_
      refine Sim.bd fun a41 h42 => ?_
      refine Sim.op ((S35.sl (i := 0) rfl).iS h42 rfl) ?_
      obtain ⟨w44, h45, hE43⟩ := (S35.sl (i := 0) rfl).el h42 rfl
      obtain rfl := dT_api_Layer.inv h45
      refine Sim.op (hE43.all (by simp)) ?_
      refine Sim.bd fun a46 h47 => ?_
      refine Sim.op ((S35.sl (i := 0) rfl).iS h47 rfl) ?_
      refine Sim.bd fun a51 h52 => ?_
      obtain ⟨H48, e49, S50⟩ := S35.setA (i := 0) (e := 3) (own := false) (σ := (9 :: 0 :: 1 :: 1 :: 0 :: 1 :: 1 :: 1 :: 0 :: σ)) (nv := [.p (.string a36.Rid), .p (.int .u32 a36.Ssrc), .p (.int .i64 a36.Height)]) (xv := (.agg [.p (.string a36.Rid), .p (.int .u32 a36.Ssrc), .p (.int .i64 a36.Height)])) rfl h52 rfl (by decide) (stN_agg (stills_cons (still_str _) (stills_cons (still_int _ _) (stills_cons (still_int _ _) stills_nil)))) (show dT_api_Layer.R a36 [.p (.string a36.Rid), .p (.int .u32 a36.Ssrc), .p (.int .i64 a36.Height)] from (dT_api_Layer.mk)) rfl rfl
      refine Sim.op (st_map e49) ?_
      refine Sim.bd fun a53 h54 => ?_
      refine Sim.op ((S50.sl (i := 0) rfl).iS h54 rfl) ?_
      refine Sim.bd fun a58 h59 => ?_
      obtain ⟨H55, e56, S57⟩ := S50.setA (i := 0) (e := 3) (own := false) (σ := (11 :: 0 :: 1 :: 1 :: 0 :: 1 :: 1 :: 1 :: 0 :: σ)) (nv := [.p (.string a41.Rid), .p (.int .u32 a41.Ssrc), .p (.int .i64 a41.Height)]) (xv := (.agg [.p (.string a41.Rid), .p (.int .u32 a41.Ssrc), .p (.int .i64 a41.Height)])) rfl h59 rfl (by decide) (stN_agg (stills_cons (still_str _) (stills_cons (still_int _ _) (stills_cons (still_int _ _) stills_nil)))) (show dT_api_Layer.R a41 [.p (.string a41.Rid), .p (.int .u32 a41.Ssrc), .p (.int .i64 a41.Height)] from (dT_api_Layer.mk)) rfl rfl
      refine Sim.op (st_map e56) ?_
      have h60 : SlF dT_api_Layer ([] : List T_api_Layer) (.fz [] 0 3 true) := SlF.lit (cs := []) RL.nil rfl rfl true
      refine Sim.op (bldS pt_nil (by kernel_rfl : _ = some (.fz [] 0 3 true))) ?_
      have S62 := S57.nil' dT_api_Layer [] (e := 3) rfl
      refine Sim.bd fun a63 h64 => ?_
      obtain ⟨v65, H66, e67, S68⟩ := S62.app (i := 0) (d := 36) (e := 3) (own := false) (σ := (2 :: 0 :: 1 :: 1 :: 1 :: 0 :: 1 :: 1 :: 1 :: 0 :: σ)) rfl (S62.sl (i := 2) rfl).y h64 rfl (by decide) (by decide) rfl
      refine Sim.op (e67) ?_
      refine Sim.bd fun a69 h70 => ?_
      refine Sim.op ((S68.sl (i := 0) rfl).iS h70 rfl) ?_
      obtain ⟨w72, h73, hE71⟩ := (S68.sl (i := 0) rfl).el h70 rfl
      obtain rfl := dT_api_Layer.inv h73
      refine Sim.op (hE71.fa (j := 1) (by simp)) ?_
      obtain ⟨w75, h76, hE74⟩ := (S68.sl (i := 0) rfl).el h70 rfl
      obtain rfl := dT_api_Layer.inv h76
      refine Sim.op (hE74.ld (j := 1) rfl) ?_
      refine Sim.op (castI_p _ _) ?_
      refine Sim.bd fun a77 h78 => ?_
      refine Sim.op ((S68.sl (i := 0) rfl).iS h78 rfl) ?_
      obtain ⟨w80, h81, hE79⟩ := (S68.sl (i := 0) rfl).el h78 rfl
      obtain rfl := dT_api_Layer.inv h81
      refine Sim.op (hE79.fa (j := 1) (by simp)) ?_
      refine Sim.bd fun a85 h86 => ?_
      obtain ⟨H82, e83, S84⟩ := S68.setE (i := 0) (off := 1) (n := 1) (e := 3) (own := true) (σ := (7 :: 0 :: 1 :: 1 :: 1 :: 1 :: 0 :: 1 :: 1 :: 1 :: 0 :: σ)) (nv := [(.p (.int .u32 a69.Ssrc))]) (xv := (.p (.int .u32 a69.Ssrc))) rfl h78 h86 rfl rfl (by decide) (by decide) (stN_one (still_int _ _)) (fun ws hw => by
      obtain rfl := dT_api_Layer.inv hw
      exact (dT_api_Layer.mk)) rfl rfl
      refine Sim.op (st_map e83) ?_
      have h87 : SlF dT_api_Layer ([] : List T_api_Layer) (.fz [] 0 3 true) := SlF.lit (cs := []) RL.nil rfl rfl true
      refine Sim.op (bldS pt_nil (by kernel_rfl : _ = some (.fz [] 0 3 true))) ?_
      have S89 := S84.nil' dT_api_Layer [] (e := 3) rfl
      refine Sim.bd fun a90 h91 => ?_
      obtain ⟨v92, H93, e94, S95⟩ := S89.app (i := 0) (d := 46) (e := 3) (own := false) (σ := (2 :: 0 :: 1 :: 1 :: 1 :: 1 :: 1 :: 0 :: 1 :: 1 :: 1 :: 0 :: σ)) rfl (S89.sl (i := 3) rfl).y h91 rfl (by decide) (by decide) rfl
      refine Sim.op (e94) ?_
      refine Sim.bd fun a96 h97 => ?_
      refine Sim.op ((S95.sl (i := 0) rfl).iS h97 rfl) ?_
      obtain ⟨w99, h100, hE98⟩ := (S95.sl (i := 0) rfl).el h97 rfl
      obtain rfl := dT_api_Layer.inv h100
      refine Sim.op (hE98.fa (j := 0) (by simp)) ?_
      obtain ⟨w102, h103, hE101⟩ := (S95.sl (i := 0) rfl).el h97 rfl
      obtain rfl := dT_api_Layer.inv h103
      refine Sim.op (hE101.ld (j := 0) rfl) ?_
      refine Sim.op (castS_p _) ?_
      refine Sim.bd fun a104 h105 => ?_
      refine Sim.op ((S95.sl (i := 0) rfl).iS h105 rfl) ?_
      obtain ⟨w107, h108, hE106⟩ := (S95.sl (i := 0) rfl).el h105 rfl
      obtain rfl := dT_api_Layer.inv h108
      refine Sim.op (hE106.fa (j := 0) (by simp)) ?_
      refine Sim.bd fun a112 h113 => ?_
      obtain ⟨H109, e110, S111⟩ := S95.setE (i := 0) (off := 0) (n := 1) (e := 3) (own := true) (σ := (7 :: 0 :: 1 :: 1 :: 1 :: 1 :: 1 :: 1 :: 0 :: 1 :: 1 :: 1 :: 0 :: σ)) (nv := [(.p (.string a96.Rid))]) (xv := (.p (.string a96.Rid))) rfl h105 h113 rfl rfl (by decide) (by decide) (stN_one (still_str _)) (fun ws hw => by
      obtain rfl := dT_api_Layer.inv hw
      exact (dT_api_Layer.mk)) rfl rfl
      refine Sim.op (st_map e110) ?_
      refine Sim.call (ctl_Layers_ok k a58 (S111.sl (i := 2) rfl)) fun r114 cs115 H116 h117 q118 => ?_
      cases q118
      refine Sim.op (castI_p _ _) ?_
      refine Sim.ch (P := fun r y => (.p (.bool r), H109) = y) ?_ (fun b124 y125 h126 h127 => ?_)
      · refine Sim.cd (fun hc => ?_) (fun hc => ?_)
        · exact Sim.ret rfl rfl
        · refine Sim.call (ctl_Layers_ok k a85 (S111.sl (i := 1) rfl)) fun r119 cs120 H121 h122 q123 => ?_
          cases q123
          refine Sim.op (castI_p _ _) ?_
          exact Sim.ret rfl rfl
      subst h127
      refine Sim.op (asB_p _) ?_
      refine Sim.ch (P := fun r y => (.p (.bool r), H109) = y) ?_ (fun b133 y134 h135 h136 => ?_)
      · refine Sim.cd (fun hc => ?_) (fun hc => ?_)
        · exact Sim.ret rfl rfl
        · refine Sim.call (ctl_Layers_ok k a112 (S111.sl (i := 0) rfl)) fun r128 cs129 H130 h131 q132 => ?_
          cases q132
          refine Sim.op (castI_p _ _) ?_
          exact Sim.ret rfl rfl
      subst h136
      refine Sim.op (asB_p _) ?_
      refine Sim.cd (fun hc => ?_) (fun hc => ?_)
      · exact Sim.fin (S111.finN (lv_cons (still_bool _).lv lv_nil)) rfl
      · have h137 : SlF dT_api_Layer ([] : List T_api_Layer) (.fz [] 0 3 true) := SlF.lit (cs := []) RL.nil rfl rfl true
        refine Sim.op (bldS pt_nil (by kernel_rfl : _ = some (.fz [] 0 3 true))) ?_
        have S139 := S111.nil' dT_api_Layer [] (e := 3) rfl
        refine Sim.bd fun a140 h141 => ?_
        obtain ⟨v142, H143, e144, S145⟩ := S139.app (i := 0) (d := 69) (e := 3) (own := false) (σ := (2 :: 0 :: 1 :: 1 :: 1 :: 1 :: 0 :: σ)) rfl (S139.sl (i := 4) rfl).y h141 rfl (by decide) (by decide) rfl
        refine Sim.op (e144) ?_
        refine Sim.bd fun a146 h147 => ?_
        obtain ⟨v148, H149, e150, S151⟩ := S145.app (i := 0) (d := 71) (e := 3) (own := false) (σ := (4 :: 0 :: 1 :: 1 :: 1 :: 1 :: 0 :: σ)) rfl (S145.sl (i := 4) rfl).y h147 rfl (by decide) (by decide) rfl
        refine Sim.op (e150) ?_
        refine Sim.call (ctl_Layers_ok k a146 (S151.sl (i := 0) rfl)) fun r152 cs153 H154 h155 q156 => ?_
        cases q156
        refine Sim.op (castI_p _ _) ?_
        refine Sim.ch (P := fun r y => (.p (.bool r), H149) = y) ?_ (fun b162 y163 h164 h165 => ?_)
        · refine Sim.cd (fun hc => ?_) (fun hc => ?_)
          · refine Sim.call (limelightlaw8_known_ok k ) fun r157 cs158 H159 h160 q161 => ?_
            cases q161
            refine Sim.op (asB_p _) ?_
            exact Sim.ret rfl rfl
          · exact Sim.ret rfl rfl
        subst h165
        refine Sim.op (asB_p _) ?_
        exact Sim.fin (S151.finN (lv_cons (still_bool _).lv lv_nil)) rfl
    · have h166 : SlF dT_api_Layer ([] : List T_api_Layer) (.fz [] 0 3 true) := SlF.lit (cs := []) RL.nil rfl rfl true
      refine Sim.op (bldS pt_nil (by kernel_rfl : _ = some (.fz [] 0 3 true))) ?_
      have S168 := S20.nil' dT_api_Layer [] (e := 3) rfl
      refine Sim.bd fun a169 h170 => ?_
      obtain ⟨v171, H172, e173, S174⟩ := S168.app (i := 0) (d := 69) (e := 3) (own := false) (σ := (2 :: 0 :: 1 :: 1 :: 1 :: 1 :: 0 :: σ)) rfl (S168.sl (i := 1) rfl).y h170 rfl (by decide) (by decide) rfl
      refine Sim.op (e173) ?_
      refine Sim.bd fun a175 h176 => ?_
      obtain ⟨v177, H178, e179, S180⟩ := S174.app (i := 0) (d := 71) (e := 3) (own := false) (σ := (4 :: 0 :: 1 :: 1 :: 1 :: 1 :: 0 :: σ)) rfl (S174.sl (i := 1) rfl).y h176 rfl (by decide) (by decide) rfl
      refine Sim.op (e179) ?_
      refine Sim.call (ctl_Layers_ok k a175 (S180.sl (i := 0) rfl)) fun r181 cs182 H183 h184 q185 => ?_
      cases q185
      refine Sim.op (castI_p _ _) ?_
      refine Sim.ch (P := fun r y => (.p (.bool r), H178) = y) ?_ (fun b191 y192 h193 h194 => ?_)
      · refine Sim.cd (fun hc => ?_) (fun hc => ?_)
        · refine Sim.call (limelightlaw8_known_ok k ) fun r186 cs187 H188 h189 q190 => ?_
          cases q190
          refine Sim.op (asB_p _) ?_
          exact Sim.ret rfl rfl
        · exact Sim.ret rfl rfl
      subst h194
      refine Sim.op (asB_p _) ?_
      exact Sim.fin (S180.finN (lv_cons (still_bool _).lv lv_nil)) rfl
end Go.Ev
namespace Go.Ev
set_option maxRecDepth 100000
/-- One of these is as another one is. -/
def sameL (b a : T_api_Layer) : Bool := b.Ssrc == a.Ssrc || (RidX.foldB b.Rid).toList == (RidX.foldB a.Rid).toList
def okL (a : T_api_Layer) (prev : Option T_api_Layer) : Bool :=
  RidX.rightB a.Rid && (decide (1 ≤ a.Height) && (decide (a.Height ≤ 8192) && (match prev with | none => true | some b => decide (b.Height < a.Height))))
def chkL : List T_api_Layer → List T_api_Layer → Bool
  | _, [] => true
  | pre, a :: rest => okL a pre.getLast? && (!(pre.any fun b => sameL b a) && chkL (pre ++ [a]) rest)
theorem same_ok {a b : T_api_Layer} (ha : a.Rid.size < 2 ^ 40) (hb : b.Rid.size < 2 ^ 40) : p_ctl_Layers_1 b a = some (sameL b a) := by
  unfold p_ctl_Layers_1 p_rid_Same sameL p_rid_Fold
  rw [if_pos ha, if_pos hb]
  cases (b.Ssrc == a.Ssrc) <;> rfl
theorem idx_l0 {β : Type} (kE0 : Unit → Option β) (kE1 : Int → Option β) (a : T_api_Layer) (ha : a.Rid.size < 2 ^ 40) (l : List T_api_Layer) (hl : l.length < 2 ^ 30) (hs : ∀ b ∈ l, b.Rid.size < 2 ^ 40) : ∀ (rest pre : List T_api_Layer) (j : Nat), l = pre ++ rest →
    ∃ i : Nat, p_slices_IndexFunc_Lapi_Layer_api_Layer_ctl_Layers_1_l0 (j + rest.length + 1) kE0 kE1 l a (l.length : Int) (pre.length : Int) = bif rest.any (fun b => sameL b a) then kE1 (i : Int) else kE0 ()
  | [], pre, j, h => by
    rw [p_slices_IndexFunc_Lapi_Layer_api_Layer_ctl_Layers_1_l0]
    have h1 : decide ((pre.length : Int) < (l.length : Int)) = false := by subst h; simp
    rw [h1, cond_false]
    exact ⟨0, rfl⟩
  | b :: rest, pre, j, h => by
    rw [List.length_cons, show j + (rest.length + 1) + 1 = (j + rest.length + 1) + 1 from rfl, p_slices_IndexFunc_Lapi_Layer_api_Layer_ctl_Layers_1_l0]
    have h1 : decide ((pre.length : Int) < (l.length : Int)) = true := by subst h; simp; omega
    have h2 : ix l (pre.length : Int) = some b := ix_mid' h rfl
    have h4 : IntKind.wrap .i64 ((pre.length : Int) + 1) = (((pre ++ [b]).length : Nat) : Int) := by
      rw [wrap_i64 (by omega) (by have : pre.length ≤ l.length := by subst h; simp
                                  omega)]
      simp
    have h3 : p_ctl_Layers_1 b (⟨a.Rid, a.Ssrc, a.Height⟩ : T_api_Layer) = some (sameL b a) := same_ok ha (hs b (by rw [h]; simp))
    rw [h1, cond_true, h2, Option.bind_some, h3, Option.bind_some, List.any_cons]
    cases sameL b a with
    | true => exact ⟨pre.length, by simp⟩
    | false =>
      rw [cond_false, Bool.false_or, h4]
      exact idx_l0 kE0 kE1 a ha l hl hs rest (pre ++ [b]) j (by rw [h]; simp)
theorem contains_ok {a : T_api_Layer} (ha : a.Rid.size < 2 ^ 40) {l : List T_api_Layer} (hl : l.length < 2 ^ 30) (hs : ∀ b ∈ l, b.Rid.size < 2 ^ 40) {k : Nat} (hk : l.length < k) : p_slices_ContainsFunc_Lapi_Layer_api_Layer_ctl_Layers_1 k l (⟨a.Rid, a.Ssrc, a.Height⟩ : T_api_Layer) = some (l.any fun b => sameL b a) := by
  unfold p_slices_ContainsFunc_Lapi_Layer_api_Layer_ctl_Layers_1 p_slices_IndexFunc_Lapi_Layer_api_Layer_ctl_Layers_1
  obtain ⟨i, hi⟩ := idx_l0 (fun (_ : Unit) => (some (-1) : Option Int)) (fun r => some r) a ha l hl hs l [] (k - l.length - 1) rfl
  simp only [show k - l.length - 1 + l.length + 1 = k by omega, List.length_nil] at hi
  rw [show ((0 : Nat) : Int) = 0 from rfl] at hi
  refine (congrArg (fun x => Option.bind x _) hi).trans ?_
  cases l.any (fun b => sameL b a) with
  | true => simp
  | false => simp
theorem layers_l0 {β : Type} (kE0 : Unit → Option β) (kE1 : Int → Option β) (l : List T_api_Layer) (hl : l.length ≤ 3) (hs : ∀ b ∈ l, b.Rid.size < 2 ^ 40) : ∀ (rest pre : List T_api_Layer) (j : Nat), l = pre ++ rest → 6 ≤ j →
    p_ctl_Layers_l0 (j + rest.length + 1) kE0 kE1 l l (l.length : Int) (pre.length : Int) = bif chkL pre rest then kE0 () else kE1 26
  | [], pre, j, h, _ => by
    rw [p_ctl_Layers_l0]
    have h1 : decide ((pre.length : Int) < (l.length : Int)) = false := by subst h; simp
    rw [h1, cond_false, chkL, cond_true]
  | a :: rest, pre, j, h, hj => by
    have hplen : pre.length + 1 ≤ l.length := by rw [h, List.length_append, List.length_cons]; omega
    rw [List.length_cons, show j + (rest.length + 1) + 1 = (j + rest.length + 1) + 1 from rfl, p_ctl_Layers_l0]
    have h1 : decide ((pre.length : Int) < (l.length : Int)) = true := decide_eq_true (by omega)
    have h2 : ix l (pre.length : Int) = some a := ix_mid' h rfl
    have h4 : IntKind.wrap .i64 ((pre.length : Int) + 1) = (((pre ++ [a]).length : Nat) : Int) := by
      rw [wrap_i64 (by omega) (by omega)]
      simp
    have hsub : sub l 0 (pre.length : Int) = some pre := by
      have := sub_eq (xs := l) (a := 0) (n := pre.length) (by omega)
      rw [Nat.zero_add, List.drop_zero] at this
      rw [show ((0 : Nat) : Int) = 0 from rfl] at this
      rw [this, h, List.take_left]
    have hcon := contains_ok (a := a) (hs a (by rw [h]; simp)) (l := pre) (by omega) (fun b hb => hs b (by rw [h]; simp [hb])) (k := j + rest.length + 1) (by omega)
    have hprev : (bif decide ((pre.length : Int) > 0) then ((ix l (IntKind.wrap .i64 ((pre.length : Int) - 1))).bind fun a36 => some (decide (a.Height ≤ a36.Height))) else (some false)) = some (match pre.getLast? with | none => false | some b => decide (a.Height ≤ b.Height)) := by
      rcases List.eq_nil_or_concat pre with rfl | ⟨q, b, rfl⟩
      · rfl
      · rw [List.concat_eq_append] at h hplen ⊢
        have g1 : decide ((((q ++ [b]).length : Nat) : Int) > 0) = true := decide_eq_true (by rw [List.length_append, List.length_cons]; omega)
        have g2 : IntKind.wrap .i64 ((((q ++ [b]).length : Nat) : Int) - 1) = (q.length : Int) := by
          rw [List.length_append, List.length_cons, List.length_nil] at hplen ⊢
          rw [wrap_i64 (by omega) (by omega)]; omega
        have g3 : ix l (q.length : Int) = some b := ix_mid' (ys := a :: rest) (by rw [h]; simp) rfl
        rw [g1, cond_true, g2, g3, Option.bind_some, List.getLast?_concat]
    rw [h1, cond_true, h2, Option.bind_some]
    simp only [p_rid_Right, Option.bind_some]
    rw [chkL]
    unfold okL
    have ih := layers_l0 kE0 kE1 l hl hs rest (pre ++ [a]) j (by rw [h]; simp) hj
    cases hr : RidX.rightB a.Rid with
    | false => simp
    | true =>
      simp only [Bool.not_true, cond_false, Option.bind_some, Bool.true_and]
      by_cases c1 : a.Height < 1
      · have d1 : decide (a.Height < 1) = true := decide_eq_true c1
        have d2 : decide (1 ≤ a.Height) = false := decide_eq_false (by omega)
        simp only [d1, d2, cond_true, Option.bind_some, Bool.false_and, cond_false]
      · have d1 : decide (a.Height < 1) = false := decide_eq_false c1
        have d2 : decide (1 ≤ a.Height) = true := decide_eq_true (by omega)
        by_cases c2 : a.Height > 8192
        · have e1 : decide (a.Height > 8192) = true := decide_eq_true c2
          have e2 : decide (a.Height ≤ 8192) = false := decide_eq_false (by omega)
          simp only [d1, d2, e1, e2, cond_true, cond_false, Option.bind_some, Bool.false_and, Bool.true_and]
        · have e1 : decide (a.Height > 8192) = false := decide_eq_false c2
          have e2 : decide (a.Height ≤ 8192) = true := decide_eq_true (by omega)
          simp only [d1, d2, e1, e2, cond_false, Option.bind_some, Bool.true_and, hprev]
          have key : ∀ (p q : Bool), p = !q → (bif p then kE1 26 else (sub l 0 (pre.length : Int)).bind fun a52 => (p_slices_ContainsFunc_Lapi_Layer_api_Layer_ctl_Layers_1 (j + rest.length + 1) a52 (⟨a.Rid, a.Ssrc, a.Height⟩ : T_api_Layer)).bind fun r54 => bif r54 then kE1 26 else p_ctl_Layers_l0 (j + rest.length + 1) kE0 kE1 l l (l.length : Int) (IntKind.wrap .i64 ((pre.length : Int) + 1))) = bif q && (!(pre.any fun b => sameL b a) && chkL (pre ++ [a]) rest) then kE0 () else kE1 26 := by
            intro p q hpq
            subst hpq
            cases q with
            | false => rfl
            | true =>
              rw [Bool.not_true, cond_false, hsub, Option.bind_some, hcon, Option.bind_some, h4, ih]
              cases (pre.any fun b => sameL b a) <;> simp
          refine key _ _ ?_
          cases pre.getLast? with
          | none => rfl
          | some b => by_cases hh : a.Height ≤ b.Height <;> simp [hh] <;> omega
theorem layers_eq {l : List T_api_Layer} (h1 : 1 ≤ l.length) (h3 : l.length ≤ 3) (hs : ∀ b ∈ l, b.Rid.size < 2 ^ 40) : p_ctl_Layers 40 l = some (bif chkL [] l then 0 else 26) := by
  unfold p_ctl_Layers
  have d1 : decide ((l.length : Int) < 1) = false := decide_eq_false (by omega)
  have d2 : decide ((l.length : Int) > 3) = false := decide_eq_false (by omega)
  simp only [d1, d2, cond_false, Option.bind_some]
  have := layers_l0 (fun (_ : Unit) => (some 0 : Option Int)) (fun r => some r) l h3 hs l [] (40 - l.length - 1) rfl (by omega)
  simp only [show 40 - l.length - 1 + l.length + 1 = 40 by omega, List.length_nil] at this
  rw [show ((0 : Nat) : Int) = 0 from rfl] at this
  refine this.trans ?_
  cases chkL [] l <;> rfl
theorem layers_many {l : List T_api_Layer} (h3 : 3 < l.length) (k : Nat) : p_ctl_Layers k l = some 26 := by
  unfold p_ctl_Layers
  have d1 : decide ((l.length : Int) < 1) = false := decide_eq_false (by omega)
  have d2 : decide ((l.length : Int) > 3) = true := decide_eq_true (by omega)
  simp only [d1, d2, cond_false, cond_true, Option.bind_some]
def nmL : Nat → ByteArray | 0 => ⟨#[108, 111]⟩ | 1 => ⟨#[109, 105, 100]⟩ | _ => ⟨#[72, 73]⟩
/-- The layer i of a tape. -/
def tpL (p : Int) (i : Nat) (r : Int) : T_api_Layer := ⟨nmL i, 100 * p + i + 7, 180 * ((i : Int) + 1) + r⟩
theorem nmL_right : ∀ i : Nat, RidX.rightB (nmL i) = true
  | 0 => by kernel_rfl
  | 1 => by kernel_rfl
  | _ + 2 => by show RidX.rightB ⟨#[72, 73]⟩ = true; kernel_rfl
theorem nmL_size : ∀ i : Nat, (nmL i).size < 2 ^ 40
  | 0 => by decide
  | 1 => by decide
  | _ + 2 => by show (⟨#[72, 73]⟩ : ByteArray).size < 2 ^ 40; decide
theorem nm01 : ((RidX.foldB (nmL 0)).toList == (RidX.foldB (nmL 1)).toList) = false := by kernel_rfl
theorem nm02 : ((RidX.foldB (nmL 0)).toList == (RidX.foldB (nmL 2)).toList) = false := by kernel_rfl
theorem nm12 : ((RidX.foldB (nmL 1)).toList == (RidX.foldB (nmL 2)).toList) = false := by kernel_rfl
theorem and3 (x : Int) : 0 ≤ intBits .and .i64 x 3 ∧ intBits .and .i64 x 3 ≤ 3 := by
  have h : intBits .and .i64 x ((2 ^ 2 - 1 : Nat) : Int) = x % 2 ^ 2 := intBits_and_nat (k := .i64) (by decide)
  have h2 : ((2 ^ 2 - 1 : Nat) : Int) = 3 := rfl
  rw [h2] at h
  rw [h]
  omega
theorem wrap_u32 {n : Int} (h1 : 0 ≤ n) (h2 : n < 4294967296) : IntKind.wrap .u32 n = n := by
  simp only [IntKind.wrap, IntKind.signed, IntKind.bits]
  simp
  omega
/-- One round of a tape's layers: it goes on, or is over. -/
theorem tlayers_step {β : Type} (kE0 : List T_api_Layer → T_limelightkeep_Tape → Option β) {p : Int} (hp : 0 ≤ p ∧ p ≤ 5) {i : Nat} (hi : i ≤ 2) {out : List T_api_Layer} (ho : out.length ≤ 3) {t : T_limelightkeep_Tape} (h : TP t) (k : Nat) :
    (∃ t', p_limelightkeep_Tape_Layers_l0 (k + 1) kE0 p out (i : Int) t = kE0 out t' ∧ 1 ≤ i) ∨
    (∃ r t', p_limelightkeep_Tape_Layers_l0 (k + 1) kE0 p out (i : Int) t = p_limelightkeep_Tape_Layers_l0 k kE0 p (out ++ [tpL p i r]) ((i + 1 : Nat) : Int) t' ∧ (0 ≤ r ∧ r < 90) ∧ TP t') := by
  obtain ⟨m, t1, e1, r1, h1⟩ := next_tape h (n := 3) (by omega)
  rw [p_limelightkeep_Tape_Layers_l0, tape_eta, e1, Option.bind_some]
  by_cases hm : (i : Int) ≤ m
  · have d : decide ((i : Int) ≤ m) = true := decide_eq_true hm
    obtain ⟨r, t2, e2, r2, h2⟩ := next_tape h1 (n := 90) (by omega)
    refine .inr ⟨r, t2, ?_, r2, h2⟩
    have hx : ix ([((⟨#[108, 111]⟩ : ByteArray)), ((⟨#[109, 105, 100]⟩ : ByteArray)), ((⟨#[72, 73]⟩ : ByteArray))]) (i : Int) = some (nmL i) := by
      rcases i with _ | _ | _ | i
      · rfl
      · rfl
      · rfl
      · omega
    simp only [d, cond_true, hx, Option.bind_some, tape_eta, e2]
    have w1 : IntKind.wrap .i64 (100 * p) = 100 * p := wrap_i64 (by omega) (by omega)
    have w2 : IntKind.wrap .i64 (100 * p + (i : Int)) = 100 * p + i := wrap_i64 (by omega) (by omega)
    have w3 : IntKind.wrap .i64 (100 * p + (i : Int) + 7) = 100 * p + i + 7 := wrap_i64 (by omega) (by omega)
    have w4 : IntKind.wrap .u32 (100 * p + (i : Int) + 7) = 100 * p + i + 7 := wrap_u32 (by omega) (by omega)
    have w5 : IntKind.wrap .i64 ((i : Int) + 1) = (i : Int) + 1 := wrap_i64 (by omega) (by omega)
    have w6 : IntKind.wrap .i64 (180 * ((i : Int) + 1)) = 180 * ((i : Int) + 1) := wrap_i64 (by omega) (by omega)
    have w7 : IntKind.wrap .i64 (180 * ((i : Int) + 1) + r) = 180 * ((i : Int) + 1) + r := wrap_i64 (by omega) (by omega)
    simp only [w1, w2, w3, w4, w5, w6, w7]
    rw [ap_eq (by decide) (by simp only [List.length_cons, List.length_nil]; omega), Option.bind_some]
    rfl
  · have d : decide ((i : Int) ≤ m) = false := decide_eq_false hm
    rw [d, cond_false]
    exact .inl ⟨t1, rfl, by omega⟩
theorem tlayers_end {β : Type} (kE0 : List T_api_Layer → T_limelightkeep_Tape → Option β) {p : Int} {out : List T_api_Layer} {t : T_limelightkeep_Tape} (h : TP t) (k : Nat) :
    ∃ t', p_limelightkeep_Tape_Layers_l0 (k + 1) kE0 p out ((3 : Nat) : Int) t = kE0 out t' := by
  obtain ⟨m, t1, e1, r1, h1⟩ := next_tape h (n := 3) (by omega)
  rw [p_limelightkeep_Tape_Layers_l0, tape_eta, e1, Option.bind_some]
  have d : decide (((3 : Nat) : Int) ≤ m) = false := decide_eq_false (by omega)
  rw [d, cond_false]
  exact ⟨t1, rfl⟩
def Ly (p : Int) (l : List T_api_Layer) : Prop := (∃ r, (0 ≤ r ∧ r < 90) ∧ l = [tpL p 0 r]) ∨ (∃ r s, (0 ≤ r ∧ r < 90) ∧ (0 ≤ s ∧ s < 90) ∧ l = [tpL p 0 r, tpL p 1 s]) ∨ ∃ r s u, (0 ≤ r ∧ r < 90) ∧ (0 ≤ s ∧ s < 90) ∧ (0 ≤ u ∧ u < 90) ∧ l = [tpL p 0 r, tpL p 1 s, tpL p 2 u]
theorem tape_layers {t : T_limelightkeep_Tape} (h : TP t) {p : Int} (hp : 0 ≤ p ∧ p ≤ 5) (k : Nat) : ∃ l t', p_limelightkeep_Tape_Layers (k + 4) t p = some (l, t') ∧ Ly p l := by
  unfold p_limelightkeep_Tape_Layers
  rw [tape_eta]
  rw [show (0 : Int) = ((0 : Nat) : Int) from rfl]
  rcases tlayers_step (fun a b => some (a, b)) hp (i := 0) (by omega) (out := []) (by simp) h (k + 3) with ⟨t1, _, h1⟩ | ⟨r, t1, e1, r1, h1⟩
  · omega
  rcases tlayers_step (fun a b => some (a, b)) hp (i := 1) (by omega) (out := [tpL p 0 r]) (by simp) h1 (k + 2) with ⟨t2, e2, _⟩ | ⟨s, t2, e2, r2, h2⟩
  · exact ⟨_, _, e1.trans e2, .inl ⟨r, r1, rfl⟩⟩
  rcases tlayers_step (fun a b => some (a, b)) hp (i := 2) (by omega) (out := [tpL p 0 r, tpL p 1 s]) (by simp) h2 (k + 1) with ⟨t3, e3, _⟩ | ⟨u, t3, e3, r3, h3⟩
  · exact ⟨_, _, (e1.trans e2).trans e3, .inr (.inl ⟨r, s, r1, r2, rfl⟩)⟩
  obtain ⟨t4, e4⟩ := tlayers_end (fun a b => some (a, b)) (p := p) (out := [tpL p 0 r, tpL p 1 s, tpL p 2 u]) h3 k
  exact ⟨_, _, ((e1.trans e2).trans e3).trans e4, .inr (.inr ⟨r, s, u, r1, r2, r3, rfl⟩)⟩
theorem okL_ok {a : T_api_Layer} (h1 : RidX.rightB a.Rid = true) (h2 : 1 ≤ a.Height ∧ a.Height ≤ 8192) : okL a none = true ∧ ∀ b : T_api_Layer, okL a (some b) = decide (b.Height < a.Height) := by
  have d1 : decide (1 ≤ a.Height) = true := decide_eq_true h2.1
  have d2 : decide (a.Height ≤ 8192) = true := decide_eq_true h2.2
  refine ⟨?_, fun b => ?_⟩ <;> simp [okL, h1, d1, d2]
theorem known8 : p_limelightlaw8_known 40 = some true := by kernel_rfl
/-- Two layers or three. -/
theorem ctl_two {A B : T_api_Layer} {rest : List T_api_Layer} (hr : rest.length ≤ 1) (zA : A.Rid.size < 2 ^ 40) (zB : B.Rid.size < 2 ^ 40) (zr : ∀ b ∈ rest, b.Rid.size < 2 ^ 40) (hA : RidX.rightB A.Rid = true) (gA : 1 ≤ A.Height ∧ A.Height ≤ 8192) (hAB : A.Height < B.Height) (hc : chkL [] (A :: B :: rest) = true) (x0 : List Int) (x1 : Int) {t : T_limelightkeep_Tape} (e1 : p_limelightkeep_Tape_Layers 40 (⟨x0, 0⟩ : T_limelightkeep_Tape) (intBits .and .i64 x1 3) = some (A :: B :: rest, t)) :
    p_limelightlaw8_CtlLayers 40 x0 x1 = some true := by
  have mem : ∀ (X Y : T_api_Layer), X.Rid.size < 2 ^ 40 → Y.Rid.size < 2 ^ 40 → ∀ b ∈ X :: Y :: rest, b.Rid.size < 2 ^ 40 := fun X Y hX hY b hb => by
    rcases List.mem_cons.1 hb with rfl | hb
    · exact hX
    rcases List.mem_cons.1 hb with rfl | hb
    · exact hY
    exact zr b hb
  have len : ∀ (X Y : T_api_Layer), 1 ≤ (X :: Y :: rest).length ∧ (X :: Y :: rest).length ≤ 3 := fun X Y => by simp only [List.length_cons]; omega
  have q := layers_eq (len A B).1 (len A B).2 (mem A B zA zB)
  rw [hc, cond_true] at q
  have bad : ∀ (X Y : T_api_Layer), X.Rid.size < 2 ^ 40 → Y.Rid.size < 2 ^ 40 → (okL Y (some X) = false ∨ sameL X Y = true) → p_ctl_Layers 40 (X :: Y :: rest) = some 26 := fun X Y hX hY h => by
    have : chkL [] (X :: Y :: rest) = false := by
      simp only [chkL, List.getLast?_nil, List.any_nil, List.nil_append, List.getLast?_singleton, List.any_cons]
      rcases h with h | h <;> simp [h]
    have q2 := layers_eq (len X Y).1 (len X Y).2 (mem X Y hX hY)
    rw [this, cond_false] at q2
    exact q2
  have b1 := bad B A zB zA (.inl (by rw [(okL_ok hA gA).2]; exact decide_eq_false (by omega)))
  have b2 := bad A ⟨B.Rid, A.Ssrc, B.Height⟩ zA zB (.inr (by simp [sameL]))
  have b3 := bad A ⟨A.Rid, B.Ssrc, B.Height⟩ zA zA (.inr (by simp [sameL]))
  have lm : p_ctl_Layers 40 ((A :: B :: rest) ++ (A :: B :: rest)) = some 26 := layers_many (by simp only [List.length_append, List.length_cons]; omega) 40
  have a1 : ap 32 ([] : List T_api_Layer) (A :: B :: rest) = some (A :: B :: rest) := by rw [ap_eq (by decide) (by simp only [List.length_cons, List.length_nil]; omega), List.nil_append]
  have a2 : ap 32 (A :: B :: rest) (A :: B :: rest) = some ((A :: B :: rest) ++ (A :: B :: rest)) := ap_eq (by decide) (by simp only [List.length_cons]; omega)
  have i0 : ∀ X Y : T_api_Layer, ix (X :: Y :: rest) 0 = some X := fun X Y => rfl
  have i1 : ∀ X Y : T_api_Layer, ix (X :: Y :: rest) 1 = some Y := fun X Y => rfl
  have s0 : ∀ X Y W : T_api_Layer, stx (X :: Y :: rest) 0 W = some (W :: Y :: rest) := fun X Y W => by
    unfold stx; rw [if_pos ⟨by omega, by simp only [List.length_cons]; omega⟩]; rfl
  have s1 : ∀ X Y W : T_api_Layer, stx (X :: Y :: rest) 1 W = some (X :: W :: rest) := fun X Y W => by
    unfold stx; rw [if_pos ⟨by omega, by simp only [List.length_cons]; omega⟩]; rfl
  have d1 : decide ((((A :: B :: rest).length : Nat) : Int) > 1) = true := decide_eq_true (by simp only [List.length_cons]; omega)
  unfold p_limelightlaw8_CtlLayers
  rw [e1, Option.bind_some]
  simp only [q, Option.bind_some, show ((0 : Int) != 0) = false from rfl, cond_false, d1, cond_true, a1, i0, i1, s0, s1, b1, b2, b3, show ((26 : Int) != 26) = false from rfl, a2, lm, show ((26 : Int) == 26) = true from rfl, known8]
theorem ctlLayers_true (x0 : List Int) (hx : x0.length < 2 ^ 50) (x1 : Int) : p_limelightlaw8_CtlLayers 40 x0 x1 = some true := by
  generalize hpp : intBits .and .i64 x1 3 = p
  have hp : 0 ≤ p ∧ p ≤ 5 := by have := and3 x1; omega
  obtain ⟨l, t, e1, hl⟩ := tape_layers (t := ⟨x0, 0⟩) ⟨by simp, by simp, hx⟩ hp 36
  -- facts about the three layers
  have R : ∀ i r, RidX.rightB (tpL p i r).Rid = true := fun i r => nmL_right i
  have Z : ∀ i r, (tpL p i r).Rid.size < 2 ^ 40 := fun i r => nmL_size i
  have ok : ∀ (i : Nat) (r : Int), i ≤ 2 → 0 ≤ r ∧ r < 90 → okL (tpL p i r) none = true ∧ ∀ b : T_api_Layer, okL (tpL p i r) (some b) = decide (b.Height < (tpL p i r).Height) := fun i r hi hr => okL_ok (R i r) (by simp only [tpL]; omega)
  have S01 : ∀ r s, sameL (tpL p 0 r) (tpL p 1 s) = false := fun r s => by
    have : ((tpL p 0 r).Ssrc == (tpL p 1 s).Ssrc) = false := beq_eq_false_iff_ne.2 (by simp only [tpL]; omega)
    unfold sameL; rw [this, Bool.false_or]; exact nm01
  have S02 : ∀ r s, sameL (tpL p 0 r) (tpL p 2 s) = false := fun r s => by
    have : ((tpL p 0 r).Ssrc == (tpL p 2 s).Ssrc) = false := beq_eq_false_iff_ne.2 (by simp only [tpL]; omega)
    unfold sameL; rw [this, Bool.false_or]; exact nm02
  have S12 : ∀ r s, sameL (tpL p 1 r) (tpL p 2 s) = false := fun r s => by
    have : ((tpL p 1 r).Ssrc == (tpL p 2 s).Ssrc) = false := beq_eq_false_iff_ne.2 (by simp only [tpL]; omega)
    unfold sameL; rw [this, Bool.false_or]; exact nm12
  rcases hl with ⟨r, hr, rfl⟩ | ⟨r, s, hr, hs, rfl⟩ | ⟨r, s, u, hr, hs, hu, rfl⟩
  · have c1 : chkL [] [tpL p 0 r] = true := by
      simp only [chkL, List.getLast?_nil, (ok 0 r (by omega) hr).1, List.any_nil, Bool.not_false, Bool.true_and]
    have c2 : chkL [] [tpL p 0 r, tpL p 0 r] = false := by
      simp [chkL, (ok 0 r (by omega) hr).1, (ok 0 r (by omega) hr).2]
    have a1 : ap 32 ([] : List T_api_Layer) [tpL p 0 r] = some [tpL p 0 r] := by rw [ap_eq (by decide) (by simp), List.nil_append]
    have a2 : ap 32 [tpL p 0 r] [tpL p 0 r] = some [tpL p 0 r, tpL p 0 r] := by rw [ap_eq (by decide) (by simp), List.singleton_append]
    have q1 := layers_eq (l := [tpL p 0 r]) (by simp) (by simp) (fun b hb => by simp at hb; subst hb; exact Z 0 r)
    have q2 := layers_eq (l := [tpL p 0 r, tpL p 0 r]) (by simp) (by simp) (fun b hb => by simp at hb; subst hb; exact Z 0 r)
    rw [c1, cond_true] at q1
    rw [c2, cond_false] at q2
    have d1 : decide ((([tpL p 0 r].length : Nat) : Int) > 1) = false := by simp
    unfold p_limelightlaw8_CtlLayers
    rw [hpp, e1, Option.bind_some]
    simp only [q1, Option.bind_some, show ((0 : Int) != 0) = false from rfl, cond_false, d1, a1, a2, q2, show ((26 : Int) == 26) = true from rfl, cond_true, known8]
  · have c1 : chkL [] [tpL p 0 r, tpL p 1 s] = true := by
      have h1 := (ok 0 r (by omega) hr).1
      have h2 := (ok 1 s (by omega) hs).2 (tpL p 0 r)
      have h3 : decide ((tpL p 0 r).Height < (tpL p 1 s).Height) = true := decide_eq_true (by simp only [tpL]; omega)
      simp [chkL, h1, h2, h3, S01]
    exact ctl_two (by simp) (Z 0 r) (Z 1 s) (fun b hb => by cases hb) (R 0 r) (by simp only [tpL]; omega) (by simp only [tpL]; omega) c1 x0 x1 (by rw [hpp]; exact e1)
  · have c1 : chkL [] [tpL p 0 r, tpL p 1 s, tpL p 2 u] = true := by
      have h1 := (ok 0 r (by omega) hr).1
      have h2 := (ok 1 s (by omega) hs).2 (tpL p 0 r)
      have h3 : decide ((tpL p 0 r).Height < (tpL p 1 s).Height) = true := decide_eq_true (by simp only [tpL]; omega)
      have h4 := (ok 2 u (by omega) hu).2 (tpL p 1 s)
      have h5 : decide ((tpL p 1 s).Height < (tpL p 2 u).Height) = true := decide_eq_true (by simp only [tpL]; omega)
      simp [chkL, h1, h2, h3, h4, h5, S01, S02, S12]
    exact ctl_two (by simp) (Z 0 r) (Z 1 s) (fun b hb => by simp at hb; subst hb; exact Z 2 u) (R 0 r) (by simp only [tpL]; omega) (by simp only [tpL]; omega) c1 x0 x1 (by rw [hpp]; exact e1)
theorem ctlLayers_ev (a0 : (DT.slice 8 (.int .i64)).D) (a1 : (DT.int .i64).D) (w0 : (DT.slice 8 (.int .i64)).ok a0) (_ : (DT.int .i64).ok a1) :
    ev G X0 10 [] [(DT.slice 8 (.int .i64)).val a0, (DT.int .i64).val a1] [] = some ([.v (bV true)], []) := by
  have hl : (Option.getD a0 []).length < 2 ^ 50 := by
    cases a0 with
    | none => exact Nat.two_pow_pos 50
    | some l =>
      have := w0.1
      have hr : reachBytes ≤ 140737488355328 := by decide
      have e : (Option.getD (some l) []).length = l.length := rfl
      omega
  obtain ⟨_, h1, rfl⟩ := limelightlaw8_CtlLayers_ok 40 (h := []) (σ := []) (Option.getD a0 []) (slF_ints a0) a1 _ (ctlLayers_true _ hl a1)
  exact h1
end Go.Ev
namespace Go.Ev
set_option maxRecDepth 100000
/-! ### Numbers as bytes -/
def putB (n : Int) : Nat → List Int
  | 0 => []
  | s + 1 => (n / 256 ^ s % 256) :: putB n s
def getB : Int → List Int → Int
  | a, [] => a
  | a, b :: bs => getB (a * 256 + b) bs
theorem putB_len (n : Int) : ∀ s, (putB n s).length = s
  | 0 => rfl
  | s + 1 => by rw [putB, List.length_cons, putB_len n s]
theorem putB_isB (n : Int) : ∀ s, isB (putB n s)
  | 0 => fun x hx => by cases hx
  | s + 1 => fun x hx => by
    rcases List.mem_cons.1 hx with rfl | hx
    · exact ⟨Int.emod_nonneg _ (by decide), Int.emod_lt_of_pos _ (by decide)⟩
    · exact putB_isB n s x hx
theorem getB_putB (n : Int) (hn : 0 ≤ n) : ∀ (s : Nat) (a : Int), getB a (putB n s) = a * 256 ^ s + n % 256 ^ s
  | 0, a => by simp [putB, getB]
  | s + 1, a => by
    rw [putB, getB, getB_putB n hn s]
    have hp : (0 : Int) < 256 ^ s := Int.pow_pos (by decide)
    have h1 : n % 256 ^ (s + 1) = 256 ^ s * (n / 256 ^ s % 256) + n % 256 ^ s := by
      have e1 := Int.emod_add_mul_ediv n (256 ^ s)
      have e2 := Int.emod_add_mul_ediv (n / 256 ^ s) 256
      have e3 : n = (256 ^ s * (n / 256 ^ s % 256) + n % 256 ^ s) + 256 ^ (s + 1) * (n / 256 ^ s / 256) := by
        rw [Int.pow_succ]
        generalize n / 256 ^ s / 256 = q at *
        generalize n / 256 ^ s % 256 = r at *
        generalize hm : n / 256 ^ s = m at *
        generalize n % 256 ^ s = u at *
        rw [← e1, ← e2, Int.mul_add, Int.mul_assoc]
        omega
      have r1 := Int.emod_nonneg (n / 256 ^ s) (show (256 : Int) ≠ 0 by decide)
      have r2 := Int.emod_lt_of_pos (n / 256 ^ s) (show (0 : Int) < 256 by decide)
      have r3 := Int.emod_nonneg n (Int.ne_of_gt hp)
      have r4 := Int.emod_lt_of_pos n hp
      have lo : 0 ≤ 256 ^ s * (n / 256 ^ s % 256) + n % 256 ^ s := Int.add_nonneg (Int.mul_nonneg (Int.le_of_lt hp) r1) r3
      have hi : 256 ^ s * (n / 256 ^ s % 256) + n % 256 ^ s < 256 ^ (s + 1) := by
        have : 256 ^ s * (n / 256 ^ s % 256) ≤ 256 ^ s * 255 := Int.mul_le_mul_of_nonneg_left (by omega) (Int.le_of_lt hp)
        rw [Int.pow_succ]
        omega
      calc n % 256 ^ (s + 1) = ((256 ^ s * (n / 256 ^ s % 256) + n % 256 ^ s) + 256 ^ (s + 1) * (n / 256 ^ s / 256)) % 256 ^ (s + 1) := by rw [← e3]
        _ = (256 ^ s * (n / 256 ^ s % 256) + n % 256 ^ s) % 256 ^ (s + 1) := by rw [Int.add_mul_emod_self_left]
        _ = _ := Int.emod_eq_of_lt lo hi
    rw [h1, Int.pow_succ, Int.add_mul]
    generalize n / 256 ^ s % 256 = r
    generalize n % 256 ^ s = u
    rw [Int.mul_assoc, Int.mul_comm 256 (256 ^ s), Int.mul_comm r]
    omega
theorem wrap_u8_mod (n : Int) : IntKind.wrap .u8 n = n % 256 := by
  simp only [IntKind.wrap, IntKind.signed, IntKind.bits]
  simp
theorem put_l0 {β : Type} (kE0 : List Int → Option β) {n : Int} (hn : 0 ≤ n) : ∀ (s j : Nat) (out : List Int), s ≤ 8 → out.length + s < 2 ^ 39 → p_octet_Put_l0 (j + s + 1) kE0 n out ((s : Int) - 1) = kE0 (out ++ putB n s)
  | 0, j, out, _, _ => by
    rw [p_octet_Put_l0]
    have d : decide (((0 : Nat) : Int) - 1 ≥ 0) = false := by decide
    rw [d, cond_false, putB, List.append_nil]
  | s + 1, j, out, hs, ho => by
    rw [show j + (s + 1) + 1 = (j + s + 1) + 1 from rfl, p_octet_Put_l0]
    have d : decide (((s + 1 : Nat) : Int) - 1 ≥ 0) = true := decide_eq_true (by omega)
    have w1 : IntKind.wrap .i64 ((((s + 1 : Nat) : Int) - 1) * 8) = ((8 * s : Nat) : Int) := by rw [wrap_i64 (by omega) (by omega)]; omega
    have w2 : IntKind.wrap .i64 (((s + 1 : Nat) : Int) - 1 - 1) = (s : Int) - 1 := by rw [wrap_i64 (by omega) (by omega)]; omega
    have hsh : shP .shr .u64 n ((8 * s : Nat) : Int) = some (n / 256 ^ s) := by
      unfold shP
      rw [if_neg (by omega)]
      have : min (((8 * s : Nat) : Int).toNat) IntKind.u64.bits = 8 * s := by
        rw [Int.toNat_natCast]
        show min (8 * s) 64 = 8 * s
        omega
      simp only [this]
      have e : (2 : Int) ^ (8 * s) = 256 ^ s := by rw [Int.pow_mul]; rfl
      rw [e, Int.fdiv_eq_ediv_of_nonneg _ (Int.le_of_lt (Int.pow_pos (by decide)))]
    rw [d, cond_true, w1, hsh, Option.bind_some, wrap_u8_mod, ap_eq (by decide) (by simp only [List.length_cons, List.length_nil]; omega), Option.bind_some, w2, put_l0 kE0 hn s j _ (by omega) (by rw [List.length_append]; simp only [List.length_cons, List.length_nil]; omega), putB, List.append_assoc]
    rfl
theorem putO_ok {k : Nat} (hk : 10 ≤ k) {b : List Int} (hb : b.length < 1000) {n : Int} (hn : 0 ≤ n) {s : Nat} (h1 : 1 ≤ s) (h8 : s ≤ 8) : p_octet_Put k b n (s : Int) = some (b ++ putB n s) := by
  unfold p_octet_Put
  have d1 : decide ((s : Int) < 1) = false := decide_eq_false (by omega)
  have d2 : decide ((s : Int) > 8) = false := decide_eq_false (by omega)
  rw [clone_eq (by decide) (by omega), Option.bind_some]
  simp only [d1, d2, cond_false, Option.bind_some]
  rw [wrap_i64 (by omega) (by omega)]
  have := put_l0 (fun r => some r) hn s (k - s - 1) b h8 (by omega)
  rwa [show k - s - 1 + s + 1 = k by omega] at this
/-! ### Fields -/
abbrev Fd := Int × List Int
def encF (f : Fd) : List Int := f.1 :: (f.2.length : Int) :: f.2
def okF (f : Fd) : Prop := (0 ≤ f.1 ∧ f.1 < 256) ∧ f.2.length < 256
theorem field_ok {b : List Int} (hb : b.length < 2 ^ 30) {f : Fd} (hf : okF f) : p_ctl_field b f.1 f.2 = some (b ++ encF f) := by
  obtain ⟨h1, h2⟩ := hf
  unfold p_ctl_field
  rw [wrap_u8 h1.1 h1.2, wrap_u8 (by omega) (by omega), ap_eq (by decide) (by simp only [List.length_cons, List.length_nil]; omega), Option.bind_some, ap_eq (by decide) (by rw [List.length_append]; simp only [List.length_cons, List.length_nil]; omega), Option.bind_some, encF, List.append_assoc]
  rfl
theorem encF_len (f : Fd) : (encF f).length = 2 + f.2.length := by rw [encF, List.length_cons, List.length_cons]; omega
theorem body_len : ∀ {l : List Fd}, (∀ f ∈ l, okF f) → (l.flatMap encF).length ≤ 257 * l.length
  | [], _ => by simp
  | f :: l, h => by
    have := body_len (l := l) fun x hx => h x (List.mem_cons_of_mem _ hx)
    have := (h f (List.mem_cons_self ..)).2
    rw [List.flatMap_cons, List.length_append, encF_len, List.length_cons]
    omega
/-- Fields are told by their bytes. -/
theorem body_inj : ∀ {l m : List Fd}, l.flatMap encF = m.flatMap encF → l = m
  | [], [], _ => rfl
  | [], g :: m, h => by rw [List.flatMap_cons, encF] at h; cases h
  | f :: l, [], h => by rw [List.flatMap_cons, encF] at h; cases h
  | f :: l, g :: m, h => by
    rw [List.flatMap_cons, List.flatMap_cons, encF, encF] at h
    simp only [List.cons_append, List.cons.injEq] at h
    obtain ⟨h1, h2, h3⟩ := h
    have hl : f.2.length = g.2.length := by omega
    obtain ⟨h4, h5⟩ := List.append_inj h3 hl
    have := body_inj h5
    subst this
    congr 1
    exact Prod.ext h1 h4
/-! ### Concat -/
theorem concat2 {k : Nat} (hk : 10 ≤ k) {x y : List Int} (hx : x.length < 1000) (hy : y.length < 10000) : p_slices_Concat_Lbyte_byte k [x, y] = some (x ++ y) := by
  obtain ⟨j, rfl⟩ : ∃ j, k = j + 3 := ⟨k - 3, by omega⟩
  unfold p_slices_Concat_Lbyte_byte
  have l2 : ((([x, y] : List (List Int)).length : Nat) : Int) = 2 := rfl
  have w0 : IntKind.wrap .i64 (0 + (x.length : Int)) = (x.length : Int) := by rw [wrap_i64 (by omega) (by omega)]; omega
  have w1 : IntKind.wrap .i64 ((x.length : Int) + (y.length : Int)) = ((x.length + y.length : Nat) : Int) := by rw [wrap_i64 (by omega) (by omega)]; omega
  have i0 : ix [x, y] 0 = some x := rfl
  have i1 : ix [x, y] 1 = some y := rfl
  have a0 : IntKind.wrap .i64 (0 + 1) = 1 := rfl
  have a1 : IntKind.wrap .i64 (1 + 1) = 2 := rfl
  have d0 : decide ((0 : Int) < 2) = true := rfl
  have d1 : decide ((1 : Int) < 2) = true := rfl
  have d2 : decide ((2 : Int) < 2) = false := rfl
  have n0 : decide ((x.length : Int) < 0) = false := decide_eq_false (by omega)
  have n1 : decide (((x.length + y.length : Nat) : Int) < 0) = false := decide_eq_false (by omega)
  have g : p_slices_Grow_Lbyte_byte ((x.length + y.length : Nat) : Int) = some [] := by unfold p_slices_Grow_Lbyte_byte; rw [if_pos ⟨by omega, by omega⟩]
  have e1 : ap 1 ([] : List Int) x = some x := by rw [ap_eq (by decide) (by simp only [List.length_nil]; omega), List.nil_append]
  have e2 : ap 1 x y = some (x ++ y) := ap_eq (by decide) (by omega)
  rw [l2, p_slices_Concat_Lbyte_byte_l0, d0, cond_true, i0, Option.bind_some, w0, n0, cond_false, a0]
  rw [p_slices_Concat_Lbyte_byte_l0, d1, cond_true, i1, Option.bind_some, w1, n1, cond_false, a1]
  rw [p_slices_Concat_Lbyte_byte_l0, d2, cond_false, g, Option.bind_some]
  rw [l2, p_slices_Concat_Lbyte_byte_l1, d0, cond_true, i0, Option.bind_some, e1, Option.bind_some, a0]
  rw [p_slices_Concat_Lbyte_byte_l1, d1, cond_true, i1, Option.bind_some, e2, Option.bind_some, a1]
  rw [p_slices_Concat_Lbyte_byte_l1, d2, cond_false]
end Go.Ev
namespace Go.Ev
set_option maxRecDepth 100000
theorem orO (a b : Bool) : (bif a then some true else some b) = some (a || b) := by cases a <;> rfl
theorem andO (a b : Bool) : (bif a then some b else some false) = some (a && b) := by cases a <;> rfl
theorem condS {α : Type} (a : Bool) (x y : α) : (bif a then some x else some y) = some (bif a then x else y) := by cases a <;> rfl
theorem condT (a b : Bool) : (bif a then true else b) = (a || b) := by cases a <;> rfl
def hasB (k n : Int) : Bool :=
  bif n == 1 then k == 1 else bif n == 2 then k == 3 else bif n == 3 then (((k == 4) || (k == 5)) || (k == 6)) || (k == 7) else bif n == 4 then (k == 4) || (k == 6) else bif n == 5 then (k == 4) || (k == 7) else bif n == 6 then (k == 8) || (k == 9) else k == 10
theorem has_ok (k n : Int) : p_ctl_has k n = some (hasB k n) := by
  unfold p_ctl_has hasB
  simp only [Option.bind_some, condS, condT]
theorem within_ok (n a b : Int) : p_ctl_within n a b = some (decide (n ≥ a) && decide (n ≤ b)) := by
  unfold p_ctl_within
  simp only [andO, Option.bind_some]
def valB (c : T_api_Ctl) : Bool :=
  (((((!hasB c.Kind 1 || (decide (c.Cap ≥ 1) && decide (c.Cap ≤ 1099511627776))) && (!hasB c.Kind 3 || (decide (c.Peer ≥ 0) && decide (c.Peer ≤ 5)))) && (!hasB c.Kind 4 || (decide (c.Height ≥ 1) && decide (c.Height ≤ 8192)))) && (!hasB c.Kind 5 || (decide (c.Class ≥ 0) && decide (c.Class ≤ 3)))) && (!hasB c.Kind 6 || (decide (c.Layer ≥ 0) && decide (c.Layer ≤ 2)))) && (!hasB c.Kind 7 || (decide (c.Code ≥ 0) && decide (c.Code ≤ 255)))
theorem values_ok (c : T_api_Ctl) : p_ctl_values c = some (valB c) := by
  unfold p_ctl_values valB
  simp only [has_ok, within_ok, Option.bind_some, orO, andO]
def fldB (kind : Int) : Nat → List Bool → Bool
  | _, [] => true
  | i, z :: zs => (z || hasB kind ((i : Int) + 1)) && fldB kind (i + 1) zs
theorem fields_l0 {β : Type} (kE0 : Unit → Option β) (kE1 : Bool → Option β) (c : T_api_Ctl) (zs : List Bool) (hz : zs.length < 100) : ∀ (rest pre : List Bool) (j : Nat), zs = pre ++ rest →
    p_ctl_fields_l0 (j + rest.length + 1) kE0 kE1 zs (zs.length : Int) (pre.length : Int) c = bif fldB c.Kind pre.length rest then kE0 () else kE1 false
  | [], pre, j, h => by
    rw [p_ctl_fields_l0]
    have h1 : decide ((pre.length : Int) < (zs.length : Int)) = false := by subst h; simp
    rw [h1, cond_false, fldB, cond_true]
  | z :: rest, pre, j, h => by
    have hplen : pre.length + 1 ≤ zs.length := by rw [h, List.length_append, List.length_cons]; omega
    rw [List.length_cons, show j + (rest.length + 1) + 1 = (j + rest.length + 1) + 1 from rfl, p_ctl_fields_l0]
    have h1 : decide ((pre.length : Int) < (zs.length : Int)) = true := decide_eq_true (by omega)
    have h2 : ix zs (pre.length : Int) = some z := ix_mid' h rfl
    have h4 : IntKind.wrap .i64 ((pre.length : Int) + 1) = (pre.length : Int) + 1 := wrap_i64 (by omega) (by omega)
    have ih := fields_l0 kE0 kE1 c zs hz rest (pre ++ [z]) j (by rw [h]; simp)
    have e1 : (((pre ++ [z]).length : Nat) : Int) = (pre.length : Int) + 1 := by simp
    have e2 : (pre ++ [z]).length = pre.length + 1 := by simp
    rw [e1, e2] at ih
    rw [h1, cond_true, h2, Option.bind_some, h4, has_ok, Option.bind_some, andO, Option.bind_some, ih, fldB]
    cases z <;> cases hasB c.Kind ((pre.length : Int) + 1) <;> rfl
theorem fields_ok (c : T_api_Ctl) {k : Nat} (hk : 10 ≤ k) : p_ctl_fields k c = some (fldB c.Kind 0 [(c.Cap == 0), ((c.Layers.length : Int) == 0), (c.Peer == 0), (c.Height == 0), (c.Class == 0), (c.Layer == 0), (c.Code == 0)]) := by
  unfold p_ctl_fields
  have := fields_l0 (fun (_ : Unit) => (some true : Option Bool)) (fun r => some r) c [(c.Cap == 0), ((c.Layers.length : Int) == 0), (c.Peer == 0), (c.Height == 0), (c.Class == 0), (c.Layer == 0), (c.Code == 0)] (by simp) [(c.Cap == 0), ((c.Layers.length : Int) == 0), (c.Peer == 0), (c.Height == 0), (c.Class == 0), (c.Layer == 0), (c.Code == 0)] [] (k - 8) rfl
  simp only [List.length_cons, List.length_nil, show k - 8 + (0 + 1 + 1 + 1 + 1 + 1 + 1 + 1) + 1 = k by omega] at this
  refine Eq.trans ?_ (this.trans ?_)
  · rfl
  · cases fldB c.Kind 0 [(c.Cap == 0), ((c.Layers.length : Int) == 0), (c.Peer == 0), (c.Height == 0), (c.Class == 0), (c.Layer == 0), (c.Code == 0)] <;> rfl
theorem right_ok {c : T_api_Ctl} {k : Nat} (hk : 10 ≤ k) (h1 : 1 ≤ c.Kind ∧ c.Kind ≤ 10) (hf : fldB c.Kind 0 [(c.Cap == 0), ((c.Layers.length : Int) == 0), (c.Peer == 0), (c.Height == 0), (c.Class == 0), (c.Layer == 0), (c.Code == 0)] = true) (hv : valB c = true) (hl : c.Kind = 3 → p_ctl_Layers k c.Layers = some 0) : p_ctl_Right k c = some 0 := by
  unfold p_ctl_Right
  have d1 : decide (c.Kind < 1) = false := decide_eq_false (by omega)
  have d2 : decide (c.Kind > 10) = false := decide_eq_false (by omega)
  have f := fields_ok c hk
  rw [hf] at f
  have v := values_ok c
  rw [hv] at v
  have f' : p_ctl_fields k (⟨c.Kind, c.Cap, c.Layers, c.Peer, c.Height, c.Class, c.Layer, c.Code⟩ : T_api_Ctl) = some true := f
  have v' : p_ctl_values (⟨c.Kind, c.Cap, c.Layers, c.Peer, c.Height, c.Class, c.Layer, c.Code⟩ : T_api_Ctl) = some true := v
  simp only [d1, d2, cond_false, Option.bind_some, f', v', Bool.not_true]
  cases h3 : (c.Kind == 3) with
  | true => rw [cond_true, hl (by simpa using h3)]; rfl
  | false => rfl
/-! ### A message's fields -/
def layF (a : T_api_Layer) : Fd := (2, putB a.Ssrc 4 ++ putB a.Height 2 ++ bytesS a.Rid)
def okLy (a : T_api_Layer) : Prop := (0 ≤ a.Ssrc ∧ a.Ssrc < 2 ^ 32) ∧ (0 ≤ a.Height ∧ a.Height < 2 ^ 16) ∧ a.Rid.size ≤ 200
theorem wrap_u64 {n : Int} (h1 : 0 ≤ n) (h2 : n < 18446744073709551616) : IntKind.wrap .u64 n = n := by
  simp only [IntKind.wrap, IntKind.signed, IntKind.bits]
  simp
  omega
theorem layF_len (a : T_api_Layer) : (layF a).2.length = 6 + a.Rid.size := by
  simp only [layF, List.length_append, putB_len, bytesS_len]
theorem layF_ok {a : T_api_Layer} (h : okLy a) : okF (layF a) := ⟨⟨by simp [layF], by simp [layF]⟩, by rw [layF_len]; have := h.2.2; omega⟩
theorem bytes8_l0 {β : Type} (kE0 : List Int → T_api_Ctl → Option β) (c : T_api_Ctl) (l : List T_api_Layer) (hl : l.length < 100) (hs : ∀ a ∈ l, okLy a) : ∀ (rest pre : List T_api_Layer) (j : Nat) (b : List Int), l = pre ++ rest → 10 ≤ j → b.length + 257 * rest.length < 2 ^ 29 →
    p_ctl_Bytes_l0 (j + rest.length + 1) kE0 b l (l.length : Int) (pre.length : Int) c = kE0 (b ++ (rest.map layF).flatMap encF) c
  | [], pre, j, b, h, _, _ => by
    rw [p_ctl_Bytes_l0]
    have h1 : decide ((pre.length : Int) < (l.length : Int)) = false := by subst h; simp
    rw [h1, cond_false, List.map_nil, List.flatMap_nil, List.append_nil]
  | a :: rest, pre, j, b, h, hj, hb => by
    rw [List.length_cons] at hb
    have hplen : pre.length + 1 ≤ l.length := by rw [h, List.length_append, List.length_cons]; omega
    obtain ⟨o1, o2, o3⟩ := hs a (by rw [h]; simp)
    rw [List.length_cons, show j + (rest.length + 1) + 1 = (j + rest.length + 1) + 1 from rfl, p_ctl_Bytes_l0]
    have h1 : decide ((pre.length : Int) < (l.length : Int)) = true := decide_eq_true (by omega)
    have h2 : ix l (pre.length : Int) = some a := ix_mid' h rfl
    have h4 : IntKind.wrap .i64 ((pre.length : Int) + 1) = (((pre ++ [a]).length : Nat) : Int) := by rw [wrap_i64 (by omega) (by omega)]; simp
    have p1 : p_octet_Put (j + rest.length + 1) ([] : List Int) a.Ssrc 4 = some (putB a.Ssrc 4) := putO_ok (s := 4) (by omega) (by simp) o1.1 (by omega) (by omega)
    have p2 : p_octet_Put (j + rest.length + 1) (putB a.Ssrc 4) a.Height 2 = some (putB a.Ssrc 4 ++ putB a.Height 2) := putO_ok (s := 2) (by omega) (by rw [putB_len]; omega) o2.1 (by omega) (by omega)
    have hap : ap 1 (putB a.Ssrc 4 ++ putB a.Height 2) (bytesS a.Rid) = some (layF a).2 := ap_eq (by decide) (by rw [List.length_append, putB_len, putB_len, bytesS_len]; omega)
    have hfd : p_ctl_field b 2 (layF a).2 = some (b ++ encF (layF a)) := field_ok (f := layF a) (by omega) (layF_ok (hs a (by rw [h]; simp)))
    have hle := encF_len (layF a)
    have hll := layF_len a
    rw [h1, cond_true, h2, Option.bind_some, wrap_u64 o1.1 (by omega), p1, Option.bind_some, wrap_u64 o2.1 (by omega), p2, Option.bind_some, hap, Option.bind_some, hfd, Option.bind_some, h4]
    have ih := bytes8_l0 kE0 c l hl hs rest (pre ++ [a]) j (b ++ encF (layF a)) (by rw [h]; simp) hj (by rw [List.length_append]; omega)
    refine ih.trans ?_
    rw [List.map_cons, List.flatMap_cons, List.append_assoc]
abbrev It := T_struct_name_int_size_int_n_int64
def itF (a : It) : Fd := (a.name, putB a.n a.size.toNat)
def selF (kind : Int) (l : List It) : List Fd := l.flatMap fun a => bif hasB kind a.name then [itF a] else []
def okIt (a : It) : Prop := (0 ≤ a.name ∧ a.name < 256) ∧ (1 ≤ a.size ∧ a.size ≤ 8) ∧ 0 ≤ a.n ∧ a.n < 2 ^ 63
theorem bytes8_l1 {β : Type} (kE0 : List Int → T_api_Ctl → Option β) (c : T_api_Ctl) (l : List It) (hl : l.length < 100) (hs : ∀ a ∈ l, okIt a) : ∀ (rest pre : List It) (j : Nat) (b : List Int), l = pre ++ rest → 10 ≤ j → b.length + 257 * rest.length < 2 ^ 29 →
    p_ctl_Bytes_l1 (j + rest.length + 1) kE0 b l (l.length : Int) (pre.length : Int) c = kE0 (b ++ (selF c.Kind rest).flatMap encF) c
  | [], pre, j, b, h, _, _ => by
    rw [p_ctl_Bytes_l1]
    have h1 : decide ((pre.length : Int) < (l.length : Int)) = false := by subst h; simp
    rw [h1, cond_false, selF, List.flatMap_nil, List.flatMap_nil, List.append_nil]
  | a :: rest, pre, j, b, h, hj, hb => by
    rw [List.length_cons] at hb
    have hplen : pre.length + 1 ≤ l.length := by rw [h, List.length_append, List.length_cons]; omega
    obtain ⟨o1, o2, o3, o4⟩ := hs a (by rw [h]; simp)
    rw [List.length_cons, show j + (rest.length + 1) + 1 = (j + rest.length + 1) + 1 from rfl, p_ctl_Bytes_l1]
    have h1 : decide ((pre.length : Int) < (l.length : Int)) = true := decide_eq_true (by omega)
    have h2 : ix l (pre.length : Int) = some a := ix_mid' h rfl
    have h4 : IntKind.wrap .i64 ((pre.length : Int) + 1) = (((pre ++ [a]).length : Nat) : Int) := by rw [wrap_i64 (by omega) (by omega)]; simp
    obtain ⟨s, hsz⟩ : ∃ s : Nat, a.size = s := ⟨a.size.toNat, by omega⟩
    have p1 : p_octet_Put (j + rest.length + 1) ([] : List Int) a.n a.size = some (putB a.n s) := by rw [hsz]; exact putO_ok (by omega) (by simp) o3 (by omega) (by omega)
    have hit : itF a = (a.name, putB a.n s) := by rw [itF, hsz, Int.toNat_natCast]
    have hfd : p_ctl_field b a.name (putB a.n s) = some (b ++ encF (itF a)) := by rw [hit]; exact field_ok (f := (a.name, putB a.n s)) (by omega) ⟨o1, by simp only; rw [putB_len]; omega⟩
    have hle : (encF (itF a)).length = 2 + s := by rw [encF_len, hit]; simp only; rw [putB_len]
    rw [h1, cond_true, h2, Option.bind_some, has_ok, Option.bind_some]
    have hsel : selF c.Kind (a :: rest) = (bif hasB c.Kind a.name then [itF a] else []) ++ selF c.Kind rest := by simp only [selF, List.flatMap_cons]
    rw [hsel]
    cases hasB c.Kind a.name with
    | true =>
      rw [cond_true, wrap_u64 o3 (by omega), p1, Option.bind_some, hfd, Option.bind_some, h4]
      have ih := bytes8_l1 kE0 c l hl hs rest (pre ++ [a]) j (b ++ encF (itF a)) (by rw [h]; simp) hj (by rw [List.length_append, hle]; omega)
      refine ih.trans ?_
      simp
    | false =>
      rw [cond_false, h4]
      have ih := bytes8_l1 kE0 c l hl hs rest (pre ++ [a]) j b (by rw [h]; simp) hj (by omega)
      refine ih.trans ?_
      simp
def six (c : T_api_Ctl) : List It := [⟨1, 8, c.Cap⟩, ⟨3, 1, c.Peer⟩, ⟨4, 2, c.Height⟩, ⟨5, 1, c.Class⟩, ⟨6, 1, c.Layer⟩, ⟨7, 1, c.Code⟩]
def flds (c : T_api_Ctl) : List Fd := c.Layers.map layF ++ selF c.Kind (six c)
def bodyC (c : T_api_Ctl) : List Int := (flds c).flatMap encF
def bytC (c : T_api_Ctl) : List Int := ([c.Kind] ++ putB ((bodyC c).length : Int) 2) ++ bodyC c
def okC (c : T_api_Ctl) : Prop := (0 ≤ c.Kind ∧ c.Kind < 256) ∧ c.Layers.length ≤ 3 ∧ (∀ a ∈ c.Layers, okLy a) ∧ ∀ a ∈ six c, okIt a
theorem selF_len (kind : Int) : ∀ l : List It, (selF kind l).length ≤ l.length
  | [] => by simp [selF]
  | a :: l => by
    have := selF_len kind l
    unfold selF at this ⊢
    rw [List.flatMap_cons, List.length_append, List.length_cons]
    cases hasB kind a.name <;> simp only [cond_true, cond_false, List.length_cons, List.length_nil] <;> omega
theorem selF_ok {kind : Int} {l : List It} (h : ∀ a ∈ l, okIt a) : ∀ f ∈ selF kind l, okF f := by
  intro f hf
  simp only [selF, List.mem_flatMap] at hf
  obtain ⟨a, ha, hf⟩ := hf
  obtain ⟨o1, o2, o3, o4⟩ := h a ha
  cases hh : hasB kind a.name with
  | false => rw [hh] at hf; simp at hf
  | true =>
    rw [hh, cond_true, List.mem_singleton] at hf
    subst hf
    exact ⟨o1, by simp only [itF]; rw [putB_len]; omega⟩
theorem bodyC_len {c : T_api_Ctl} (h : okC c) : (bodyC c).length ≤ 2400 := by
  have h1 : ∀ f ∈ flds c, okF f := fun f hf => by
    rcases List.mem_append.1 hf with hf | hf
    · obtain ⟨a, ha, rfl⟩ := List.mem_map.1 hf; exact layF_ok (h.2.2.1 a ha)
    · exact selF_ok h.2.2.2 f hf
  have h2 := body_len h1
  have h3 := selF_len c.Kind (six c)
  have h4 : (flds c).length = c.Layers.length + (selF c.Kind (six c)).length := by simp [flds]
  have h5 : (six c).length = 6 := rfl
  have h6 := h.2.1
  unfold bodyC
  omega
theorem bytes8 {c : T_api_Ctl} (h : okC c) {k : Nat} (hk : 40 ≤ k) (hr : p_ctl_Right k c = some 0) : p_ctl_Bytes k c = some (bytC c, 0) := by
  have hbl := bodyC_len h
  obtain ⟨hkd, hl3, hly, hit⟩ := h
  have hr' : p_ctl_Right k (⟨c.Kind, c.Cap, c.Layers, c.Peer, c.Height, c.Class, c.Layer, c.Code⟩ : T_api_Ctl) = some 0 := hr
  unfold p_ctl_Bytes
  rw [hr', Option.bind_some]
  simp only [show ((0 : Int) != 0) = false from rfl, cond_false]
  have b0 := fun (kE0 : List Int → T_api_Ctl → Option (List Int × Int)) => bytes8_l0 kE0 c c.Layers (by omega) hly c.Layers [] (k - c.Layers.length - 1) [] rfl (by omega) (by simp only [List.length_nil]; omega)
  simp only [show k - c.Layers.length - 1 + c.Layers.length + 1 = k by omega, List.length_nil, List.nil_append] at b0
  rw [show ((0 : Nat) : Int) = 0 from rfl] at b0
  refine (b0 _).trans ?_
  have lb : ((c.Layers.map layF).flatMap encF).length ≤ 257 * c.Layers.length := by
    have := body_len (l := c.Layers.map layF) (fun f hf => by obtain ⟨a, ha, rfl⟩ := List.mem_map.1 hf; exact layF_ok (hly a ha))
    rwa [List.length_map] at this
  have b1 := fun (kE0 : List Int → T_api_Ctl → Option (List Int × Int)) => bytes8_l1 kE0 c (six c) (by show 6 < 100; decide) hit (six c) [] (k - 7) ((c.Layers.map layF).flatMap encF) rfl (by omega) (by show _ + 257 * 6 < _; omega)
  have h6 : (six c).length = 6 := rfl
  rw [h6] at b1
  simp only [show k - 7 + 6 + 1 = k by omega, List.length_nil] at b1
  rw [show ((0 : Nat) : Int) = 0 from rfl] at b1
  refine (b1 _).trans ?_
  have hbody : (c.Layers.map layF).flatMap encF ++ (selF c.Kind (six c)).flatMap encF = bodyC c := by rw [bodyC, flds, List.flatMap_append]
  rw [hbody]
  have p1 : p_octet_Put k [c.Kind] ((bodyC c).length : Int) 2 = some ([c.Kind] ++ putB ((bodyC c).length : Int) 2) := putO_ok (s := 2) (by omega) (by simp) (by omega) (by omega) (by omega)
  simp only [wrap_u8 hkd.1 hkd.2, wrap_u64 (n := ((bodyC c).length : Int)) (by omega) (by omega), p1, Option.bind_some]
  rw [concat2 (by omega) (by rw [List.length_append, putB_len]; simp) (by omega), Option.bind_some]
  rfl
end Go.Ev
/- Equations, printed by tracer2.py. -/
namespace Go.Ev
open Go.Proofs
set_option linter.unusedVariables false
set_option maxRecDepth 100000
-- 9 limelight/limelightlaw8.CtlApart
theorem limelightlaw8_CtlApart_entry (rec : CallF) (loop : LoopV) (σ : Stamp) (x0 : V) (x1 : V) (h : H) : cvBody G rec loop 9 σ [x0, x1] h =
 (buildV Try.prog 26 [(0, x0)]).bind fun t1 =>
 (boxO false (2 :: 0 :: 1 :: 0 :: σ) 13 (List.replicate 79 [] :: h) t1).bind fun q2 =>
 (callO rec 28 (3 :: 0 :: 1 :: 0 :: σ) [q2.1] q2.2 (some 14)).bind fun q3 =>
 (buildV Try.prog 26 [(0, x1)]).bind fun t4 =>
 (boxO false (6 :: 0 :: 1 :: 0 :: σ) 17 q3.2 t4).bind fun q5 =>
 (callO rec 28 (7 :: 0 :: 1 :: 0 :: σ) [q5.1] q5.2 (some 18)).bind fun q6 =>
 (some (alO [.p (.int .i64 0), .p (.int .i64 0), .p (.slice none 0 0), .p (.int .i64 0), .p (.int .i64 0), .p (.int .i64 0), .p (.int .i64 0), .p (.int .i64 0)] (8 :: 0 :: 1 :: 0 :: σ) 5 q6.2)).bind fun q7 =>
 (some (alO [.p (.int .i64 0), .p (.int .i64 0), .p (.slice none 0 0), .p (.int .i64 0), .p (.int .i64 0), .p (.int .i64 0), .p (.int .i64 0), .p (.int .i64 0)] (9 :: 0 :: 1 :: 0 :: σ) 6 q7.2)).bind fun q8 =>
 ((stO false 8 (10 :: 0 :: 1 :: 0 :: σ) q8.2 q7.1 q3.1).map fun h => (udf, h)).bind fun q9 =>
 ((stO false 8 (11 :: 0 :: 1 :: 0 :: σ) q9.2 q8.1 q6.1).map fun h => (udf, h)).bind fun q10 =>
 (ldO true 8 q10.2 q7.1).bind fun t11 =>
 (callFO rec 29 (1 :: 0 :: 1 :: 1 :: 0 :: σ) [t11] q10.2 (some 21)).bind fun q12 =>
 (extV q12.1 0).bind fun t13 =>
 (extV q12.1 1).bind fun t14 =>
 (castI .i64 t14).bind fun n15 =>
 (ldO true 8 q12.2 q8.1).bind fun t16 =>
 (callFO rec 29 (1 :: 0 :: 1 :: 1 :: 1 :: 0 :: σ) [t16] q12.2 (some 26)).bind fun q17 =>
 (extV q17.1 0).bind fun t18 =>
 (extV q17.1 1).bind fun t19 =>
 (castI .i64 t19).bind fun n20 =>
 (bif n15 == 0 then (some (n20 == 0)) else (some false)).bind fun b21 =>
 (bif b21 then ((strO q17.2 t13).bind fun t22 =>
 (castS t22).bind fun s23 =>
 (strO q17.2 t18).bind fun t24 =>
 (castS t24).bind fun s25 =>
 (ldO true 8 q17.2 q7.1).bind fun t26 =>
 (ldO true 8 q17.2 q8.1).bind fun t27 =>
 (callO rec 31 (14 :: 0 :: 1 :: 1 :: 1 :: 1 :: 0 :: σ) [t26, t27] q17.2 (some 43)).bind fun q28 =>
 (asB q28.1).bind fun b29 =>
 need ((some (.p (.bool (s23.toList == s25.toList))) : Option V) = some (.p (.bool (s23.toList == s25.toList)))) (
 need (strO q28.2 t18 = some (.p (.string s25))) (
 need (strO q28.2 t13 = some (.p (.string s23))) (
 some ((.p (.bool ((s23.toList == s25.toList) == b29))), q28.2))))) else (some ((.p (.bool false)), q17.2))).bind fun q30 =>
 (asB q30.1).bind fun b31 =>
 (bif b31 then ((lenO t13).bind fun t32 =>
 (castI .i64 t32).bind fun n33 =>
 some (decide (n33 ≥ 3))) else (some false)).bind fun b34 =>
 (bif b34 then ((iS 1 t13 1).bind fun t35 =>
 (ldO false 1 q30.2 t35).bind fun t36 =>
 (castI .u8 t36).bind fun n37 =>
 (iS 1 t13 2).bind fun t38 =>
 (ldO false 1 q30.2 t38).bind fun t39 =>
 (castI .u8 t39).bind fun n40 =>
 (lenO t13).bind fun t41 =>
 (castI .i64 t41).bind fun n42 =>
 some ((intBits .or .i64 (IntKind.wrap .i64 ((IntKind.wrap .i64 n37) * 2 ^ 8)) (IntKind.wrap .i64 n40)) == (IntKind.wrap .i64 (n42 - 3)))) else (some false)).bind fun b43 =>
 (bif b43 then ((iS 1 t13 0).bind fun t44 =>
 (ldO false 1 q30.2 t44).bind fun t45 =>
 (castI .u8 t45).bind fun n46 =>
 (fA q7.1 0).bind fun t47 =>
 (ldO false 1 q30.2 t47).bind fun t48 =>
 (castI .i64 t48).bind fun n49 =>
 some ((IntKind.wrap .i64 n46) == n49)) else (some false)).bind fun b50 =>
 (bif b50 then ((callO rec 32 (48 :: 0 :: 1 :: 1 :: 1 :: 1 :: 0 :: σ) [] q30.2 (some 77)).bind fun q51 =>
 (asB q51.1).bind fun b52 =>
 some ((.p (.bool b52)), q51.2)) else (some ((.p (.bool false)), q30.2))).bind fun q53 =>
 (asB q53.1).bind fun b54 =>
 fin false σ q53.2 [(.p (.bool b54))] := by kernel_rfl
end Go.Ev
/- Equations, printed by tracer2.py. -/
namespace Go.Ev
open Go.Proofs
set_option linter.unusedVariables false
set_option maxRecDepth 100000
-- 28 (*limelight/limelightkeep.Tape).Ctl
theorem limelightkeep_Tape_Ctl_entry (rec : CallF) (loop : LoopV) (σ : Stamp) (x0 : V) (h : H) : cvBody G rec loop 28 σ [x0] h =
 (some (alO [.p (.int .i64 0), .p (.int .i64 0), .p (.slice none 0 0), .p (.int .i64 0), .p (.int .i64 0), .p (.int .i64 0), .p (.int .i64 0), .p (.int .i64 0)] (0 :: 0 :: 0 :: σ) 2 (List.replicate 69 [] :: h))).bind fun q1 =>
 (callO rec 51 (1 :: 0 :: 1 :: 0 :: σ) [x0, (.p (.int .i64 10))] q1.2 (some 5)).bind fun q2 =>
 (castI .i64 q2.1).bind fun n3 =>
 (buildV Try.prog 58 [(0, (.p (.int .i64 (IntKind.wrap .i64 (1 + n3)))))]).bind fun t4 =>
 (some (alO [.p (.int .i64 0), .p (.int .i64 0), .p (.slice none 0 0), .p (.int .i64 0), .p (.int .i64 0), .p (.int .i64 0), .p (.int .i64 0), .p (.int .i64 0)] (4 :: 0 :: 1 :: 0 :: σ) 3 q2.2)).bind fun q5 =>
 ((stO false 8 (5 :: 0 :: 1 :: 0 :: σ) q5.2 q5.1 t4).map fun h => (udf, h)).bind fun q6 =>
 (fA q5.1 0).bind fun t7 =>
 (ldO false 1 q6.2 t7).bind fun t8 =>
 (castI .i64 t8).bind fun n9 =>
 bif n9 == 1 then (
 (callO rec 51 (1 :: 1 :: 1 :: 0 :: 1 :: 1 :: 0 :: σ) [x0, (.p (.int .i64 1048576))] q6.2 (some 13)).bind fun q10 =>
 (castI .i64 q10.1).bind fun n11 =>
 (fA q5.1 1).bind fun t12 =>
 ((stO true 1 (4 :: 1 :: 1 :: 0 :: 1 :: 1 :: 0 :: σ) q10.2 t12 (.p (.int .i64 (IntKind.wrap .i64 (1 + n11))))).map fun h => (udf, h)).bind fun q13 =>
 (ldO true 8 q13.2 q5.1).bind fun t14 =>
 ((stO false 8 (1 :: 0 :: 1 :: 1 :: 1 :: 0 :: σ) q13.2 q1.1 t14).map fun h => (udf, h)).bind fun q15 =>
 ((ldO true 8 q15.2 q1.1).bind fun t16 => (some []).map (t16 :: ·)).bind fun t17 => fin false σ q15.2 t17)
 else (
 bif n9 == 3 then (
 (callO rec 51 (2 :: 1 :: 1 :: 1 :: 0 :: 1 :: 1 :: 0 :: σ) [x0, (.p (.int .i64 6))] q6.2 (some 20)).bind fun q18 =>
 (castI .i64 q18.1).bind fun n19 =>
 (callO rec 33 (3 :: 1 :: 1 :: 1 :: 0 :: 1 :: 1 :: 0 :: σ) [x0, (.p (.int .i64 n19))] q18.2 (some 21)).bind fun q20 =>
 (fA q5.1 2).bind fun t21 =>
 ((stO true 1 (5 :: 1 :: 1 :: 1 :: 0 :: 1 :: 1 :: 0 :: σ) q20.2 t21 q20.1).map fun h => (udf, h)).bind fun q22 =>
 (ldO true 8 q22.2 q5.1).bind fun t23 =>
 ((stO false 8 (1 :: 0 :: 1 :: 1 :: 1 :: 0 :: σ) q22.2 q1.1 t23).map fun h => (udf, h)).bind fun q24 =>
 ((ldO true 8 q24.2 q1.1).bind fun t25 => (some []).map (t25 :: ·)).bind fun t26 => fin false σ q24.2 t26)
 else (
 bif n9 == 4 then (
 (callO rec 51 (1 :: 1 :: 1 :: 1 :: 1 :: 0 :: 1 :: 1 :: 0 :: σ) [x0, (.p (.int .i64 6))] q6.2 (some 26)).bind fun q27 =>
 (castI .i64 q27.1).bind fun n28 =>
 (callO rec 51 (3 :: 1 :: 1 :: 1 :: 1 :: 0 :: 1 :: 1 :: 0 :: σ) [x0, (.p (.int .i64 1000))] q27.2 (some 28)).bind fun q29 =>
 (castI .i64 q29.1).bind fun n30 =>
 (callO rec 51 (6 :: 1 :: 1 :: 1 :: 1 :: 0 :: 1 :: 1 :: 0 :: σ) [x0, (.p (.int .i64 4))] q29.2 (some 31)).bind fun q31 =>
 (castI .i64 q31.1).bind fun n32 =>
 (fA q5.1 3).bind fun t33 =>
 ((stO true 1 (8 :: 1 :: 1 :: 1 :: 1 :: 0 :: 1 :: 1 :: 0 :: σ) q31.2 t33 (.p (.int .i64 n28))).map fun h => (udf, h)).bind fun q34 =>
 (fA q5.1 4).bind fun t35 =>
 ((stO true 1 (10 :: 1 :: 1 :: 1 :: 1 :: 0 :: 1 :: 1 :: 0 :: σ) q34.2 t35 (.p (.int .i64 (IntKind.wrap .i64 (1 + n30))))).map fun h => (udf, h)).bind fun q36 =>
 (fA q5.1 5).bind fun t37 =>
 ((stO true 1 (12 :: 1 :: 1 :: 1 :: 1 :: 0 :: 1 :: 1 :: 0 :: σ) q36.2 t37 (.p (.int .i64 n32))).map fun h => (udf, h)).bind fun q38 =>
 (ldO true 8 q38.2 q5.1).bind fun t39 =>
 ((stO false 8 (1 :: 0 :: 1 :: 1 :: 1 :: 0 :: σ) q38.2 q1.1 t39).map fun h => (udf, h)).bind fun q40 =>
 ((ldO true 8 q40.2 q1.1).bind fun t41 => (some []).map (t41 :: ·)).bind fun t42 => fin false σ q40.2 t42)
 else (
 bif n9 == 5 then (
 (callO rec 51 (1 :: 1 :: 1 :: 1 :: 1 :: 1 :: 0 :: 1 :: 1 :: 0 :: σ) [x0, (.p (.int .i64 6))] q6.2 (some 38)).bind fun q43 =>
 (castI .i64 q43.1).bind fun n44 =>
 (fA q5.1 3).bind fun t45 =>
 ((stO true 1 (3 :: 1 :: 1 :: 1 :: 1 :: 1 :: 0 :: 1 :: 1 :: 0 :: σ) q43.2 t45 (.p (.int .i64 n44))).map fun h => (udf, h)).bind fun q46 =>
 (ldO true 8 q46.2 q5.1).bind fun t47 =>
 ((stO false 8 (1 :: 0 :: 1 :: 1 :: 1 :: 0 :: σ) q46.2 q1.1 t47).map fun h => (udf, h)).bind fun q48 =>
 ((ldO true 8 q48.2 q1.1).bind fun t49 => (some []).map (t49 :: ·)).bind fun t50 => fin false σ q48.2 t50)
 else (
 bif n9 == 6 then (
 (callO rec 51 (1 :: 1 :: 1 :: 1 :: 1 :: 1 :: 1 :: 0 :: 1 :: 1 :: 0 :: σ) [x0, (.p (.int .i64 6))] q6.2 (some 43)).bind fun q51 =>
 (castI .i64 q51.1).bind fun n52 =>
 (callO rec 51 (3 :: 1 :: 1 :: 1 :: 1 :: 1 :: 1 :: 0 :: 1 :: 1 :: 0 :: σ) [x0, (.p (.int .i64 1000))] q51.2 (some 45)).bind fun q53 =>
 (castI .i64 q53.1).bind fun n54 =>
 (fA q5.1 3).bind fun t55 =>
 ((stO true 1 (6 :: 1 :: 1 :: 1 :: 1 :: 1 :: 1 :: 0 :: 1 :: 1 :: 0 :: σ) q53.2 t55 (.p (.int .i64 n52))).map fun h => (udf, h)).bind fun q56 =>
 (fA q5.1 4).bind fun t57 =>
 ((stO true 1 (8 :: 1 :: 1 :: 1 :: 1 :: 1 :: 1 :: 0 :: 1 :: 1 :: 0 :: σ) q56.2 t57 (.p (.int .i64 (IntKind.wrap .i64 (1 + n54))))).map fun h => (udf, h)).bind fun q58 =>
 (ldO true 8 q58.2 q5.1).bind fun t59 =>
 ((stO false 8 (1 :: 0 :: 1 :: 1 :: 1 :: 0 :: σ) q58.2 q1.1 t59).map fun h => (udf, h)).bind fun q60 =>
 ((ldO true 8 q60.2 q1.1).bind fun t61 => (some []).map (t61 :: ·)).bind fun t62 => fin false σ q60.2 t62)
 else (
 bif n9 == 7 then (
 (callO rec 51 (1 :: 1 :: 1 :: 1 :: 1 :: 1 :: 1 :: 1 :: 0 :: 1 :: 1 :: 0 :: σ) [x0, (.p (.int .i64 6))] q6.2 (some 52)).bind fun q63 =>
 (castI .i64 q63.1).bind fun n64 =>
 (callO rec 51 (3 :: 1 :: 1 :: 1 :: 1 :: 1 :: 1 :: 1 :: 0 :: 1 :: 1 :: 0 :: σ) [x0, (.p (.int .i64 4))] q63.2 (some 54)).bind fun q65 =>
 (castI .i64 q65.1).bind fun n66 =>
 (fA q5.1 3).bind fun t67 =>
 ((stO true 1 (5 :: 1 :: 1 :: 1 :: 1 :: 1 :: 1 :: 1 :: 0 :: 1 :: 1 :: 0 :: σ) q65.2 t67 (.p (.int .i64 n64))).map fun h => (udf, h)).bind fun q68 =>
 (fA q5.1 5).bind fun t69 =>
 ((stO true 1 (7 :: 1 :: 1 :: 1 :: 1 :: 1 :: 1 :: 1 :: 0 :: 1 :: 1 :: 0 :: σ) q68.2 t69 (.p (.int .i64 n66))).map fun h => (udf, h)).bind fun q70 =>
 (ldO true 8 q70.2 q5.1).bind fun t71 =>
 ((stO false 8 (1 :: 0 :: 1 :: 1 :: 1 :: 0 :: σ) q70.2 q1.1 t71).map fun h => (udf, h)).bind fun q72 =>
 ((ldO true 8 q72.2 q1.1).bind fun t73 => (some []).map (t73 :: ·)).bind fun t74 => fin false σ q72.2 t74)
 else (
 bif n9 == 8 then (
 bif n9 == 8 then (
 (callO rec 51 (1 :: 1 :: 1 :: 1 :: 1 :: 1 :: 1 :: 1 :: 1 :: 0 :: 1 :: 1 :: 0 :: σ) [x0, (.p (.int .i64 3))] q6.2 (some 61)).bind fun q75 =>
 (castI .i64 q75.1).bind fun n76 =>
 (fA q5.1 6).bind fun t77 =>
 ((stO true 1 (3 :: 1 :: 1 :: 1 :: 1 :: 1 :: 1 :: 1 :: 1 :: 0 :: 1 :: 1 :: 0 :: σ) q75.2 t77 (.p (.int .i64 n76))).map fun h => (udf, h)).bind fun q78 =>
 (ldO true 8 q78.2 q5.1).bind fun t79 =>
 ((stO false 8 (1 :: 0 :: 1 :: 1 :: 1 :: 0 :: σ) q78.2 q1.1 t79).map fun h => (udf, h)).bind fun q80 =>
 ((ldO true 8 q80.2 q1.1).bind fun t81 => (some []).map (t81 :: ·)).bind fun t82 => fin false σ q80.2 t82)
 else (
 bif n9 == 10 then (
 (callO rec 51 (1 :: 1 :: 1 :: 1 :: 1 :: 1 :: 1 :: 1 :: 1 :: 1 :: 0 :: 1 :: 1 :: 0 :: σ) [x0, (.p (.int .i64 256))] q6.2 (some 66)).bind fun q83 =>
 (castI .i64 q83.1).bind fun n84 =>
 (fA q5.1 7).bind fun t85 =>
 ((stO true 1 (3 :: 1 :: 1 :: 1 :: 1 :: 1 :: 1 :: 1 :: 1 :: 1 :: 0 :: 1 :: 1 :: 0 :: σ) q83.2 t85 (.p (.int .i64 n84))).map fun h => (udf, h)).bind fun q86 =>
 (ldO true 8 q86.2 q5.1).bind fun t87 =>
 ((stO false 8 (1 :: 0 :: 1 :: 1 :: 1 :: 0 :: σ) q86.2 q1.1 t87).map fun h => (udf, h)).bind fun q88 =>
 ((ldO true 8 q88.2 q1.1).bind fun t89 => (some []).map (t89 :: ·)).bind fun t90 => fin false σ q88.2 t90)
 else (
 (ldO true 8 q6.2 q5.1).bind fun t91 =>
 ((stO false 8 (1 :: 0 :: 1 :: 1 :: 1 :: 0 :: σ) q6.2 q1.1 t91).map fun h => (udf, h)).bind fun q92 =>
 ((ldO true 8 q92.2 q1.1).bind fun t93 => (some []).map (t93 :: ·)).bind fun t94 => fin false σ q92.2 t94)))
 else (
 bif n9 == 9 then (
 (callO rec 51 (1 :: 1 :: 1 :: 1 :: 1 :: 1 :: 1 :: 1 :: 1 :: 0 :: 1 :: 1 :: 0 :: σ) [x0, (.p (.int .i64 3))] q6.2 (some 61)).bind fun q95 =>
 (castI .i64 q95.1).bind fun n96 =>
 (fA q5.1 6).bind fun t97 =>
 ((stO true 1 (3 :: 1 :: 1 :: 1 :: 1 :: 1 :: 1 :: 1 :: 1 :: 0 :: 1 :: 1 :: 0 :: σ) q95.2 t97 (.p (.int .i64 n96))).map fun h => (udf, h)).bind fun q98 =>
 (ldO true 8 q98.2 q5.1).bind fun t99 =>
 ((stO false 8 (1 :: 0 :: 1 :: 1 :: 1 :: 0 :: σ) q98.2 q1.1 t99).map fun h => (udf, h)).bind fun q100 =>
 ((ldO true 8 q100.2 q1.1).bind fun t101 => (some []).map (t101 :: ·)).bind fun t102 => fin false σ q100.2 t102)
 else (
 bif n9 == 10 then (
 (callO rec 51 (1 :: 1 :: 1 :: 1 :: 1 :: 1 :: 1 :: 1 :: 1 :: 1 :: 0 :: 1 :: 1 :: 0 :: σ) [x0, (.p (.int .i64 256))] q6.2 (some 66)).bind fun q103 =>
 (castI .i64 q103.1).bind fun n104 =>
 (fA q5.1 7).bind fun t105 =>
 ((stO true 1 (3 :: 1 :: 1 :: 1 :: 1 :: 1 :: 1 :: 1 :: 1 :: 1 :: 0 :: 1 :: 1 :: 0 :: σ) q103.2 t105 (.p (.int .i64 n104))).map fun h => (udf, h)).bind fun q106 =>
 (ldO true 8 q106.2 q5.1).bind fun t107 =>
 ((stO false 8 (1 :: 0 :: 1 :: 1 :: 1 :: 0 :: σ) q106.2 q1.1 t107).map fun h => (udf, h)).bind fun q108 =>
 ((ldO true 8 q108.2 q1.1).bind fun t109 => (some []).map (t109 :: ·)).bind fun t110 => fin false σ q108.2 t110)
 else (
 (ldO true 8 q6.2 q5.1).bind fun t111 =>
 ((stO false 8 (1 :: 0 :: 1 :: 1 :: 1 :: 0 :: σ) q6.2 q1.1 t111).map fun h => (udf, h)).bind fun q112 =>
 ((ldO true 8 q112.2 q1.1).bind fun t113 => (some []).map (t113 :: ·)).bind fun t114 => fin false σ q112.2 t114))))))))) := by kernel_rfl
end Go.Ev
/- Lifted by lift.py: limelightkeep_Tape_Ctl as a plain function. -/
namespace Go.Ev
open Go.Proofs
set_option linter.unusedVariables false
set_option linter.unusedSimpArgs false
set_option maxRecDepth 100000
def p_limelightkeep_Tape_Ctl (k : Nat) (x0 : T_limelightkeep_Tape) : Option (T_api_Ctl × T_limelightkeep_Tape) :=
(p_limelightkeep_Tape_Next (⟨x0.f_L, x0.f_At⟩ : T_limelightkeep_Tape) 10).bind fun r5 =>
bif (IntKind.wrap .i64 (1 + r5.1)) == 1 then (
(p_limelightkeep_Tape_Next (⟨r5.2.f_L, r5.2.f_At⟩ : T_limelightkeep_Tape) 1048576).bind fun r20 =>
some (((⟨(IntKind.wrap .i64 (1 + r5.1)), (IntKind.wrap .i64 (1 + r20.1)), (([] : List T_api_Layer)), 0, 0, 0, 0, 0⟩ : T_api_Ctl)), (⟨r20.2.f_L, r20.2.f_At⟩ : T_limelightkeep_Tape)))
else (
bif (IntKind.wrap .i64 (1 + r5.1)) == 3 then (
(p_limelightkeep_Tape_Next (⟨r5.2.f_L, r5.2.f_At⟩ : T_limelightkeep_Tape) 6).bind fun r35 =>
(p_limelightkeep_Tape_Layers k (⟨r35.2.f_L, r35.2.f_At⟩ : T_limelightkeep_Tape) r35.1).bind fun r43 =>
some (((⟨(IntKind.wrap .i64 (1 + r5.1)), 0, r43.1, 0, 0, 0, 0, 0⟩ : T_api_Ctl)), (⟨r43.2.f_L, r43.2.f_At⟩ : T_limelightkeep_Tape)))
else (
bif (IntKind.wrap .i64 (1 + r5.1)) == 4 then (
(p_limelightkeep_Tape_Next (⟨r5.2.f_L, r5.2.f_At⟩ : T_limelightkeep_Tape) 6).bind fun r80 =>
(p_limelightkeep_Tape_Next (⟨r80.2.f_L, r80.2.f_At⟩ : T_limelightkeep_Tape) 1000).bind fun r88 =>
(p_limelightkeep_Tape_Next (⟨r88.2.f_L, r88.2.f_At⟩ : T_limelightkeep_Tape) 4).bind fun r96 =>
some (((⟨(IntKind.wrap .i64 (1 + r5.1)), 0, (([] : List T_api_Layer)), r80.1, (IntKind.wrap .i64 (1 + r88.1)), r96.1, 0, 0⟩ : T_api_Ctl)), (⟨r96.2.f_L, r96.2.f_At⟩ : T_limelightkeep_Tape)))
else (
bif (IntKind.wrap .i64 (1 + r5.1)) == 5 then (
(p_limelightkeep_Tape_Next (⟨r5.2.f_L, r5.2.f_At⟩ : T_limelightkeep_Tape) 6).bind fun r117 =>
some (((⟨(IntKind.wrap .i64 (1 + r5.1)), 0, (([] : List T_api_Layer)), r117.1, 0, 0, 0, 0⟩ : T_api_Ctl)), (⟨r117.2.f_L, r117.2.f_At⟩ : T_limelightkeep_Tape)))
else (
bif (IntKind.wrap .i64 (1 + r5.1)) == 6 then (
(p_limelightkeep_Tape_Next (⟨r5.2.f_L, r5.2.f_At⟩ : T_limelightkeep_Tape) 6).bind fun r132 =>
(p_limelightkeep_Tape_Next (⟨r132.2.f_L, r132.2.f_At⟩ : T_limelightkeep_Tape) 1000).bind fun r140 =>
some (((⟨(IntKind.wrap .i64 (1 + r5.1)), 0, (([] : List T_api_Layer)), r132.1, (IntKind.wrap .i64 (1 + r140.1)), 0, 0, 0⟩ : T_api_Ctl)), (⟨r140.2.f_L, r140.2.f_At⟩ : T_limelightkeep_Tape)))
else (
bif (IntKind.wrap .i64 (1 + r5.1)) == 7 then (
(p_limelightkeep_Tape_Next (⟨r5.2.f_L, r5.2.f_At⟩ : T_limelightkeep_Tape) 6).bind fun r158 =>
(p_limelightkeep_Tape_Next (⟨r158.2.f_L, r158.2.f_At⟩ : T_limelightkeep_Tape) 4).bind fun r166 =>
some (((⟨(IntKind.wrap .i64 (1 + r5.1)), 0, (([] : List T_api_Layer)), r158.1, 0, r166.1, 0, 0⟩ : T_api_Ctl)), (⟨r166.2.f_L, r166.2.f_At⟩ : T_limelightkeep_Tape)))
else (
bif (IntKind.wrap .i64 (1 + r5.1)) == 8 then (
bif (IntKind.wrap .i64 (1 + r5.1)) == 8 then (
(p_limelightkeep_Tape_Next (⟨r5.2.f_L, r5.2.f_At⟩ : T_limelightkeep_Tape) 3).bind fun r184 =>
some (((⟨(IntKind.wrap .i64 (1 + r5.1)), 0, (([] : List T_api_Layer)), 0, 0, 0, r184.1, 0⟩ : T_api_Ctl)), (⟨r184.2.f_L, r184.2.f_At⟩ : T_limelightkeep_Tape)))
else (
bif (IntKind.wrap .i64 (1 + r5.1)) == 10 then (
(p_limelightkeep_Tape_Next (⟨r5.2.f_L, r5.2.f_At⟩ : T_limelightkeep_Tape) 256).bind fun r199 =>
some (((⟨(IntKind.wrap .i64 (1 + r5.1)), 0, (([] : List T_api_Layer)), 0, 0, 0, 0, r199.1⟩ : T_api_Ctl)), (⟨r199.2.f_L, r199.2.f_At⟩ : T_limelightkeep_Tape)))
else (
some (((⟨(IntKind.wrap .i64 (1 + r5.1)), 0, (([] : List T_api_Layer)), 0, 0, 0, 0, 0⟩ : T_api_Ctl)), (⟨r5.2.f_L, r5.2.f_At⟩ : T_limelightkeep_Tape)))))
else (
bif (IntKind.wrap .i64 (1 + r5.1)) == 9 then (
(p_limelightkeep_Tape_Next (⟨r5.2.f_L, r5.2.f_At⟩ : T_limelightkeep_Tape) 3).bind fun r218 =>
some (((⟨(IntKind.wrap .i64 (1 + r5.1)), 0, (([] : List T_api_Layer)), 0, 0, 0, r218.1, 0⟩ : T_api_Ctl)), (⟨r218.2.f_L, r218.2.f_At⟩ : T_limelightkeep_Tape)))
else (
bif (IntKind.wrap .i64 (1 + r5.1)) == 10 then (
(p_limelightkeep_Tape_Next (⟨r5.2.f_L, r5.2.f_At⟩ : T_limelightkeep_Tape) 256).bind fun r233 =>
some (((⟨(IntKind.wrap .i64 (1 + r5.1)), 0, (([] : List T_api_Layer)), 0, 0, 0, 0, r233.1⟩ : T_api_Ctl)), (⟨r233.2.f_L, r233.2.f_At⟩ : T_limelightkeep_Tape)))
else (
some (((⟨(IntKind.wrap .i64 (1 + r5.1)), 0, (([] : List T_api_Layer)), 0, 0, 0, 0, 0⟩ : T_api_Ctl)), (⟨r5.2.f_L, r5.2.f_At⟩ : T_limelightkeep_Tape)))))))))))
theorem limelightkeep_Tape_Ctl_ok (k : Nat) {h : H} {σ : Stamp} (x0 : T_limelightkeep_Tape) {u0_0 : V} (hu0_0 : SlF (dI .i64) x0.f_L u0_0) {l0 : Loc} {o0 : Nat} (ha0 : AtC h l0 o0 (List.map C.v [u0_0, (.p (.int .i64 x0.f_At))])) : Sim (p_limelightkeep_Tape_Ctl k x0) (ev G X0 28 σ [(.ref l0 o0)] h) (fun r s => ∃ (w0 : List V), ∃ (vb0_0 : V), dT_api_Ctl.R r.1 w0 ∧ SlF (dI .i64) r.2.f_L vb0_0 ∧ s = ([.v (.agg w0)], pts h [⟨l0, o0, [.v vb0_0, .v (.p (.int .i64 r.2.f_At))]⟩])) := by
  refine Sim.ev rfl (Sim.ext (limelightkeep_Tape_Ctl_entry _ _ _ _ _) ?_)
  rw [p_limelightkeep_Tape_Ctl]
  have S0 : Fm 69 h [⟨l0, o0, List.map C.v [u0_0, (.p (.int .i64 x0.f_At))]⟩] [] [] (List.replicate 69 [] :: h) := Fm.start1 ha0
  obtain ⟨H1, e2, S3⟩ := S0.al (d := 2) (s := (0 :: 0 :: 0 :: σ)) (z := [(.p (.int .i64 0)), (.p (.int .i64 0)), (.p (.slice none 0 0)), (.p (.int .i64 0)), (.p (.int .i64 0)), (.p (.int .i64 0)), (.p (.int .i64 0)), (.p (.int .i64 0))]) (by decide) rfl
  refine Sim.op (congrArg some e2) ?_
  refine Sim.call (limelightkeep_Tape_Next_ok (⟨x0.f_L, x0.f_At⟩ : T_limelightkeep_Tape) hu0_0 (S3.atB (i := 0) rfl) 10) fun r5 cs6 H7 h8 q9 => ?_
  obtain ⟨v10, h11, q9⟩ := q9
  cases q9
  have S12 := S3.setB (i := 0) (cs := List.map C.v [v10, (.p (.int .i64 r5.2.f_At))]) rfl rfl
  refine Sim.op (castI_p _ _) ?_
  refine Sim.op (bldV (pt_cons rfl pt_nil) (by kernel_rfl : _ = some (.agg [.p (.int .i64 (IntKind.wrap .i64 (1 + r5.1))), .p (.int .i64 0), .p (.slice none 0 0), .p (.int .i64 0), .p (.int .i64 0), .p (.int .i64 0), .p (.int .i64 0), .p (.int .i64 0)]))) ?_
  obtain ⟨H13, e14, S15⟩ := S12.al (d := 3) (s := (4 :: 0 :: 1 :: 0 :: σ)) (z := [(.p (.int .i64 0)), (.p (.int .i64 0)), (.p (.slice none 0 0)), (.p (.int .i64 0)), (.p (.int .i64 0)), (.p (.int .i64 0)), (.p (.int .i64 0)), (.p (.int .i64 0))]) (by decide) rfl
  refine Sim.op (congrArg some e14) ?_
  obtain ⟨H17, e18, S19⟩ := S15.stGv (i := 0) (j := 0) (own := false) (σ := (5 :: 0 :: 1 :: 0 :: σ)) (xs := [.p (.int .i64 (IntKind.wrap .i64 (1 + r5.1))), .p (.int .i64 0), .p (.slice none 0 0), .p (.int .i64 0), .p (.int .i64 0), .p (.int .i64 0), .p (.int .i64 0), .p (.int .i64 0)]) rfl rfl (stills_cons (still_int _ _) (stills_cons (still_int _ _) (stills_cons (SlF.nil dT_api_Layer).still (stills_cons (still_int _ _) (stills_cons (still_int _ _) (stills_cons (still_int _ _) (stills_cons (still_int _ _) (stills_cons (still_int _ _) stills_nil)))))))) rfl rfl
  refine Sim.op (st_map e18) ?_
  refine Sim.op (fA_ref _ _ _) ?_
  refine Sim.op ((S19.atG (i := 0) rfl).ld (j := 0) rfl) ?_
  refine Sim.op (castI_p _ _) ?_
  refine Sim.cd (fun hc => ?_) (fun hc => ?_)
  · refine Sim.call (limelightkeep_Tape_Next_ok (⟨r5.2.f_L, r5.2.f_At⟩ : T_limelightkeep_Tape) h11 (S19.atB (i := 0) rfl) 1048576) fun r20 cs21 H22 h23 q24 => ?_
    obtain ⟨v25, h26, q24⟩ := q24
    cases q24
    have S27 := S19.setB (i := 0) (cs := List.map C.v [v25, (.p (.int .i64 r20.2.f_At))]) rfl rfl
    refine Sim.op (castI_p _ _) ?_
    refine Sim.op (fA_ref _ _ _) ?_
    obtain ⟨H28, e29, S30⟩ := S27.stG (i := 0) (j := 1) (own := true) (σ := (4 :: 1 :: 1 :: 0 :: 1 :: 1 :: 0 :: σ)) (x := (.p (.int .i64 (IntKind.wrap .i64 (1 + r20.1))))) rfl rfl (still_int _ _) rfl
    refine Sim.op (st_map e29) ?_
    refine Sim.op ((S30.atG (i := 0) rfl).ldVs (j := 0) (xs := [.p (.int .i64 (IntKind.wrap .i64 (1 + r5.1))), .p (.int .i64 (IntKind.wrap .i64 (1 + r20.1))), .p (.slice none 0 0), .p (.int .i64 0), .p (.int .i64 0), .p (.int .i64 0), .p (.int .i64 0), .p (.int .i64 0)]) rfl rfl (by decide)) ?_
    obtain ⟨H31, e32, S33⟩ := S30.stGv (i := 1) (j := 0) (own := false) (σ := (1 :: 0 :: 1 :: 1 :: 1 :: 0 :: σ)) (xs := [.p (.int .i64 (IntKind.wrap .i64 (1 + r5.1))), .p (.int .i64 (IntKind.wrap .i64 (1 + r20.1))), .p (.slice none 0 0), .p (.int .i64 0), .p (.int .i64 0), .p (.int .i64 0), .p (.int .i64 0), .p (.int .i64 0)]) rfl rfl (stills_cons (still_int _ _) (stills_cons (still_int _ _) (stills_cons (SlF.nil dT_api_Layer).still (stills_cons (still_int _ _) (stills_cons (still_int _ _) (stills_cons (still_int _ _) (stills_cons (still_int _ _) (stills_cons (still_int _ _) stills_nil)))))))) rfl rfl
    refine Sim.op (st_map e32) ?_
    have e34 : ldO true 8 H31 (.ref ⟨h.length, 2, 0, (0 :: 0 :: 0 :: σ), []⟩ 0) = some (.agg [.p (.int .i64 (IntKind.wrap .i64 (1 + r5.1))), .p (.int .i64 (IntKind.wrap .i64 (1 + r20.1))), .p (.slice none 0 0), .p (.int .i64 0), .p (.int .i64 0), .p (.int .i64 0), .p (.int .i64 0), .p (.int .i64 0)]) := (S33.atG (i := 1) rfl).ldVs (j := 0) (xs := [.p (.int .i64 (IntKind.wrap .i64 (1 + r5.1))), .p (.int .i64 (IntKind.wrap .i64 (1 + r20.1))), .p (.slice none 0 0), .p (.int .i64 0), .p (.int .i64 0), .p (.int .i64 0), .p (.int .i64 0), .p (.int .i64 0)]) rfl rfl (by decide)
    refine Sim.op (show _ = some [(.agg [.p (.int .i64 (IntKind.wrap .i64 (1 + r5.1))), .p (.int .i64 (IntKind.wrap .i64 (1 + r20.1))), .p (.slice none 0 0), .p (.int .i64 0), .p (.int .i64 0), .p (.int .i64 0), .p (.int .i64 0), .p (.int .i64 0)])] from by simp only [e34, Option.bind_some, Option.map_some]) ?_
    exact Sim.fin (S33.finN (lv_cons (Stills.lv (dT_api_Ctl.still (dT_api_Ctl.mk (SlF.nil dT_api_Layer)))) lv_nil)) ⟨[.p (.int .i64 (IntKind.wrap .i64 (1 + r5.1))), .p (.int .i64 (IntKind.wrap .i64 (1 + r20.1))), .p (.slice none 0 0), .p (.int .i64 0), .p (.int .i64 0), .p (.int .i64 0), .p (.int .i64 0), .p (.int .i64 0)], v25, (show dT_api_Ctl.R ((⟨(IntKind.wrap .i64 (1 + r5.1)), (IntKind.wrap .i64 (1 + r20.1)), (([] : List T_api_Layer)), 0, 0, 0, 0, 0⟩ : T_api_Ctl)) [.p (.int .i64 (IntKind.wrap .i64 (1 + r5.1))), .p (.int .i64 (IntKind.wrap .i64 (1 + r20.1))), .p (.slice none 0 0), .p (.int .i64 0), .p (.int .i64 0), .p (.int .i64 0), .p (.int .i64 0), .p (.int .i64 0)] from (dT_api_Ctl.mk (SlF.nil dT_api_Layer))), h26, rfl⟩
  · refine Sim.cd (fun hc => ?_) (fun hc => ?_)
    · refine Sim.call (limelightkeep_Tape_Next_ok (⟨r5.2.f_L, r5.2.f_At⟩ : T_limelightkeep_Tape) h11 (S19.atB (i := 0) rfl) 6) fun r35 cs36 H37 h38 q39 => ?_
      obtain ⟨v40, h41, q39⟩ := q39
      cases q39
      have S42 := S19.setB (i := 0) (cs := List.map C.v [v40, (.p (.int .i64 r35.2.f_At))]) rfl rfl
      refine Sim.op (castI_p _ _) ?_
      refine Sim.call (limelightkeep_Tape_Layers_ok k (⟨r35.2.f_L, r35.2.f_At⟩ : T_limelightkeep_Tape) h41 (S42.atB (i := 0) rfl) r35.1) fun r43 cs44 H45 h46 q47 => ?_
      obtain ⟨c48, cs49, v52, h50, h51, h53, q47⟩ := q47
      cases q47
      have S54 := S42.setB (i := 0) (cs := List.map C.v [v52, (.p (.int .i64 r43.2.f_At))]) rfl rfl
      obtain ⟨v55, H56, e57, S58⟩ := S54.land (dt := dT_api_Layer) (d := 21) (e := 0) (n := 0) h50 h51 (by decide) rfl
      erw [e57]
      refine Sim.op (fA_ref _ _ _) ?_
      obtain ⟨c63, H60, e61, h64, h65, S62⟩ := S58.mvG (i := 0) (j := 2) (k := 0) (σ := (5 :: 1 :: 1 :: 1 :: 0 :: 1 :: 1 :: 0 :: σ)) rfl rfl rfl rfl rfl rfl
      refine Sim.op (st_map e61) ?_
      obtain ⟨v66, h67, h68⟩ := h64.fr
      obtain ⟨w69, H70, h75, e71, e72, e73, S74⟩ := S62.frzV (i := 0) (n := 8) (ys := [(.p (.int .i64 (IntKind.wrap .i64 (1 + r5.1)))), (.p (.int .i64 0)), v66, (.p (.int .i64 0)), (.p (.int .i64 0)), (.p (.int .i64 0)), (.p (.int .i64 0)), (.p (.int .i64 0))]) rfl rfl ⟨(FrC.v (still_int _ _)), ⟨(FrC.v (still_int _ _)), ⟨h67, ⟨(FrC.v (still_int _ _)), ⟨(FrC.v (still_int _ _)), ⟨(FrC.v (still_int _ _)), ⟨(FrC.v (still_int _ _)), ⟨(FrC.v (still_int _ _)), trivial⟩⟩⟩⟩⟩⟩⟩⟩ rfl (by decide)
      refine Sim.op (e71) ?_
      obtain ⟨H76, e77, S78⟩ := Fm.stFrz (S0 := S62) (i0 := 1) (i := 1) (j := 0) (n := 8) (σ := (1 :: 0 :: 1 :: 1 :: 1 :: 0 :: σ)) S74 rfl e73 rfl rfl h75 rfl rfl
      refine Sim.op (st_map e77) ?_
      have e79 : ldO true 8 H76 (.ref ⟨h.length, 2, 0, (0 :: 0 :: 0 :: σ), []⟩ 0) = some (.agg [.p (.int .i64 (IntKind.wrap .i64 (1 + r5.1))), .p (.int .i64 0), v66, .p (.int .i64 0), .p (.int .i64 0), .p (.int .i64 0), .p (.int .i64 0), .p (.int .i64 0)]) := (S78.atG (i := 1) rfl).ldVs (j := 0) (xs := [.p (.int .i64 (IntKind.wrap .i64 (1 + r5.1))), .p (.int .i64 0), v66, .p (.int .i64 0), .p (.int .i64 0), .p (.int .i64 0), .p (.int .i64 0), .p (.int .i64 0)]) rfl rfl (by decide)
      refine Sim.op (show _ = some [(.agg [.p (.int .i64 (IntKind.wrap .i64 (1 + r5.1))), .p (.int .i64 0), v66, .p (.int .i64 0), .p (.int .i64 0), .p (.int .i64 0), .p (.int .i64 0), .p (.int .i64 0)])] from by simp only [e79, Option.bind_some, Option.map_some]) ?_
      exact Sim.fin (S78.finN (lv_cons (Stills.lv (dT_api_Ctl.still (dT_api_Ctl.mk h68))) lv_nil)) ⟨[.p (.int .i64 (IntKind.wrap .i64 (1 + r5.1))), .p (.int .i64 0), v66, .p (.int .i64 0), .p (.int .i64 0), .p (.int .i64 0), .p (.int .i64 0), .p (.int .i64 0)], v52, (show dT_api_Ctl.R ((⟨(IntKind.wrap .i64 (1 + r5.1)), 0, r43.1, 0, 0, 0, 0, 0⟩ : T_api_Ctl)) [.p (.int .i64 (IntKind.wrap .i64 (1 + r5.1))), .p (.int .i64 0), v66, .p (.int .i64 0), .p (.int .i64 0), .p (.int .i64 0), .p (.int .i64 0), .p (.int .i64 0)] from (dT_api_Ctl.mk h68)), h53, rfl⟩
    · refine Sim.cd (fun hc => ?_) (fun hc => ?_)
      · refine Sim.call (limelightkeep_Tape_Next_ok (⟨r5.2.f_L, r5.2.f_At⟩ : T_limelightkeep_Tape) h11 (S19.atB (i := 0) rfl) 6) fun r80 cs81 H82 h83 q84 => ?_
        obtain ⟨v85, h86, q84⟩ := q84
        cases q84
        have S87 := S19.setB (i := 0) (cs := List.map C.v [v85, (.p (.int .i64 r80.2.f_At))]) rfl rfl
        refine Sim.op (castI_p _ _) ?_
        refine Sim.call (limelightkeep_Tape_Next_ok (⟨r80.2.f_L, r80.2.f_At⟩ : T_limelightkeep_Tape) h86 (S87.atB (i := 0) rfl) 1000) fun r88 cs89 H90 h91 q92 => ?_
        obtain ⟨v93, h94, q92⟩ := q92
        cases q92
        have S95 := S87.setB (i := 0) (cs := List.map C.v [v93, (.p (.int .i64 r88.2.f_At))]) rfl rfl
        refine Sim.op (castI_p _ _) ?_
        refine Sim.call (limelightkeep_Tape_Next_ok (⟨r88.2.f_L, r88.2.f_At⟩ : T_limelightkeep_Tape) h94 (S95.atB (i := 0) rfl) 4) fun r96 cs97 H98 h99 q100 => ?_
        obtain ⟨v101, h102, q100⟩ := q100
        cases q100
        have S103 := S95.setB (i := 0) (cs := List.map C.v [v101, (.p (.int .i64 r96.2.f_At))]) rfl rfl
        refine Sim.op (castI_p _ _) ?_
        refine Sim.op (fA_ref _ _ _) ?_
        obtain ⟨H104, e105, S106⟩ := S103.stG (i := 0) (j := 3) (own := true) (σ := (8 :: 1 :: 1 :: 1 :: 1 :: 0 :: 1 :: 1 :: 0 :: σ)) (x := (.p (.int .i64 r80.1))) rfl rfl (still_int _ _) rfl
        refine Sim.op (st_map e105) ?_
        refine Sim.op (fA_ref _ _ _) ?_
        obtain ⟨H107, e108, S109⟩ := S106.stG (i := 0) (j := 4) (own := true) (σ := (10 :: 1 :: 1 :: 1 :: 1 :: 0 :: 1 :: 1 :: 0 :: σ)) (x := (.p (.int .i64 (IntKind.wrap .i64 (1 + r88.1))))) rfl rfl (still_int _ _) rfl
        refine Sim.op (st_map e108) ?_
        refine Sim.op (fA_ref _ _ _) ?_
        obtain ⟨H110, e111, S112⟩ := S109.stG (i := 0) (j := 5) (own := true) (σ := (12 :: 1 :: 1 :: 1 :: 1 :: 0 :: 1 :: 1 :: 0 :: σ)) (x := (.p (.int .i64 r96.1))) rfl rfl (still_int _ _) rfl
        refine Sim.op (st_map e111) ?_
        refine Sim.op ((S112.atG (i := 0) rfl).ldVs (j := 0) (xs := [.p (.int .i64 (IntKind.wrap .i64 (1 + r5.1))), .p (.int .i64 0), .p (.slice none 0 0), .p (.int .i64 r80.1), .p (.int .i64 (IntKind.wrap .i64 (1 + r88.1))), .p (.int .i64 r96.1), .p (.int .i64 0), .p (.int .i64 0)]) rfl rfl (by decide)) ?_
        obtain ⟨H113, e114, S115⟩ := S112.stGv (i := 1) (j := 0) (own := false) (σ := (1 :: 0 :: 1 :: 1 :: 1 :: 0 :: σ)) (xs := [.p (.int .i64 (IntKind.wrap .i64 (1 + r5.1))), .p (.int .i64 0), .p (.slice none 0 0), .p (.int .i64 r80.1), .p (.int .i64 (IntKind.wrap .i64 (1 + r88.1))), .p (.int .i64 r96.1), .p (.int .i64 0), .p (.int .i64 0)]) rfl rfl (stills_cons (still_int _ _) (stills_cons (still_int _ _) (stills_cons (SlF.nil dT_api_Layer).still (stills_cons (still_int _ _) (stills_cons (still_int _ _) (stills_cons (still_int _ _) (stills_cons (still_int _ _) (stills_cons (still_int _ _) stills_nil)))))))) rfl rfl
        refine Sim.op (st_map e114) ?_
        have e116 : ldO true 8 H113 (.ref ⟨h.length, 2, 0, (0 :: 0 :: 0 :: σ), []⟩ 0) = some (.agg [.p (.int .i64 (IntKind.wrap .i64 (1 + r5.1))), .p (.int .i64 0), .p (.slice none 0 0), .p (.int .i64 r80.1), .p (.int .i64 (IntKind.wrap .i64 (1 + r88.1))), .p (.int .i64 r96.1), .p (.int .i64 0), .p (.int .i64 0)]) := (S115.atG (i := 1) rfl).ldVs (j := 0) (xs := [.p (.int .i64 (IntKind.wrap .i64 (1 + r5.1))), .p (.int .i64 0), .p (.slice none 0 0), .p (.int .i64 r80.1), .p (.int .i64 (IntKind.wrap .i64 (1 + r88.1))), .p (.int .i64 r96.1), .p (.int .i64 0), .p (.int .i64 0)]) rfl rfl (by decide)
        refine Sim.op (show _ = some [(.agg [.p (.int .i64 (IntKind.wrap .i64 (1 + r5.1))), .p (.int .i64 0), .p (.slice none 0 0), .p (.int .i64 r80.1), .p (.int .i64 (IntKind.wrap .i64 (1 + r88.1))), .p (.int .i64 r96.1), .p (.int .i64 0), .p (.int .i64 0)])] from by simp only [e116, Option.bind_some, Option.map_some]) ?_
        exact Sim.fin (S115.finN (lv_cons (Stills.lv (dT_api_Ctl.still (dT_api_Ctl.mk (SlF.nil dT_api_Layer)))) lv_nil)) ⟨[.p (.int .i64 (IntKind.wrap .i64 (1 + r5.1))), .p (.int .i64 0), .p (.slice none 0 0), .p (.int .i64 r80.1), .p (.int .i64 (IntKind.wrap .i64 (1 + r88.1))), .p (.int .i64 r96.1), .p (.int .i64 0), .p (.int .i64 0)], v101, (show dT_api_Ctl.R ((⟨(IntKind.wrap .i64 (1 + r5.1)), 0, (([] : List T_api_Layer)), r80.1, (IntKind.wrap .i64 (1 + r88.1)), r96.1, 0, 0⟩ : T_api_Ctl)) [.p (.int .i64 (IntKind.wrap .i64 (1 + r5.1))), .p (.int .i64 0), .p (.slice none 0 0), .p (.int .i64 r80.1), .p (.int .i64 (IntKind.wrap .i64 (1 + r88.1))), .p (.int .i64 r96.1), .p (.int .i64 0), .p (.int .i64 0)] from (dT_api_Ctl.mk (SlF.nil dT_api_Layer))), h102, rfl⟩
      · refine Sim.cd (fun hc => ?_) (fun hc => ?_)
        · refine Sim.call (limelightkeep_Tape_Next_ok (⟨r5.2.f_L, r5.2.f_At⟩ : T_limelightkeep_Tape) h11 (S19.atB (i := 0) rfl) 6) fun r117 cs118 H119 h120 q121 => ?_
          obtain ⟨v122, h123, q121⟩ := q121
          cases q121
          have S124 := S19.setB (i := 0) (cs := List.map C.v [v122, (.p (.int .i64 r117.2.f_At))]) rfl rfl
          refine Sim.op (castI_p _ _) ?_
          refine Sim.op (fA_ref _ _ _) ?_
          obtain ⟨H125, e126, S127⟩ := S124.stG (i := 0) (j := 3) (own := true) (σ := (3 :: 1 :: 1 :: 1 :: 1 :: 1 :: 0 :: 1 :: 1 :: 0 :: σ)) (x := (.p (.int .i64 r117.1))) rfl rfl (still_int _ _) rfl
          refine Sim.op (st_map e126) ?_
          refine Sim.op ((S127.atG (i := 0) rfl).ldVs (j := 0) (xs := [.p (.int .i64 (IntKind.wrap .i64 (1 + r5.1))), .p (.int .i64 0), .p (.slice none 0 0), .p (.int .i64 r117.1), .p (.int .i64 0), .p (.int .i64 0), .p (.int .i64 0), .p (.int .i64 0)]) rfl rfl (by decide)) ?_
          obtain ⟨H128, e129, S130⟩ := S127.stGv (i := 1) (j := 0) (own := false) (σ := (1 :: 0 :: 1 :: 1 :: 1 :: 0 :: σ)) (xs := [.p (.int .i64 (IntKind.wrap .i64 (1 + r5.1))), .p (.int .i64 0), .p (.slice none 0 0), .p (.int .i64 r117.1), .p (.int .i64 0), .p (.int .i64 0), .p (.int .i64 0), .p (.int .i64 0)]) rfl rfl (stills_cons (still_int _ _) (stills_cons (still_int _ _) (stills_cons (SlF.nil dT_api_Layer).still (stills_cons (still_int _ _) (stills_cons (still_int _ _) (stills_cons (still_int _ _) (stills_cons (still_int _ _) (stills_cons (still_int _ _) stills_nil)))))))) rfl rfl
          refine Sim.op (st_map e129) ?_
          have e131 : ldO true 8 H128 (.ref ⟨h.length, 2, 0, (0 :: 0 :: 0 :: σ), []⟩ 0) = some (.agg [.p (.int .i64 (IntKind.wrap .i64 (1 + r5.1))), .p (.int .i64 0), .p (.slice none 0 0), .p (.int .i64 r117.1), .p (.int .i64 0), .p (.int .i64 0), .p (.int .i64 0), .p (.int .i64 0)]) := (S130.atG (i := 1) rfl).ldVs (j := 0) (xs := [.p (.int .i64 (IntKind.wrap .i64 (1 + r5.1))), .p (.int .i64 0), .p (.slice none 0 0), .p (.int .i64 r117.1), .p (.int .i64 0), .p (.int .i64 0), .p (.int .i64 0), .p (.int .i64 0)]) rfl rfl (by decide)
          refine Sim.op (show _ = some [(.agg [.p (.int .i64 (IntKind.wrap .i64 (1 + r5.1))), .p (.int .i64 0), .p (.slice none 0 0), .p (.int .i64 r117.1), .p (.int .i64 0), .p (.int .i64 0), .p (.int .i64 0), .p (.int .i64 0)])] from by simp only [e131, Option.bind_some, Option.map_some]) ?_
          exact Sim.fin (S130.finN (lv_cons (Stills.lv (dT_api_Ctl.still (dT_api_Ctl.mk (SlF.nil dT_api_Layer)))) lv_nil)) ⟨[.p (.int .i64 (IntKind.wrap .i64 (1 + r5.1))), .p (.int .i64 0), .p (.slice none 0 0), .p (.int .i64 r117.1), .p (.int .i64 0), .p (.int .i64 0), .p (.int .i64 0), .p (.int .i64 0)], v122, (show dT_api_Ctl.R ((⟨(IntKind.wrap .i64 (1 + r5.1)), 0, (([] : List T_api_Layer)), r117.1, 0, 0, 0, 0⟩ : T_api_Ctl)) [.p (.int .i64 (IntKind.wrap .i64 (1 + r5.1))), .p (.int .i64 0), .p (.slice none 0 0), .p (.int .i64 r117.1), .p (.int .i64 0), .p (.int .i64 0), .p (.int .i64 0), .p (.int .i64 0)] from (dT_api_Ctl.mk (SlF.nil dT_api_Layer))), h123, rfl⟩
        · refine Sim.cd (fun hc => ?_) (fun hc => ?_)
          · refine Sim.call (limelightkeep_Tape_Next_ok (⟨r5.2.f_L, r5.2.f_At⟩ : T_limelightkeep_Tape) h11 (S19.atB (i := 0) rfl) 6) fun r132 cs133 H134 h135 q136 => ?_
            obtain ⟨v137, h138, q136⟩ := q136
            cases q136
            have S139 := S19.setB (i := 0) (cs := List.map C.v [v137, (.p (.int .i64 r132.2.f_At))]) rfl rfl
            refine Sim.op (castI_p _ _) ?_
            refine Sim.call (limelightkeep_Tape_Next_ok (⟨r132.2.f_L, r132.2.f_At⟩ : T_limelightkeep_Tape) h138 (S139.atB (i := 0) rfl) 1000) fun r140 cs141 H142 h143 q144 => ?_
            obtain ⟨v145, h146, q144⟩ := q144
            cases q144
            have S147 := S139.setB (i := 0) (cs := List.map C.v [v145, (.p (.int .i64 r140.2.f_At))]) rfl rfl
            refine Sim.op (castI_p _ _) ?_
            refine Sim.op (fA_ref _ _ _) ?_
            obtain ⟨H148, e149, S150⟩ := S147.stG (i := 0) (j := 3) (own := true) (σ := (6 :: 1 :: 1 :: 1 :: 1 :: 1 :: 1 :: 0 :: 1 :: 1 :: 0 :: σ)) (x := (.p (.int .i64 r132.1))) rfl rfl (still_int _ _) rfl
            refine Sim.op (st_map e149) ?_
            refine Sim.op (fA_ref _ _ _) ?_
            obtain ⟨H151, e152, S153⟩ := S150.stG (i := 0) (j := 4) (own := true) (σ := (8 :: 1 :: 1 :: 1 :: 1 :: 1 :: 1 :: 0 :: 1 :: 1 :: 0 :: σ)) (x := (.p (.int .i64 (IntKind.wrap .i64 (1 + r140.1))))) rfl rfl (still_int _ _) rfl
            refine Sim.op (st_map e152) ?_
            refine Sim.op ((S153.atG (i := 0) rfl).ldVs (j := 0) (xs := [.p (.int .i64 (IntKind.wrap .i64 (1 + r5.1))), .p (.int .i64 0), .p (.slice none 0 0), .p (.int .i64 r132.1), .p (.int .i64 (IntKind.wrap .i64 (1 + r140.1))), .p (.int .i64 0), .p (.int .i64 0), .p (.int .i64 0)]) rfl rfl (by decide)) ?_
            obtain ⟨H154, e155, S156⟩ := S153.stGv (i := 1) (j := 0) (own := false) (σ := (1 :: 0 :: 1 :: 1 :: 1 :: 0 :: σ)) (xs := [.p (.int .i64 (IntKind.wrap .i64 (1 + r5.1))), .p (.int .i64 0), .p (.slice none 0 0), .p (.int .i64 r132.1), .p (.int .i64 (IntKind.wrap .i64 (1 + r140.1))), .p (.int .i64 0), .p (.int .i64 0), .p (.int .i64 0)]) rfl rfl (stills_cons (still_int _ _) (stills_cons (still_int _ _) (stills_cons (SlF.nil dT_api_Layer).still (stills_cons (still_int _ _) (stills_cons (still_int _ _) (stills_cons (still_int _ _) (stills_cons (still_int _ _) (stills_cons (still_int _ _) stills_nil)))))))) rfl rfl
            refine Sim.op (st_map e155) ?_
            have e157 : ldO true 8 H154 (.ref ⟨h.length, 2, 0, (0 :: 0 :: 0 :: σ), []⟩ 0) = some (.agg [.p (.int .i64 (IntKind.wrap .i64 (1 + r5.1))), .p (.int .i64 0), .p (.slice none 0 0), .p (.int .i64 r132.1), .p (.int .i64 (IntKind.wrap .i64 (1 + r140.1))), .p (.int .i64 0), .p (.int .i64 0), .p (.int .i64 0)]) := (S156.atG (i := 1) rfl).ldVs (j := 0) (xs := [.p (.int .i64 (IntKind.wrap .i64 (1 + r5.1))), .p (.int .i64 0), .p (.slice none 0 0), .p (.int .i64 r132.1), .p (.int .i64 (IntKind.wrap .i64 (1 + r140.1))), .p (.int .i64 0), .p (.int .i64 0), .p (.int .i64 0)]) rfl rfl (by decide)
            refine Sim.op (show _ = some [(.agg [.p (.int .i64 (IntKind.wrap .i64 (1 + r5.1))), .p (.int .i64 0), .p (.slice none 0 0), .p (.int .i64 r132.1), .p (.int .i64 (IntKind.wrap .i64 (1 + r140.1))), .p (.int .i64 0), .p (.int .i64 0), .p (.int .i64 0)])] from by simp only [e157, Option.bind_some, Option.map_some]) ?_
            exact Sim.fin (S156.finN (lv_cons (Stills.lv (dT_api_Ctl.still (dT_api_Ctl.mk (SlF.nil dT_api_Layer)))) lv_nil)) ⟨[.p (.int .i64 (IntKind.wrap .i64 (1 + r5.1))), .p (.int .i64 0), .p (.slice none 0 0), .p (.int .i64 r132.1), .p (.int .i64 (IntKind.wrap .i64 (1 + r140.1))), .p (.int .i64 0), .p (.int .i64 0), .p (.int .i64 0)], v145, (show dT_api_Ctl.R ((⟨(IntKind.wrap .i64 (1 + r5.1)), 0, (([] : List T_api_Layer)), r132.1, (IntKind.wrap .i64 (1 + r140.1)), 0, 0, 0⟩ : T_api_Ctl)) [.p (.int .i64 (IntKind.wrap .i64 (1 + r5.1))), .p (.int .i64 0), .p (.slice none 0 0), .p (.int .i64 r132.1), .p (.int .i64 (IntKind.wrap .i64 (1 + r140.1))), .p (.int .i64 0), .p (.int .i64 0), .p (.int .i64 0)] from (dT_api_Ctl.mk (SlF.nil dT_api_Layer))), h146, rfl⟩
          · refine Sim.cd (fun hc => ?_) (fun hc => ?_)
            · refine Sim.call (limelightkeep_Tape_Next_ok (⟨r5.2.f_L, r5.2.f_At⟩ : T_limelightkeep_Tape) h11 (S19.atB (i := 0) rfl) 6) fun r158 cs159 H160 h161 q162 => ?_
              obtain ⟨v163, h164, q162⟩ := q162
              cases q162
              have S165 := S19.setB (i := 0) (cs := List.map C.v [v163, (.p (.int .i64 r158.2.f_At))]) rfl rfl
              refine Sim.op (castI_p _ _) ?_
              refine Sim.call (limelightkeep_Tape_Next_ok (⟨r158.2.f_L, r158.2.f_At⟩ : T_limelightkeep_Tape) h164 (S165.atB (i := 0) rfl) 4) fun r166 cs167 H168 h169 q170 => ?_
              obtain ⟨v171, h172, q170⟩ := q170
              cases q170
              have S173 := S165.setB (i := 0) (cs := List.map C.v [v171, (.p (.int .i64 r166.2.f_At))]) rfl rfl
              refine Sim.op (castI_p _ _) ?_
              refine Sim.op (fA_ref _ _ _) ?_
              obtain ⟨H174, e175, S176⟩ := S173.stG (i := 0) (j := 3) (own := true) (σ := (5 :: 1 :: 1 :: 1 :: 1 :: 1 :: 1 :: 1 :: 0 :: 1 :: 1 :: 0 :: σ)) (x := (.p (.int .i64 r158.1))) rfl rfl (still_int _ _) rfl
              refine Sim.op (st_map e175) ?_
              refine Sim.op (fA_ref _ _ _) ?_
              obtain ⟨H177, e178, S179⟩ := S176.stG (i := 0) (j := 5) (own := true) (σ := (7 :: 1 :: 1 :: 1 :: 1 :: 1 :: 1 :: 1 :: 0 :: 1 :: 1 :: 0 :: σ)) (x := (.p (.int .i64 r166.1))) rfl rfl (still_int _ _) rfl
              refine Sim.op (st_map e178) ?_
              refine Sim.op ((S179.atG (i := 0) rfl).ldVs (j := 0) (xs := [.p (.int .i64 (IntKind.wrap .i64 (1 + r5.1))), .p (.int .i64 0), .p (.slice none 0 0), .p (.int .i64 r158.1), .p (.int .i64 0), .p (.int .i64 r166.1), .p (.int .i64 0), .p (.int .i64 0)]) rfl rfl (by decide)) ?_
              obtain ⟨H180, e181, S182⟩ := S179.stGv (i := 1) (j := 0) (own := false) (σ := (1 :: 0 :: 1 :: 1 :: 1 :: 0 :: σ)) (xs := [.p (.int .i64 (IntKind.wrap .i64 (1 + r5.1))), .p (.int .i64 0), .p (.slice none 0 0), .p (.int .i64 r158.1), .p (.int .i64 0), .p (.int .i64 r166.1), .p (.int .i64 0), .p (.int .i64 0)]) rfl rfl (stills_cons (still_int _ _) (stills_cons (still_int _ _) (stills_cons (SlF.nil dT_api_Layer).still (stills_cons (still_int _ _) (stills_cons (still_int _ _) (stills_cons (still_int _ _) (stills_cons (still_int _ _) (stills_cons (still_int _ _) stills_nil)))))))) rfl rfl
              refine Sim.op (st_map e181) ?_
              have e183 : ldO true 8 H180 (.ref ⟨h.length, 2, 0, (0 :: 0 :: 0 :: σ), []⟩ 0) = some (.agg [.p (.int .i64 (IntKind.wrap .i64 (1 + r5.1))), .p (.int .i64 0), .p (.slice none 0 0), .p (.int .i64 r158.1), .p (.int .i64 0), .p (.int .i64 r166.1), .p (.int .i64 0), .p (.int .i64 0)]) := (S182.atG (i := 1) rfl).ldVs (j := 0) (xs := [.p (.int .i64 (IntKind.wrap .i64 (1 + r5.1))), .p (.int .i64 0), .p (.slice none 0 0), .p (.int .i64 r158.1), .p (.int .i64 0), .p (.int .i64 r166.1), .p (.int .i64 0), .p (.int .i64 0)]) rfl rfl (by decide)
              refine Sim.op (show _ = some [(.agg [.p (.int .i64 (IntKind.wrap .i64 (1 + r5.1))), .p (.int .i64 0), .p (.slice none 0 0), .p (.int .i64 r158.1), .p (.int .i64 0), .p (.int .i64 r166.1), .p (.int .i64 0), .p (.int .i64 0)])] from by simp only [e183, Option.bind_some, Option.map_some]) ?_
              exact Sim.fin (S182.finN (lv_cons (Stills.lv (dT_api_Ctl.still (dT_api_Ctl.mk (SlF.nil dT_api_Layer)))) lv_nil)) ⟨[.p (.int .i64 (IntKind.wrap .i64 (1 + r5.1))), .p (.int .i64 0), .p (.slice none 0 0), .p (.int .i64 r158.1), .p (.int .i64 0), .p (.int .i64 r166.1), .p (.int .i64 0), .p (.int .i64 0)], v171, (show dT_api_Ctl.R ((⟨(IntKind.wrap .i64 (1 + r5.1)), 0, (([] : List T_api_Layer)), r158.1, 0, r166.1, 0, 0⟩ : T_api_Ctl)) [.p (.int .i64 (IntKind.wrap .i64 (1 + r5.1))), .p (.int .i64 0), .p (.slice none 0 0), .p (.int .i64 r158.1), .p (.int .i64 0), .p (.int .i64 r166.1), .p (.int .i64 0), .p (.int .i64 0)] from (dT_api_Ctl.mk (SlF.nil dT_api_Layer))), h172, rfl⟩
            · refine Sim.cd (fun hc => ?_) (fun hc => ?_)
              · refine Sim.cd (fun hc => ?_) (fun hc => ?_)
                · refine Sim.call (limelightkeep_Tape_Next_ok (⟨r5.2.f_L, r5.2.f_At⟩ : T_limelightkeep_Tape) h11 (S19.atB (i := 0) rfl) 3) fun r184 cs185 H186 h187 q188 => ?_
                  obtain ⟨v189, h190, q188⟩ := q188
                  cases q188
                  have S191 := S19.setB (i := 0) (cs := List.map C.v [v189, (.p (.int .i64 r184.2.f_At))]) rfl rfl
                  refine Sim.op (castI_p _ _) ?_
                  refine Sim.op (fA_ref _ _ _) ?_
                  obtain ⟨H192, e193, S194⟩ := S191.stG (i := 0) (j := 6) (own := true) (σ := (3 :: 1 :: 1 :: 1 :: 1 :: 1 :: 1 :: 1 :: 1 :: 0 :: 1 :: 1 :: 0 :: σ)) (x := (.p (.int .i64 r184.1))) rfl rfl (still_int _ _) rfl
                  refine Sim.op (st_map e193) ?_
                  refine Sim.op ((S194.atG (i := 0) rfl).ldVs (j := 0) (xs := [.p (.int .i64 (IntKind.wrap .i64 (1 + r5.1))), .p (.int .i64 0), .p (.slice none 0 0), .p (.int .i64 0), .p (.int .i64 0), .p (.int .i64 0), .p (.int .i64 r184.1), .p (.int .i64 0)]) rfl rfl (by decide)) ?_
                  obtain ⟨H195, e196, S197⟩ := S194.stGv (i := 1) (j := 0) (own := false) (σ := (1 :: 0 :: 1 :: 1 :: 1 :: 0 :: σ)) (xs := [.p (.int .i64 (IntKind.wrap .i64 (1 + r5.1))), .p (.int .i64 0), .p (.slice none 0 0), .p (.int .i64 0), .p (.int .i64 0), .p (.int .i64 0), .p (.int .i64 r184.1), .p (.int .i64 0)]) rfl rfl (stills_cons (still_int _ _) (stills_cons (still_int _ _) (stills_cons (SlF.nil dT_api_Layer).still (stills_cons (still_int _ _) (stills_cons (still_int _ _) (stills_cons (still_int _ _) (stills_cons (still_int _ _) (stills_cons (still_int _ _) stills_nil)))))))) rfl rfl
                  refine Sim.op (st_map e196) ?_
                  have e198 : ldO true 8 H195 (.ref ⟨h.length, 2, 0, (0 :: 0 :: 0 :: σ), []⟩ 0) = some (.agg [.p (.int .i64 (IntKind.wrap .i64 (1 + r5.1))), .p (.int .i64 0), .p (.slice none 0 0), .p (.int .i64 0), .p (.int .i64 0), .p (.int .i64 0), .p (.int .i64 r184.1), .p (.int .i64 0)]) := (S197.atG (i := 1) rfl).ldVs (j := 0) (xs := [.p (.int .i64 (IntKind.wrap .i64 (1 + r5.1))), .p (.int .i64 0), .p (.slice none 0 0), .p (.int .i64 0), .p (.int .i64 0), .p (.int .i64 0), .p (.int .i64 r184.1), .p (.int .i64 0)]) rfl rfl (by decide)
                  refine Sim.op (show _ = some [(.agg [.p (.int .i64 (IntKind.wrap .i64 (1 + r5.1))), .p (.int .i64 0), .p (.slice none 0 0), .p (.int .i64 0), .p (.int .i64 0), .p (.int .i64 0), .p (.int .i64 r184.1), .p (.int .i64 0)])] from by simp only [e198, Option.bind_some, Option.map_some]) ?_
                  exact Sim.fin (S197.finN (lv_cons (Stills.lv (dT_api_Ctl.still (dT_api_Ctl.mk (SlF.nil dT_api_Layer)))) lv_nil)) ⟨[.p (.int .i64 (IntKind.wrap .i64 (1 + r5.1))), .p (.int .i64 0), .p (.slice none 0 0), .p (.int .i64 0), .p (.int .i64 0), .p (.int .i64 0), .p (.int .i64 r184.1), .p (.int .i64 0)], v189, (show dT_api_Ctl.R ((⟨(IntKind.wrap .i64 (1 + r5.1)), 0, (([] : List T_api_Layer)), 0, 0, 0, r184.1, 0⟩ : T_api_Ctl)) [.p (.int .i64 (IntKind.wrap .i64 (1 + r5.1))), .p (.int .i64 0), .p (.slice none 0 0), .p (.int .i64 0), .p (.int .i64 0), .p (.int .i64 0), .p (.int .i64 r184.1), .p (.int .i64 0)] from (dT_api_Ctl.mk (SlF.nil dT_api_Layer))), h190, rfl⟩
                · refine Sim.cd (fun hc => ?_) (fun hc => ?_)
                  · refine Sim.call (limelightkeep_Tape_Next_ok (⟨r5.2.f_L, r5.2.f_At⟩ : T_limelightkeep_Tape) h11 (S19.atB (i := 0) rfl) 256) fun r199 cs200 H201 h202 q203 => ?_
                    obtain ⟨v204, h205, q203⟩ := q203
                    cases q203
                    have S206 := S19.setB (i := 0) (cs := List.map C.v [v204, (.p (.int .i64 r199.2.f_At))]) rfl rfl
                    refine Sim.op (castI_p _ _) ?_
                    refine Sim.op (fA_ref _ _ _) ?_
                    obtain ⟨H207, e208, S209⟩ := S206.stG (i := 0) (j := 7) (own := true) (σ := (3 :: 1 :: 1 :: 1 :: 1 :: 1 :: 1 :: 1 :: 1 :: 1 :: 0 :: 1 :: 1 :: 0 :: σ)) (x := (.p (.int .i64 r199.1))) rfl rfl (still_int _ _) rfl
                    refine Sim.op (st_map e208) ?_
                    refine Sim.op ((S209.atG (i := 0) rfl).ldVs (j := 0) (xs := [.p (.int .i64 (IntKind.wrap .i64 (1 + r5.1))), .p (.int .i64 0), .p (.slice none 0 0), .p (.int .i64 0), .p (.int .i64 0), .p (.int .i64 0), .p (.int .i64 0), .p (.int .i64 r199.1)]) rfl rfl (by decide)) ?_
                    obtain ⟨H210, e211, S212⟩ := S209.stGv (i := 1) (j := 0) (own := false) (σ := (1 :: 0 :: 1 :: 1 :: 1 :: 0 :: σ)) (xs := [.p (.int .i64 (IntKind.wrap .i64 (1 + r5.1))), .p (.int .i64 0), .p (.slice none 0 0), .p (.int .i64 0), .p (.int .i64 0), .p (.int .i64 0), .p (.int .i64 0), .p (.int .i64 r199.1)]) rfl rfl (stills_cons (still_int _ _) (stills_cons (still_int _ _) (stills_cons (SlF.nil dT_api_Layer).still (stills_cons (still_int _ _) (stills_cons (still_int _ _) (stills_cons (still_int _ _) (stills_cons (still_int _ _) (stills_cons (still_int _ _) stills_nil)))))))) rfl rfl
                    refine Sim.op (st_map e211) ?_
                    have e213 : ldO true 8 H210 (.ref ⟨h.length, 2, 0, (0 :: 0 :: 0 :: σ), []⟩ 0) = some (.agg [.p (.int .i64 (IntKind.wrap .i64 (1 + r5.1))), .p (.int .i64 0), .p (.slice none 0 0), .p (.int .i64 0), .p (.int .i64 0), .p (.int .i64 0), .p (.int .i64 0), .p (.int .i64 r199.1)]) := (S212.atG (i := 1) rfl).ldVs (j := 0) (xs := [.p (.int .i64 (IntKind.wrap .i64 (1 + r5.1))), .p (.int .i64 0), .p (.slice none 0 0), .p (.int .i64 0), .p (.int .i64 0), .p (.int .i64 0), .p (.int .i64 0), .p (.int .i64 r199.1)]) rfl rfl (by decide)
                    refine Sim.op (show _ = some [(.agg [.p (.int .i64 (IntKind.wrap .i64 (1 + r5.1))), .p (.int .i64 0), .p (.slice none 0 0), .p (.int .i64 0), .p (.int .i64 0), .p (.int .i64 0), .p (.int .i64 0), .p (.int .i64 r199.1)])] from by simp only [e213, Option.bind_some, Option.map_some]) ?_
                    exact Sim.fin (S212.finN (lv_cons (Stills.lv (dT_api_Ctl.still (dT_api_Ctl.mk (SlF.nil dT_api_Layer)))) lv_nil)) ⟨[.p (.int .i64 (IntKind.wrap .i64 (1 + r5.1))), .p (.int .i64 0), .p (.slice none 0 0), .p (.int .i64 0), .p (.int .i64 0), .p (.int .i64 0), .p (.int .i64 0), .p (.int .i64 r199.1)], v204, (show dT_api_Ctl.R ((⟨(IntKind.wrap .i64 (1 + r5.1)), 0, (([] : List T_api_Layer)), 0, 0, 0, 0, r199.1⟩ : T_api_Ctl)) [.p (.int .i64 (IntKind.wrap .i64 (1 + r5.1))), .p (.int .i64 0), .p (.slice none 0 0), .p (.int .i64 0), .p (.int .i64 0), .p (.int .i64 0), .p (.int .i64 0), .p (.int .i64 r199.1)] from (dT_api_Ctl.mk (SlF.nil dT_api_Layer))), h205, rfl⟩
                  · refine Sim.op ((S19.atG (i := 0) rfl).ldVs (j := 0) (xs := [.p (.int .i64 (IntKind.wrap .i64 (1 + r5.1))), .p (.int .i64 0), .p (.slice none 0 0), .p (.int .i64 0), .p (.int .i64 0), .p (.int .i64 0), .p (.int .i64 0), .p (.int .i64 0)]) rfl rfl (by decide)) ?_
                    obtain ⟨H214, e215, S216⟩ := S19.stGv (i := 1) (j := 0) (own := false) (σ := (1 :: 0 :: 1 :: 1 :: 1 :: 0 :: σ)) (xs := [.p (.int .i64 (IntKind.wrap .i64 (1 + r5.1))), .p (.int .i64 0), .p (.slice none 0 0), .p (.int .i64 0), .p (.int .i64 0), .p (.int .i64 0), .p (.int .i64 0), .p (.int .i64 0)]) rfl rfl (stills_cons (still_int _ _) (stills_cons (still_int _ _) (stills_cons (SlF.nil dT_api_Layer).still (stills_cons (still_int _ _) (stills_cons (still_int _ _) (stills_cons (still_int _ _) (stills_cons (still_int _ _) (stills_cons (still_int _ _) stills_nil)))))))) rfl rfl
                    refine Sim.op (st_map e215) ?_
                    have e217 : ldO true 8 H214 (.ref ⟨h.length, 2, 0, (0 :: 0 :: 0 :: σ), []⟩ 0) = some (.agg [.p (.int .i64 (IntKind.wrap .i64 (1 + r5.1))), .p (.int .i64 0), .p (.slice none 0 0), .p (.int .i64 0), .p (.int .i64 0), .p (.int .i64 0), .p (.int .i64 0), .p (.int .i64 0)]) := (S216.atG (i := 1) rfl).ldVs (j := 0) (xs := [.p (.int .i64 (IntKind.wrap .i64 (1 + r5.1))), .p (.int .i64 0), .p (.slice none 0 0), .p (.int .i64 0), .p (.int .i64 0), .p (.int .i64 0), .p (.int .i64 0), .p (.int .i64 0)]) rfl rfl (by decide)
                    refine Sim.op (show _ = some [(.agg [.p (.int .i64 (IntKind.wrap .i64 (1 + r5.1))), .p (.int .i64 0), .p (.slice none 0 0), .p (.int .i64 0), .p (.int .i64 0), .p (.int .i64 0), .p (.int .i64 0), .p (.int .i64 0)])] from by simp only [e217, Option.bind_some, Option.map_some]) ?_
                    exact Sim.fin (S216.finN (lv_cons (Stills.lv (dT_api_Ctl.still (dT_api_Ctl.mk (SlF.nil dT_api_Layer)))) lv_nil)) ⟨[.p (.int .i64 (IntKind.wrap .i64 (1 + r5.1))), .p (.int .i64 0), .p (.slice none 0 0), .p (.int .i64 0), .p (.int .i64 0), .p (.int .i64 0), .p (.int .i64 0), .p (.int .i64 0)], v10, (show dT_api_Ctl.R ((⟨(IntKind.wrap .i64 (1 + r5.1)), 0, (([] : List T_api_Layer)), 0, 0, 0, 0, 0⟩ : T_api_Ctl)) [.p (.int .i64 (IntKind.wrap .i64 (1 + r5.1))), .p (.int .i64 0), .p (.slice none 0 0), .p (.int .i64 0), .p (.int .i64 0), .p (.int .i64 0), .p (.int .i64 0), .p (.int .i64 0)] from (dT_api_Ctl.mk (SlF.nil dT_api_Layer))), h11, rfl⟩
              · refine Sim.cd (fun hc => ?_) (fun hc => ?_)
                · refine Sim.call (limelightkeep_Tape_Next_ok (⟨r5.2.f_L, r5.2.f_At⟩ : T_limelightkeep_Tape) h11 (S19.atB (i := 0) rfl) 3) fun r218 cs219 H220 h221 q222 => ?_
                  obtain ⟨v223, h224, q222⟩ := q222
                  cases q222
                  have S225 := S19.setB (i := 0) (cs := List.map C.v [v223, (.p (.int .i64 r218.2.f_At))]) rfl rfl
                  refine Sim.op (castI_p _ _) ?_
                  refine Sim.op (fA_ref _ _ _) ?_
                  obtain ⟨H226, e227, S228⟩ := S225.stG (i := 0) (j := 6) (own := true) (σ := (3 :: 1 :: 1 :: 1 :: 1 :: 1 :: 1 :: 1 :: 1 :: 0 :: 1 :: 1 :: 0 :: σ)) (x := (.p (.int .i64 r218.1))) rfl rfl (still_int _ _) rfl
                  refine Sim.op (st_map e227) ?_
                  refine Sim.op ((S228.atG (i := 0) rfl).ldVs (j := 0) (xs := [.p (.int .i64 (IntKind.wrap .i64 (1 + r5.1))), .p (.int .i64 0), .p (.slice none 0 0), .p (.int .i64 0), .p (.int .i64 0), .p (.int .i64 0), .p (.int .i64 r218.1), .p (.int .i64 0)]) rfl rfl (by decide)) ?_
                  obtain ⟨H229, e230, S231⟩ := S228.stGv (i := 1) (j := 0) (own := false) (σ := (1 :: 0 :: 1 :: 1 :: 1 :: 0 :: σ)) (xs := [.p (.int .i64 (IntKind.wrap .i64 (1 + r5.1))), .p (.int .i64 0), .p (.slice none 0 0), .p (.int .i64 0), .p (.int .i64 0), .p (.int .i64 0), .p (.int .i64 r218.1), .p (.int .i64 0)]) rfl rfl (stills_cons (still_int _ _) (stills_cons (still_int _ _) (stills_cons (SlF.nil dT_api_Layer).still (stills_cons (still_int _ _) (stills_cons (still_int _ _) (stills_cons (still_int _ _) (stills_cons (still_int _ _) (stills_cons (still_int _ _) stills_nil)))))))) rfl rfl
                  refine Sim.op (st_map e230) ?_
                  have e232 : ldO true 8 H229 (.ref ⟨h.length, 2, 0, (0 :: 0 :: 0 :: σ), []⟩ 0) = some (.agg [.p (.int .i64 (IntKind.wrap .i64 (1 + r5.1))), .p (.int .i64 0), .p (.slice none 0 0), .p (.int .i64 0), .p (.int .i64 0), .p (.int .i64 0), .p (.int .i64 r218.1), .p (.int .i64 0)]) := (S231.atG (i := 1) rfl).ldVs (j := 0) (xs := [.p (.int .i64 (IntKind.wrap .i64 (1 + r5.1))), .p (.int .i64 0), .p (.slice none 0 0), .p (.int .i64 0), .p (.int .i64 0), .p (.int .i64 0), .p (.int .i64 r218.1), .p (.int .i64 0)]) rfl rfl (by decide)
                  refine Sim.op (show _ = some [(.agg [.p (.int .i64 (IntKind.wrap .i64 (1 + r5.1))), .p (.int .i64 0), .p (.slice none 0 0), .p (.int .i64 0), .p (.int .i64 0), .p (.int .i64 0), .p (.int .i64 r218.1), .p (.int .i64 0)])] from by simp only [e232, Option.bind_some, Option.map_some]) ?_
                  exact Sim.fin (S231.finN (lv_cons (Stills.lv (dT_api_Ctl.still (dT_api_Ctl.mk (SlF.nil dT_api_Layer)))) lv_nil)) ⟨[.p (.int .i64 (IntKind.wrap .i64 (1 + r5.1))), .p (.int .i64 0), .p (.slice none 0 0), .p (.int .i64 0), .p (.int .i64 0), .p (.int .i64 0), .p (.int .i64 r218.1), .p (.int .i64 0)], v223, (show dT_api_Ctl.R ((⟨(IntKind.wrap .i64 (1 + r5.1)), 0, (([] : List T_api_Layer)), 0, 0, 0, r218.1, 0⟩ : T_api_Ctl)) [.p (.int .i64 (IntKind.wrap .i64 (1 + r5.1))), .p (.int .i64 0), .p (.slice none 0 0), .p (.int .i64 0), .p (.int .i64 0), .p (.int .i64 0), .p (.int .i64 r218.1), .p (.int .i64 0)] from (dT_api_Ctl.mk (SlF.nil dT_api_Layer))), h224, rfl⟩
                · refine Sim.cd (fun hc => ?_) (fun hc => ?_)
                  · refine Sim.call (limelightkeep_Tape_Next_ok (⟨r5.2.f_L, r5.2.f_At⟩ : T_limelightkeep_Tape) h11 (S19.atB (i := 0) rfl) 256) fun r233 cs234 H235 h236 q237 => ?_
                    obtain ⟨v238, h239, q237⟩ := q237
                    cases q237
                    have S240 := S19.setB (i := 0) (cs := List.map C.v [v238, (.p (.int .i64 r233.2.f_At))]) rfl rfl
                    refine Sim.op (castI_p _ _) ?_
                    refine Sim.op (fA_ref _ _ _) ?_
                    obtain ⟨H241, e242, S243⟩ := S240.stG (i := 0) (j := 7) (own := true) (σ := (3 :: 1 :: 1 :: 1 :: 1 :: 1 :: 1 :: 1 :: 1 :: 1 :: 0 :: 1 :: 1 :: 0 :: σ)) (x := (.p (.int .i64 r233.1))) rfl rfl (still_int _ _) rfl
                    refine Sim.op (st_map e242) ?_
                    refine Sim.op ((S243.atG (i := 0) rfl).ldVs (j := 0) (xs := [.p (.int .i64 (IntKind.wrap .i64 (1 + r5.1))), .p (.int .i64 0), .p (.slice none 0 0), .p (.int .i64 0), .p (.int .i64 0), .p (.int .i64 0), .p (.int .i64 0), .p (.int .i64 r233.1)]) rfl rfl (by decide)) ?_
                    obtain ⟨H244, e245, S246⟩ := S243.stGv (i := 1) (j := 0) (own := false) (σ := (1 :: 0 :: 1 :: 1 :: 1 :: 0 :: σ)) (xs := [.p (.int .i64 (IntKind.wrap .i64 (1 + r5.1))), .p (.int .i64 0), .p (.slice none 0 0), .p (.int .i64 0), .p (.int .i64 0), .p (.int .i64 0), .p (.int .i64 0), .p (.int .i64 r233.1)]) rfl rfl (stills_cons (still_int _ _) (stills_cons (still_int _ _) (stills_cons (SlF.nil dT_api_Layer).still (stills_cons (still_int _ _) (stills_cons (still_int _ _) (stills_cons (still_int _ _) (stills_cons (still_int _ _) (stills_cons (still_int _ _) stills_nil)))))))) rfl rfl
                    refine Sim.op (st_map e245) ?_
                    have e247 : ldO true 8 H244 (.ref ⟨h.length, 2, 0, (0 :: 0 :: 0 :: σ), []⟩ 0) = some (.agg [.p (.int .i64 (IntKind.wrap .i64 (1 + r5.1))), .p (.int .i64 0), .p (.slice none 0 0), .p (.int .i64 0), .p (.int .i64 0), .p (.int .i64 0), .p (.int .i64 0), .p (.int .i64 r233.1)]) := (S246.atG (i := 1) rfl).ldVs (j := 0) (xs := [.p (.int .i64 (IntKind.wrap .i64 (1 + r5.1))), .p (.int .i64 0), .p (.slice none 0 0), .p (.int .i64 0), .p (.int .i64 0), .p (.int .i64 0), .p (.int .i64 0), .p (.int .i64 r233.1)]) rfl rfl (by decide)
                    refine Sim.op (show _ = some [(.agg [.p (.int .i64 (IntKind.wrap .i64 (1 + r5.1))), .p (.int .i64 0), .p (.slice none 0 0), .p (.int .i64 0), .p (.int .i64 0), .p (.int .i64 0), .p (.int .i64 0), .p (.int .i64 r233.1)])] from by simp only [e247, Option.bind_some, Option.map_some]) ?_
                    exact Sim.fin (S246.finN (lv_cons (Stills.lv (dT_api_Ctl.still (dT_api_Ctl.mk (SlF.nil dT_api_Layer)))) lv_nil)) ⟨[.p (.int .i64 (IntKind.wrap .i64 (1 + r5.1))), .p (.int .i64 0), .p (.slice none 0 0), .p (.int .i64 0), .p (.int .i64 0), .p (.int .i64 0), .p (.int .i64 0), .p (.int .i64 r233.1)], v238, (show dT_api_Ctl.R ((⟨(IntKind.wrap .i64 (1 + r5.1)), 0, (([] : List T_api_Layer)), 0, 0, 0, 0, r233.1⟩ : T_api_Ctl)) [.p (.int .i64 (IntKind.wrap .i64 (1 + r5.1))), .p (.int .i64 0), .p (.slice none 0 0), .p (.int .i64 0), .p (.int .i64 0), .p (.int .i64 0), .p (.int .i64 0), .p (.int .i64 r233.1)] from (dT_api_Ctl.mk (SlF.nil dT_api_Layer))), h239, rfl⟩
                  · refine Sim.op ((S19.atG (i := 0) rfl).ldVs (j := 0) (xs := [.p (.int .i64 (IntKind.wrap .i64 (1 + r5.1))), .p (.int .i64 0), .p (.slice none 0 0), .p (.int .i64 0), .p (.int .i64 0), .p (.int .i64 0), .p (.int .i64 0), .p (.int .i64 0)]) rfl rfl (by decide)) ?_
                    obtain ⟨H248, e249, S250⟩ := S19.stGv (i := 1) (j := 0) (own := false) (σ := (1 :: 0 :: 1 :: 1 :: 1 :: 0 :: σ)) (xs := [.p (.int .i64 (IntKind.wrap .i64 (1 + r5.1))), .p (.int .i64 0), .p (.slice none 0 0), .p (.int .i64 0), .p (.int .i64 0), .p (.int .i64 0), .p (.int .i64 0), .p (.int .i64 0)]) rfl rfl (stills_cons (still_int _ _) (stills_cons (still_int _ _) (stills_cons (SlF.nil dT_api_Layer).still (stills_cons (still_int _ _) (stills_cons (still_int _ _) (stills_cons (still_int _ _) (stills_cons (still_int _ _) (stills_cons (still_int _ _) stills_nil)))))))) rfl rfl
                    refine Sim.op (st_map e249) ?_
                    have e251 : ldO true 8 H248 (.ref ⟨h.length, 2, 0, (0 :: 0 :: 0 :: σ), []⟩ 0) = some (.agg [.p (.int .i64 (IntKind.wrap .i64 (1 + r5.1))), .p (.int .i64 0), .p (.slice none 0 0), .p (.int .i64 0), .p (.int .i64 0), .p (.int .i64 0), .p (.int .i64 0), .p (.int .i64 0)]) := (S250.atG (i := 1) rfl).ldVs (j := 0) (xs := [.p (.int .i64 (IntKind.wrap .i64 (1 + r5.1))), .p (.int .i64 0), .p (.slice none 0 0), .p (.int .i64 0), .p (.int .i64 0), .p (.int .i64 0), .p (.int .i64 0), .p (.int .i64 0)]) rfl rfl (by decide)
                    refine Sim.op (show _ = some [(.agg [.p (.int .i64 (IntKind.wrap .i64 (1 + r5.1))), .p (.int .i64 0), .p (.slice none 0 0), .p (.int .i64 0), .p (.int .i64 0), .p (.int .i64 0), .p (.int .i64 0), .p (.int .i64 0)])] from by simp only [e251, Option.bind_some, Option.map_some]) ?_
                    exact Sim.fin (S250.finN (lv_cons (Stills.lv (dT_api_Ctl.still (dT_api_Ctl.mk (SlF.nil dT_api_Layer)))) lv_nil)) ⟨[.p (.int .i64 (IntKind.wrap .i64 (1 + r5.1))), .p (.int .i64 0), .p (.slice none 0 0), .p (.int .i64 0), .p (.int .i64 0), .p (.int .i64 0), .p (.int .i64 0), .p (.int .i64 0)], v10, (show dT_api_Ctl.R ((⟨(IntKind.wrap .i64 (1 + r5.1)), 0, (([] : List T_api_Layer)), 0, 0, 0, 0, 0⟩ : T_api_Ctl)) [.p (.int .i64 (IntKind.wrap .i64 (1 + r5.1))), .p (.int .i64 0), .p (.slice none 0 0), .p (.int .i64 0), .p (.int .i64 0), .p (.int .i64 0), .p (.int .i64 0), .p (.int .i64 0)] from (dT_api_Ctl.mk (SlF.nil dT_api_Layer))), h11, rfl⟩
end Go.Ev
/- Equations, printed by tracer2.py. -/
namespace Go.Ev
open Go.Proofs
set_option linter.unusedVariables false
set_option maxRecDepth 100000
-- 31 limelight/limelightref8.Same
noncomputable def limelightref8_Same_c0 : Code := (codeAt (bodyOf Try.f31) [1, 1, 0, 1, 0, 0])
def limelightref8_Same_l0 : Lv := ⟨0, 16, [(0, 0)]⟩
noncomputable def limelightref8_Same_k0 (rec : CallF) (loop : LoopV) (σ : Stamp) : Exit → Env → H → Option (List C × H) := (kBlock 0 (kSeq G rec loop (codeAt (bodyOf Try.f31) [1, 1, 1]) ⟨16, 16, []⟩ (1 :: 1 :: 0 :: σ) (finC G false Try.f31 (1 :: σ))))
theorem limelightref8_Same_entry (rec : CallF) (loop : LoopV) (σ : Stamp) (x0 : V) (x1 : V) (h : H) : cvBody G rec loop 31 σ [x0, x1] h =
 (boxO false (0 :: 0 :: 0 :: σ) 2 (List.replicate 80 [] :: h) x0).bind fun q1 =>
 (boxO false (1 :: 0 :: 0 :: σ) 3 q1.2 x1).bind fun q2 =>
 (fA q1.1 0).bind fun t3 =>
 (ldO false 1 q2.2 t3).bind fun t4 =>
 (castI .i64 t4).bind fun n5 =>
 (fA q2.1 0).bind fun t6 =>
 (ldO false 1 q2.2 t6).bind fun t7 =>
 (castI .i64 t7).bind fun n8 =>
 (bif n5 != n8 then (some true) else ((fA q1.1 1).bind fun t9 =>
 (ldO false 1 q2.2 t9).bind fun t10 =>
 (castI .i64 t10).bind fun n11 =>
 (fA q2.1 1).bind fun t12 =>
 (ldO false 1 q2.2 t12).bind fun t13 =>
 (castI .i64 t13).bind fun n14 =>
 some (n11 != n14))).bind fun b15 =>
 (bif b15 then (some true) else ((fA q1.1 3).bind fun t16 =>
 (ldO false 1 q2.2 t16).bind fun t17 =>
 (castI .i64 t17).bind fun n18 =>
 (fA q2.1 3).bind fun t19 =>
 (ldO false 1 q2.2 t19).bind fun t20 =>
 (castI .i64 t20).bind fun n21 =>
 some (n18 != n21))).bind fun b22 =>
 (bif b22 then (some true) else ((fA q1.1 4).bind fun t23 =>
 (ldO false 1 q2.2 t23).bind fun t24 =>
 (castI .i64 t24).bind fun n25 =>
 (fA q2.1 4).bind fun t26 =>
 (ldO false 1 q2.2 t26).bind fun t27 =>
 (castI .i64 t27).bind fun n28 =>
 some (n25 != n28))).bind fun b29 =>
 (bif b29 then (some true) else ((fA q1.1 5).bind fun t30 =>
 (ldO false 1 q2.2 t30).bind fun t31 =>
 (castI .i64 t31).bind fun n32 =>
 (fA q2.1 5).bind fun t33 =>
 (ldO false 1 q2.2 t33).bind fun t34 =>
 (castI .i64 t34).bind fun n35 =>
 some (n32 != n35))).bind fun b36 =>
 (bif b36 then (some true) else ((fA q1.1 6).bind fun t37 =>
 (ldO false 1 q2.2 t37).bind fun t38 =>
 (castI .i64 t38).bind fun n39 =>
 (fA q2.1 6).bind fun t40 =>
 (ldO false 1 q2.2 t40).bind fun t41 =>
 (castI .i64 t41).bind fun n42 =>
 some (n39 != n42))).bind fun b43 =>
 (bif b43 then (some true) else ((fA q1.1 7).bind fun t44 =>
 (ldO false 1 q2.2 t44).bind fun t45 =>
 (castI .i64 t45).bind fun n46 =>
 (fA q2.1 7).bind fun t47 =>
 (ldO false 1 q2.2 t47).bind fun t48 =>
 (castI .i64 t48).bind fun n49 =>
 some (n46 != n49))).bind fun b50 =>
 (bif b50 then (some true) else ((fA q1.1 2).bind fun t51 =>
 (ldO false 1 q2.2 t51).bind fun t52 =>
 (lenO t52).bind fun t53 =>
 (castI .i64 t53).bind fun n54 =>
 (fA q2.1 2).bind fun t55 =>
 (ldO false 1 q2.2 t55).bind fun t56 =>
 (lenO t56).bind fun t57 =>
 (castI .i64 t57).bind fun n58 =>
 some (n54 != n58))).bind fun b59 =>
 bif b59 then (
 fin false σ q2.2 [(.p (.bool false))])
 else (
 (fA q1.1 2).bind fun t60 =>
 (ldO false 1 q2.2 t60).bind fun t61 =>
 (lenO t61).bind fun t62 =>
 (castI .i64 t62).bind fun n63 =>
 (loop limelightref8_Same_c0 limelightref8_Same_l0 (1 :: 0 :: 1 :: 1 :: 0 :: σ) (envL [(2, q1.1), (3, q2.1), (64, (.p (.int .i64 n63))), (65, (.p (.int .i64 0)))]) q2.2).bind fun r64 => limelightref8_Same_k0 rec loop σ r64.1 r64.2.1 r64.2.2) := by kernel_rfl
theorem limelightref8_Same_r0 (rec : CallF) (loop : LoopV) (σ : Stamp) (x2 : V) (x3 : V) (x64 : Int) (x65 : Int) (h : H) : cvRound G rec loop limelightref8_Same_c0 limelightref8_Same_l0 σ (envL [(2, x2), (3, x3), (64, (.p (.int .i64 x64))), (65, (.p (.int .i64 x65)))]) h =
 bif decide (x65 < x64) then (
 (fA x2 2).bind fun t65 =>
 (ldO false 1 h t65).bind fun t66 =>
 (iS 3 t66 x65).bind fun t67 =>
 (ldO true 3 h t67).bind fun t68 =>
 (fA x3 2).bind fun t69 =>
 (ldO false 1 h t69).bind fun t70 =>
 (iS 3 t70 x65).bind fun t71 =>
 (ldO true 3 h t71).bind fun t72 =>
 (binV Try.prog h .neq 70 t68 t72).bind fun t73 =>
 (asB t73).bind fun b74 =>
 bif b74 then (
 some (.ret, (envL [(4, (.p (.bool false)))]), h))
 else (
 loop limelightref8_Same_c0 limelightref8_Same_l0 (1 :: σ) (envL [(2, x2), (3, x3), (64, (.p (.int .i64 x64))), (65, (.p (.int .i64 (IntKind.wrap .i64 (x65 + 1)))))]) h))
 else (
 some ((.exit 0), (envL []), h)) := by kernel_rfl
theorem limelightref8_Same_a0_0 (rec : CallF) (loop : LoopV) (σ : Stamp)  (h : H) : limelightref8_Same_k0 rec loop σ (.exit 0) (envL []) h =
 fin false σ h [(.p (.bool true))] := by kernel_rfl
theorem limelightref8_Same_a0_ret (rec : CallF) (loop : LoopV) (σ : Stamp) (x4 : Bool) (h : H) : limelightref8_Same_k0 rec loop σ .ret (envL [(4, (.p (.bool x4)))]) h =
 fin false σ h [(.p (.bool x4))] := by kernel_rfl
end Go.Ev
/- Lifted by lift.py: limelightref8_Same as a plain function. -/
namespace Go.Ev
open Go.Proofs
set_option linter.unusedVariables false
set_option linter.unusedSimpArgs false
set_option maxRecDepth 100000
def p_limelightref8_Same_l0 {β : Type} (k : Nat) (kE0 : Unit → Option β) (kE1 : Bool → Option β) (x64 : Int) (x65 : Int) (yg8 : T_api_Ctl) (yg12 : T_api_Ctl) : Option β := match k with
| 0 => none
| k + 1 =>
bif decide (x65 < x64) then (
(ix yg8.Layers x65).bind fun a51 =>
(ix yg12.Layers x65).bind fun a56 =>
bif !(andB [a51.Rid.toList == a56.Rid.toList, a51.Ssrc == a56.Ssrc, a51.Height == a56.Height]) then (
kE1 false)
else (
p_limelightref8_Same_l0 k kE0 kE1 x64 (IntKind.wrap .i64 (x65 + 1)) ((⟨yg8.Kind, yg8.Cap, yg8.Layers, yg8.Peer, yg8.Height, yg8.Class, yg8.Layer, yg8.Code⟩ : T_api_Ctl)) ((⟨yg12.Kind, yg12.Cap, yg12.Layers, yg12.Peer, yg12.Height, yg12.Class, yg12.Layer, yg12.Code⟩ : T_api_Ctl))))
else (
kE0 ())
def p_limelightref8_Same (k : Nat) (x0 : T_api_Ctl) (x1 : T_api_Ctl) : Option (Bool) :=
(bif x0.Kind != x1.Kind then (some true) else (some (x0.Cap != x1.Cap))).bind fun b13 =>
(bif b13 then (some true) else (some (x0.Peer != x1.Peer))).bind fun b17 =>
(bif b17 then (some true) else (some (x0.Height != x1.Height))).bind fun b21 =>
(bif b21 then (some true) else (some (x0.Class != x1.Class))).bind fun b25 =>
(bif b25 then (some true) else (some (x0.Layer != x1.Layer))).bind fun b29 =>
(bif b29 then (some true) else (some (x0.Code != x1.Code))).bind fun b33 =>
(bif b33 then (some true) else (some (((x0.Layers.length : Int)) != ((x1.Layers.length : Int))))).bind fun b37 =>
bif b37 then (
some (false))
else (
p_limelightref8_Same_l0 k (fun (_ : Unit) =>
some (true)) (fun r68_4 =>
some (r68_4)) ((x0.Layers.length : Int)) 0 ((⟨x0.Kind, x0.Cap, x0.Layers, x0.Peer, x0.Height, x0.Class, x0.Layer, x0.Code⟩ : T_api_Ctl)) ((⟨x1.Kind, x1.Cap, x1.Layers, x1.Peer, x1.Height, x1.Class, x1.Layer, x1.Code⟩ : T_api_Ctl)))
theorem limelightref8_Same_l0_ok {h : H}  {β α : Type} {Q : β → α → Prop} {K : Exit × Env × H → Option α} {kE0 : Unit → Option β} {kE1 : Bool → Option β} (hE0 : ∀ (_u : Unit) (H61 : Go.Ev.H) (_ : Fm 80 h [] [] [] H61), Sim (kE0 ()) (K ((.exit 0), (envL []), H61)) Q) (hE1 : ∀ (q4 : Bool) (H63 : Go.Ev.H) (_ : Fm 80 h [] [] [] H63), Sim (kE1 q4) (K (.ret, (envL [(4, (.p (.bool q4)))]), H63)) Q) (k : Nat) : ∀ (x64 : Int) (x65 : Int) (yg8 : T_api_Ctl) (yg12 : T_api_Ctl) (v43 : V) (h44 : SlF dT_api_Layer yg8.Layers v43) (s45 : Stamp) (v47 : V) (h48 : SlF dT_api_Layer yg12.Layers v47) (s49 : Stamp) (H41 : Go.Ev.H) (_ : Fm 80 h [] [(2, s45, List.map C.v [(.p (.int .i64 yg8.Kind)), (.p (.int .i64 yg8.Cap)), v43, (.p (.int .i64 yg8.Peer)), (.p (.int .i64 yg8.Height)), (.p (.int .i64 yg8.Class)), (.p (.int .i64 yg8.Layer)), (.p (.int .i64 yg8.Code))]), (3, s49, List.map C.v [(.p (.int .i64 yg12.Kind)), (.p (.int .i64 yg12.Cap)), v47, (.p (.int .i64 yg12.Peer)), (.p (.int .i64 yg12.Height)), (.p (.int .i64 yg12.Class)), (.p (.int .i64 yg12.Layer)), (.p (.int .i64 yg12.Code))])] [] H41) {σ : Stamp}, Sim (p_limelightref8_Same_l0 k kE0 kE1 x64 x65 yg8 yg12) ((cvL G X0 limelightref8_Same_c0 limelightref8_Same_l0 σ (envL [(2, (.ref ⟨h.length, 2, 0, s45, []⟩ 0)), (3, (.ref ⟨h.length, 3, 0, s49, []⟩ 0)), (64, (.p (.int .i64 x64))), (65, (.p (.int .i64 x65)))]) H41).bind K) Q := by
  induction k with
  | zero => intros; exact Sim.no
  | succ k ih =>
    intro x64 x65 yg8 yg12 v43 h44 s45 v47 h48 s49 H41 S42 σ
    rw [p_limelightref8_Same_l0]
    refine Sim.round (Sim.ext (limelightref8_Same_r0 _ _ _ _ _ _ _ _) ?_)
    refine Sim.cd (fun hc => ?_) (fun hc => ?_)
    · refine Sim.op (fA_ref _ _ _) ?_
      refine Sim.op ((S42.atG (i := 0) rfl).ld (j := 2) rfl) ?_
      refine Sim.bd fun a51 h52 => ?_
      refine Sim.op ((h44.h H41).iS h52 rfl) ?_
      obtain ⟨w54, h55, hE53⟩ := (h44.h H41).el h52 rfl
      obtain rfl := dT_api_Layer.inv h55
      refine Sim.op (hE53.all (by simp)) ?_
      refine Sim.op (fA_ref _ _ _) ?_
      refine Sim.op ((S42.atG (i := 1) rfl).ld (j := 2) rfl) ?_
      refine Sim.bd fun a56 h57 => ?_
      refine Sim.op ((h48.h H41).iS h57 rfl) ?_
      obtain ⟨w59, h60, hE58⟩ := (h48.h H41).el h57 rfl
      obtain rfl := dT_api_Layer.inv h60
      refine Sim.op (hE58.all (by simp)) ?_
      refine Sim.op (nqS_ok (by kernel_rfl : _ = andL [a51.Rid.toList == a56.Rid.toList, a51.Ssrc == a56.Ssrc, a51.Height == a56.Height])) ?_
      refine Sim.op (asB_p _) ?_
      refine Sim.cd (fun hc => ?_) (fun hc => ?_)
      · exact hE1 false H41 (S42.wk2 all_nil all_nil)
      · exact ih x64 (IntKind.wrap .i64 (x65 + 1)) ((⟨yg8.Kind, yg8.Cap, yg8.Layers, yg8.Peer, yg8.Height, yg8.Class, yg8.Layer, yg8.Code⟩ : T_api_Ctl)) ((⟨yg12.Kind, yg12.Cap, yg12.Layers, yg12.Peer, yg12.Height, yg12.Class, yg12.Layer, yg12.Code⟩ : T_api_Ctl)) v43 h44 s45 v47 h48 s49 H41 (S42.wk2 (all_cons (at_mem 0 rfl) (all_cons (at_mem 1 rfl) all_nil)) all_nil)
    · exact hE0 () H41 (S42.wk2 all_nil all_nil)
theorem limelightref8_Same_ok (k : Nat) {h : H} {σ : Stamp} (x0 : T_api_Ctl) {u0 : List V} (hu0 : dT_api_Ctl.R x0 u0) (x1 : T_api_Ctl) {u1 : List V} (hu1 : dT_api_Ctl.R x1 u1) : Sim (p_limelightref8_Same k x0 x1) (ev G X0 31 σ [(.agg u0), (.agg u1)] h) (fun r s => s = ([.v (.p (.bool r))], h)) := by
  refine Sim.ev rfl (Sim.ext (limelightref8_Same_entry _ _ _ _ _ _) ?_)
  rw [p_limelightref8_Same]
  obtain ⟨v1, rfl, h2⟩ := dT_api_Ctl.inv hu0
  obtain ⟨v3, rfl, h4⟩ := dT_api_Ctl.inv hu1
  have S0 : Fm 80 h [] [] [] (List.replicate 80 [] :: h) := Fm.start0
  obtain ⟨H5, e6, S7⟩ := S0.box (own := false) (d := 2) (s := (0 :: 0 :: 0 :: σ)) (xs := [(.p (.int .i64 x0.Kind)), (.p (.int .i64 x0.Cap)), v1, (.p (.int .i64 x0.Peer)), (.p (.int .i64 x0.Height)), (.p (.int .i64 x0.Class)), (.p (.int .i64 x0.Layer)), (.p (.int .i64 x0.Code))]) (stills_cons (still_int _ _) (stills_cons (still_int _ _) (stills_cons h2.still (stills_cons (still_int _ _) (stills_cons (still_int _ _) (stills_cons (still_int _ _) (stills_cons (still_int _ _) (stills_cons (still_int _ _) stills_nil)))))))) (by decide) rfl
  refine Sim.op (e6) ?_
  obtain ⟨H9, e10, S11⟩ := S7.box (own := false) (d := 3) (s := (1 :: 0 :: 0 :: σ)) (xs := [(.p (.int .i64 x1.Kind)), (.p (.int .i64 x1.Cap)), v3, (.p (.int .i64 x1.Peer)), (.p (.int .i64 x1.Height)), (.p (.int .i64 x1.Class)), (.p (.int .i64 x1.Layer)), (.p (.int .i64 x1.Code))]) (stills_cons (still_int _ _) (stills_cons (still_int _ _) (stills_cons h4.still (stills_cons (still_int _ _) (stills_cons (still_int _ _) (stills_cons (still_int _ _) (stills_cons (still_int _ _) (stills_cons (still_int _ _) stills_nil)))))))) (by decide) rfl
  refine Sim.op (e10) ?_
  refine Sim.op (fA_ref _ _ _) ?_
  refine Sim.op ((S11.atG (i := 1) rfl).ld (j := 0) rfl) ?_
  refine Sim.op (castI_p _ _) ?_
  refine Sim.op (fA_ref _ _ _) ?_
  refine Sim.op ((S11.atG (i := 0) rfl).ld (j := 0) rfl) ?_
  refine Sim.op (castI_p _ _) ?_
  refine Sim.ch (P := fun r y => r = y) ?_ (fun b13 y14 h15 h16 => ?_)
  · refine Sim.cd (fun hc => ?_) (fun hc => ?_)
    · exact Sim.ret rfl rfl
    · refine Sim.op (fA_ref _ _ _) ?_
      refine Sim.op ((S11.atG (i := 1) rfl).ld (j := 1) rfl) ?_
      refine Sim.op (castI_p _ _) ?_
      refine Sim.op (fA_ref _ _ _) ?_
      refine Sim.op ((S11.atG (i := 0) rfl).ld (j := 1) rfl) ?_
      refine Sim.op (castI_p _ _) ?_
      exact Sim.ret rfl rfl
  subst h16
  refine Sim.ch (P := fun r y => r = y) ?_ (fun b17 y18 h19 h20 => ?_)
  · refine Sim.cd (fun hc => ?_) (fun hc => ?_)
    · exact Sim.ret rfl rfl
    · refine Sim.op (fA_ref _ _ _) ?_
      refine Sim.op ((S11.atG (i := 1) rfl).ld (j := 3) rfl) ?_
      refine Sim.op (castI_p _ _) ?_
      refine Sim.op (fA_ref _ _ _) ?_
      refine Sim.op ((S11.atG (i := 0) rfl).ld (j := 3) rfl) ?_
      refine Sim.op (castI_p _ _) ?_
      exact Sim.ret rfl rfl
  subst h20
  refine Sim.ch (P := fun r y => r = y) ?_ (fun b21 y22 h23 h24 => ?_)
  · refine Sim.cd (fun hc => ?_) (fun hc => ?_)
    · exact Sim.ret rfl rfl
    · refine Sim.op (fA_ref _ _ _) ?_
      refine Sim.op ((S11.atG (i := 1) rfl).ld (j := 4) rfl) ?_
      refine Sim.op (castI_p _ _) ?_
      refine Sim.op (fA_ref _ _ _) ?_
      refine Sim.op ((S11.atG (i := 0) rfl).ld (j := 4) rfl) ?_
      refine Sim.op (castI_p _ _) ?_
      exact Sim.ret rfl rfl
  subst h24
  refine Sim.ch (P := fun r y => r = y) ?_ (fun b25 y26 h27 h28 => ?_)
  · refine Sim.cd (fun hc => ?_) (fun hc => ?_)
    · exact Sim.ret rfl rfl
    · refine Sim.op (fA_ref _ _ _) ?_
      refine Sim.op ((S11.atG (i := 1) rfl).ld (j := 5) rfl) ?_
      refine Sim.op (castI_p _ _) ?_
      refine Sim.op (fA_ref _ _ _) ?_
      refine Sim.op ((S11.atG (i := 0) rfl).ld (j := 5) rfl) ?_
      refine Sim.op (castI_p _ _) ?_
      exact Sim.ret rfl rfl
  subst h28
  refine Sim.ch (P := fun r y => r = y) ?_ (fun b29 y30 h31 h32 => ?_)
  · refine Sim.cd (fun hc => ?_) (fun hc => ?_)
    · exact Sim.ret rfl rfl
    · refine Sim.op (fA_ref _ _ _) ?_
      refine Sim.op ((S11.atG (i := 1) rfl).ld (j := 6) rfl) ?_
      refine Sim.op (castI_p _ _) ?_
      refine Sim.op (fA_ref _ _ _) ?_
      refine Sim.op ((S11.atG (i := 0) rfl).ld (j := 6) rfl) ?_
      refine Sim.op (castI_p _ _) ?_
      exact Sim.ret rfl rfl
  subst h32
  refine Sim.ch (P := fun r y => r = y) ?_ (fun b33 y34 h35 h36 => ?_)
  · refine Sim.cd (fun hc => ?_) (fun hc => ?_)
    · exact Sim.ret rfl rfl
    · refine Sim.op (fA_ref _ _ _) ?_
      refine Sim.op ((S11.atG (i := 1) rfl).ld (j := 7) rfl) ?_
      refine Sim.op (castI_p _ _) ?_
      refine Sim.op (fA_ref _ _ _) ?_
      refine Sim.op ((S11.atG (i := 0) rfl).ld (j := 7) rfl) ?_
      refine Sim.op (castI_p _ _) ?_
      exact Sim.ret rfl rfl
  subst h36
  refine Sim.ch (P := fun r y => r = y) ?_ (fun b37 y38 h39 h40 => ?_)
  · refine Sim.cd (fun hc => ?_) (fun hc => ?_)
    · exact Sim.ret rfl rfl
    · refine Sim.op (fA_ref _ _ _) ?_
      refine Sim.op ((S11.atG (i := 1) rfl).ld (j := 2) rfl) ?_
      refine Sim.op ((h2.h H9).len) ?_
      refine Sim.op (castI_p _ _) ?_
      refine Sim.op (fA_ref _ _ _) ?_
      refine Sim.op ((S11.atG (i := 0) rfl).ld (j := 2) rfl) ?_
      refine Sim.op ((h4.h H9).len) ?_
      refine Sim.op (castI_p _ _) ?_
      exact Sim.ret rfl rfl
  subst h40
  refine Sim.cd (fun hc => ?_) (fun hc => ?_)
  · exact Sim.fin (S11.finN (lv_cons (still_bool _).lv lv_nil)) rfl
  · refine Sim.op (fA_ref _ _ _) ?_
    refine Sim.op ((S11.atG (i := 1) rfl).ld (j := 2) rfl) ?_
    refine Sim.op ((h2.h H9).len) ?_
    refine Sim.op (castI_p _ _) ?_
    refine Sim.as (limelightref8_Same_l0_ok ?_ ?_ k ((x0.Layers.length : Int)) 0 ((⟨x0.Kind, x0.Cap, x0.Layers, x0.Peer, x0.Height, x0.Class, x0.Layer, x0.Code⟩ : T_api_Ctl)) ((⟨x1.Kind, x1.Cap, x1.Layers, x1.Peer, x1.Height, x1.Class, x1.Layer, x1.Code⟩ : T_api_Ctl)) v1 h2 (0 :: 0 :: 0 :: σ) v3 h4 (1 :: 0 :: 0 :: σ) H9 (S11.wk2 (all_cons (at_mem 1 rfl) (all_cons (at_mem 0 rfl) all_nil)) all_nil)) 
    · intro _u H66 S67
      refine Sim.ext (limelightref8_Same_a0_0 _ _ _ _) ?_
      exact Sim.fin (S67.finN (lv_cons (still_bool _).lv lv_nil)) rfl
    · intro r68_4 H69 S70
      refine Sim.ext (limelightref8_Same_a0_ret _ _ _ _ _) ?_
      exact Sim.fin (S70.finN (lv_cons (still_bool _).lv lv_nil)) rfl
end Go.Ev
/- Lifted by lift.py: limelightlaw8_CtlApart as a plain function. -/
namespace Go.Ev
open Go.Proofs
set_option linter.unusedVariables false
set_option linter.unusedSimpArgs false
set_option maxRecDepth 100000
def p_limelightlaw8_CtlApart (k : Nat) (x0 : (List Int)) (x1 : (List Int)) : Option (Bool) :=
(p_limelightkeep_Tape_Ctl k (⟨x0, 0⟩ : T_limelightkeep_Tape)).bind fun r5 =>
(p_limelightkeep_Tape_Ctl k (⟨x1, 0⟩ : T_limelightkeep_Tape)).bind fun r21 =>
(p_ctl_Bytes k ((⟨r5.1.Kind, r5.1.Cap, r5.1.Layers, r5.1.Peer, r5.1.Height, r5.1.Class, r5.1.Layer, r5.1.Code⟩ : T_api_Ctl))).bind fun r47 =>
(p_ctl_Bytes k ((⟨r21.1.Kind, r21.1.Cap, r21.1.Layers, r21.1.Peer, r21.1.Height, r21.1.Class, r21.1.Layer, r21.1.Code⟩ : T_api_Ctl))).bind fun r54 =>
(bif r47.2 == 0 then (some (r54.2 == 0)) else (some false)).bind fun b61 =>
(bif b61 then ((p_limelightref8_Same k ((⟨r5.1.Kind, r5.1.Cap, r5.1.Layers, r5.1.Peer, r5.1.Height, r5.1.Class, r5.1.Layer, r5.1.Code⟩ : T_api_Ctl)) ((⟨r21.1.Kind, r21.1.Cap, r21.1.Layers, r21.1.Peer, r21.1.Height, r21.1.Class, r21.1.Layer, r21.1.Code⟩ : T_api_Ctl))).bind fun r65 =>
some (((strB r47.1).toList == (strB r54.1).toList) == r65)) else (some false)).bind fun b70 =>
(bif b70 then (some (decide (((r47.1.length : Int)) ≥ 3))) else (some false)).bind fun b74 =>
(bif b74 then ((ix r47.1 1).bind fun a78 =>
(ix r47.1 2).bind fun a81 =>
some ((intBits .or .i64 (IntKind.wrap .i64 ((IntKind.wrap .i64 a78) * 2 ^ 8)) (IntKind.wrap .i64 a81)) == (IntKind.wrap .i64 (((r47.1.length : Int)) - 3)))) else (some false)).bind fun b84 =>
(bif b84 then ((ix r47.1 0).bind fun a88 =>
some ((IntKind.wrap .i64 a88) == r5.1.Kind)) else (some false)).bind fun b91 =>
(bif b91 then ((p_limelightlaw8_known k).bind fun r95 =>
some r95) else (some false)).bind fun b100 =>
some (b100)
theorem limelightlaw8_CtlApart_ok (k : Nat) {h : H} {σ : Stamp} (x0 : List Int) {u0 : V} (hu0 : SlF (dI .i64) x0 u0) (x1 : List Int) {u1 : V} (hu1 : SlF (dI .i64) x1 u1) : Sim (p_limelightlaw8_CtlApart k x0 x1) (ev G X0 9 σ [u0, u1] h) (fun r s => s = ([.v (.p (.bool r))], h)) := by
  refine Sim.ev rfl (Sim.ext (limelightlaw8_CtlApart_entry _ _ _ _ _ _) ?_)
  rw [p_limelightlaw8_CtlApart]
  have S0 : Fm 79 h [] [] [] (List.replicate 79 [] :: h) := Fm.start0
  refine Sim.op (bldV (pt_cons hu0.still.cells pt_nil) (by kernel_rfl : _ = some (.agg [u0, .p (.int .i64 0)]))) ?_
  obtain ⟨H1, e2, S3⟩ := S0.box (own := false) (d := 13) (s := (2 :: 0 :: 1 :: 0 :: σ)) (xs := [u0, .p (.int .i64 0)]) (stills_cons hu0.still (stills_cons (still_int _ _) stills_nil)) (by decide) rfl
  refine Sim.op (e2) ?_
  refine Sim.call (limelightkeep_Tape_Ctl_ok k (⟨x0, 0⟩ : T_limelightkeep_Tape) hu0 (S3.atG (i := 0) rfl)) fun r5 cs6 H7 h8 q9 => ?_
  obtain ⟨w10, v12, h11, h13, q9⟩ := q9
  cases q9
  obtain ⟨v15, rfl, h16⟩ := dT_api_Ctl.inv h11
  have S14 := S3.setG (i := 0) (cs' := List.map C.v [v12, (.p (.int .i64 r5.2.f_At))]) rfl rfl rfl
  refine Sim.op (bldV (pt_cons hu1.still.cells pt_nil) (by kernel_rfl : _ = some (.agg [u1, .p (.int .i64 0)]))) ?_
  obtain ⟨H17, e18, S19⟩ := S14.box (own := false) (d := 17) (s := (6 :: 0 :: 1 :: 0 :: σ)) (xs := [u1, .p (.int .i64 0)]) (stills_cons hu1.still (stills_cons (still_int _ _) stills_nil)) (by decide) rfl
  refine Sim.op (e18) ?_
  refine Sim.call (limelightkeep_Tape_Ctl_ok k (⟨x1, 0⟩ : T_limelightkeep_Tape) hu1 (S19.atG (i := 0) rfl)) fun r21 cs22 H23 h24 q25 => ?_
  obtain ⟨w26, v28, h27, h29, q25⟩ := q25
  cases q25
  obtain ⟨v31, rfl, h32⟩ := dT_api_Ctl.inv h27
  have S30 := S19.setG (i := 0) (cs' := List.map C.v [v28, (.p (.int .i64 r21.2.f_At))]) rfl rfl rfl
  obtain ⟨H33, e34, S35⟩ := S30.al (d := 5) (s := (8 :: 0 :: 1 :: 0 :: σ)) (z := [(.p (.int .i64 0)), (.p (.int .i64 0)), (.p (.slice none 0 0)), (.p (.int .i64 0)), (.p (.int .i64 0)), (.p (.int .i64 0)), (.p (.int .i64 0)), (.p (.int .i64 0))]) (by decide) rfl
  refine Sim.op (congrArg some e34) ?_
  obtain ⟨H37, e38, S39⟩ := S35.al (d := 6) (s := (9 :: 0 :: 1 :: 0 :: σ)) (z := [(.p (.int .i64 0)), (.p (.int .i64 0)), (.p (.slice none 0 0)), (.p (.int .i64 0)), (.p (.int .i64 0)), (.p (.int .i64 0)), (.p (.int .i64 0)), (.p (.int .i64 0))]) (by decide) rfl
  refine Sim.op (congrArg some e38) ?_
  obtain ⟨H41, e42, S43⟩ := S39.stGv (i := 1) (j := 0) (own := false) (σ := (10 :: 0 :: 1 :: 0 :: σ)) (xs := [(.p (.int .i64 r5.1.Kind)), (.p (.int .i64 r5.1.Cap)), v15, (.p (.int .i64 r5.1.Peer)), (.p (.int .i64 r5.1.Height)), (.p (.int .i64 r5.1.Class)), (.p (.int .i64 r5.1.Layer)), (.p (.int .i64 r5.1.Code))]) rfl rfl (stills_cons (still_int _ _) (stills_cons (still_int _ _) (stills_cons h16.still (stills_cons (still_int _ _) (stills_cons (still_int _ _) (stills_cons (still_int _ _) (stills_cons (still_int _ _) (stills_cons (still_int _ _) stills_nil)))))))) rfl rfl
  refine Sim.op (st_map e42) ?_
  obtain ⟨H44, e45, S46⟩ := S43.stGv (i := 0) (j := 0) (own := false) (σ := (11 :: 0 :: 1 :: 0 :: σ)) (xs := [(.p (.int .i64 r21.1.Kind)), (.p (.int .i64 r21.1.Cap)), v31, (.p (.int .i64 r21.1.Peer)), (.p (.int .i64 r21.1.Height)), (.p (.int .i64 r21.1.Class)), (.p (.int .i64 r21.1.Layer)), (.p (.int .i64 r21.1.Code))]) rfl rfl (stills_cons (still_int _ _) (stills_cons (still_int _ _) (stills_cons h32.still (stills_cons (still_int _ _) (stills_cons (still_int _ _) (stills_cons (still_int _ _) (stills_cons (still_int _ _) (stills_cons (still_int _ _) stills_nil)))))))) rfl rfl
  refine Sim.op (st_map e45) ?_
  refine Sim.op ((S46.atG (i := 1) rfl).ldVs (j := 0) (xs := [.p (.int .i64 r5.1.Kind), .p (.int .i64 r5.1.Cap), v15, .p (.int .i64 r5.1.Peer), .p (.int .i64 r5.1.Height), .p (.int .i64 r5.1.Class), .p (.int .i64 r5.1.Layer), .p (.int .i64 r5.1.Code)]) rfl rfl (by decide)) ?_
  erw [callFO_eq (frzAs_cons (frzA_agg (dT_api_Ctl.still (dT_api_Ctl.mk h16))) frzAs_nil)]
  refine Sim.call (ctl_Bytes_ok k ((⟨r5.1.Kind, r5.1.Cap, r5.1.Layers, r5.1.Peer, r5.1.Height, r5.1.Class, r5.1.Layer, r5.1.Code⟩ : T_api_Ctl)) (show dT_api_Ctl.R ((⟨r5.1.Kind, r5.1.Cap, r5.1.Layers, r5.1.Peer, r5.1.Height, r5.1.Class, r5.1.Layer, r5.1.Code⟩ : T_api_Ctl)) [.p (.int .i64 r5.1.Kind), .p (.int .i64 r5.1.Cap), v15, .p (.int .i64 r5.1.Peer), .p (.int .i64 r5.1.Height), .p (.int .i64 r5.1.Class), .p (.int .i64 r5.1.Layer), .p (.int .i64 r5.1.Code)] from (dT_api_Ctl.mk h16))) fun r47 cs48 H49 h50 q51 => ?_
  obtain ⟨v52, h53, q51⟩ := q51
  cases q51
  refine Sim.op (rfl) ?_
  refine Sim.op (rfl) ?_
  refine Sim.op (castI_p _ _) ?_
  refine Sim.op ((S46.atG (i := 0) rfl).ldVs (j := 0) (xs := [.p (.int .i64 r21.1.Kind), .p (.int .i64 r21.1.Cap), v31, .p (.int .i64 r21.1.Peer), .p (.int .i64 r21.1.Height), .p (.int .i64 r21.1.Class), .p (.int .i64 r21.1.Layer), .p (.int .i64 r21.1.Code)]) rfl rfl (by decide)) ?_
  erw [callFO_eq (frzAs_cons (frzA_agg (dT_api_Ctl.still (dT_api_Ctl.mk h32))) frzAs_nil)]
  refine Sim.call (ctl_Bytes_ok k ((⟨r21.1.Kind, r21.1.Cap, r21.1.Layers, r21.1.Peer, r21.1.Height, r21.1.Class, r21.1.Layer, r21.1.Code⟩ : T_api_Ctl)) (show dT_api_Ctl.R ((⟨r21.1.Kind, r21.1.Cap, r21.1.Layers, r21.1.Peer, r21.1.Height, r21.1.Class, r21.1.Layer, r21.1.Code⟩ : T_api_Ctl)) [.p (.int .i64 r21.1.Kind), .p (.int .i64 r21.1.Cap), v31, .p (.int .i64 r21.1.Peer), .p (.int .i64 r21.1.Height), .p (.int .i64 r21.1.Class), .p (.int .i64 r21.1.Layer), .p (.int .i64 r21.1.Code)] from (dT_api_Ctl.mk h32))) fun r54 cs55 H56 h57 q58 => ?_
  obtain ⟨v59, h60, q58⟩ := q58
  cases q58
  refine Sim.op (rfl) ?_
  refine Sim.op (rfl) ?_
  refine Sim.op (castI_p _ _) ?_
  refine Sim.ch (P := fun r y => r = y) ?_ (fun b61 y62 h63 h64 => ?_)
  · refine Sim.cd (fun hc => ?_) (fun hc => ?_)
    · exact Sim.ret rfl rfl
    · exact Sim.ret rfl rfl
  subst h64
  refine Sim.ch (P := fun r y => (.p (.bool r), H44) = y) ?_ (fun b70 y71 h72 h73 => ?_)
  · refine Sim.cd (fun hc => ?_) (fun hc => ?_)
    · refine Sim.op ((h53.h H44).str) ?_
      refine Sim.op (castS_p _) ?_
      refine Sim.op ((h60.h H44).str) ?_
      refine Sim.op (castS_p _) ?_
      refine Sim.op ((S46.atG (i := 1) rfl).ldVs (j := 0) (xs := [.p (.int .i64 r5.1.Kind), .p (.int .i64 r5.1.Cap), v15, .p (.int .i64 r5.1.Peer), .p (.int .i64 r5.1.Height), .p (.int .i64 r5.1.Class), .p (.int .i64 r5.1.Layer), .p (.int .i64 r5.1.Code)]) rfl rfl (by decide)) ?_
      refine Sim.op ((S46.atG (i := 0) rfl).ldVs (j := 0) (xs := [.p (.int .i64 r21.1.Kind), .p (.int .i64 r21.1.Cap), v31, .p (.int .i64 r21.1.Peer), .p (.int .i64 r21.1.Height), .p (.int .i64 r21.1.Class), .p (.int .i64 r21.1.Layer), .p (.int .i64 r21.1.Code)]) rfl rfl (by decide)) ?_
      refine Sim.call (limelightref8_Same_ok k ((⟨r5.1.Kind, r5.1.Cap, r5.1.Layers, r5.1.Peer, r5.1.Height, r5.1.Class, r5.1.Layer, r5.1.Code⟩ : T_api_Ctl)) (show dT_api_Ctl.R ((⟨r5.1.Kind, r5.1.Cap, r5.1.Layers, r5.1.Peer, r5.1.Height, r5.1.Class, r5.1.Layer, r5.1.Code⟩ : T_api_Ctl)) [.p (.int .i64 r5.1.Kind), .p (.int .i64 r5.1.Cap), v15, .p (.int .i64 r5.1.Peer), .p (.int .i64 r5.1.Height), .p (.int .i64 r5.1.Class), .p (.int .i64 r5.1.Layer), .p (.int .i64 r5.1.Code)] from (dT_api_Ctl.mk h16)) ((⟨r21.1.Kind, r21.1.Cap, r21.1.Layers, r21.1.Peer, r21.1.Height, r21.1.Class, r21.1.Layer, r21.1.Code⟩ : T_api_Ctl)) (show dT_api_Ctl.R ((⟨r21.1.Kind, r21.1.Cap, r21.1.Layers, r21.1.Peer, r21.1.Height, r21.1.Class, r21.1.Layer, r21.1.Code⟩ : T_api_Ctl)) [.p (.int .i64 r21.1.Kind), .p (.int .i64 r21.1.Cap), v31, .p (.int .i64 r21.1.Peer), .p (.int .i64 r21.1.Height), .p (.int .i64 r21.1.Class), .p (.int .i64 r21.1.Layer), .p (.int .i64 r21.1.Code)] from (dT_api_Ctl.mk h32))) fun r65 cs66 H67 h68 q69 => ?_
      cases q69
      refine Sim.op (asB_p _) ?_
      refine Sim.nd (rfl) ?_
      refine Sim.nd ((h60.h H44).str) ?_
      refine Sim.nd ((h53.h H44).str) ?_
      exact Sim.ret rfl rfl
    · exact Sim.ret rfl rfl
  subst h73
  refine Sim.op (asB_p _) ?_
  refine Sim.ch (P := fun r y => r = y) ?_ (fun b74 y75 h76 h77 => ?_)
  · refine Sim.cd (fun hc => ?_) (fun hc => ?_)
    · refine Sim.op ((h53.h H44).len) ?_
      refine Sim.op (castI_p _ _) ?_
      exact Sim.ret rfl rfl
    · exact Sim.ret rfl rfl
  subst h77
  refine Sim.ch (P := fun r y => r = y) ?_ (fun b84 y85 h86 h87 => ?_)
  · refine Sim.cd (fun hc => ?_) (fun hc => ?_)
    · refine Sim.bd fun a78 h79 => ?_
      refine Sim.op ((h53.h H44).iS h79 rfl) ?_
      obtain ⟨_, rfl, hE80⟩ := (h53.h H44).el h79 rfl
      refine Sim.op (hE80.ld (j := 0) rfl) ?_
      refine Sim.op (castI_p _ _) ?_
      refine Sim.bd fun a81 h82 => ?_
      refine Sim.op ((h53.h H44).iS h82 rfl) ?_
      obtain ⟨_, rfl, hE83⟩ := (h53.h H44).el h82 rfl
      refine Sim.op (hE83.ld (j := 0) rfl) ?_
      refine Sim.op (castI_p _ _) ?_
      refine Sim.op ((h53.h H44).len) ?_
      refine Sim.op (castI_p _ _) ?_
      exact Sim.ret rfl rfl
    · exact Sim.ret rfl rfl
  subst h87
  refine Sim.ch (P := fun r y => r = y) ?_ (fun b91 y92 h93 h94 => ?_)
  · refine Sim.cd (fun hc => ?_) (fun hc => ?_)
    · refine Sim.bd fun a88 h89 => ?_
      refine Sim.op ((h53.h H44).iS h89 rfl) ?_
      obtain ⟨_, rfl, hE90⟩ := (h53.h H44).el h89 rfl
      refine Sim.op (hE90.ld (j := 0) rfl) ?_
      refine Sim.op (castI_p _ _) ?_
      refine Sim.op (fA_ref _ _ _) ?_
      refine Sim.op ((S46.atG (i := 1) rfl).ld (j := 0) rfl) ?_
      refine Sim.op (castI_p _ _) ?_
      exact Sim.ret rfl rfl
    · exact Sim.ret rfl rfl
  subst h94
  refine Sim.ch (P := fun r y => (.p (.bool r), H44) = y) ?_ (fun b100 y101 h102 h103 => ?_)
  · refine Sim.cd (fun hc => ?_) (fun hc => ?_)
    · refine Sim.call (limelightlaw8_known_ok k ) fun r95 cs96 H97 h98 q99 => ?_
      cases q99
      refine Sim.op (asB_p _) ?_
      exact Sim.ret rfl rfl
    · exact Sim.ret rfl rfl
  subst h103
  refine Sim.op (asB_p _) ?_
  exact Sim.fin (S46.finN (lv_cons (still_bool _).lv lv_nil)) rfl
end Go.Ev
