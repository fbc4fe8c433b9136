/- A part of the proof that follows: of the layers of a publisher those may be chosen that are not higher than asked -/
import Derived.Test.YtceljnchfgimbaaMAllocHeights3
import Derived.KernelRfl
namespace Go.Ev
open Go.Proofs
set_option linter.unusedVariables false
set_option linter.unusedSimpArgs false
set_option maxRecDepth 100000
section
variable {β α : Type} {Q : β→α→Prop} {K : Exit × Env × H→Option α}
def z1d {β:Type} (k:Nat) (rec:za→Int→Int→Option (za)) (kE0:za→Option β) (x1:Int) (x2:Int) (x8:Int) (zp0:za):Option β:=match k with
| 0=>none
| k+1 =>
bif decide (x8<4) then (
(ix zp0.l x1).bind fun a76 =>
(z5s a76 x8).bind fun r85 =>
(bif !r85 then (some true) else ((bif decide (x8≥0) then ((ix zp0.l x1).bind fun a90 =>
(ix a90.Costs x8).bind fun a106 =>
some (decide (a106>x2))) else (some false)).bind fun b109 =>
some b109)).bind fun b113 =>
bif b113 then (
z1d k rec kE0 x1 x2 (IntKind.wrap .i64 (x8+1)) ((⟨zp0.l,zp0.now,zp0.best,[((zp0.good.getD 0 0)),((zp0.good.getD 1 0)),((zp0.good.getD 2 0)),((zp0.good.getD 3 0))],zp0.cost⟩:za)))
else (
(ix zp0.now x1).bind fun a118 =>
(stx zp0.now x1 x8).bind fun a123 =>
bif decide (x8≥0) then (
(ix zp0.l x1).bind fun a129 =>
(ix a129.Costs x8).bind fun a145 =>
(rec (⟨zp0.l,a123,zp0.best,[((zp0.good.getD 0 0)),((zp0.good.getD 1 0)),((zp0.good.getD 2 0)),((zp0.good.getD 3 0))],zp0.cost⟩:za) (IntKind.wrap .i64 (x1+1)) (IntKind.wrap .i64 (x2-a145))).bind fun r148 =>
z1d k rec kE0 x1 x2 (IntKind.wrap .i64 (x8+1)) ((⟨r148.l,r148.now,r148.best,[((r148.good.getD 0 0)),((r148.good.getD 1 0)),((r148.good.getD 2 0)),((r148.good.getD 3 0))],r148.cost⟩:za)))
else (
(rec (⟨zp0.l,a123,zp0.best,[((zp0.good.getD 0 0)),((zp0.good.getD 1 0)),((zp0.good.getD 2 0)),((zp0.good.getD 3 0))],zp0.cost⟩:za) (IntKind.wrap .i64 (x1+1)) x2).bind fun r162 =>
z1d k rec kE0 x1 x2 (IntKind.wrap .i64 (x8+1)) ((⟨r162.l,r162.now,r162.best,[((r162.good.getD 0 0)),((r162.good.getD 1 0)),((r162.good.getD 2 0)),((r162.good.getD 3 0))],r162.cost⟩:za)))))
else (
kE0 ((⟨zp0.l,zp0.now,zp0.best,[((zp0.good.getD 0 0)),((zp0.good.getD 1 0)),((zp0.good.getD 2 0)),((zp0.good.getD 3 0))],zp0.cost⟩:za)))
def z3n (k:Nat) (x0:za) (x1:Int) (x2:Int):Option (za):=match k with
| 0=>none
| k+1 =>
bif x1==((x0.l.length:Int)) then (
(za8 k x0.l x0.now).bind fun r4 =>
(z5m k x0.l x0.now).bind fun r11 =>
(bif x0.best.isEmpty then (some true) else ((z7t k r4 ([((x0.good.getD 0 0)),((x0.good.getD 1 0)),((x0.good.getD 2 0)),((x0.good.getD 3 0))])).bind fun r19 =>
some r19)).bind fun b24 =>
(bif b24 then (some true) else ((bif andB [((r4.getD 0 0))==((x0.good.getD 0 0)),((r4.getD 1 0))==((x0.good.getD 1 0)),((r4.getD 2 0))==((x0.good.getD 2 0)),((r4.getD 3 0))==((x0.good.getD 3 0))] then (some (decide (r11<x0.cost))) else (some false)).bind fun b28 =>
some b28)).bind fun b32 =>
bif b32 then (
(zgu 8 x0.now).bind fun r37 =>
(neO r37).bind fun _ =>
some ((⟨x0.l,x0.now,r37,[((r4.getD 0 0)),((r4.getD 1 0)),((r4.getD 2 0)),((r4.getD 3 0))],r11⟩:za)))
else (
some ((⟨x0.l,x0.now,x0.best,[((x0.good.getD 0 0)),((x0.good.getD 1 0)),((x0.good.getD 2 0)),((x0.good.getD 3 0))],x0.cost⟩:za))))
else (
z1d k (z3n k) (fun zp0 =>
some ((⟨zp0.l,zp0.now,zp0.best,[((zp0.good.getD 0 0)),((zp0.good.getD 1 0)),((zp0.good.getD 2 0)),((zp0.good.getD 3 0))],zp0.cost⟩:za))) x1 x2 (-1) ((⟨x0.l,x0.now,x0.best,[((x0.good.getD 0 0)),((x0.good.getD 1 0)),((x0.good.getD 2 0)),((x0.good.getD 3 0))],x0.cost⟩:za)))
theorem zap {h:H} {l0:Loc} {o0:Nat} {rec:za→Int→Int→Option (za)} {kE0:za→Option β} (hrec:∀ {h:H} {σ:Stamp} (x0:za) {u0_0:V} (hu0_0:SlF z4 x0.l u0_0) {c0_1:C} (hc0_1:SoC (dI .i64) x0.now c0_1) (hn0_1:Nn c0_1 1) {c0_2:C} (hc0_2:SoC (dI .i64) x0.best c0_2) (hn0_2:Nq c0_2 1) {l0:Loc} {o0:Nat} (ha0:AtC h l0 o0 ([.v u0_0,c0_1,c0_2,.v (.p (.int .i64 ((x0.good.getD 0 0)))),.v (.p (.int .i64 ((x0.good.getD 1 0)))),.v (.p (.int .i64 ((x0.good.getD 2 0)))),.v (.p (.int .i64 ((x0.good.getD 3 0)))),.v (.p (.int .i64 x0.cost))])) (x1:Int) (x2:Int),Sim (rec x0 x1 x2) (ev G X0 123 σ [(.ref l0 o0),(.p (.int .i64 x1)),(.p (.int .i64 x2))] h) (fun r s=>∃ (vb0_0:V),∃ (cb0_1:C),∃ (cb0_2:C),SlF z4 r.l vb0_0∧SoC (dI .i64) r.now cb0_1∧Nn cb0_1 1∧SoC (dI .i64) r.best cb0_2∧Nq cb0_2 1∧s=([],pts h [⟨l0,o0,[.v vb0_0,cb0_1,cb0_2,.v (.p (.int .i64 (r.good.getD 0 0))),.v (.p (.int .i64 (r.good.getD 1 0))),.v (.p (.int .i64 (r.good.getD 2 0))),.v (.p (.int .i64 (r.good.getD 3 0))),.v (.p (.int .i64 r.cost))]⟩]))) (hE0:∀ (zp0:za) (v178:V) (h179:SlF z4 zp0.l v178) (c180:C) (h181:SoC (dI .i64) zp0.now c180) (h182:Nn c180 1) (c183:C) (h184:SoC (dI .i64) zp0.best c183) (h185:Nq c183 1) (H176:Go.Ev.H) (_:Fm 143 h [⟨l0,o0,[.v v178,c180,c183,.v (.p (.int .i64 ((zp0.good.getD 0 0)))),.v (.p (.int .i64 ((zp0.good.getD 1 0)))),.v (.p (.int .i64 ((zp0.good.getD 2 0)))),.v (.p (.int .i64 ((zp0.good.getD 3 0)))),.v (.p (.int .i64 zp0.cost))]⟩] [] [] H176),Sim (kE0 zp0) (K ((.exit 0),(envL []),H176)) Q) (k:Nat):∀ (x1:Int) (x2:Int) (x8:Int) (zp0:za) (v67:V) (h68:SlF z4 zp0.l v67) (c69:C) (h70:SoC (dI .i64) zp0.now c69) (h71:Nn c69 1) (c72:C) (h73:SoC (dI .i64) zp0.best c72) (h74:Nq c72 1) (H65:Go.Ev.H) (_:Fm 143 h [⟨l0,o0,[.v v67,c69,c72,.v (.p (.int .i64 ((zp0.good.getD 0 0)))),.v (.p (.int .i64 ((zp0.good.getD 1 0)))),.v (.p (.int .i64 ((zp0.good.getD 2 0)))),.v (.p (.int .i64 ((zp0.good.getD 3 0)))),.v (.p (.int .i64 zp0.cost))]⟩] [] [] H65) {σ:Stamp},Sim (z1d k rec kE0 x1 x2 x8 zp0) ((cvL G X0 z1n z1k σ (envL [(0,(.ref l0 o0)),(1,(.p (.int .i64 x1))),(2,(.p (.int .i64 x2))),(8,(.p (.int .i64 x8)))]) H65).bind K) Q:=by
 induction k with
 | zero=>intros;exact .no
 | succ k ih =>
  intro x1 x2 x8 zp0 v67 h68 c69 h70 h71 c72 h73 h74 H65 S66 σ
  rw [z1d]
  refine .round (Sim.ext (zc4 _ _ _ _ _ _ _ _) ?_)
  refine .cq ?_ ?_
  ·refine .nc ?_
   refine .fa ?_
   refine .op ((S66.atB (i:=0) rfl).ld (j:=0) rfl) ?_
   refine .bd fun a76 h77=>?_
   refine .op ((h68.h H65).iS h77 rfl) ?_
   obtain ⟨w79,h80,hE78⟩:=(h68.h H65).el h77 rfl
   obtain ⟨v81,v83,rfl,h82,h84⟩:=z4.inv h80
   refine .op (hE78.all (by simp)) ?_
   refine .call (z96 a76 (show z4.R a76 [.p (.int .i64 a76.Class),v81,v83] from (z4.mk h82 h84)) x8) fun r85 cs86 H87 h88 q89=>?_
   cases q89
   refine .ab ?_
   refine .ch (P:=fun r y=>r=y) ?_ (fun b113 y114 h115 h116=>?_)
   ·refine .cq ?_ ?_
    ·exact .ret rfl rfl
    ·refine .ch (P:=fun r y=>r=y) ?_ (fun b109 y110 h111 h112=>?_)
     ·refine .cq ?_ ?_
      ·refine .nc ?_
       refine .fa ?_
       refine .op ((S66.atB (i:=0) rfl).ld (j:=0) rfl) ?_
       refine .bd fun a90 h91=>?_
       refine .op ((h68.h H65).iS h91 rfl) ?_
       obtain ⟨w93,h94,hE92⟩:=(h68.h H65).el h91 rfl
       obtain ⟨v95,v97,rfl,h96,h98⟩:=z4.inv h94
       refine .op (hE92.fa (j:=1) (by simp)) ?_
       obtain ⟨w100,h101,hE99⟩:=(h68.h H65).el h91 rfl
       obtain ⟨v102,v104,rfl,h103,h105⟩:=z4.inv h101
       refine .op (hE99.ld (j:=1) rfl) ?_
       refine .bd fun a106 h107=>?_
       refine .op ((h103.h H65).iS h107 rfl) ?_
       obtain ⟨_,rfl,hE108⟩:=(h103.h H65).el h107 rfl
       refine .op (hE108.ld (j:=0) rfl) ?_
       refine .ci ?_
       exact .ret rfl rfl
      ·exact .ret rfl rfl
     subst h112
     exact .ret rfl rfl
   subst h116
   refine .cq ?_ ?_
   ·exact ih x1 x2 (IntKind.wrap .i64 (x8+1)) ((⟨zp0.l,zp0.now,zp0.best,[((zp0.good.getD 0 0)),((zp0.good.getD 1 0)),((zp0.good.getD 2 0)),((zp0.good.getD 3 0))],zp0.cost⟩:za)) v67 h68 c69 h70 h71 c72 h73 h74 H65 (S66.wk2 aN aN)
   refine .nc ?_
   refine .fa ?_
   refine .op (h70.ld (S66.atB (i:=0) rfl) (j:=1) rfl) ?_
   refine .bd fun a118 h119=>?_
   refine .op ((h70.sl (S66.atB (i:=0) rfl) (j:=1) rfl).iS h119 rfl) ?_
   refine .bd fun a123 h124=>?_
   obtain ⟨c125,H120,e121,h126,h127,S122⟩:=S66.seB (i:=0) (j:=1) (own:=true) (σ:=(7::0::1::0::1::0::σ)) (nv:=[(.p (.int .i64 x8))]) (xv:=(.p (.int .i64 x8))) (n:=1) (e:=1) (off:=0) rfl rfl h70 h71 h119 h124 rfl rfl (by decide) (zla (sI _ _)) (Dt.whole (show (dI .i64).R x8 [(.p (.int .i64 x8))] from rfl) rfl)
   refine .op (sM e121) ?_
   refine .cq ?_ ?_
   ·refine .nc ?_
    refine .fa ?_
    refine .op ((S122.atB (i:=0) rfl).ld (j:=0) rfl) ?_
    refine .bd fun a129 h130=>?_
    refine .op ((h68.h H120).iS h130 rfl) ?_
    obtain ⟨w132,h133,hE131⟩:=(h68.h H120).el h130 rfl
    obtain ⟨v134,v136,rfl,h135,h137⟩:=z4.inv h133
    refine .op (hE131.fa (j:=1) (by simp)) ?_
    obtain ⟨w139,h140,hE138⟩:=(h68.h H120).el h130 rfl
    obtain ⟨v141,v143,rfl,h142,h144⟩:=z4.inv h140
    refine .op (hE138.ld (j:=1) rfl) ?_
    refine .bd fun a145 h146=>?_
    refine .op ((h142.h H120).iS h146 rfl) ?_
    obtain ⟨_,rfl,hE147⟩:=(h142.h H120).el h146 rfl
    refine .op (hE147.ld (j:=0) rfl) ?_
    refine .ci ?_
    refine .call (hrec (⟨zp0.l,a123,zp0.best,[((zp0.good.getD 0 0)),((zp0.good.getD 1 0)),((zp0.good.getD 2 0)),((zp0.good.getD 3 0))],zp0.cost⟩:za) h68 h126 (Nq.nn h127) h73 h74 (S122.atB (i:=0) rfl) (IntKind.wrap .i64 (x1+1)) (IntKind.wrap .i64 (x2-a145))) fun r148 cs149 H150 h151 q152=>?_
    obtain ⟨v153,c155,c158,h154,h156,h157,h159,h160,q152⟩:=q152
    cases q152
    have S161:=S122.setB (i:=0) (cs:=[.v v153,c155,c158,.v (.p (.int .i64 ((r148.good.getD 0 0)))),.v (.p (.int .i64 ((r148.good.getD 1 0)))),.v (.p (.int .i64 ((r148.good.getD 2 0)))),.v (.p (.int .i64 ((r148.good.getD 3 0)))),.v (.p (.int .i64 r148.cost))]) rfl rfl
    exact ih x1 x2 (IntKind.wrap .i64 (x8+1)) ((⟨r148.l,r148.now,r148.best,[((r148.good.getD 0 0)),((r148.good.getD 1 0)),((r148.good.getD 2 0)),((r148.good.getD 3 0))],r148.cost⟩:za)) v153 h154 c155 h156 h157 c158 h159 h160 (ptC H120 l0 o0 ([.v v153,c155,c158,.v (.p (.int .i64 ((r148.good.getD 0 0)))),.v (.p (.int .i64 ((r148.good.getD 1 0)))),.v (.p (.int .i64 ((r148.good.getD 2 0)))),.v (.p (.int .i64 ((r148.good.getD 3 0)))),.v (.p (.int .i64 r148.cost))])) (S161.wk2 aN aN)
   refine .call (hrec (⟨zp0.l,a123,zp0.best,[((zp0.good.getD 0 0)),((zp0.good.getD 1 0)),((zp0.good.getD 2 0)),((zp0.good.getD 3 0))],zp0.cost⟩:za) h68 h126 (Nq.nn h127) h73 h74 (S122.atB (i:=0) rfl) (IntKind.wrap .i64 (x1+1)) x2) fun r162 cs163 H164 h165 q166=>?_
   obtain ⟨v167,c169,c172,h168,h170,h171,h173,h174,q166⟩:=q166
   cases q166
   have S175:=S122.setB (i:=0) (cs:=[.v v167,c169,c172,.v (.p (.int .i64 ((r162.good.getD 0 0)))),.v (.p (.int .i64 ((r162.good.getD 1 0)))),.v (.p (.int .i64 ((r162.good.getD 2 0)))),.v (.p (.int .i64 ((r162.good.getD 3 0)))),.v (.p (.int .i64 r162.cost))]) rfl rfl
   exact ih x1 x2 (IntKind.wrap .i64 (x8+1)) ((⟨r162.l,r162.now,r162.best,[((r162.good.getD 0 0)),((r162.good.getD 1 0)),((r162.good.getD 2 0)),((r162.good.getD 3 0))],r162.cost⟩:za)) v167 h168 c169 h170 h171 c172 h173 h174 (ptC H120 l0 o0 ([.v v167,c169,c172,.v (.p (.int .i64 ((r162.good.getD 0 0)))),.v (.p (.int .i64 ((r162.good.getD 1 0)))),.v (.p (.int .i64 ((r162.good.getD 2 0)))),.v (.p (.int .i64 ((r162.good.getD 3 0)))),.v (.p (.int .i64 r162.cost))])) (S175.wk2 aN aN)
  exact hE0 ((⟨zp0.l,zp0.now,zp0.best,[((zp0.good.getD 0 0)),((zp0.good.getD 1 0)),((zp0.good.getD 2 0)),((zp0.good.getD 3 0))],zp0.cost⟩:za)) v67 h68 c69 h70 h71 c72 h73 h74 H65 (S66.wk2 aN aN)
theorem zcr (k:Nat):∀ {h:H} {σ:Stamp} (x0:za) {u0_0:V} (hu0_0:SlF z4 x0.l u0_0) {c0_1:C} (hc0_1:SoC (dI .i64) x0.now c0_1) (hn0_1:Nn c0_1 1) {c0_2:C} (hc0_2:SoC (dI .i64) x0.best c0_2) (hn0_2:Nq c0_2 1) {l0:Loc} {o0:Nat} (ha0:AtC h l0 o0 ([.v u0_0,c0_1,c0_2,.v (.p (.int .i64 ((x0.good.getD 0 0)))),.v (.p (.int .i64 ((x0.good.getD 1 0)))),.v (.p (.int .i64 ((x0.good.getD 2 0)))),.v (.p (.int .i64 ((x0.good.getD 3 0)))),.v (.p (.int .i64 x0.cost))])) (x1:Int) (x2:Int),Sim (z3n k x0 x1 x2) (ev G X0 123 σ [(.ref l0 o0),(.p (.int .i64 x1)),(.p (.int .i64 x2))] h) (fun r s=>∃ (vb0_0:V),∃ (cb0_1:C),∃ (cb0_2:C),SlF z4 r.l vb0_0∧SoC (dI .i64) r.now cb0_1∧Nn cb0_1 1∧SoC (dI .i64) r.best cb0_2∧Nq cb0_2 1∧s=([],pts h [⟨l0,o0,[.v vb0_0,cb0_1,cb0_2,.v (.p (.int .i64 (r.good.getD 0 0))),.v (.p (.int .i64 (r.good.getD 1 0))),.v (.p (.int .i64 (r.good.getD 2 0))),.v (.p (.int .i64 (r.good.getD 3 0))),.v (.p (.int .i64 r.cost))]⟩])):=by
 induction k with
 | zero=>intros;exact .no
 | succ k ih =>
  intro h σ x0 u0_0 hu0_0 c0_1 hc0_1 hn0_1 c0_2 hc0_2 hn0_2 l0 o0 ha0 x1 x2
  refine .ev rfl (Sim.ext (zah _ _ _ _ _ _ _) ?_)
  rw [z3n]
  have S0:Fm 143 h [⟨l0,o0,[.v u0_0,c0_1,c0_2,.v (.p (.int .i64 ((x0.good.getD 0 0)))),.v (.p (.int .i64 ((x0.good.getD 1 0)))),.v (.p (.int .i64 ((x0.good.getD 2 0)))),.v (.p (.int .i64 ((x0.good.getD 3 0)))),.v (.p (.int .i64 x0.cost))]⟩] [] [] (List.replicate 143 []::h):=Fm.start1 ha0
  refine .nc ?_
  refine .fa ?_
  refine .op ((S0.atB (i:=0) rfl).ld (j:=0) rfl) ?_
  refine .op ((hu0_0.h (List.replicate 143 []::h)).len) ?_
  refine .ci ?_
  refine .cq ?_ ?_
  ·have S2:=S0.add (d:=6) (s:=(18::0::1::0::0::σ)) (cs:=List.map C.v [(.p (.int .i64 0)),(.p (.int .i64 0)),(.p (.int .i64 0)),(.p (.int .i64 0))]) (by decide) rfl
   have S2:Fm _ _ _ _ _ (alO [(.p (.int .i64 0)),(.p (.int .i64 0)),(.p (.int .i64 0)),(.p (.int .i64 0))] (18::0::1::0::0::σ) 6 (List.replicate 143 []::h)).2:=S2
   first | rw [S2.newLoc 6 (18::0::1::0::0::σ)] | erw [S2.newLoc 6 (18::0::1::0::0::σ)]
   refine .nd (⟨_,(by kernel_rfl),S2.slot (i:=0) rfl⟩) ?_
   refine .nc ?_
   refine .fa ?_
   refine .op ((S2.atB (i:=0) rfl).ld (j:=0) rfl) ?_
   refine .nc ?_
   refine .fa ?_
   refine .op (hc0_1.ld (S2.atB (i:=0) rfl) (j:=1) rfl) ?_
   refine .nc ?_
   refine .fa ?_
   refine .op ((S2.atB (i:=0) rfl).ld (j:=0) rfl) ?_
   refine .nc ?_
   refine .fa ?_
   refine .op (hc0_1.ld (S2.atB (i:=0) rfl) (j:=1) rfl) ?_
   refine .call (zio k x0.l (hu0_0.h (alO [(.p (.int .i64 0)),(.p (.int .i64 0)),(.p (.int .i64 0)),(.p (.int .i64 0))] (18::0::1::0::0::σ) 6 (List.replicate 143 []::h)).2) x0.now (hc0_1.sl (S2.atB (i:=0) rfl) (j:=1) rfl)) fun r4 cs5 H6 h7 q8=>?_
   obtain ⟨w9,h10,q8⟩:=q8
   cases q8
   obtain rfl:w9=[(.p (.int .i64 ((r4.getD 0 0)))),(.p (.int .i64 ((r4.getD 1 0)))),(.p (.int .i64 ((r4.getD 2 0)))),(.p (.int .i64 ((r4.getD 3 0))))]:=dA_int h10
   refine .nd (hc0_1.ld (S2.atB (i:=0) rfl) (j:=1) rfl) ?_
   refine .nd ((S2.atB (i:=0) rfl).ld (j:=0) rfl) ?_
   refine .nd (⟨_,(by kernel_rfl),S2.slot (i:=0) rfl⟩) ?_
   refine .call (z97 k x0.l (hu0_0.h (alO [(.p (.int .i64 0)),(.p (.int .i64 0)),(.p (.int .i64 0)),(.p (.int .i64 0))] (18::0::1::0::0::σ) 6 (List.replicate 143 []::h)).2) x0.now (hc0_1.sl (S2.atB (i:=0) rfl) (j:=1) rfl)) fun r11 cs12 H13 h14 q15=>?_
   cases q15
   refine .ci ?_
   refine .nd (⟨_,(by kernel_rfl),S2.slot (i:=0) rfl⟩) ?_
   obtain ⟨H16,e17,S18⟩:=S2.stGv (i:=0) (j:=0) (own:=false) (σ:=(19::0::1::0::0::σ)) (xs:=[(.p (.int .i64 ((r4.getD 0 0)))),(.p (.int .i64 ((r4.getD 1 0)))),(.p (.int .i64 ((r4.getD 2 0)))),(.p (.int .i64 ((r4.getD 3 0))))]) rfl rfl (sC (sI _ _) (sC (sI _ _) (sC (sI _ _) (sC (sI _ _) sN)))) rfl rfl
   refine .op (sM e17) ?_
   refine .nc ?_
   refine .fa ?_
   refine .op (hc0_2.ld (S18.atB (i:=0) rfl) (j:=2) rfl) ?_
   refine .op (hc0_2.eqNil (e:=3) (by kernel_rfl) hn0_2) ?_
   refine .ab ?_
   refine .ch (P:=fun r y=>(.p (.bool r),H16)=y) ?_ (fun b24 y25 h26 h27=>?_)
   ·refine .cq ?_ ?_
    ·exact .ret rfl rfl
    ·refine .op ((S18.atG (i:=0) rfl).ldVs (j:=0) (xs:=[(.p (.int .i64 ((r4.getD 0 0)))),(.p (.int .i64 ((r4.getD 1 0)))),(.p (.int .i64 ((r4.getD 2 0)))),(.p (.int .i64 ((r4.getD 3 0))))]) rfl rfl (by decide)) ?_
     refine .nc ?_
     refine .fa ?_
     refine .op ((S18.atB (i:=0) rfl).ldVs (j:=3) (xs:=[.p (.int .i64 ((x0.good.getD 0 0))),.p (.int .i64 ((x0.good.getD 1 0))),.p (.int .i64 ((x0.good.getD 2 0))),.p (.int .i64 ((x0.good.getD 3 0)))]) rfl rfl (by decide)) ?_
     refine .call (zgl k r4 h10 ([((x0.good.getD 0 0)),((x0.good.getD 1 0)),((x0.good.getD 2 0)),((x0.good.getD 3 0))]) (show (dA 4 (dI .i64)).R ([((x0.good.getD 0 0)),((x0.good.getD 1 0)),((x0.good.getD 2 0)),((x0.good.getD 3 0))]) [.p (.int .i64 ((x0.good.getD 0 0))),.p (.int .i64 ((x0.good.getD 1 0))),.p (.int .i64 ((x0.good.getD 2 0))),.p (.int .i64 ((x0.good.getD 3 0)))] from (⟨rfl,dI_map [((x0.good.getD 0 0)),((x0.good.getD 1 0)),((x0.good.getD 2 0)),((x0.good.getD 3 0))]⟩:(dA 4 (dI .i64)).R [((x0.good.getD 0 0)),((x0.good.getD 1 0)),((x0.good.getD 2 0)),((x0.good.getD 3 0))] [.p (.int .i64 ((x0.good.getD 0 0))),.p (.int .i64 ((x0.good.getD 1 0))),.p (.int .i64 ((x0.good.getD 2 0))),.p (.int .i64 ((x0.good.getD 3 0)))]))) fun r19 cs20 H21 h22 q23=>?_
     cases q23
     refine .ab ?_
     exact .ret rfl rfl
   subst h27
   refine .ab ?_
   refine .ch (P:=fun r y=>r=y) ?_ (fun b32 y33 h34 h35=>?_)
   ·refine .cq ?_ ?_
    ·exact .ret rfl rfl
    ·refine .op ((S18.atG (i:=0) rfl).ldVs (j:=0) (xs:=[(.p (.int .i64 ((r4.getD 0 0)))),(.p (.int .i64 ((r4.getD 1 0)))),(.p (.int .i64 ((r4.getD 2 0)))),(.p (.int .i64 ((r4.getD 3 0))))]) rfl rfl (by decide)) ?_
     refine .nc ?_
     refine .fa ?_
     refine .op ((S18.atB (i:=0) rfl).ldVs (j:=3) (xs:=[.p (.int .i64 ((x0.good.getD 0 0))),.p (.int .i64 ((x0.good.getD 1 0))),.p (.int .i64 ((x0.good.getD 2 0))),.p (.int .i64 ((x0.good.getD 3 0)))]) rfl rfl (by decide)) ?_
     refine .op (eqS_ok (by kernel_rfl:_=andL [((r4.getD 0 0))==((x0.good.getD 0 0)),((r4.getD 1 0))==((x0.good.getD 1 0)),((r4.getD 2 0))==((x0.good.getD 2 0)),((r4.getD 3 0))==((x0.good.getD 3 0))])) ?_
     refine .ab ?_
     refine .ch (P:=fun r y=>r=y) ?_ (fun b28 y29 h30 h31=>?_)
     ·refine .cq ?_ ?_
      ·refine .nc ?_
       refine .fa ?_
       refine .op ((S18.atB (i:=0) rfl).ld (j:=7) rfl) ?_
       refine .ci ?_
       exact .ret rfl rfl
      ·exact .ret rfl rfl
     subst h31
     exact .ret rfl rfl
   subst h35
   refine .cq ?_ ?_
   ·refine .nc ?_
    refine .fa ?_
    refine .op (hc0_1.ld (S18.atB (i:=0) rfl) (j:=1) rfl) ?_
    refine .op ((S18.atG (i:=0) rfl).ldVs (j:=0) (xs:=[(.p (.int .i64 ((r4.getD 0 0)))),(.p (.int .i64 ((r4.getD 1 0)))),(.p (.int .i64 ((r4.getD 2 0)))),(.p (.int .i64 ((r4.getD 3 0))))]) rfl rfl (by decide)) ?_
    refine .call (zis (b:=8) (f:=77) (tt:=3) (e:=1) (τ:=fun σ=>_::_::_::_::_::σ) (fun x h=>z45 _ _ _ x h) (hc0_1.sl (S18.atB (i:=0) rfl) (j:=1) rfl) rfl (by decide) (by decide) (by decide) (by kernel_rfl) (by kernel_rfl) rfl) fun r37 cs38 H39 h40 q41=>?_
    obtain ⟨c42,cs43,h44,h45,q41⟩:=q41
    cases q41
    obtain ⟨v46,H47,e48,S49⟩:=S18.land (dt:=(dI .i64)) (d:=70) (e:=0) (n:=0) h44 h45 (by decide) rfl
    erw [e48]
    refine .nd ((S49.atG (i:=0) rfl).ldVs (j:=0) (xs:=[(.p (.int .i64 ((r4.getD 0 0)))),(.p (.int .i64 ((r4.getD 1 0)))),(.p (.int .i64 ((r4.getD 2 0)))),(.p (.int .i64 ((r4.getD 3 0))))]) rfl rfl (by decide)) ?_
    refine .nc ?_
    refine .fa ?_
    refine .bd fun _ h58=>?_
    obtain ⟨c54,H51,e52,h55,h57,S53⟩:=S49.mvB (i:=0) (j:=2) (k:=0) (σ:=(12::1::0::1::1::0::0::σ)) rfl rfl rfl rfl rfl
    have h56:=Nq.mk (k:=1) h55 h57 rfl h58
    refine .op (sM e52) ?_
    refine .nd ((S53.atG (i:=0) rfl).ldVs (j:=0) (xs:=[(.p (.int .i64 ((r4.getD 0 0)))),(.p (.int .i64 ((r4.getD 1 0)))),(.p (.int .i64 ((r4.getD 2 0)))),(.p (.int .i64 ((r4.getD 3 0))))]) rfl rfl (by decide)) ?_
    refine .nc ?_
    refine .fa ?_
    obtain ⟨H59,e60,S61⟩:=S53.stBv (i:=0) (j:=3) (own:=false) (σ:=(15::1::0::1::1::0::0::σ)) (xs:=[(.p (.int .i64 ((r4.getD 0 0)))),(.p (.int .i64 ((r4.getD 1 0)))),(.p (.int .i64 ((r4.getD 2 0)))),(.p (.int .i64 ((r4.getD 3 0))))]) rfl (sC (sI _ _) (sC (sI _ _) (sC (sI _ _) (sC (sI _ _) sN)))) rfl rfl
    refine .op (sM e60) ?_
    refine .nc ?_
    refine .fa ?_
    obtain ⟨H62,e63,S64⟩:=S61.stB (i:=0) (j:=7) (own:=true) (σ:=(18::1::0::1::1::0::0::σ)) (x:=(.p (.int .i64 r11))) rfl (sI _ _) rfl
    refine .op (sM e63) ?_
    exact .fin (S64.finN lN) ⟨u0_0,c0_1,c54,hu0_0,hc0_1,hn0_1,h55,h56,rfl⟩
   exact .fin (S18.finN lN) ⟨u0_0,c0_1,c0_2,hu0_0,hc0_1,hn0_1,hc0_2,hn0_2,rfl⟩
  refine .as (zap (@ih) ?_ k x1 x2 (-1) ((⟨x0.l,x0.now,x0.best,[((x0.good.getD 0 0)),((x0.good.getD 1 0)),((x0.good.getD 2 0)),((x0.good.getD 3 0))],x0.cost⟩:za)) u0_0 hu0_0 c0_1 hc0_1 hn0_1 c0_2 hc0_2 hn0_2 (List.replicate 143 []::h) (S0.wk2 aN aN))
  ·intro zp0 v189 h190 c191 h192 h193 c194 h195 h196 H187 S188
   refine .ext (zb3 _ _ _ _) ?_
   exact .fin (S188.finN lN) ⟨v189,c191,c194,h190,h192,h193,h195,h196,rfl⟩
def z9x (k:Nat) (x0:(List z5)) (x1:Int):Option ((List Int)) :=
bif ((if ((x0.length:Int))<8 then ((x0.length:Int)) else 8))==0 then (
some ((([]:List Int))))
else (
(sub x0 0 ((if ((x0.length:Int))<8 then ((x0.length:Int)) else 8))).bind fun a2 =>
(mk 8 0 ((if ((x0.length:Int))<8 then ((x0.length:Int)) else 8))).bind fun a4 =>
(z3n k (⟨a2,a4,(([]:List Int)),[0,0,0,0],0⟩:za) 0 ((if ((if 4096<x1 then 4096 else x1))>0 then ((if 4096<x1 then 4096 else x1)) else 0))).bind fun r27 =>
bif decide (0<(IntKind.wrap .i64 (((x0.length:Int))-((if ((x0.length:Int))<8 then ((x0.length:Int)) else 8))))) then (
none)
else (
some (r27.best)))
theorem zjg (k:Nat) {h:H} {σ:Stamp} (x0:List z5) {u0:V} (hu0:SlF z4 x0 u0) (x1:Int):Sim (z9x k x0 x1) (ev G X0 72 σ [u0,(.p (.int .i64 x1))] h) (fun r s=>∃ (c0:C),∃ (a0:List V),OwnS c0 (dI .i64).sz r.length a0∧(dI .i64).L r a0∧s=([c0],h)):=by
 refine .ev rfl (Sim.ext (zg3 _ _ _ _ _ _) ?_)
 rw [z9x]
 have S0:Fm 41 h [] [] [] (List.replicate 41 []::h):=Fm.start0
 refine .op ((hu0.h (List.replicate 41 []::h)).len) ?_
 refine .ci ?_
 refine .cq ?_ ?_
 ·exact .fin (S0.finN (lC (SlF.nil (dI .i64)).still.lv lN)) ⟨(.v (.p (.slice none 0 0))),[],⟨by simp,.inl ⟨rfl,rfl,.inl rfl⟩⟩,rfl,rfl⟩
 refine .bd fun a2 h3=>?_
 refine .op ((hu0.h (List.replicate 41 []::h)).slS h3 rfl rfl rfl) ?_
 refine .bd fun a4 h5=>?_
 obtain ⟨v6,H7,e8,S9⟩:=S0.mk (dt:=(dI .i64)) (d:=17) (e:=1) (zv:=[(.p (.int .i64 0))]) (σ:=(4::0::1::1::1::0::σ)) h5 rfl rfl (by decide) (by decide) rfl
 refine .op (e8) ?_
 refine .nd ((hu0.h H7).slS h3 rfl rfl rfl) ?_
 obtain ⟨v11,H12,e13,h14,S15⟩:=S9.layD (i:=0) rfl rfl
 have e16:layCs false H7 [(subV 3 u0 (Int.toNat (0)) (Int.toNat ((if ((x0.length:Int))<8 then ((x0.length:Int)) else 8)))),v6,(.p (.slice none 0 0)),(.p (.int .i64 0)),(.p (.int .i64 0)),(.p (.int .i64 0)),(.p (.int .i64 0)),(.p (.int .i64 0))]=some (List.map C.v [(subV 3 u0 (Int.toNat (0)) (Int.toNat ((if ((x0.length:Int))<8 then ((x0.length:Int)) else 8)))),v11,.p (.slice none 0 0),.p (.int .i64 0),.p (.int .i64 0),.p (.int .i64 0),.p (.int .i64 0),.p (.int .i64 0)],H12):=(lc_pl (hu0.sub h3 (e:=3) rfl).still (lc_st e13 (lc_pl (SlF.nil (dI .i64)).still (lc_pl (sI _ _) (lc_pl (sI _ _) (lc_pl (sI _ _) (lc_pl (sI _ _) (lc_pl (sI _ _) lc_nil))))))))
 refine .op (bldV (pC (hu0.sub h3 (e:=3) rfl).still.cells (pC (S9.cellsD (i:=0) rfl) pN)) (by kernel_rfl:_=some (.agg [(subV 3 u0 (Int.toNat (0)) (Int.toNat ((if ((x0.length:Int))<8 then ((x0.length:Int)) else 8)))),v6,(.p (.slice none 0 0)),(.p (.int .i64 0)),(.p (.int .i64 0)),(.p (.int .i64 0)),(.p (.int .i64 0)),(.p (.int .i64 0))]))) ?_
 obtain ⟨c20,H21,e22,h23,h24,S25⟩:=S9.layO (k:=0) rfl rfl rfl
 obtain ⟨H17,e18,S19⟩:=S25.boxL (d:=19) (s:=(6::0::1::1::1::0::σ)) (xs:=[(subV 3 u0 (Int.toNat (0)) (Int.toNat ((if ((x0.length:Int))<8 then ((x0.length:Int)) else 8)))),v6,(.p (.slice none 0 0)),(.p (.int .i64 0)),(.p (.int .i64 0)),(.p (.int .i64 0)),(.p (.int .i64 0)),(.p (.int .i64 0))]) (lo_pl (hu0.sub h3 (e:=3) rfl).still (lo_ow e22 (lo_pl (SlF.nil (dI .i64)).still (lo_pl (sI _ _) (lo_pl (sI _ _) (lo_pl (sI _ _) (lo_pl (sI _ _) (lo_pl (sI _ _) lo_nil)))))))) (by decide) rfl
 refine .op (e18) ?_
 refine .call (zcr k (⟨a2,a4,(([]:List Int)),[0,0,0,0],0⟩:za) (hu0.sub h3 (e:=3) rfl) h23 h24 (SoC.frz (SlF.nil (dI .i64))) Nq.nil (S19.atG (i:=0) rfl) 0 ((if ((if 4096<x1 then 4096 else x1))>0 then ((if 4096<x1 then 4096 else x1)) else 0))) fun r27 cs28 H29 h30 q31=>?_
 obtain ⟨v32,c34,c37,h33,h35,h36,h38,h39,q31⟩:=q31
 cases q31
 have S40:=S19.setG (i:=0) (cs':=[.v v32,c34,c37,.v (.p (.int .i64 ((r27.good.getD 0 0)))),.v (.p (.int .i64 ((r27.good.getD 1 0)))),.v (.p (.int .i64 ((r27.good.getD 2 0)))),.v (.p (.int .i64 ((r27.good.getD 3 0)))),.v (.p (.int .i64 r27.cost))]) rfl rfl rfl
 refine .nc ?_
 refine .fa ?_
 refine .op (h38.ld (S40.atG (i:=0) rfl) (j:=2) rfl) ?_
 refine .op ((hu0.h (ptC H17 ⟨h.length,19,0,(6::0::1::1::1::0::σ),[]⟩ 0 ([.v v32,c34,c37,.v (.p (.int .i64 ((r27.good.getD 0 0)))),.v (.p (.int .i64 ((r27.good.getD 1 0)))),.v (.p (.int .i64 ((r27.good.getD 2 0)))),.v (.p (.int .i64 ((r27.good.getD 3 0)))),.v (.p (.int .i64 r27.cost))]))).len) ?_
 refine .ci ?_
 refine .as ?_
 refine .round (Sim.ext (zjz _ _ _ _ _ _ _) ?_)
 refine .cq ?_ ?_
 ·exact .no
 refine .pure ?_
 refine .ext (zh0 _ _ _ _ _) ?_
 obtain ⟨v42,e43,c44,cs45,H46,e47,h48,h49,S50⟩:=S40.clipC (G:=G) (X:=X0) (i:=0) (j:=2) (f:=69) (d:=40) (e:=1) (fun x h=>z7x _ _ _ x h) rfl rfl rfl h38 (Nq.nn h39) rfl (fun _=>rfl)
 refine .op (e43) ?_
 exact .fin (S50.finE (Ex.st (e47 _) Ex.nil)) ⟨c44,cs45,h48,h49,rfl⟩
end
end Go.Ev
namespace Go.Ev
open Go.Proofs
set_option linter.unusedVariables false
set_option linter.unusedSimpArgs false
set_option maxRecDepth 100000
noncomputable section
abbrev KT30:=Exit→Env→H→Option (List C × H)
variable (rec : CallF) (loop : LoopV) (σ : Stamp)
def z6e:Code:=(codeAt (bodyOf Try.f73) [1,1,0,1,0,0])
def z6r:Lv:=⟨7,64,[(0,7)]⟩
def z90:KT30:=(kBlock 0 (kSeq G rec loop (codeAt (bodyOf Try.f73) [1,1,1]) ⟨64,64,[]⟩ (1::1::0::σ) (finC G false Try.f73 (1::σ))))
theorem zfy (x0:V) (x1:V) (x2:Int) (h:H):cvBody G rec loop 73 σ [x0,x1,(.p (.int .i64 x2))] h =
(lenO x0).bind fun t1 =>
(castI .i64 t1).bind fun n2 =>
(lenO x1).bind fun t3 =>
(castI .i64 t3).bind fun n4 =>
bif n2 != n4 then (
fin false σ (List.replicate 34 []::h) [(.p (.bool false))])
else (
(lenO x1).bind fun t5 =>
(castI .i64 t5).bind fun n6 =>
(loop z6e z6r (1::0::1::1::0::σ) (envL [(0,x0),(1,x1),(2,(.p (.int .i64 x2))),(14,x1),(15,(.p (.int .i64 n6))),(16,(.p (.int .i64 0)))]) (List.replicate 34 []::h)).bind fun r7=>z90 rec loop σ r7.1 r7.2.1 r7.2.2):=by kernel_rfl
theorem zjq (x0:V) (x1:V) (x2:Int) (x14:V) (x15:Int) (x16:Int) (h:H):zo G rec loop z6e z6r σ (envL [(0,x0),(1,x1),(2,(.p (.int .i64 x2))),(14,x14),(15,(.p (.int .i64 x15))),(16,(.p (.int .i64 x16)))]) h =
bif decide (x16<x15) then (
(iS 1 x14 x16).bind fun t8 =>
(ldO false 1 h t8).bind fun t9 =>
(castI .i64 t9).bind fun n10 =>
(iS 3 x0 x16).bind fun t11 =>
(ldO true 3 h t11).bind fun t12 =>
(callO rec 124 (5::0::1::0::1::1::0::σ) [t12,(.p (.int .i64 n10))] h (some 26)).bind fun q13 =>
(asB q13.1).bind fun b14 =>
bif !b14 then (
some (.ret,(envL [(6,(.p (.bool false)))]),q13.2))
else (
loop z6e z6r (1::σ) (envL [(0,x0),(1,x1),(2,(.p (.int .i64 x2))),(14,x14),(15,(.p (.int .i64 x15))),(16,(.p (.int .i64 (IntKind.wrap .i64 (x16+1)))))]) q13.2))
else (
some ((.exit 0),(envL [(0,x0),(1,x1),(2,(.p (.int .i64 x2)))]),h)):=by kernel_rfl
theorem zgw (x0:V) (x1:V) (x2:Int) (h:H):z90 rec loop σ (.exit 0) (envL [(0,x0),(1,x1),(2,(.p (.int .i64 x2)))]) h =
(callO rec 75 (2::0::1::1::1::0::σ) [x0,x1] h (some 31)).bind fun q15 =>
(castI .i64 q15.1).bind fun n16 =>
fin false σ q15.2 [(.p (.bool (decide (n16≤x2))))]:=by kernel_rfl
theorem zek (x6:Bool) (h:H):z90 rec loop σ .ret (envL [(6,(.p (.bool x6)))]) h =
fin false σ h [(.p (.bool x6))]:=by kernel_rfl
end
end Go.Ev
namespace Go.Ev
open Go.Proofs
set_option linter.unusedVariables false
set_option linter.unusedSimpArgs false
set_option maxRecDepth 100000
section
variable {β α : Type} {Q : β→α→Prop} {K : Exit × Env × H→Option α}
def z5a {β:Type} (k:Nat) (kE0:(List z5)→(List Int)→Int→Option β) (kE1:Bool→Option β) (x0:(List z5)) (x1:(List Int)) (x2:Int) (x14:(List Int)) (x15:Int) (x16:Int):Option β:=match k with
| 0=>none
| k+1 =>
bif decide (x16<x15) then (
(ix x14 x16).bind fun a11 =>
(ix x0 x16).bind fun a14 =>
(z5s a14 a11).bind fun r23 =>
bif !r23 then (
kE1 false)
else (
z5a k kE0 kE1 x0 x1 x2 x14 x15 (IntKind.wrap .i64 (x16+1))))
else (
kE0 x0 x1 x2)
def za0 (k:Nat) (x0:(List z5)) (x1:(List Int)) (x2:Int):Option (Bool) :=
bif ((x0.length:Int)) != ((x1.length:Int)) then (
some (false))
else (
z5a k (fun r37_0 r37_1 r37_2 =>
(z5m k r37_0 r37_1).bind fun r44 =>
some ((decide (r44≤r37_2)))) (fun r49_6 =>
some (r49_6)) x0 x1 x2 x1 ((x1.length:Int)) 0)
theorem zfq {h:H}  {kE0:(List z5)→(List Int)→Int→Option β} {kE1:Bool→Option β} (hE0:∀ (q0:(List z5)) (q1:(List Int)) (q2:Int) (v31:V) (h32:SlH h z4 q0 v31) (v33:V) (h34:SlH h (dI .i64) q1 v33) (H29:Go.Ev.H) (_:Fm 34 h [] [] [] H29),Sim (kE0 q0 q1 q2) (K ((.exit 0),(envL [(0,v31),(1,v33),(2,(.p (.int .i64 q2)))]),H29)) Q) (hE1:∀ (q6:Bool) (H35:Go.Ev.H) (_:Fm 34 h [] [] [] H35),Sim (kE1 q6) (K (.ret,(envL [(6,(.p (.bool q6)))]),H35)) Q) (k:Nat):∀ (x0:(List z5)) (x1:(List Int)) (x2:Int) (x14:(List Int)) (x15:Int) (x16:Int) (v4:V) (h5:SlH h z4 x0 v4) (v6:V) (h7:SlH h (dI .i64) x1 v6) (v8:V) (h9:SlH h (dI .i64) x14 v8) (H2:Go.Ev.H) (_:Fm 34 h [] [] [] H2) {σ:Stamp},Sim (z5a k kE0 kE1 x0 x1 x2 x14 x15 x16) ((cvL G X0 z6e z6r σ (envL [(0,v4),(1,v6),(2,(.p (.int .i64 x2))),(14,v8),(15,(.p (.int .i64 x15))),(16,(.p (.int .i64 x16)))]) H2).bind K) Q:=by
 induction k with
 | zero=>intros;exact .no
 | succ k ih =>
  intro x0 x1 x2 x14 x15 x16 v4 h5 v6 h7 v8 h9 H2 S3 σ
  rw [z5a]
  refine .round (Sim.ext (zjq _ _ _ _ _ _ _ _ _ _) ?_)
  refine .cq ?_ ?_
  ·refine .bd fun a11 h12=>?_
   refine .op ((S3.low h9).iS h12 rfl) ?_
   obtain ⟨_,rfl,hE13⟩:=(S3.low h9).el h12 rfl
   refine .op (hE13.ld (j:=0) rfl) ?_
   refine .ci ?_
   refine .bd fun a14 h15=>?_
   refine .op ((S3.low h5).iS h15 rfl) ?_
   obtain ⟨w17,h18,hE16⟩:=(S3.low h5).el h15 rfl
   obtain ⟨v19,v21,rfl,h20,h22⟩:=z4.inv h18
   refine .op (hE16.all (by simp)) ?_
   refine .call (z96 a14 (show z4.R a14 [.p (.int .i64 a14.Class),v19,v21] from (z4.mk h20 h22)) a11) fun r23 cs24 H25 h26 q27=>?_
   cases q27
   refine .ab ?_
   refine .cq ?_ ?_
   ·exact hE1 false H2 (S3.wk2 aN aN)
   exact ih x0 x1 x2 x14 x15 (IntKind.wrap .i64 (x16+1)) v4 h5 v6 h7 v8 h9 H2 (S3.wk2 aN aN)
  exact hE0 x0 x1 x2 v4 h5 v6 h7 H2 (S3.wk2 aN aN)
theorem zjv (k:Nat) {h:H} {σ:Stamp} (x0:List z5) {u0:V} (hu0:SlH h z4 x0 u0) (x1:List Int) {u1:V} (hu1:SlH h (dI .i64) x1 u1) (x2:Int):Sim (za0 k x0 x1 x2) (ev G X0 73 σ [u0,u1,(.p (.int .i64 x2))] h) (fun r s=>s=([.v (.p (.bool r))],h)):=by
 refine .ev rfl (Sim.ext (zfy _ _ _ _ _ _ _) ?_)
 rw [za0]
 have S0:Fm 34 h [] [] [] (List.replicate 34 []::h):=Fm.start0
 refine .op ((S0.low hu0).len) ?_
 refine .ci ?_
 refine .op ((S0.low hu1).len) ?_
 refine .ci ?_
 refine .cq ?_ ?_
 ·exact .fin (S0.finN (lC (sB _).lv lN)) rfl
 refine .op ((S0.low hu1).len) ?_
 refine .ci ?_
 refine .as (zfq ?_ ?_ k x0 x1 x2 x1 ((x1.length:Int)) 0 u0 hu0 u1 hu1 u1 hu1 (List.replicate 34 []::h) (S0.wk2 aN aN))
 ·intro r37_0 r37_1 r37_2 v40 h41 v42 h43 H38 S39
  refine .ext (zgw _ _ _ _ _ _ _) ?_
  refine .call (z97 k r37_0 (S39.low h41) r37_1 (S39.low h43)) fun r44 cs45 H46 h47 q48=>?_
  cases q48
  refine .ci ?_
  exact .fin (S39.finN (lC (sB _).lv lN)) rfl
 ·intro r49_6 H50 S51
  refine .ext (zek _ _ _ _ _) ?_
  exact .fin (S51.finN (lC (sB _).lv lN)) rfl
end
end Go.Ev
namespace Go.Ev
open Go.Proofs
set_option linter.unusedVariables false
set_option linter.unusedSimpArgs false
set_option maxRecDepth 100000
noncomputable section
abbrev KT31:=Exit→Env→H→Option (List C × H)
variable (rec : CallF) (loop : LoopV) (σ : Stamp)
def z1t:Code:=(codeAt (bodyOf Try.f74) [1,1,0,1,0,0])
def z1s:Lv:=⟨0,16,[(0,0)]⟩
def z2r:KT31:=(kBlock 0 (kSeq G rec loop (codeAt (bodyOf Try.f74) [1,1,1]) ⟨16,16,[]⟩ (1::1::0::σ) (finC G false Try.f74 (1::σ))))
theorem z7k (x0:V) (x1:V) (h:H):cvBody G rec loop 74 σ [x0,x1] h =
(lenO x0).bind fun t1 =>
(castI .i64 t1).bind fun n2 =>
(lenO x1).bind fun t3 =>
(castI .i64 t3).bind fun n4 =>
bif n2 != n4 then (
fin false σ (List.replicate 26 []::h) [(.p (.bool false))])
else (
(lenO x0).bind fun t5 =>
(castI .i64 t5).bind fun n6 =>
(loop z1t z1s (1::0::1::1::0::σ) (envL [(0,x0),(1,x1),(12,(.p (.int .i64 n6))),(13,(.p (.int .i64 0)))]) (List.replicate 26 []::h)).bind fun r7=>z2r rec loop σ r7.1 r7.2.1 r7.2.2):=by kernel_rfl
theorem z91 (x0:V) (x1:V) (x12:Int) (x13:Int) (h:H):zo G rec loop z1t z1s σ (envL [(0,x0),(1,x1),(12,(.p (.int .i64 x12))),(13,(.p (.int .i64 x13)))]) h =
bif decide (x13<x12) then (
(iS 1 x0 x13).bind fun t8 =>
(ldO false 1 h t8).bind fun t9 =>
(castI .i64 t9).bind fun n10 =>
(iS 1 x1 x13).bind fun t11 =>
(ldO false 1 h t11).bind fun t12 =>
(castI .i64 t12).bind fun n13 =>
bif n10 != n13 then (
some (.ret,(envL [(4,(.p (.bool false)))]),h))
else (
loop z1t z1s (1::σ) (envL [(0,x0),(1,x1),(12,(.p (.int .i64 x12))),(13,(.p (.int .i64 (IntKind.wrap .i64 (x13+1)))))]) h))
else (
some ((.exit 0),(envL []),h)):=by kernel_rfl
theorem z7u  (h:H):z2r rec loop σ (.exit 0) (envL []) h =
fin false σ h [(.p (.bool true))]:=by kernel_rfl
theorem z6z (x4:Bool) (h:H):z2r rec loop σ .ret (envL [(4,(.p (.bool x4)))]) h =
fin false σ h [(.p (.bool x4))]:=by kernel_rfl
end
end Go.Ev
namespace Go.Ev
open Go.Proofs
set_option linter.unusedVariables false
set_option linter.unusedSimpArgs false
set_option maxRecDepth 100000
section
variable {β α : Type} {Q : β→α→Prop} {K : Exit × Env × H→Option α}
def z1h {β:Type} (k:Nat) (kE0:Unit→Option β) (kE1:Bool→Option β) (x0:(List Int)) (x1:(List Int)) (x12:Int) (x13:Int):Option β:=match k with
| 0=>none
| k+1 =>
bif decide (x13<x12) then (
(ix x0 x13).bind fun a9 =>
(ix x1 x13).bind fun a12 =>
bif a9 != a12 then (
kE1 false)
else (
z1h k kE0 kE1 x0 x1 x12 (IntKind.wrap .i64 (x13+1))))
else (
kE0 ())
def z30 (k:Nat) (x0:(List Int)) (x1:(List Int)):Option (Bool) :=
bif ((x0.length:Int)) != ((x1.length:Int)) then (
some (false))
else (
z1h k (fun (_:Unit) =>
some (true)) (fun r23_4 =>
some (r23_4)) x0 x1 ((x0.length:Int)) 0)
theorem z7l {h:H}  {kE0:Unit→Option β} {kE1:Bool→Option β} (hE0:∀ (_u:Unit) (H16:Go.Ev.H) (_:Fm 26 h [] [] [] H16),Sim (kE0 ()) (K ((.exit 0),(envL []),H16)) Q) (hE1:∀ (q4:Bool) (H18:Go.Ev.H) (_:Fm 26 h [] [] [] H18),Sim (kE1 q4) (K (.ret,(envL [(4,(.p (.bool q4)))]),H18)) Q) (k:Nat):∀ (x0:(List Int)) (x1:(List Int)) (x12:Int) (x13:Int) (v4:V) (h5:SlH h (dI .i64) x0 v4) (v6:V) (h7:SlH h (dI .i64) x1 v6) (H2:Go.Ev.H) (_:Fm 26 h [] [] [] H2) {σ:Stamp},Sim (z1h k kE0 kE1 x0 x1 x12 x13) ((cvL G X0 z1t z1s σ (envL [(0,v4),(1,v6),(12,(.p (.int .i64 x12))),(13,(.p (.int .i64 x13)))]) H2).bind K) Q:=by
 induction k with
 | zero=>intros;exact .no
 | succ k ih =>
  intro x0 x1 x12 x13 v4 h5 v6 h7 H2 S3 σ
  rw [z1h]
  refine .round (Sim.ext (z91 _ _ _ _ _ _ _ _) ?_)
  refine .cq ?_ ?_
  ·refine .bd fun a9 h10=>?_
   refine .op ((S3.low h5).iS h10 rfl) ?_
   obtain ⟨_,rfl,hE11⟩:=(S3.low h5).el h10 rfl
   refine .op (hE11.ld (j:=0) rfl) ?_
   refine .ci ?_
   refine .bd fun a12 h13=>?_
   refine .op ((S3.low h7).iS h13 rfl) ?_
   obtain ⟨_,rfl,hE14⟩:=(S3.low h7).el h13 rfl
   refine .op (hE14.ld (j:=0) rfl) ?_
   refine .ci ?_
   refine .cq ?_ ?_
   ·exact hE1 false H2 (S3.wk2 aN aN)
   exact ih x0 x1 x12 (IntKind.wrap .i64 (x13+1)) v4 h5 v6 h7 H2 (S3.wk2 aN aN)
  exact hE0 () H2 (S3.wk2 aN aN)
theorem z8l (k:Nat) {h:H} {σ:Stamp} (x0:List Int) {u0:V} (hu0:SlH h (dI .i64) x0 u0) (x1:List Int) {u1:V} (hu1:SlH h (dI .i64) x1 u1):Sim (z30 k x0 x1) (ev G X0 74 σ [u0,u1] h) (fun r s=>s=([.v (.p (.bool r))],h)):=by
 refine .ev rfl (Sim.ext (z7k _ _ _ _ _ _) ?_)
 rw [z30]
 have S0:Fm 26 h [] [] [] (List.replicate 26 []::h):=Fm.start0
 refine .op ((S0.low hu0).len) ?_
 refine .ci ?_
 refine .op ((S0.low hu1).len) ?_
 refine .ci ?_
 refine .cq ?_ ?_
 ·exact .fin (S0.finN (lC (sB _).lv lN)) rfl
 refine .op ((S0.low hu0).len) ?_
 refine .ci ?_
 refine .as (z7l ?_ ?_ k x0 x1 ((x0.length:Int)) 0 u0 hu0 u1 hu1 (List.replicate 26 []::h) (S0.wk2 aN aN))
 ·intro _u H21 S22
  refine .ext (z7u _ _ _ _) ?_
  exact .fin (S22.finN (lC (sB _).lv lN)) rfl
 ·intro r23_4 H24 S25
  refine .ext (z6z _ _ _ _ _) ?_
  exact .fin (S25.finN (lC (sB _).lv lN)) rfl
def z25 (k:Nat) (x0:(List z5)) (x1:Int) (x2:(List Int)):Option ((List Int)) :=
(z9x k x0 x1).bind fun r1 =>
(za0 k x0 x2 x1).bind fun r15 =>
(bif r15 then ((z30 k x2 r1).bind fun r20 =>
some (!r20)) else (some false)).bind fun b25 =>
(bif b25 then ((z5m k x0 r1).bind fun r29 =>
(z3u x1).bind fun r34 =>
some (decide (r29>(IntKind.wrap .i64 (x1-r34))))) else (some false)).bind fun b39 =>
bif b39 then (
(zgu 8 x2).bind fun r44 =>
some (r44))
else (
some (r1))
theorem z34 (k:Nat) {h:H} {σ:Stamp} (x0:List z5) {u0:V} (hu0:SlF z4 x0 u0) (x1:Int) (x2:List Int) {u2:V} (hu2:SlH h (dI .i64) x2 u2):Sim (z25 k x0 x1 x2) (ev G X0 33 σ [u0,(.p (.int .i64 x1)),u2] h) (fun r s=>∃ (c0:C),∃ (a0:List V),OwnS c0 (dI .i64).sz r.length a0∧(dI .i64).L r a0∧s=([c0],h)):=by
 refine .ev rfl (Sim.ext (ze8 _ _ _ _ _ _ _) ?_)
 rw [z25]
 have S0:Fm 34 h [] [] [] (List.replicate 34 []::h):=Fm.start0
 refine .call (zjg k x0 hu0 x1) fun r1 cs2 H3 h4 q5=>?_
 obtain ⟨c6,cs7,h8,h9,q5⟩:=q5
 cases q5
 obtain ⟨v10,H11,e12,S13⟩:=S0.land (dt:=(dI .i64)) (d:=10) (e:=0) (n:=0) h8 h9 (by decide) rfl
 erw [e12]
 refine .call (zjv k x0 (hu0.h H11) x2 (S13.low hu2) x1) fun r15 cs16 H17 h18 q19=>?_
 cases q19
 refine .ab ?_
 refine .ch (P:=fun r y=>(.p (.bool r),H11)=y) ?_ (fun b25 y26 h27 h28=>?_)
 ·refine .cq ?_ ?_
  ·refine .call (z8l k x2 (S13.low hu2) r1 (S13.sl (i:=0) rfl)) fun r20 cs21 H22 h23 q24=>?_
   cases q24
   refine .ab ?_
   exact .ret rfl rfl
  ·exact .ret rfl rfl
 subst h28
 refine .ab ?_
 refine .ch (P:=fun r y=>(.p (.bool r),H11)=y) ?_ (fun b39 y40 h41 h42=>?_)
 ·refine .cq ?_ ?_
  ·refine .call (z97 k x0 (hu0.h H11) r1 (S13.sl (i:=0) rfl)) fun r29 cs30 H31 h32 q33=>?_
   cases q33
   refine .ci ?_
   refine .call (z6o x1) fun r34 cs35 H36 h37 q38=>?_
   cases q38
   refine .ci ?_
   exact .ret rfl rfl
  ·exact .ret rfl rfl
 subst h42
 refine .ab ?_
 refine .cq ?_ ?_
 ·refine .call (zis (b:=8) (f:=77) (tt:=3) (e:=1) (τ:=fun σ=>_::_::_::_::_::σ) (fun x h=>z45 _ _ _ x h) (S13.low hu2) rfl (by decide) (by decide) (by decide) (by kernel_rfl) (by kernel_rfl) rfl) fun r44 cs45 H46 h47 q48=>?_
  obtain ⟨c49,cs50,h51,h52,q48⟩:=q48
  cases q48
  obtain ⟨v53,H54,e55,S56⟩:=S13.land (dt:=(dI .i64)) (d:=32) (e:=0) (n:=0) h51 h52 (by decide) rfl
  erw [e55]
  obtain ⟨c63,cs64,H58,e59,h61,h62,S60⟩:=S56.expOwn (i:=0) (τ:=0::1::σ) rfl rfl rfl
  exact .fin (S60.finE (Ex.st e59 Ex.nil)) ⟨c63,cs64,h61,h62,rfl⟩
 obtain ⟨c70,cs71,H65,e66,h68,h69,S67⟩:=S13.expOwn (i:=0) (τ:=0::1::σ) rfl rfl rfl
 exact .fin (S67.finE (Ex.st e66 Ex.nil)) ⟨c70,cs71,h68,h69,rfl⟩
end
end Go.Ev
namespace Go.Ev
open Go.Proofs
set_option linter.unusedVariables false
set_option linter.unusedSimpArgs false
set_option maxRecDepth 100000
noncomputable section
abbrev KT32:=Exit→Env→H→Option (List C × H)
variable (rec : CallF) (loop : LoopV) (σ : Stamp)
def z6f:Code:=(codeAt (bodyOf Try.f36) [1,1,0,1,0,0])
def z6i:Lv:=⟨0,16,[(0,0)]⟩
def z8z:KT32:=(kBlock 0 (kSeq G rec loop (codeAt (bodyOf Try.f36) [1,1,1]) ⟨16,16,[]⟩ (1::1::0::σ) (finC G false Try.f36 (1::σ))))
theorem zg2 (x0:V) (x1:V) (h:H):cvBody G rec loop 36 σ [x0,x1] h =
(lenO x0).bind fun t1 =>
(castI .i64 t1).bind fun n2 =>
(lenO x1).bind fun t3 =>
(castI .i64 t3).bind fun n4 =>
bif n2 != n4 then (
fin false σ (List.replicate 26 []::h) [(.p (.bool false))])
else (
(lenO x0).bind fun t5 =>
(castI .i64 t5).bind fun n6 =>
(loop z6f z6i (1::0::1::1::0::σ) (envL [(0,x0),(1,x1),(12,(.p (.int .i64 n6))),(13,(.p (.int .i64 0)))]) (List.replicate 26 []::h)).bind fun r7=>z8z rec loop σ r7.1 r7.2.1 r7.2.2):=by kernel_rfl
theorem zir (x0:V) (x1:V) (x12:Int) (x13:Int) (h:H):zo G rec loop z6f z6i σ (envL [(0,x0),(1,x1),(12,(.p (.int .i64 x12))),(13,(.p (.int .i64 x13)))]) h =
bif decide (x13<x12) then (
(iS 1 x0 x13).bind fun t8 =>
(ldO false 1 h t8).bind fun t9 =>
(castI .i64 t9).bind fun n10 =>
(iS 1 x1 x13).bind fun t11 =>
(ldO false 1 h t11).bind fun t12 =>
(castI .i64 t12).bind fun n13 =>
bif n10 != n13 then (
some (.ret,(envL [(4,(.p (.bool false)))]),h))
else (
loop z6f z6i (1::σ) (envL [(0,x0),(1,x1),(12,(.p (.int .i64 x12))),(13,(.p (.int .i64 (IntKind.wrap .i64 (x13+1)))))]) h))
else (
some ((.exit 0),(envL []),h)):=by kernel_rfl
theorem zgb  (h:H):z8z rec loop σ (.exit 0) (envL []) h =
fin false σ h [(.p (.bool true))]:=by kernel_rfl
theorem zeg (x4:Bool) (h:H):z8z rec loop σ .ret (envL [(4,(.p (.bool x4)))]) h =
fin false σ h [(.p (.bool x4))]:=by kernel_rfl
end
end Go.Ev
namespace Go.Ev
open Go.Proofs
set_option linter.unusedVariables false
set_option linter.unusedSimpArgs false
set_option maxRecDepth 100000
section
variable {β α : Type} {Q : β→α→Prop} {K : Exit × Env × H→Option α}
def z5i {β:Type} (k:Nat) (kE0:Unit→Option β) (kE1:Bool→Option β) (x0:(List Int)) (x1:(List Int)) (x12:Int) (x13:Int):Option β:=match k with
| 0=>none
| k+1 =>
bif decide (x13<x12) then (
(ix x0 x13).bind fun a9 =>
(ix x1 x13).bind fun a12 =>
bif a9 != a12 then (
kE1 false)
else (
z5i k kE0 kE1 x0 x1 x12 (IntKind.wrap .i64 (x13+1))))
else (
kE0 ())
def z2k (k:Nat) (x0:(List Int)) (x1:(List Int)):Option (Bool) :=
bif ((x0.length:Int)) != ((x1.length:Int)) then (
some (false))
else (
z5i k (fun (_:Unit) =>
some (true)) (fun r23_4 =>
some (r23_4)) x0 x1 ((x0.length:Int)) 0)
theorem zg7 {h:H}  {kE0:Unit→Option β} {kE1:Bool→Option β} (hE0:∀ (_u:Unit) (H16:Go.Ev.H) (_:Fm 26 h [] [] [] H16),Sim (kE0 ()) (K ((.exit 0),(envL []),H16)) Q) (hE1:∀ (q4:Bool) (H18:Go.Ev.H) (_:Fm 26 h [] [] [] H18),Sim (kE1 q4) (K (.ret,(envL [(4,(.p (.bool q4)))]),H18)) Q) (k:Nat):∀ (x0:(List Int)) (x1:(List Int)) (x12:Int) (x13:Int) (v4:V) (h5:SlH h (dI .i64) x0 v4) (v6:V) (h7:SlH h (dI .i64) x1 v6) (H2:Go.Ev.H) (_:Fm 26 h [] [] [] H2) {σ:Stamp},Sim (z5i k kE0 kE1 x0 x1 x12 x13) ((cvL G X0 z6f z6i σ (envL [(0,v4),(1,v6),(12,(.p (.int .i64 x12))),(13,(.p (.int .i64 x13)))]) H2).bind K) Q:=by
 induction k with
 | zero=>intros;exact .no
 | succ k ih =>
  intro x0 x1 x12 x13 v4 h5 v6 h7 H2 S3 σ
  rw [z5i]
  refine .round (Sim.ext (zir _ _ _ _ _ _ _ _) ?_)
  refine .cq ?_ ?_
  ·refine .bd fun a9 h10=>?_
   refine .op ((S3.low h5).iS h10 rfl) ?_
   obtain ⟨_,rfl,hE11⟩:=(S3.low h5).el h10 rfl
   refine .op (hE11.ld (j:=0) rfl) ?_
   refine .ci ?_
   refine .bd fun a12 h13=>?_
   refine .op ((S3.low h7).iS h13 rfl) ?_
   obtain ⟨_,rfl,hE14⟩:=(S3.low h7).el h13 rfl
   refine .op (hE14.ld (j:=0) rfl) ?_
   refine .ci ?_
   refine .cq ?_ ?_
   ·exact hE1 false H2 (S3.wk2 aN aN)
   exact ih x0 x1 x12 (IntKind.wrap .i64 (x13+1)) v4 h5 v6 h7 H2 (S3.wk2 aN aN)
  exact hE0 () H2 (S3.wk2 aN aN)
theorem z44 (k:Nat) {h:H} {σ:Stamp} (x0:List Int) {u0:V} (hu0:SlH h (dI .i64) x0 u0) (x1:List Int) {u1:V} (hu1:SlH h (dI .i64) x1 u1):Sim (z2k k x0 x1) (ev G X0 36 σ [u0,u1] h) (fun r s=>s=([.v (.p (.bool r))],h)):=by
 refine .ev rfl (Sim.ext (zg2 _ _ _ _ _ _) ?_)
 rw [z2k]
 have S0:Fm 26 h [] [] [] (List.replicate 26 []::h):=Fm.start0
 refine .op ((S0.low hu0).len) ?_
 refine .ci ?_
 refine .op ((S0.low hu1).len) ?_
 refine .ci ?_
 refine .cq ?_ ?_
 ·exact .fin (S0.finN (lC (sB _).lv lN)) rfl
 refine .op ((S0.low hu0).len) ?_
 refine .ci ?_
 refine .as (zg7 ?_ ?_ k x0 x1 ((x0.length:Int)) 0 u0 hu0 u1 hu1 (List.replicate 26 []::h) (S0.wk2 aN aN))
 ·intro _u H21 S22
  refine .ext (zgb _ _ _ _) ?_
  exact .fin (S22.finN (lC (sB _).lv lN)) rfl
 ·intro r23_4 H24 S25
  refine .ext (zeg _ _ _ _ _) ?_
  exact .fin (S25.finN (lC (sB _).lv lN)) rfl
def z6s (k:Nat) :Option (Bool) :=
(z25 k ([((⟨0,([2,6]),([1,5])⟩:z5))]) 8 (([]:List Int))).bind fun r4 =>
(z25 k ([((⟨0,([2,6]),([1,5])⟩:z5))]) 6 ([0])).bind fun r19 =>
(z25 k ([((⟨0,([2,6]),([1,5])⟩:z5))]) 16 ([0])).bind fun r34 =>
(z25 k ([((⟨0,([2,6]),([1,5])⟩:z5))]) 5 ([1])).bind fun r49 =>
(z3q 999).bind fun r63 =>
(bif r63==0 then ((z3q 4611686018427387904).bind fun r68 =>
some (r68==4096)) else (some false)).bind fun b73 =>
(bif b73 then ((z3u 80).bind fun r77 =>
some (r77==10)) else (some false)).bind fun b82 =>
(bif b82 then ((z2k k r4 ([1])).bind fun r87 =>
some r87) else (some false)).bind fun b92 =>
(bif b92 then ((z2k k r19 ([1])).bind fun r97 =>
some r97) else (some false)).bind fun b102 =>
(bif b102 then ((z2k k r34 ([1])).bind fun r107 =>
some r107) else (some false)).bind fun b112 =>
(bif b112 then ((z2k k r49 ([0])).bind fun r117 =>
some r117) else (some false)).bind fun b122 =>
bif b122 then ((z25 k ([((⟨0,([2,6]),([1,5])⟩:z5))]) 8 ([0])).bind fun r127 =>
(z2k k r127 ([1])).bind fun r142 =>
(bif r142 then ((z4p 5 1 0 true).bind fun r147 =>
some (((r147.Costs.length:Int))==0)) else (some false)).bind fun b158 =>
(bif b158 then ((z3q (-5)).bind fun r162 =>
some (r162==0)) else (some false)).bind fun b167 =>
(bif b167 then ((z3u (-80)).bind fun r171 =>
some (r171==0)) else (some false)).bind fun b176 =>
bif b176 then ((z25 k ([((⟨0,([2,15]),([1,5])⟩:z5))]) 16 ([0])).bind fun r184 =>
(z2k k r184 ([0])).bind fun r199 =>
some (r199)) else (some (false))) else (some (false))
theorem zic (k:Nat) {h:H} {σ:Stamp} :Sim (z6s k ) (ev G X0 38 σ [] h) (fun r s=>s=([.v (.p (.bool r))],h)):=by
 refine .ev rfl (Sim.ext (zer _ _ _ _) ?_)
 rw [z6s]
 have S0:Fm 82 h [] [] [] (List.replicate 82 []::h):=Fm.start0
 have h1:SlF (dI .i64) [2,6] (.fz [(.p (.int .i64 2)),(.p (.int .i64 6))] 2 1 true):=SlF.lit (cs:=[(.p (.int .i64 2)),(.p (.int .i64 6))]) (RL.cons (show (dI .i64).R 2 [(.p (.int .i64 2))] from rfl) (RL.cons (show (dI .i64).R 6 [(.p (.int .i64 6))] from rfl) RL.nil)) rfl rfl true
 refine .op (bldS (pC rfl (pC rfl pN)) (by kernel_rfl:_=some (vOf h1))) ?_
 have h2:SlF (dI .i64) [1,5] (.fz [(.p (.int .i64 1)),(.p (.int .i64 5))] 2 1 true):=SlF.lit (cs:=[(.p (.int .i64 1)),(.p (.int .i64 5))]) (RL.cons (show (dI .i64).R 1 [(.p (.int .i64 1))] from rfl) (RL.cons (show (dI .i64).R 5 [(.p (.int .i64 5))] from rfl) RL.nil)) rfl rfl true
 refine .op (bldS (pC rfl (pC rfl pN)) (by kernel_rfl:_=some (vOf h2))) ?_
 refine .op (bldV (pC h1.still.cells (pC h2.still.cells pN)) (by kernel_rfl:_=some (.agg [.p (.int .i64 0),.fz [(.p (.int .i64 2)),(.p (.int .i64 6))] 2 1 true,.fz [(.p (.int .i64 1)),(.p (.int .i64 5))] 2 1 true]))) ?_
 have h3:SlF z4 [((⟨0,([2,6]),([1,5])⟩:z5))] (.fz [(.p (.int .i64 0)),(.fz [(.p (.int .i64 2)),(.p (.int .i64 6))] 2 1 true),(.fz [(.p (.int .i64 1)),(.p (.int .i64 5))] 2 1 true)] 1 3 true):=SlF.lit (cs:=[(.p (.int .i64 0)),(.fz [(.p (.int .i64 2)),(.p (.int .i64 6))] 2 1 true),(.fz [(.p (.int .i64 1)),(.p (.int .i64 5))] 2 1 true)]) (RL.cons (show z4.R ((⟨0,([2,6]),([1,5])⟩:z5)) [.p (.int .i64 0),.fz [(.p (.int .i64 2)),(.p (.int .i64 6))] 2 1 true,.fz [(.p (.int .i64 1)),(.p (.int .i64 5))] 2 1 true] from (z4.mk h1 h2)) RL.nil) rfl rfl true
 refine .op (bldS (pC (c:=[.p (.int .i64 0),.fz [(.p (.int .i64 2)),(.p (.int .i64 6))] 2 1 true,.fz [(.p (.int .i64 1)),(.p (.int .i64 5))] 2 1 true]) rfl pN) (by kernel_rfl:_=some (vOf h3))) ?_
 refine .call (z34 k ([((⟨0,([2,6]),([1,5])⟩:z5))]) h3 8 (([]:List Int)) ((SlF.nil (dI .i64)).h (List.replicate 82 []::h))) fun r4 cs5 H6 h7 q8=>?_
 obtain ⟨c9,cs10,h11,h12,q8⟩:=q8
 cases q8
 obtain ⟨v13,H14,e15,S16⟩:=S0.land (dt:=(dI .i64)) (d:=11) (e:=0) (n:=0) h11 h12 (by decide) rfl
 erw [e15]
 have h18:=SlF.int1 .i64 0
 refine .op (bldS (pC rfl pN) (by kernel_rfl:_=some (vOf h18))) ?_
 refine .call (z34 k ([((⟨0,([2,6]),([1,5])⟩:z5))]) h3 6 ([0]) (h18.h H14)) fun r19 cs20 H21 h22 q23=>?_
 obtain ⟨c24,cs25,h26,h27,q23⟩:=q23
 cases q23
 obtain ⟨v28,H29,e30,S31⟩:=S16.land (dt:=(dI .i64)) (d:=14) (e:=0) (n:=0) h26 h27 (by decide) rfl
 erw [e30]
 have h33:=SlF.int1 .i64 0
 refine .op (bldS (pC rfl pN) (by kernel_rfl:_=some (vOf h33))) ?_
 refine .call (z34 k ([((⟨0,([2,6]),([1,5])⟩:z5))]) h3 16 ([0]) (h33.h H29)) fun r34 cs35 H36 h37 q38=>?_
 obtain ⟨c39,cs40,h41,h42,q38⟩:=q38
 cases q38
 obtain ⟨v43,H44,e45,S46⟩:=S31.land (dt:=(dI .i64)) (d:=17) (e:=0) (n:=0) h41 h42 (by decide) rfl
 erw [e45]
 have h48:=SlF.int1 .i64 1
 refine .op (bldS (pC rfl pN) (by kernel_rfl:_=some (vOf h48))) ?_
 refine .call (z34 k ([((⟨0,([2,6]),([1,5])⟩:z5))]) h3 5 ([1]) (h48.h H44)) fun r49 cs50 H51 h52 q53=>?_
 obtain ⟨c54,cs55,h56,h57,q53⟩:=q53
 cases q53
 obtain ⟨v58,H59,e60,S61⟩:=S46.land (dt:=(dI .i64)) (d:=20) (e:=0) (n:=0) h56 h57 (by decide) rfl
 erw [e60]
 refine .call (z6k 999) fun r63 cs64 H65 h66 q67=>?_
 cases q67
 refine .ci ?_
 refine .ch (P:=fun r y=>(.p (.bool r),H59)=y) ?_ (fun b73 y74 h75 h76=>?_)
 ·refine .cq ?_ ?_
  ·refine .call (z6k 4611686018427387904) fun r68 cs69 H70 h71 q72=>?_
   cases q72
   refine .ci ?_
   exact .ret rfl rfl
  ·exact .ret rfl rfl
 subst h76
 refine .ab ?_
 refine .ch (P:=fun r y=>(.p (.bool r),H59)=y) ?_ (fun b82 y83 h84 h85=>?_)
 ·refine .cq ?_ ?_
  ·refine .call (z6o 80) fun r77 cs78 H79 h80 q81=>?_
   cases q81
   refine .ci ?_
   exact .ret rfl rfl
  ·exact .ret rfl rfl
 subst h85
 refine .ab ?_
 refine .ch (P:=fun r y=>(.p (.bool r),H59)=y) ?_ (fun b92 y93 h94 h95=>?_)
 ·refine .cq ?_ ?_
  ·have h86:=SlF.int1 .i64 1
   refine .op (bldS (pC rfl pN) (by kernel_rfl:_=some (vOf h86))) ?_
   refine .call (z44 k r4 (S61.sl (i:=3) rfl) ([1]) (h86.h H59)) fun r87 cs88 H89 h90 q91=>?_
   cases q91
   refine .ab ?_
   exact .ret rfl rfl
  ·exact .ret rfl rfl
 subst h95
 refine .ab ?_
 refine .ch (P:=fun r y=>(.p (.bool r),H59)=y) ?_ (fun b102 y103 h104 h105=>?_)
 ·refine .cq ?_ ?_
  ·have h96:=SlF.int1 .i64 1
   refine .op (bldS (pC rfl pN) (by kernel_rfl:_=some (vOf h96))) ?_
   refine .call (z44 k r19 (S61.sl (i:=2) rfl) ([1]) (h96.h H59)) fun r97 cs98 H99 h100 q101=>?_
   cases q101
   refine .ab ?_
   exact .ret rfl rfl
  ·exact .ret rfl rfl
 subst h105
 refine .ab ?_
 refine .ch (P:=fun r y=>(.p (.bool r),H59)=y) ?_ (fun b112 y113 h114 h115=>?_)
 ·refine .cq ?_ ?_
  ·have h106:=SlF.int1 .i64 1
   refine .op (bldS (pC rfl pN) (by kernel_rfl:_=some (vOf h106))) ?_
   refine .call (z44 k r34 (S61.sl (i:=1) rfl) ([1]) (h106.h H59)) fun r107 cs108 H109 h110 q111=>?_
   cases q111
   refine .ab ?_
   exact .ret rfl rfl
  ·exact .ret rfl rfl
 subst h115
 refine .ab ?_
 refine .ch (P:=fun r y=>(.p (.bool r),H59)=y) ?_ (fun b122 y123 h124 h125=>?_)
 ·refine .cq ?_ ?_
  ·have h116:=SlF.int1 .i64 0
   refine .op (bldS (pC rfl pN) (by kernel_rfl:_=some (vOf h116))) ?_
   refine .call (z44 k r49 (S61.sl (i:=0) rfl) ([0]) (h116.h H59)) fun r117 cs118 H119 h120 q121=>?_
   cases q121
   refine .ab ?_
   exact .ret rfl rfl
  ·exact .ret rfl rfl
 subst h125
 refine .ab ?_
 refine .cqk ?_ ?_
 ·refine .as ?_
  have h126:=SlF.int1 .i64 0
  refine .op (bldS (pC rfl pN) (by kernel_rfl:_=some (vOf h126))) ?_
  refine .call (z34 k ([((⟨0,([2,6]),([1,5])⟩:z5))]) h3 8 ([0]) (h126.h H59)) fun r127 cs128 H129 h130 q131=>?_
  obtain ⟨c132,cs133,h134,h135,q131⟩:=q131
  cases q131
  obtain ⟨v136,H137,e138,S139⟩:=S61.land (dt:=(dI .i64)) (d:=54) (e:=0) (n:=0) h134 h135 (by decide) rfl
  erw [e138]
  have h141:=SlF.int1 .i64 1
  refine .op (bldS (pC rfl pN) (by kernel_rfl:_=some (vOf h141))) ?_
  refine .call (z44 k r127 (S139.sl (i:=0) rfl) ([1]) (h141.h H137)) fun r142 cs143 H144 h145 q146=>?_
  cases q146
  refine .ab ?_
  refine .pure ?_
  refine .ab ?_
  refine .ch (P:=fun r y=>(.p (.bool r),H137)=y) ?_ (fun b158 y159 h160 h161=>?_)
  ·refine .cq ?_ ?_
   ·refine .call (zb5 5 1 0 true) fun r147 cs148 H149 h150 q151=>?_
    obtain ⟨w152,h153,q151⟩:=q151
    cases q151
    obtain ⟨v154,v156,rfl,h155,h157⟩:=z4.inv h153
    refine .or ?_
    refine .op ((h155.h H137).len) ?_
    refine .ci ?_
    exact .ret rfl rfl
   ·exact .ret rfl rfl
  subst h161
  refine .ab ?_
  refine .ch (P:=fun r y=>(.p (.bool r),H137)=y) ?_ (fun b167 y168 h169 h170=>?_)
  ·refine .cq ?_ ?_
   ·refine .call (z6k (-5)) fun r162 cs163 H164 h165 q166=>?_
    cases q166
    refine .ci ?_
    exact .ret rfl rfl
   ·exact .ret rfl rfl
  subst h170
  refine .ab ?_
  refine .ch (P:=fun r y=>(.p (.bool r),H137)=y) ?_ (fun b176 y177 h178 h179=>?_)
  ·refine .cq ?_ ?_
   ·refine .call (z6o (-80)) fun r171 cs172 H173 h174 q175=>?_
    cases q175
    refine .ci ?_
    exact .ret rfl rfl
   ·exact .ret rfl rfl
  subst h179
  refine .ab ?_
  refine .cqk ?_ ?_
  ·refine .as ?_
   have h180:SlF (dI .i64) [2,15] (.fz [(.p (.int .i64 2)),(.p (.int .i64 15))] 2 1 true):=SlF.lit (cs:=[(.p (.int .i64 2)),(.p (.int .i64 15))]) (RL.cons (show (dI .i64).R 2 [(.p (.int .i64 2))] from rfl) (RL.cons (show (dI .i64).R 15 [(.p (.int .i64 15))] from rfl) RL.nil)) rfl rfl true
   refine .op (bldS (pC rfl (pC rfl pN)) (by kernel_rfl:_=some (vOf h180))) ?_
   have h181:SlF (dI .i64) [1,5] (.fz [(.p (.int .i64 1)),(.p (.int .i64 5))] 2 1 true):=SlF.lit (cs:=[(.p (.int .i64 1)),(.p (.int .i64 5))]) (RL.cons (show (dI .i64).R 1 [(.p (.int .i64 1))] from rfl) (RL.cons (show (dI .i64).R 5 [(.p (.int .i64 5))] from rfl) RL.nil)) rfl rfl true
   refine .op (bldS (pC rfl (pC rfl pN)) (by kernel_rfl:_=some (vOf h181))) ?_
   refine .op (bldV (pC h180.still.cells (pC h181.still.cells pN)) (by kernel_rfl:_=some (.agg [.p (.int .i64 0),.fz [(.p (.int .i64 2)),(.p (.int .i64 15))] 2 1 true,.fz [(.p (.int .i64 1)),(.p (.int .i64 5))] 2 1 true]))) ?_
   have h182:SlF z4 [((⟨0,([2,15]),([1,5])⟩:z5))] (.fz [(.p (.int .i64 0)),(.fz [(.p (.int .i64 2)),(.p (.int .i64 15))] 2 1 true),(.fz [(.p (.int .i64 1)),(.p (.int .i64 5))] 2 1 true)] 1 3 true):=SlF.lit (cs:=[(.p (.int .i64 0)),(.fz [(.p (.int .i64 2)),(.p (.int .i64 15))] 2 1 true),(.fz [(.p (.int .i64 1)),(.p (.int .i64 5))] 2 1 true)]) (RL.cons (show z4.R ((⟨0,([2,15]),([1,5])⟩:z5)) [.p (.int .i64 0),.fz [(.p (.int .i64 2)),(.p (.int .i64 15))] 2 1 true,.fz [(.p (.int .i64 1)),(.p (.int .i64 5))] 2 1 true] from (z4.mk h180 h181)) RL.nil) rfl rfl true
   refine .op (bldS (pC (c:=[.p (.int .i64 0),.fz [(.p (.int .i64 2)),(.p (.int .i64 15))] 2 1 true,.fz [(.p (.int .i64 1)),(.p (.int .i64 5))] 2 1 true]) rfl pN) (by kernel_rfl:_=some (vOf h182))) ?_
   have h183:=SlF.int1 .i64 0
   refine .op (bldS (pC rfl pN) (by kernel_rfl:_=some (vOf h183))) ?_
   refine .call (z34 k ([((⟨0,([2,15]),([1,5])⟩:z5))]) h182 16 ([0]) (h183.h H137)) fun r184 cs185 H186 h187 q188=>?_
   obtain ⟨c189,cs190,h191,h192,q188⟩:=q188
   cases q188
   obtain ⟨v193,H194,e195,S196⟩:=S139.land (dt:=(dI .i64)) (d:=78) (e:=0) (n:=0) h191 h192 (by decide) rfl
   erw [e195]
   have h198:=SlF.int1 .i64 0
   refine .op (bldS (pC rfl pN) (by kernel_rfl:_=some (vOf h198))) ?_
   refine .call (z44 k r184 (S196.sl (i:=0) rfl) ([0]) (h198.h H194)) fun r199 cs200 H201 h202 q203=>?_
   cases q203
   refine .ab ?_
   refine .pure ?_
   refine .ab ?_
   exact .fin (S196.finN (lC (sB _).lv lN)) rfl
  ·refine .as ?_
   refine .pure ?_
   refine .ab ?_
   exact .fin (S139.finN (lC (sB _).lv lN)) rfl
 ·refine .as ?_
  refine .pure ?_
  refine .ab ?_
  refine .asF ?_
  refine .pure ?_
  refine .ab ?_
  refine .asF ?_
  refine .pure ?_
  refine .ab ?_
  refine .asF ?_
  refine .pure ?_
  refine .ab ?_
  refine .asF ?_
  refine .pure ?_
  refine .ab ?_
  exact .fin (S61.finN (lC (sB _).lv lN)) rfl
def zy {β:Type} (k:Nat) (kE0:Int→Int→(List z7)→z8→Option β) (x1:Int) (x2:Int) (x7:(List z7)) (x27:Int) (x28:Int) (yg34:z8):Option β:=match k with
| 0=>none
| k+1 =>
bif decide (x28<x27) then (
(ix x7 x28).bind fun a44 =>
(z5q k a44 1 1 true 50).bind fun r49 =>
(z6m k r49).bind fun r56 =>
(z1m k yg34 x28 r56.1 ((r49.length:Int)) 5).bind fun r76 =>
zy k kE0 x1 x2 x7 x27 (IntKind.wrap .i64 (x28+1)) r76.2.2)
else (
kE0 x1 x2 x7 yg34)
def zz {β:Type} (k:Nat) (kE0:Unit→Option β) (kE1:Bool→Option β) (x7:(List z7)) (x13:Int) (x14:Int) (x84:Int) (x85:Int) (yg126:z5) (yg130:z5):Option β:=match k with
| 0=>none
| k+1 =>
bif decide (x85<x84) then (
(ix yg126.Costs x85).bind fun a167 =>
(ix x7 x85).bind fun a170 =>
(bif !((decide (a167<0))==(decide (a170.Height>x13))) then (some true) else ((ix yg130.Costs x85).bind fun a178 =>
(ix x7 x85).bind fun a181 =>
some (!((decide (a178<0))==(decide (a181.Height>x14)))))).bind fun b189 =>
(bif b189 then (some true) else ((ix yg126.Goods x85).bind fun a193 =>
(ix x7 x85).bind fun a196 =>
some (a193 != a196.Height))).bind fun b204 =>
bif b204 then (
kE1 false)
else (
zz k kE0 kE1 x7 x13 x14 x84 (IntKind.wrap .i64 (x85+1)) yg126 yg130))
else (
kE0 ())
def z2y (k:Nat) (x0:(List Int)) (x1:Int) (x2:Int):Option (Bool) :=
(z2x k (⟨x0,0⟩:TzTape) 1).bind fun r5 =>
(z4m k r5.1).bind fun r22 =>
(match r22 with
| none=>(
some (false))
| some r27=>(
zy k (fun r92_1 r92_2 r92_7 yg42 =>
(z2l k yg42 (intBits .and .i64 r92_1 1023) 1 6 false).bind fun r101 =>
(z2l k yg42 (IntKind.wrap .i64 ((intBits .and .i64 r92_1 1023)+(intBits .and .i64 r92_2 511))) 1 6 false).bind fun r112 =>
(bif ((r101.Costs.length:Int)) != ((r92_7.length:Int)) then (some true) else (some (((r112.Costs.length:Int)) != ((r92_7.length:Int))))).bind fun b137 =>
(bif b137 then (some true) else (some (((r101.Goods.length:Int)) != ((r92_7.length:Int))))).bind fun b141 =>
bif b141 then (
some (false))
else (
zz k (fun (_:Unit) =>
(z6s k).bind fun r216 =>
some (r216)) (fun r221_6 =>
some (r221_6)) r92_7 (intBits .and .i64 r92_1 1023) (IntKind.wrap .i64 ((intBits .and .i64 r92_1 1023)+(intBits .and .i64 r92_2 511))) ((r92_7.length:Int)) 0 r101 r112)) x1 x2 r5.1 ((r5.1.length:Int)) 0 r27))
theorem z99 {h:H}  {kE0:Int→Int→(List z7)→z8→Option β} (hE0:∀ (q1:Int) (q2:Int) (q7:(List z7)) (yg42:z8) (v86:V) (c88:C) (h89:RsC zg yg42.l c88) (s90:Stamp) (H84:Go.Ev.H) (_:Fm 133 h [] [(23,s90,[c88])] [⟨[21],v86,zb,q7⟩] H84),Sim (kE0 q1 q2 q7 yg42) (K ((.exit 0),(envL [(1,(.p (.int .i64 q1))),(2,(.p (.int .i64 q2))),(7,v86),(8,(.ref ⟨h.length,23,0,s90,[]⟩ 0))]),H84)) Q) (k:Nat):∀ (x1:Int) (x2:Int) (x7:(List z7)) (x27:Int) (x28:Int) (yg34:z8) (v37:V) (c39:C) (h40:RsC zg yg34.l c39) (s41:Stamp) (H35:Go.Ev.H) (_:Fm 133 h [] [(23,s41,[c39])] [⟨[21],v37,zb,x7⟩] H35) {σ:Stamp},Sim (zy k kE0 x1 x2 x7 x27 x28 yg34) ((cvL G X0 z2h z2e σ (envL [(1,(.p (.int .i64 x1))),(2,(.p (.int .i64 x2))),(7,v37),(8,(.ref ⟨h.length,23,0,s41,[]⟩ 0)),(27,(.p (.int .i64 x27))),(28,(.p (.int .i64 x28)))]) H35).bind K) Q:=by
 induction k with
 | zero=>intros;exact .no
 | succ k ih =>
  intro x1 x2 x7 x27 x28 yg34 v37 c39 h40 s41 H35 S36 σ
  rw [zy]
  refine .round (Sim.ext (zas _ _ _ _ _ _ _ _ _ _) ?_)
  refine .cq ?_ ?_
  ·refine .bd fun a44 h45=>?_
   refine .op ((S36.sl (i:=0) rfl).iS h45 rfl) ?_
   obtain ⟨w47,h48,hE46⟩:=(S36.sl (i:=0) rfl).el h45 rfl
   obtain rfl:=zb.inv h48
   refine .op (hE46.all (by simp)) ?_
   refine .call (zjt k a44 (show zb.R a44 [.p (.string a44.Rid),.p (.int .u32 a44.Ssrc),.p (.int .i64 a44.Height)] from (zb.mk)) 1 1 true 50) fun r49 cs50 H51 h52 q53=>?_
   obtain ⟨v54,h55,q53⟩:=q53
   cases q53
   refine .call (zkf k r49 (h55.h H35)) fun r56 cs57 H58 h59 q60=>?_
   obtain ⟨w61,h62,q60⟩:=q60
   cases q60
   obtain ⟨v63,v65,v67,rfl,h64,h66,h68⟩:=z9.inv h62
   refine .or ?_
   refine .or ?_
   refine .ci ?_
   obtain ⟨H69,e70,S71⟩:=S36.al (d:=11) (s:=(5::0::1::1::0::1::1::0::σ)) (z:=[(.p (.bool false)),(.p (.int .i64 0)),(.p (.int .u16 0)),(.p (.int .u32 0)),(.p (.int .u32 0)),(.p (.slice none 0 0)),(.p (.int .u16 0)),(.p (.slice none 0 0)),(.p (.slice none 0 0))]) (by decide) rfl
   refine .op (congrArg some e70) ?_
   obtain ⟨H73,e74,S75⟩:=S71.stGv (i:=0) (j:=0) (own:=true) (σ:=(6::0::1::1::0::1::1::0::σ)) (xs:=[(.p (.bool r56.1.Marker)),(.p (.int .i64 r56.1.f_Type)),(.p (.int .u16 r56.1.Seq)),(.p (.int .u32 r56.1.Time)),(.p (.int .u32 r56.1.Ssrc)),v63,(.p (.int .u16 r56.1.Profile)),v65,v67]) rfl rfl (sC (sB _) (sC (sI _ _) (sC (sI _ _) (sC (sI _ _) (sC (sI _ _) (sC h64.still (sC (sI _ _) (sC h66.still (sC h68.still sN))))))))) rfl rfl
   refine .op (sM e74) ?_
   refine .op ((S75.atG (i:=0) rfl).ldVs (j:=0) (xs:=[(.p (.bool r56.1.Marker)),(.p (.int .i64 r56.1.f_Type)),(.p (.int .u16 r56.1.Seq)),(.p (.int .u32 r56.1.Time)),(.p (.int .u32 r56.1.Ssrc)),v63,(.p (.int .u16 r56.1.Profile)),v65,v67]) rfl rfl (by decide)) ?_
   refine .op ((h55.h H73).len) ?_
   refine .ci ?_
   refine .call (za7 k yg34 h40 (S75.atG (i:=1) rfl) x28 r56.1 h62 ((r49.length:Int)) 5) fun r76 cs77 H78 h79 q80=>?_
   obtain ⟨c81,h82,q80⟩:=q80
   cases q80
   have S83:=S75.setG (i:=1) (cs':=[c81]) rfl rfl rfl
   exact ih x1 x2 x7 x27 (IntKind.wrap .i64 (x28+1)) r76.2.2 v37 c81 h82 s41 (ptC H73 ⟨h.length,23,0,s41,[]⟩ 0 ([c81])) (S83.wk2 (aC (aM 1 rfl) aN) (aC ⟨[21],by simp,aM 0 rfl⟩ aN))
  exact hE0 x1 x2 x7 yg34 v37 c39 h40 s41 H35 (S36.wk2 (aC (aM 0 rfl) aN) (aC ⟨[21],by simp,aM 0 rfl⟩ aN))
theorem z98 {h:H}  {kE0:Unit→Option β} {kE1:Bool→Option β} (hE0:∀ (_u:Unit) (H209:Go.Ev.H) (_:Fm 133 h [] [] [] H209),Sim (kE0 ()) (K ((.exit 2),(envL []),H209)) Q) (hE1:∀ (q6:Bool) (H211:Go.Ev.H) (_:Fm 133 h [] [] [] H211),Sim (kE1 q6) (K (.ret,(envL [(6,(.p (.bool q6)))]),H211)) Q) (k:Nat):∀ (x7:(List z7)) (x13:Int) (x14:Int) (x84:Int) (x85:Int) (yg126:z5) (yg130:z5) (v148:V) (w150:List V) (h151:z4.R yg126 w150) (s152:Stamp) (w154:List V) (h155:z4.R yg130 w154) (s156:Stamp) (H146:Go.Ev.H) (_:Fm 133 h [] [(15,s152,List.map C.v w150),(16,s156,List.map C.v w154)] [⟨[21],v148,zb,x7⟩] H146) {σ:Stamp},Sim (zz k kE0 kE1 x7 x13 x14 x84 x85 yg126 yg130) ((cvL G X0 z2i z2g σ (envL [(7,v148),(13,(.p (.int .i64 x13))),(14,(.p (.int .i64 x14))),(15,(.ref ⟨h.length,15,0,s152,[]⟩ 0)),(16,(.ref ⟨h.length,16,0,s156,[]⟩ 0)),(84,(.p (.int .i64 x84))),(85,(.p (.int .i64 x85)))]) H146).bind K) Q:=by
 induction k with
 | zero=>intros;exact .no
 | succ k ih =>
  intro x7 x13 x14 x84 x85 yg126 yg130 v148 w150 h151 s152 w154 h155 s156 H146 S147 σ
  rw [zz]
  refine .round (Sim.ext (zbh _ _ _ _ _ _ _ _ _ _ _) ?_)
  obtain ⟨v158,v160,rfl,h159,h161⟩:=z4.inv h151
  obtain ⟨v162,v164,rfl,h163,h165⟩:=z4.inv h155
  refine .cq ?_ ?_
  ·refine .fa ?_
   refine .op ((S147.atG (i:=0) rfl).ld (j:=1) rfl) ?_
   refine .bd fun a167 h168=>?_
   refine .op ((h159.h H146).iS h168 rfl) ?_
   obtain ⟨_,rfl,hE169⟩:=(h159.h H146).el h168 rfl
   refine .op (hE169.ld (j:=0) rfl) ?_
   refine .ci ?_
   refine .bd fun a170 h171=>?_
   refine .op ((S147.sl (i:=0) rfl).iS h171 rfl) ?_
   obtain ⟨w173,h174,hE172⟩:=(S147.sl (i:=0) rfl).el h171 rfl
   obtain rfl:=zb.inv h174
   refine .op (hE172.fa (j:=2) (by simp)) ?_
   obtain ⟨w176,h177,hE175⟩:=(S147.sl (i:=0) rfl).el h171 rfl
   obtain rfl:=zb.inv h177
   refine .op (hE175.ld (j:=2) rfl) ?_
   refine .ci ?_
   refine .ch (P:=fun r y=>r=y) ?_ (fun b189 y190 h191 h192=>?_)
   ·refine .cq ?_ ?_
    ·exact .ret rfl rfl
    ·refine .fa ?_
     refine .op ((S147.atG (i:=1) rfl).ld (j:=1) rfl) ?_
     refine .bd fun a178 h179=>?_
     refine .op ((h163.h H146).iS h179 rfl) ?_
     obtain ⟨_,rfl,hE180⟩:=(h163.h H146).el h179 rfl
     refine .op (hE180.ld (j:=0) rfl) ?_
     refine .ci ?_
     refine .bd fun a181 h182=>?_
     refine .op ((S147.sl (i:=0) rfl).iS h182 rfl) ?_
     obtain ⟨w184,h185,hE183⟩:=(S147.sl (i:=0) rfl).el h182 rfl
     obtain rfl:=zb.inv h185
     refine .op (hE183.fa (j:=2) (by simp)) ?_
     obtain ⟨w187,h188,hE186⟩:=(S147.sl (i:=0) rfl).el h182 rfl
     obtain rfl:=zb.inv h188
     refine .op (hE186.ld (j:=2) rfl) ?_
     refine .ci ?_
     exact .ret rfl rfl
   subst h192
   refine .ch (P:=fun r y=>r=y) ?_ (fun b204 y205 h206 h207=>?_)
   ·refine .cq ?_ ?_
    ·exact .ret rfl rfl
    ·refine .fa ?_
     refine .op ((S147.atG (i:=0) rfl).ld (j:=2) rfl) ?_
     refine .bd fun a193 h194=>?_
     refine .op ((h161.h H146).iS h194 rfl) ?_
     obtain ⟨_,rfl,hE195⟩:=(h161.h H146).el h194 rfl
     refine .op (hE195.ld (j:=0) rfl) ?_
     refine .ci ?_
     refine .bd fun a196 h197=>?_
     refine .op ((S147.sl (i:=0) rfl).iS h197 rfl) ?_
     obtain ⟨w199,h200,hE198⟩:=(S147.sl (i:=0) rfl).el h197 rfl
     obtain rfl:=zb.inv h200
     refine .op (hE198.fa (j:=2) (by simp)) ?_
     obtain ⟨w202,h203,hE201⟩:=(S147.sl (i:=0) rfl).el h197 rfl
     obtain rfl:=zb.inv h203
     refine .op (hE201.ld (j:=2) rfl) ?_
     refine .ci ?_
     exact .ret rfl rfl
   subst h207
   refine .cq ?_ ?_
   ·exact hE1 false H146 (S147.wk2 aN aN)
   exact ih x7 x13 x14 x84 (IntKind.wrap .i64 (x85+1)) yg126 yg130 v148 _ h151 s152 _ h155 s156 H146 (S147.wk2 (aC (aM 0 rfl) (aC (aM 1 rfl) aN)) (aC ⟨[21],by simp,aM 0 rfl⟩ aN))
  exact hE0 () H146 (S147.wk2 aN aN)
theorem zb6 (k:Nat) {h:H} {σ:Stamp} (x0:List Int) {u0:V} (hu0:SlF (dI .i64) x0 u0) (x1:Int) (x2:Int):Sim (z2y k x0 x1 x2) (ev G X0 12 σ [u0,(.p (.int .i64 x1)),(.p (.int .i64 x2))] h) (fun r s=>s=([.v (.p (.bool r))],h)):=by
 refine .ev rfl (Sim.ext (z9b _ _ _ _ _ _ _) ?_)
 rw [z2y]
 have S0:Fm 133 h [] [] [] (List.replicate 133 []::h):=Fm.start0
 refine .op (bldV (pC hu0.still.cells pN) (by kernel_rfl:_=some (.agg [u0,.p (.int .i64 0)]))) ?_
 obtain ⟨H1,e2,S3⟩:=S0.box (own:=true) (d:=20) (s:=(2::0::1::0::σ)) (xs:=[u0,.p (.int .i64 0)]) (sC hu0.still (sC (sI _ _) sN)) (by decide) rfl
 refine .op (e2) ?_
 refine .call (zdm k (⟨x0,0⟩:TzTape) hu0 (S3.atG (i:=0) rfl) 1) fun r5 cs6 H7 h8 q9=>?_
 obtain ⟨c10,cs11,v14,h12,h13,h15,q9⟩:=q9
 cases q9
 have S16:=S3.setG (i:=0) (cs':=List.map C.v [v14,(.p (.int .i64 r5.2.f_At))]) rfl rfl rfl
 obtain ⟨v17,H18,e19,S20⟩:=S16.land (dt:=zb) (d:=21) (e:=0) (n:=0) h12 h13 (by decide) rfl
 erw [e19]
 refine .call (zk1 k r5.1 (S20.sl (i:=0) rfl)) fun r22 cs23 H24 h25 q26=>?_
 rcases r22 with _ | r27
 ·cases (show (cs23,H24)=([.v (.p (.pointer none))],H18) from q26)
  refine .op ((by kernel_rfl:_=some (.p (.bool true)))) ?_
  refine .ab ?_
  refine .cdt rfl ?_
  exact .fin (S20.finN (lC (sB _).lv lN)) rfl
 ·obtain ⟨s28,c29,h30,q26⟩:=q26
  cases q26
  obtain ⟨H31,e32,S33⟩:=S20.landG (d:=23) (s:=s28) (cs:=[c29]) (by decide) rfl
  erw [e32]
  refine .op ((by kernel_rfl:_=some (.p (.bool false)))) ?_
  refine .ab ?_
  refine .cdf rfl ?_
  refine .op ((S33.sl (i:=0) rfl).len) ?_
  refine .ci ?_
  refine .as (z99 ?_ k x1 x2 r5.1 ((r5.1.length:Int)) 0 r27 v17 c29 h30 s28 H31 (S33.wk2 (aC (aM 0 rfl) aN) (aC ⟨[21],by simp,aM 0 rfl⟩ aN)))
  ·intro r92_1 r92_2 r92_7 yg42 v95 c97 h98 s99 H93 S94
   refine .ext (za4 _ _ _ _ _ _ _ _) ?_
   refine .call (z9k k yg42 h98 (S94.atG (i:=0) rfl) (intBits .and .i64 r92_1 1023) 1 6 false) fun r101 cs102 H103 h104 q105=>?_
   obtain ⟨w106,h107,q105⟩:=q105
   cases q105
   obtain ⟨v108,v110,rfl,h109,h111⟩:=z4.inv h107
   refine .call (z9k k yg42 h98 (S94.atG (i:=0) rfl) (IntKind.wrap .i64 ((intBits .and .i64 r92_1 1023)+(intBits .and .i64 r92_2 511))) 1 6 false) fun r112 cs113 H114 h115 q116=>?_
   obtain ⟨w117,h118,q116⟩:=q116
   cases q116
   obtain ⟨v119,v121,rfl,h120,h122⟩:=z4.inv h118
   obtain ⟨H123,e124,S125⟩:=S94.al (d:=15) (s:=(6::0::1::1::1::1::1::1::0::σ)) (z:=[(.p (.int .i64 0)),(.p (.slice none 0 0)),(.p (.slice none 0 0))]) (by decide) rfl
   refine .op (congrArg some e124) ?_
   obtain ⟨H127,e128,S129⟩:=S125.al (d:=16) (s:=(7::0::1::1::1::1::1::1::0::σ)) (z:=[(.p (.int .i64 0)),(.p (.slice none 0 0)),(.p (.slice none 0 0))]) (by decide) rfl
   refine .op (congrArg some e128) ?_
   obtain ⟨H131,e132,S133⟩:=S129.stGv (i:=1) (j:=0) (own:=false) (σ:=(8::0::1::1::1::1::1::1::0::σ)) (xs:=[(.p (.int .i64 r101.Class)),v108,v110]) rfl rfl (sC (sI _ _) (sC h109.still (sC h111.still sN))) rfl rfl
   refine .op (sM e132) ?_
   obtain ⟨H134,e135,S136⟩:=S133.stGv (i:=0) (j:=0) (own:=false) (σ:=(9::0::1::1::1::1::1::1::0::σ)) (xs:=[(.p (.int .i64 r112.Class)),v119,v121]) rfl rfl (sC (sI _ _) (sC h120.still (sC h122.still sN))) rfl rfl
   refine .op (sM e135) ?_
   refine .fa ?_
   refine .op ((S136.atG (i:=1) rfl).ld (j:=1) rfl) ?_
   refine .op ((h109.h H134).len) ?_
   refine .ci ?_
   refine .op ((S136.sl (i:=0) rfl).len) ?_
   refine .ci ?_
   refine .ch (P:=fun r y=>r=y) ?_ (fun b137 y138 h139 h140=>?_)
   ·refine .cq ?_ ?_
    ·exact .ret rfl rfl
    ·refine .fa ?_
     refine .op ((S136.atG (i:=0) rfl).ld (j:=1) rfl) ?_
     refine .op ((h120.h H134).len) ?_
     refine .ci ?_
     refine .op ((S136.sl (i:=0) rfl).len) ?_
     refine .ci ?_
     exact .ret rfl rfl
   subst h140
   refine .ch (P:=fun r y=>r=y) ?_ (fun b141 y142 h143 h144=>?_)
   ·refine .cq ?_ ?_
    ·exact .ret rfl rfl
    ·refine .fa ?_
     refine .op ((S136.atG (i:=1) rfl).ld (j:=2) rfl) ?_
     refine .op ((h111.h H134).len) ?_
     refine .ci ?_
     refine .op ((S136.sl (i:=0) rfl).len) ?_
     refine .ci ?_
     exact .ret rfl rfl
   subst h144
   refine .cq ?_ ?_
   ·exact .fin (S136.finN (lC (sB _).lv lN)) rfl
   refine .op ((S136.sl (i:=0) rfl).len) ?_
   refine .ci ?_
   refine .as (z98 ?_ ?_ k r92_7 (intBits .and .i64 r92_1 1023) (IntKind.wrap .i64 ((intBits .and .i64 r92_1 1023)+(intBits .and .i64 r92_2 511))) ((r92_7.length:Int)) 0 r101 r112 v95 _ h107 (6::0::1::1::1::1::1::1::0::σ) _ h118 (7::0::1::1::1::1::1::1::0::σ) H134 (S136.wk2 (aC (aM 1 rfl) (aC (aM 0 rfl) aN)) (aC ⟨[21],by simp,aM 0 rfl⟩ aN)))
   ·intro _u H214 S215
    refine .ext (za3 _ _ _ _) ?_
    refine .call (zic k ) fun r216 cs217 H218 h219 q220=>?_
    cases q220
    refine .ab ?_
    exact .fin (S215.finN (lC (sB _).lv lN)) rfl
   ·intro r221_6 H222 S223
    refine .ext (z8y _ _ _ _ _) ?_
    exact .fin (S223.finN (lC (sB _).lv lN)) rfl
end
end Go.Ev
namespace Go.Ev
namespace Lay
def lo (h:Int):z7:=⟨⟨#[108,111]⟩,107,h⟩
def mid (h:Int):z7:=⟨⟨#[109,105,100]⟩,108,h⟩
def HI (h:Int):z7:=⟨⟨#[72,73]⟩,109,h⟩
theorem lo_ext (h:Int):HasExt (lo h):=⟨[17,108,111,0],rfl,fun j=>by kernel_rfl⟩
theorem zkt (h:Int):HasExt (mid h):=⟨[18,109,105,100],rfl,fun j=>by kernel_rfl⟩
theorem HI_ext (h:Int):HasExt (HI h):=⟨[17,72,73,0],rfl,fun j=>by kernel_rfl⟩
inductive Lays:List z7→Prop
 | one {a:Int} (ha:180≤a∧a<270):Lays [lo a]
 | two {a b:Int} (ha:180≤a∧a<270) (hb:360≤b∧b<450):Lays [lo a,mid b]
 | three {a b c:Int} (ha:180≤a∧a<270) (hb:360≤b∧b<450) (hc:540≤c∧c<630):Lays [lo a,mid b,HI c]
theorem Lays.ext {l:List z7} (h:Lays l):∀ x∈l,HasExt x:=by
 cases h with
 | one=>intro x hx;simp only [List.mem_singleton] at hx;subst hx;exact lo_ext _
 | two =>
  intro x hx
  simp only [List.mem_cons,List.not_mem_nil,or_false] at hx
  rcases hx with rfl | rfl
  ·exact lo_ext _
  ·exact zkt _
 | three =>
  intro x hx
  simp only [List.mem_cons,List.not_mem_nil,or_false] at hx
  rcases hx with rfl | rfl | rfl
  ·exact lo_ext _
  ·exact zkt _
  ·exact HI_ext _
theorem Lays.len {l:List z7} (h:Lays l):1≤l.length∧l.length≤3:=by cases h<;>simp
theorem zk6 {t:TzTape} (ht:TP t) {k:Nat} (hk:10≤k):∃ l t',z2x k t 1=some (l,t')∧Lays l:=by
 obtain ⟨k,rfl⟩:∃ j,k=j+4:=⟨k-4,by omega⟩
 unfold z2x
 obtain ⟨r0,t0,e0,b0,h0⟩:=z4w ht (n:=3) (by omega)
 obtain ⟨a,t1,e1,b1,h1⟩:=z4w h0 (n:=90) (by omega)
 obtain ⟨r2,t2,e2,b2,h2⟩:=z4w h1 (n:=3) (by omega)
 obtain ⟨b,t3,e3,b3,h3⟩:=z4w h2 (n:=90) (by omega)
 obtain ⟨r4,t4,e4,b4,h4⟩:=z4w h3 (n:=3) (by omega)
 obtain ⟨c,t5,e5,b5,h5⟩:=z4w h4 (n:=90) (by omega)
 obtain ⟨r6,t6,e6,b6,h6⟩:=z4w h5 (n:=3) (by omega)
 have L0:(⟨⟨#[108,111]⟩,IntKind.wrap .u32 (IntKind.wrap .i64 (IntKind.wrap .i64 (IntKind.wrap .i64 (100*1)+0)+7)),IntKind.wrap .i64 (IntKind.wrap .i64 (180*IntKind.wrap .i64 (0+1))+a)⟩:z7)=lo (180+a):=by
  rw [show IntKind.wrap .u32 (IntKind.wrap .i64 (IntKind.wrap .i64 (IntKind.wrap .i64 (100*1)+0)+7))=107 from rfl,show IntKind.wrap .i64 (180*IntKind.wrap .i64 (0+1))=180 from rfl,wrap_i64 (n:=180+a) (by omega) (by omega)];rfl
 have L1:(⟨⟨#[109,105,100]⟩,IntKind.wrap .u32 (IntKind.wrap .i64 (IntKind.wrap .i64 (IntKind.wrap .i64 (100*1)+1)+7)),IntKind.wrap .i64 (IntKind.wrap .i64 (180*IntKind.wrap .i64 (1+1))+b)⟩:z7)=mid (360+b):=by
  rw [show IntKind.wrap .u32 (IntKind.wrap .i64 (IntKind.wrap .i64 (IntKind.wrap .i64 (100*1)+1)+7))=108 from rfl,show IntKind.wrap .i64 (180*IntKind.wrap .i64 (1+1))=360 from rfl,wrap_i64 (n:=360+b) (by omega) (by omega)];rfl
 have L2:(⟨⟨#[72,73]⟩,IntKind.wrap .u32 (IntKind.wrap .i64 (IntKind.wrap .i64 (IntKind.wrap .i64 (100*1)+2)+7)),IntKind.wrap .i64 (IntKind.wrap .i64 (180*IntKind.wrap .i64 (2+1))+c)⟩:z7)=HI (540+c):=by
  rw [show IntKind.wrap .u32 (IntKind.wrap .i64 (IntKind.wrap .i64 (IntKind.wrap .i64 (100*1)+2)+7))=109 from rfl,show IntKind.wrap .i64 (180*IntKind.wrap .i64 (2+1))=540 from rfl,wrap_i64 (n:=540+c) (by omega) (by omega)];rfl
 have i0:ix [(⟨#[108,111]⟩:ByteArray),⟨#[109,105,100]⟩,⟨#[72,73]⟩] 0=some ⟨#[108,111]⟩:=rfl
 have i1:ix [(⟨#[108,111]⟩:ByteArray),⟨#[109,105,100]⟩,⟨#[72,73]⟩] 1=some ⟨#[109,105,100]⟩:=rfl
 have i2:ix [(⟨#[108,111]⟩:ByteArray),⟨#[109,105,100]⟩,⟨#[72,73]⟩] 2=some ⟨#[72,73]⟩:=rfl
 have w1:IntKind.wrap .i64 (0+1)=1:=rfl
 have w2:IntKind.wrap .i64 (1+1)=2:=rfl
 have w3:IntKind.wrap .i64 (2+1)=3:=rfl
 have A:180≤180+a∧180+a<270:=by omega
 have B:360≤360+b∧360+b<450:=by omega
 have C:540≤540+c∧540+c<630:=by omega
 rw [z10,e0,Option.bind_some]
 simp only
 rw [decide_eq_true b0.1,cond_true,i0,Option.bind_some,e1,Option.bind_some]
 simp only
 rw [L0,ap_eq (by omega) (by simp),Option.bind_some,List.nil_append,w1,z10,e2,Option.bind_some]
 simp only
 by_cases c1:1≤r2
 ·rw [decide_eq_true c1,cond_true,i1,Option.bind_some,e3,Option.bind_some]
  simp only
  rw [L1,ap_eq (by omega) (by simp),Option.bind_some,w2,z10,e4,Option.bind_some]
  simp only
  by_cases c2:2≤r4
  ·rw [decide_eq_true c2,cond_true,i2,Option.bind_some,e5,Option.bind_some]
   simp only
   rw [L2,ap_eq (by omega) (by simp),Option.bind_some,w3,z10,e6,Option.bind_some]
   simp only
   rw [decide_eq_false (by omega),cond_false]
   exact ⟨_,_,rfl,.three A B C⟩
  ·rw [decide_eq_false c2,cond_false]
   exact ⟨_,_,rfl,.two A B⟩
 ·rw [decide_eq_false c1,cond_false]
  exact ⟨_,_,rfl,.one A⟩
theorem z74 {l:List z7} {i n k:Nat} {a:z7} {kE0:Unit→Option Int} {kE1:Int→Option Int} (hi:l[i]?=some a) (hn:n=l.length) (hl:l.length≤3) (hr:RidX.rightB a.Rid=true) (h1:1≤a.Height∧a.Height≤8192) (hp:∀ b,0<i→l[i-1]?=some b→b.Height<a.Height)
  (hc:zj k (l.take i) a=some false) :
  z1r (k+1) kE0 kE1 l l (n:Int) (i:Int)=z1r k kE0 kE1 l l (n:Int) ((i+1:Nat):Int):=by
 have hil:i<l.length:=(List.getElem?_eq_some_iff.1 hi).1
 rw [z1r,decide_eq_true (by omega),cond_true,ix_at hi,Option.bind_some]
 unfold za2
 rw [Option.bind_some,hr,Bool.not_true,cond_false,decide_eq_false (by omega),Option.bind_some,cond_false,decide_eq_false (by omega),Option.bind_some,cond_false]
 have hs:sub l 0 (i:Int)=some (l.take i):=by
  unfold sub;rw [if_pos (by omega)];simp
 by_cases h0:0<i
 ·have hb:l[i-1]?=some l[i-1]:=List.getElem?_eq_getElem (by omega)
  have:=hp _ h0 hb
  rw [decide_eq_true (by omega),cond_true,wrap_i64 (n:=(i:Int)-1) (by omega) (by omega),show (i:Int)-1=((i-1:Nat):Int) by omega,ix_at hb,Option.bind_some,decide_eq_false (by omega),Option.bind_some,Option.bind_some,cond_false,hs,Option.bind_some,hc,Option.bind_some,cond_false,wrap_i64 (by omega) (by omega)]
  rfl
 ·rw [decide_eq_false (by omega),cond_false,Option.bind_some,Option.bind_some,cond_false,hs,Option.bind_some,hc,Option.bind_some,cond_false,wrap_i64 (by omega) (by omega)]
  rfl
def one0 (l:z7):One:=⟨l,⟨-1,-1,0,0⟩,⟨[0,0,0,0,0],0,0⟩,false,0,false,false,0⟩
theorem ctl_ok {l:List z7} (h:Lays l) (j:Nat):z2t (j+20) l=some 0:=by
 cases h with
 | @one a ha =>
  unfold z2t
  rw [show decide (((([lo a]:List z7).length:Nat):Int)<1)=false from rfl,cond_false,show decide (((([lo a]:List z7).length:Nat):Int)>3)=false from rfl,Option.bind_some,cond_false]
  refine Eq.trans (z74 (i:=0) (n:=1) (k:=j+19) (a:=lo a) rfl rfl (by simp) (by kernel_rfl) (by show 1≤a∧a≤8192;omega) (fun _ h=>absurd h (by omega)) (by kernel_rfl)) ?_
  rfl
 | @two a b ha hb =>
  unfold z2t
  rw [show decide (((([lo a,mid b]:List z7).length:Nat):Int)<1)=false from rfl,cond_false,show decide (((([lo a,mid b]:List z7).length:Nat):Int)>3)=false from rfl,Option.bind_some,cond_false]
  refine Eq.trans (z74 (i:=0) (n:=2) (k:=j+19) (a:=lo a) rfl rfl (by simp) (by kernel_rfl) (by show 1≤a∧a≤8192;omega) (fun _ h=>absurd h (by omega)) (by kernel_rfl)) ?_
  refine Eq.trans (z74 (i:=1) (n:=2) (k:=j+18) (a:=mid b) rfl rfl (by simp) (by kernel_rfl) (by show 1≤b∧b≤8192;omega) (fun x _ hx=>by cases hx;show a<b;omega) (by kernel_rfl)) ?_
  rfl
 | @three a b c ha hb hc =>
  unfold z2t
  rw [show decide (((([lo a,mid b,HI c]:List z7).length:Nat):Int)<1)=false from rfl,cond_false,show decide (((([lo a,mid b,HI c]:List z7).length:Nat):Int)>3)=false from rfl,Option.bind_some,cond_false]
  refine Eq.trans (z74 (i:=0) (n:=3) (k:=j+19) (a:=lo a) rfl rfl (by simp) (by kernel_rfl) (by show 1≤a∧a≤8192;omega) (fun _ h=>absurd h (by omega)) (by kernel_rfl)) ?_
  refine Eq.trans (z74 (i:=1) (n:=3) (k:=j+18) (a:=mid b) rfl rfl (by simp) (by kernel_rfl) (by show 1≤b∧b≤8192;omega) (fun x _ hx=>by cases hx;show a<b;omega) (by kernel_rfl)) ?_
  refine Eq.trans (z74 (i:=2) (n:=3) (k:=j+17) (a:=HI c) rfl rfl (by simp) (by kernel_rfl) (by show 1≤c∧c≤8192;omega) (fun x _ hx=>by cases hx;show b<c;omega) (by kernel_rfl)) ?_
  rfl
theorem new_ok {l:List z7} (h:Lays l) (j:Nat):z4m (j+20) l=some (some ⟨l.map one0⟩):=by
 unfold z4m
 rw [ctl_ok h,Option.bind_some,show ((0:Int) != 0)=false from rfl,cond_false]
 cases h<;>rfl
structure Had (e:One):Prop where
 ok:OkE e
 came:e.came=true
 till:e.f_until=300005
 rest:e.resting=false
 woke:e.woken=false
theorem zlc {l:z7} {i size:Int} {p:TaiRtp} (hs:0≤p.Seq∧p.Seq<65536) {k:Nat} (hk:10≤k) :
  ∃ n e',Had e'∧e'.told=l∧∀ L:Ly,ix L.l i=some (one0 l)→z1m k L i p size 5=some (n,true,⟨L.l.set i.toNat e'⟩):=by
 have ea:z3y ⟨-1,-1,0,0⟩ p.Seq=some (p.Seq,true,⟨p.Seq,p.Seq,1,1⟩):=by
  have hx:z57 (-1) p.Seq=some p.Seq:=by
   unfold z57 z6c
   rw [wrap_i64 (n:=p.Seq) (by omega) (by omega),show shP .shl .i64 1 16=some 65536 from rfl,Option.bind_some];rfl
  unfold z3y
  rw [hx,Option.bind_some,show decide ((-1:Int)<0)=true from rfl,cond_true,decide_eq_true (Int.le_refl _),cond_true];rfl
 obtain ⟨m',em,w0,w1⟩:=zoc (m:=⟨[0,0,0,0,0],0,0⟩) (n:=IntKind.wrap .i64 (size+28)) (now:=5) (by decide) (by decide) (by decide) (by decide) hk
 refine ⟨p.Seq,⟨l,⟨p.Seq,p.Seq,1,1⟩,⟨[m'.slots.getD 0 0,m'.slots.getD 1 0,m'.slots.getD 2 0,m'.slots.getD 3 0,m'.slots.getD 4 0],m'.last,m'.total⟩,true,300005,false,false,0⟩,⟨⟨by simp only;omega,by simp only;omega,w0,w1⟩,rfl,rfl,rfl,rfl⟩,rfl,fun L hL=>?_⟩
 unfold z1m
 rw [zdg hL,Option.bind_some,Bool.not_true,cond_false,hL,Option.bind_some]
 unfold one0
 simp only
 rw [ea,Option.bind_some]
 simp only [Bool.not_true,cond_false]
 have em':z1v k ⟨[([0,0,0,0,0]:List Int).getD 0 0,([0,0,0,0,0]:List Int).getD 1 0,([0,0,0,0,0]:List Int).getD 2 0,([0,0,0,0,0]:List Int).getD 3 0,([0,0,0,0,0]:List Int).getD 4 0],0,0⟩ (IntKind.wrap .i64 (size+28)) 5=some m':=em
 rw [em',Option.bind_some,show z5w 5=some 300005 from rfl,Option.bind_some]
theorem zly {kE0:Int→Int→List z7→Ly→Option Bool} {x1 x2:Int} {l:List z7} (he:∀ x∈l,HasExt x) (hl:l.length≤3):∀ m i k:Nat,∀ L:Ly,i+m=l.length→m+100≤k→L.l.length=l.length→(∀ j:Nat,j<i→∃ e a,L.l[j]?=some e∧l[j]?=some a∧Had e∧e.told=a)→(∀ j:Nat,i≤j→L.l[j]?=(l[j]?).map one0) →
  ∃ L':Ly,zy k kE0 x1 x2 l (l.length:Int) (i:Int) L=kE0 x1 x2 l L'∧L'.l.length=l.length∧∀ j:Nat,j<l.length→∃ e a,L'.l[j]?=some e∧l[j]?=some a∧Had e∧e.told=a:=by
 intro m
 induction m with
 | zero =>
  intro i k L hi hk hL h1 h2
  obtain ⟨k,rfl⟩:∃ j,k=j+1:=⟨k-1,by omega⟩
  rw [zy,decide_eq_false (by omega),cond_false]
  exact ⟨L,rfl,hL,fun j hj=>h1 j (by omega)⟩
 | succ m ih =>
  intro i k L hi hk hL h1 h2
  obtain ⟨k,rfl⟩:∃ j,k=j+1:=⟨k-1,by omega⟩
  have hil:i<l.length:=by omega
  have hx:l[i]?=some l[i]:=List.getElem?_eq_getElem hil
  rw [zy,decide_eq_true (by omega),cond_true,ix_at hx,Option.bind_some]
  obtain ⟨E,pay,hE,hp,hpk⟩:=zmw (k:=k) (by omega) (he _ (List.getElem_mem hil)) (seq:=1) (stamp:=1) (size:=50) (key:=true) (by omega) (by omega)
  rw [hpk,Option.bind_some]
  obtain ⟨p,hrd,hps⟩:=zab (k:=k) (by omega) (seq:=1) (stamp:=1) (ssrc:=l[i].Ssrc) (E:=E) (pay:=pay) hE (by omega) (by omega)
  rw [hrd,Option.bind_some]
  simp only
  have hLi:ix L.l (i:Int)=some (one0 l[i]):=ix_at (by rw [h2 i (Nat.le_refl i),hx];rfl)
  obtain ⟨n,e',k1,k2,k3⟩:=zlc (l:=l[i]) (i:=(i:Int)) (size:=((pkt 1 1 l[i].Ssrc E pay).length:Int)) (p:=p) (by omega) (k:=k) (by omega)
  rw [k3 L hLi,Option.bind_some]
  simp only
  rw [wrap_i64 (n:=(i:Int)+1) (by omega) (by omega)]
  refine ih (i+1) k ⟨L.l.set (i:Int).toNat e'⟩ (by omega) (by omega) (by simpa using hL) (fun j hj=>?_) (fun j hj=>?_)
  ·by_cases hji:j=i
   ·subst hji
    refine ⟨e',l[j],?_,hx,k1,k2⟩
    simp only [Int.toNat_natCast]
    exact List.getElem?_set_self (by omega)
   ·obtain ⟨e,a,q1,q2⟩:=h1 j (by omega)
    refine ⟨e,a,?_,q2⟩
    simp only [Int.toNat_natCast]
    rw [List.getElem?_set_ne (by omega)];exact q1
  ·simp only [Int.toNat_natCast]
   rw [List.getElem?_set_ne (by omega)];exact h2 j (by omega)
theorem zm7 {L:Ly} {i:Int} {e:One} (h:ix L.l i=some e):z11 L i=some e.told.Height:=by
 unfold z11
 rw [zdg h,Option.bind_some,Bool.not_true,cond_false,h,Option.bind_some]
theorem zn5 {i:Int} {e:One} (he:Had e) {k:Nat} (hk:10≤k):∃ c,1≤c∧∀ L:Ly,ix L.l i=some e→z1y k L i 6=some c:=by
 obtain ⟨⟨s0,s1,m0,m1⟩,h1,h2,h3,h4⟩:=he
 obtain ⟨r,hr⟩:=zng (m:=⟨[e.meter.slots.getD 0 0,e.meter.slots.getD 1 0,e.meter.slots.getD 2 0,e.meter.slots.getD 3 0,e.meter.slots.getD 4 0],e.meter.last,e.meter.total⟩) (now:=6) m0 m1 (by decide) (by decide) hk
 obtain ⟨v,hv⟩:=zg4 r 1000
 refine ⟨if v>1 then v else 1,by split<;>omega,fun L hL=>?_⟩
 unfold z1y
 rw [zdg hL,Option.bind_some,Bool.not_true,cond_false,hL,Option.bind_some,h3,h4,cond_false,Option.bind_some,cond_false,hr,Option.bind_some,hv,Option.bind_some]
structure Cho (L:Ly) (h:Int) (i:Nat) (c:z5):Prop where
 costs:c.Costs.length=i
 goods:c.Goods.length=i
 at_:∀ j:Nat,j<i→∃ e x,L.l[j]?=some e∧c.Costs[j]?=some x∧c.Goods[j]?=some e.told.Height∧decide (x<0)=decide (e.told.Height>h)
theorem Cho.next {L:Ly} {h:Int} {i:Nat} {c:z5} (hc:Cho L h i c) {e:One} {x:Int} (he:L.l[i]?=some e) (hx:decide (x<0)=decide (e.told.Height>h)):Cho L h (i+1) ⟨c.Class,c.Costs++[x],c.Goods++[e.told.Height]⟩:=by
 obtain ⟨h1,h2,h3⟩:=hc
 refine ⟨by simp [h1],by simp [h2],fun j hj=>?_⟩
 by_cases hji:j=i
 ·subst hji
  refine ⟨e,x,he,?_,?_,hx⟩
  ·simp only;rw [List.getElem?_append_right (by omega),h1];simp
  ·simp only;rw [List.getElem?_append_right (by omega),h2];simp
 ·obtain ⟨e',x',q1,q2,q3,q4⟩:=h3 j (by omega)
  refine ⟨e',x',q1,?_,?_,q4⟩
  ·simp only;rw [List.getElem?_append_left (by omega)];exact q2
  ·simp only;rw [List.getElem?_append_left (by omega)];exact q3
theorem zmi {L:Ly} {h:Int} {y:z5} (hl:L.l.length≤3) (hh:∀ j:Nat,j<L.l.length→∃ e,L.l[j]?=some e∧Had e):∀ m i k:Nat,∀ c:z5,i+m=L.l.length→m+20≤k→Cho L h i c →
  ∃ c',z19 k (fun _ yg=>some yg) L h 6 false (L.l.length:Int) (i:Int) y c=some c'∧Cho L h L.l.length c':=by
 intro m
 induction m with
 | zero =>
  intro i k c hi hk hc
  obtain ⟨k,rfl⟩:∃ j,k=j+1:=⟨k-1,by omega⟩
  rw [z19,decide_eq_false (by omega),cond_false]
  obtain rfl:i=L.l.length:=by omega
  exact ⟨c,rfl,hc⟩
 | succ m ih =>
  intro i k c hi hk hc
  obtain ⟨k,rfl⟩:∃ j,k=j+1:=⟨k-1,by omega⟩
  obtain ⟨e,he,hd⟩:=hh i (by omega)
  have hx:ix L.l (i:Int)=some e:=ix_at he
  have hc1:=hc.costs
  have hc2:=hc.goods
  rw [z19,decide_eq_true (by omega),cond_true,zm7 hx,Option.bind_some,wrap_i64 (n:=(i:Int)+1) (by omega) (by omega)]
  by_cases hle:e.told.Height≤h
  ·obtain ⟨v,hv,hcst⟩:=zn5 (i:=(i:Int)) hd (k:=k) (by omega)
   rw [decide_eq_true hle,cond_true,zom hx,hd.came,hd.rest,hd.till,show (true&&(!false&&decide ((6:Int)<300005)))=true from rfl,Option.bind_some,cond_true,Option.bind_some,Option.bind_some,cond_true,hcst L hx,Option.bind_some,ap_eq (by omega) (by simp;omega),Option.bind_some,Option.bind_some,ap_eq (by omega) (by simp;omega),Option.bind_some]
   exact ih (i+1) k _ (by omega) (by omega) (hc.next he (by rw [decide_eq_false (by omega),decide_eq_false (by omega)]))
  ·rw [decide_eq_false hle,cond_false,Option.bind_some,cond_false,ap_eq (by omega) (by simp;omega),Option.bind_some,Option.bind_some,ap_eq (by omega) (by simp;omega),Option.bind_some]
   exact ih (i+1) k _ (by omega) (by omega) (hc.next he (by rw [decide_eq_true (by omega),decide_eq_true (by omega)]))
theorem zhb {L:Ly} {h:Int} (hl:L.l.length≤3) (hh:∀ j:Nat,j<L.l.length→∃ e,L.l[j]?=some e∧Had e) {k:Nat} (hk:30≤k):∃ c,z2l k L h 1 6 false=some c∧Cho L h L.l.length c:=by
 unfold z2l z3c
 rw [Option.bind_some]
 exact zmi hl hh L.l.length 0 k _ (by omega) (by omega) ⟨rfl,rfl,fun j hj=>absurd hj (by omega)⟩
theorem all_l1 {kE0:Unit→Option Bool} {kE1:Bool→Option Bool} {L:Ly} {l:List z7} {h h':Int} {c d:z5} (hl:l.length≤3) (hL:L.l.length=l.length) (ht:∀ j:Nat,j<l.length→∃ e a,L.l[j]?=some e∧l[j]?=some a∧Had e∧e.told=a) (hc:Cho L h L.l.length c) (hd:Cho L h' L.l.length d) :
  ∀ m i k:Nat,i+m=l.length→m<k→zz k kE0 kE1 l h h' (l.length:Int) (i:Int) c d=kE0 ():=by
 intro m
 induction m with
 | zero =>
  intro i k hi hk
  obtain ⟨k,rfl⟩:∃ j,k=j+1:=⟨k-1,by omega⟩
  rw [zz,decide_eq_false (by omega),cond_false]
 | succ m ih =>
  intro i k hi hk
  obtain ⟨k,rfl⟩:∃ j,k=j+1:=⟨k-1,by omega⟩
  obtain ⟨e,a,q1,q2,q3,rfl⟩:=ht i (by omega)
  obtain ⟨e1,x,p1,p2,p3,p4⟩:=hc.at_ i (by omega)
  obtain ⟨e2,x',r1,r2,r3,r4⟩:=hd.at_ i (by omega)
  rw [q1] at p1 r1
  cases p1
  cases r1
  rw [zz,decide_eq_true (by omega),cond_true,ix_at p2,Option.bind_some,ix_at q2,Option.bind_some,p4,beq_self_eq_true,Bool.not_true,cond_false,ix_at r2,Option.bind_some,Option.bind_some,r4,beq_self_eq_true,Bool.not_true,Option.bind_some,cond_false,ix_at p3,Option.bind_some,Option.bind_some,show (e.told.Height != e.told.Height)=false by simp,Option.bind_some,cond_false,wrap_i64 (n:=(i:Int)+1) (by omega) (by omega)]
  exact ih (i+1) k (by omega) (by omega)
theorem znj:z6s 300=some true:=by kernel_rfl
theorem allocHeights_p {xs:List Int} (hx:xs.length<2^50) (a b:Int):z2y 300 xs a b=some true:=by
 obtain ⟨l,t',e1,hl⟩:=zk6 (t:=⟨xs,0⟩) ⟨Int.le_refl 0,by simp only;omega,hx⟩ (k:=300) (by omega)
 have hlen:=hl.len
 unfold z2y
 rw [e1,Option.bind_some]
 simp only
 rw [show z4m 300 l=_ from new_ok hl 280,Option.bind_some]
 simp only
 generalize hK:(fun (r92_1 r92_2:Int) (r92_7:List z7) (yg42:z8)=>_)=K
 obtain ⟨L,q1,q2,q3⟩:=zly (kE0:=K) (x1:=a) (x2:=b) hl.ext hlen.2 l.length 0 300 ⟨l.map one0⟩ (by omega) (by omega) (by simp) (fun j hj=>absurd hj (by omega)) (fun j _=>by simp)
 refine Eq.trans q1 ?_
 rw [← hK]
 simp only
 have hh:∀ j:Nat,j<L.l.length→∃ e,L.l[j]?=some e∧Had e:=fun j hj=>by
  obtain ⟨e,a,p1,_,p3,_⟩:=q3 j (by omega)
  exact ⟨e,p1,p3⟩
 obtain ⟨c,hc,hc'⟩:=zhb (L:=L) (h:=intBits .and .i64 a 1023) (by omega) hh (k:=300) (by omega)
 obtain ⟨d,hd,hd'⟩:=zhb (L:=L) (h:=IntKind.wrap .i64 (intBits .and .i64 a 1023+intBits .and .i64 b 511)) (by omega) hh (k:=300) (by omega)
 rw [hc,Option.bind_some,hd,Option.bind_some,hc'.costs,hd'.costs,hc'.goods,q2,show ((l.length:Int) != (l.length:Int))=false by simp,cond_false,Option.bind_some,cond_false,Option.bind_some,cond_false]
 refine Eq.trans (all_l1 hlen.2 q2 q3 hc' hd' l.length 0 300 (by omega) (by omega)) ?_
 rw [znj];rfl
end Lay
theorem allocHeights_ev (a0:(DT.slice 8 (.int .i64)).D) (a1 a2:Int) (w0:(DT.slice 8 (.int .i64)).ok a0) (_:(DT.int .i64).ok a1) (_:(DT.int .i64).ok a2) :
  ev G X0 12 [] [(DT.slice 8 (.int .i64)).val a0,(DT.int .i64).val a1,(DT.int .i64).val a2] []=some ([.v (bV true)],[]):=by
 have hl:(Option.getD a0 []).length<2^50:=by
  cases a0 with
  | none=>exact Nat.two_pow_pos 50
  | some l =>
   have:=w0.1
   have hr:reachBytes≤140737488355328:=by decide
   have e:(Option.getD (some l) []).length=l.length:=rfl
   omega
 obtain ⟨_,h1,rfl⟩:=zb6 300 (h:=[]) (σ:=[]) (Option.getD a0 []) (znk a0) a1 a2 _ (Lay.allocHeights_p hl a1 a2)
 exact h1
end Go.Ev
