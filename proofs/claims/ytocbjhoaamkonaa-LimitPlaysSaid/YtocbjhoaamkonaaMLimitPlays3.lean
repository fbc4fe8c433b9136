/- A part of the proof that follows: What one can take is what the document says, for any calls. -/
import Derived.Test.YtocbjhoaamkonaaMLimitPlays2
namespace Go.Ev
open Go.Proofs
set_option linter.unusedVariables false
set_option linter.unusedSimpArgs false
set_option maxRecDepth 100000
section
variable {β α : Type} {Q : β→α→Prop} {K : Exit × Env × H→Option α}
def zy {β:Type} (k:Nat) (kE0:Int→Int→Int→(List z8)→Option β) (x1:Int) (x12:Int) (x13:Int) (zw0:(List z8)):Option β:=match k with
| 0=>none
| k+1 =>
(bif decide (x12≤x13) then ((ix zw0 x12).bind fun a33 =>
(ix zw0 x1).bind fun a38 =>
(zk k a33 a38).bind fun r43 =>
some (decide (r43<0))) else (some false)).bind fun b48 =>
bif b48 then (
zy k kE0 x1 (IntKind.wrap .i64 (x12+1)) x13 zw0)
else (
kE0 x1 x12 x13 zw0)
def z1c {β:Type} (k:Nat) (kE0:Int→Int→Int→(List z8)→Option β) (x1:Int) (x12:Int) (x13:Int) (zw0:(List z8)):Option β:=match k with
| 0=>none
| k+1 =>
(bif decide (x12≤x13) then ((ix zw0 x13).bind fun a66 =>
(ix zw0 x1).bind fun a71 =>
(zk k a66 a71).bind fun r76 =>
some (!(decide (r76<0)))) else (some false)).bind fun b81 =>
bif b81 then (
z1c k kE0 x1 x12 (IntKind.wrap .i64 (x13-1)) zw0)
else (
kE0 x1 x12 x13 zw0)
def z1b {β:Type} (k:Nat) (kE0:Int→Int→Int→(List z8)→Option β) (x1:Int) (x12:Int) (x13:Int) (zw0:(List z8)):Option β:=match k with
| 0=>none
| k+1 =>
(bif decide (x12≤x13) then ((ix zw0 x12).bind fun a160 =>
(ix zw0 x1).bind fun a165 =>
(zk k a160 a165).bind fun r170 =>
some (decide (r170<0))) else (some false)).bind fun b175 =>
bif b175 then (
z1b k kE0 x1 (IntKind.wrap .i64 (x12+1)) x13 zw0)
else (
kE0 x1 x12 x13 zw0)
def zw {β:Type} (k:Nat) (kE0:Int→Int→Int→(List z8)→Option β) (x1:Int) (x12:Int) (x13:Int) (zw0:(List z8)):Option β:=match k with
| 0=>none
| k+1 =>
(bif decide (x12≤x13) then ((ix zw0 x13).bind fun a193 =>
(ix zw0 x1).bind fun a198 =>
(zk k a193 a198).bind fun r203 =>
some (!(decide (r203<0)))) else (some false)).bind fun b208 =>
bif b208 then (
zw k kE0 x1 x12 (IntKind.wrap .i64 (x13-1)) zw0)
else (
kE0 x1 x12 x13 zw0)
def zx {β:Type} (k:Nat) (kE0:Int→Int→(List z8)→Option β) (x1:Int) (x12:Int) (x13:Int) (zw0:(List z8)):Option β:=match k with
| 0=>none
| k+1 =>
z1b k (fun r184_1 r184_12 r184_13 zw0 =>
zw k (fun r217_1 r217_12 r217_13 zw0 =>
bif decide (r217_12>r217_13) then (
kE0 r217_1 r217_13 zw0)
else (
(ix zw0 r217_13).bind fun a223 =>
(ix zw0 r217_12).bind fun a228 =>
(ix zw0 r217_12).bind fun a233 =>
(stx zw0 r217_12 a223).bind fun a238 =>
(ix a238 r217_13).bind fun a242 =>
(stx a238 r217_13 a228).bind fun a247 =>
zx k kE0 r217_1 (IntKind.wrap .i64 (r217_12+1)) (IntKind.wrap .i64 (r217_13-1)) a247)) r184_1 r184_12 r184_13 zw0) x1 x12 x13 zw0
def zh (k:Nat) (x0:(List z8)) (x1:Int) (x2:Int) (x3:Int):Option (Int×Bool×(List z8)) :=
(ix x0 x3).bind fun a1 =>
(ix x0 x1).bind fun a6 =>
(ix x0 x1).bind fun a11 =>
(stx x0 x1 a1).bind fun a16 =>
(ix a16 x3).bind fun a20 =>
(stx a16 x3 a6).bind fun a25 =>
zy k (fun r57_1 r57_12 r57_13 zw0 =>
z1c k (fun r90_1 r90_12 r90_13 zw0 =>
bif decide (r90_12>r90_13) then (
(ix zw0 r90_1).bind fun a96 =>
(ix zw0 r90_13).bind fun a101 =>
(ix zw0 r90_13).bind fun a106 =>
(stx zw0 r90_13 a96).bind fun a111 =>
(ix a111 r90_1).bind fun a115 =>
(stx a111 r90_1 a101).bind fun a120 =>
some (r90_13,true,a120))
else (
(ix zw0 r90_13).bind fun a124 =>
(ix zw0 r90_12).bind fun a129 =>
(ix zw0 r90_12).bind fun a134 =>
(stx zw0 r90_12 a124).bind fun a139 =>
(ix a139 r90_13).bind fun a143 =>
(stx a139 r90_13 a129).bind fun a148 =>
zx k (fun r255_1 r255_13 zw0 =>
(ix zw0 r255_1).bind fun a260 =>
(ix zw0 r255_13).bind fun a265 =>
(ix zw0 r255_13).bind fun a270 =>
(stx zw0 r255_13 a260).bind fun a275 =>
(ix a275 r255_1).bind fun a279 =>
(stx a275 r255_1 a265).bind fun a284 =>
some (r255_13,false,a284)) r90_1 (IntKind.wrap .i64 (r90_12+1)) (IntKind.wrap .i64 (r90_13-1)) a148)) r57_1 r57_12 r57_13 zw0) x1 (IntKind.wrap .i64 (x1+1)) (IntKind.wrap .i64 (x2-1)) a25
theorem z6a {h:H} {l0:Loc} {o0:Nat} {u0:V} {kE0:Int→Int→Int→(List z8)→Option β} (hE0:∀ (q1:Int) (q12:Int) (q13:Int) (zw0:(List z8)) (w55:List C) (h56:WL l0 o0 z5 zw0 u0 w55) (H53:Go.Ev.H) (_:Fm 178 h [⟨l0,o0,w55⟩] [] [] H53),Sim (kE0 q1 q12 q13 zw0) (K ((.exit 0),(envL [(0,u0),(1,(.p (.int .i64 q1))),(4,(.clo 114 [])),(12,(.p (.int .i64 q12))),(13,(.p (.int .i64 q13)))]),H53)) Q) (k:Nat):∀ (x1:Int) (x12:Int) (x13:Int) (zw0:(List z8)) (w31:List C) (h32:WL l0 o0 z5 zw0 u0 w31) (H29:Go.Ev.H) (_:Fm 178 h [⟨l0,o0,w31⟩] [] [] H29) {σ:Stamp},Sim (zy k kE0 x1 x12 x13 zw0) ((cvL G X0 z3u z3t σ (envL [(0,u0),(1,(.p (.int .i64 x1))),(4,(.clo 114 [])),(12,(.p (.int .i64 x12))),(13,(.p (.int .i64 x13)))]) H29).bind K) Q:=by
 induction k with
 | zero=>intros;exact .no
 | succ k ih =>
  intro x1 x12 x13 zw0 w31 h32 H29 S30 σ
  rw [zy]
  refine .round (Sim.ext (zav _ _ _ _ _ _ _ _ _) ?_)
  refine .ch (P:=fun r y=>(.p (.bool r),H29)=y) ?_ (fun b48 y49 h50 h51=>?_)
  ·refine .cq ?_ ?_
   ·refine .bd fun a33 h34=>?_
    refine .op ((S30.slW (i:=0) rfl h32).iS h34 rfl) ?_
    obtain ⟨w36,h37,hE35⟩:=(S30.slW (i:=0) rfl h32).el h34 rfl
    obtain rfl:=z5.inv h37
    refine .op (hE35.all (by simp)) ?_
    refine .bd fun a38 h39=>?_
    refine .op ((S30.slW (i:=0) rfl h32).iS h39 rfl) ?_
    obtain ⟨w41,h42,hE40⟩:=(S30.slW (i:=0) rfl h32).el h39 rfl
    obtain rfl:=z5.inv h42
    refine .op (hE40.all (by simp)) ?_
    refine .clo ?_
    refine .call (z19 k a33 (show z5.R a33 [.p (.int .i64 a33.f_At),.p (.int .u64 a33.Key)] from (z5.mk)) a38 (show z5.R a38 [.p (.int .i64 a38.f_At),.p (.int .u64 a38.Key)] from (z5.mk))) fun r43 cs44 H45 h46 q47=>?_
    cases q47
    refine .ci ?_
    exact .ret rfl rfl
   ·exact .ret rfl rfl
  subst h51
  refine .ab ?_
  refine .cq ?_ ?_
  ·exact ih x1 (IntKind.wrap .i64 (x12+1)) x13 zw0 w31 h32 H29 (S30.wk2 aN aN)
  exact hE0 x1 x12 x13 zw0 w31 h32 H29 (S30.wk2 aN aN)
theorem z6j {h:H} {l0:Loc} {o0:Nat} {u0:V} {kE0:Int→Int→Int→(List z8)→Option β} (hE0:∀ (q1:Int) (q12:Int) (q13:Int) (zw0:(List z8)) (w88:List C) (h89:WL l0 o0 z5 zw0 u0 w88) (H86:Go.Ev.H) (_:Fm 178 h [⟨l0,o0,w88⟩] [] [] H86),Sim (kE0 q1 q12 q13 zw0) (K ((.exit 2),(envL [(0,u0),(1,(.p (.int .i64 q1))),(4,(.clo 114 [])),(12,(.p (.int .i64 q12))),(13,(.p (.int .i64 q13)))]),H86)) Q) (k:Nat):∀ (x1:Int) (x12:Int) (x13:Int) (zw0:(List z8)) (w64:List C) (h65:WL l0 o0 z5 zw0 u0 w64) (H62:Go.Ev.H) (_:Fm 178 h [⟨l0,o0,w64⟩] [] [] H62) {σ:Stamp},Sim (z1c k kE0 x1 x12 x13 zw0) ((cvL G X0 z3w z3s σ (envL [(0,u0),(1,(.p (.int .i64 x1))),(4,(.clo 114 [])),(12,(.p (.int .i64 x12))),(13,(.p (.int .i64 x13)))]) H62).bind K) Q:=by
 induction k with
 | zero=>intros;exact .no
 | succ k ih =>
  intro x1 x12 x13 zw0 w64 h65 H62 S63 σ
  rw [z1c]
  refine .round (Sim.ext (zb6 _ _ _ _ _ _ _ _ _) ?_)
  refine .ch (P:=fun r y=>(.p (.bool r),H62)=y) ?_ (fun b81 y82 h83 h84=>?_)
  ·refine .cq ?_ ?_
   ·refine .bd fun a66 h67=>?_
    refine .op ((S63.slW (i:=0) rfl h65).iS h67 rfl) ?_
    obtain ⟨w69,h70,hE68⟩:=(S63.slW (i:=0) rfl h65).el h67 rfl
    obtain rfl:=z5.inv h70
    refine .op (hE68.all (by simp)) ?_
    refine .bd fun a71 h72=>?_
    refine .op ((S63.slW (i:=0) rfl h65).iS h72 rfl) ?_
    obtain ⟨w74,h75,hE73⟩:=(S63.slW (i:=0) rfl h65).el h72 rfl
    obtain rfl:=z5.inv h75
    refine .op (hE73.all (by simp)) ?_
    refine .clo ?_
    refine .call (z19 k a66 (show z5.R a66 [.p (.int .i64 a66.f_At),.p (.int .u64 a66.Key)] from (z5.mk)) a71 (show z5.R a71 [.p (.int .i64 a71.f_At),.p (.int .u64 a71.Key)] from (z5.mk))) fun r76 cs77 H78 h79 q80=>?_
    cases q80
    refine .ci ?_
    exact .ret rfl rfl
   ·exact .ret rfl rfl
  subst h84
  refine .ab ?_
  refine .cq ?_ ?_
  ·exact ih x1 x12 (IntKind.wrap .i64 (x13-1)) zw0 w64 h65 H62 (S63.wk2 aN aN)
  exact hE0 x1 x12 x13 zw0 w64 h65 H62 (S63.wk2 aN aN)
theorem z6i {h:H} {l0:Loc} {o0:Nat} {u0:V} {kE0:Int→Int→Int→(List z8)→Option β} (hE0:∀ (q1:Int) (q12:Int) (q13:Int) (zw0:(List z8)) (w182:List C) (h183:WL l0 o0 z5 zw0 u0 w182) (H180:Go.Ev.H) (_:Fm 178 h [⟨l0,o0,w182⟩] [] [] H180),Sim (kE0 q1 q12 q13 zw0) (K ((.exit 6),(envL [(0,u0),(1,(.p (.int .i64 q1))),(4,(.clo 114 [])),(12,(.p (.int .i64 q12))),(13,(.p (.int .i64 q13)))]),H180)) Q) (k:Nat):∀ (x1:Int) (x12:Int) (x13:Int) (zw0:(List z8)) (w158:List C) (h159:WL l0 o0 z5 zw0 u0 w158) (H156:Go.Ev.H) (_:Fm 178 h [⟨l0,o0,w158⟩] [] [] H156) {σ:Stamp},Sim (z1b k kE0 x1 x12 x13 zw0) ((cvL G X0 z3v z3q σ (envL [(0,u0),(1,(.p (.int .i64 x1))),(4,(.clo 114 [])),(12,(.p (.int .i64 x12))),(13,(.p (.int .i64 x13)))]) H156).bind K) Q:=by
 induction k with
 | zero=>intros;exact .no
 | succ k ih =>
  intro x1 x12 x13 zw0 w158 h159 H156 S157 σ
  rw [z1b]
  refine .round (Sim.ext (zb2 _ _ _ _ _ _ _ _ _) ?_)
  refine .ch (P:=fun r y=>(.p (.bool r),H156)=y) ?_ (fun b175 y176 h177 h178=>?_)
  ·refine .cq ?_ ?_
   ·refine .bd fun a160 h161=>?_
    refine .op ((S157.slW (i:=0) rfl h159).iS h161 rfl) ?_
    obtain ⟨w163,h164,hE162⟩:=(S157.slW (i:=0) rfl h159).el h161 rfl
    obtain rfl:=z5.inv h164
    refine .op (hE162.all (by simp)) ?_
    refine .bd fun a165 h166=>?_
    refine .op ((S157.slW (i:=0) rfl h159).iS h166 rfl) ?_
    obtain ⟨w168,h169,hE167⟩:=(S157.slW (i:=0) rfl h159).el h166 rfl
    obtain rfl:=z5.inv h169
    refine .op (hE167.all (by simp)) ?_
    refine .clo ?_
    refine .call (z19 k a160 (show z5.R a160 [.p (.int .i64 a160.f_At),.p (.int .u64 a160.Key)] from (z5.mk)) a165 (show z5.R a165 [.p (.int .i64 a165.f_At),.p (.int .u64 a165.Key)] from (z5.mk))) fun r170 cs171 H172 h173 q174=>?_
    cases q174
    refine .ci ?_
    exact .ret rfl rfl
   ·exact .ret rfl rfl
  subst h178
  refine .ab ?_
  refine .cq ?_ ?_
  ·exact ih x1 (IntKind.wrap .i64 (x12+1)) x13 zw0 w158 h159 H156 (S157.wk2 aN aN)
  exact hE0 x1 x12 x13 zw0 w158 h159 H156 (S157.wk2 aN aN)
theorem z69 {h:H} {l0:Loc} {o0:Nat} {u0:V} {kE0:Int→Int→Int→(List z8)→Option β} (hE0:∀ (q1:Int) (q12:Int) (q13:Int) (zw0:(List z8)) (w215:List C) (h216:WL l0 o0 z5 zw0 u0 w215) (H213:Go.Ev.H) (_:Fm 178 h [⟨l0,o0,w215⟩] [] [] H213),Sim (kE0 q1 q12 q13 zw0) (K ((.exit 8),(envL [(0,u0),(1,(.p (.int .i64 q1))),(4,(.clo 114 [])),(12,(.p (.int .i64 q12))),(13,(.p (.int .i64 q13)))]),H213)) Q) (k:Nat):∀ (x1:Int) (x12:Int) (x13:Int) (zw0:(List z8)) (w191:List C) (h192:WL l0 o0 z5 zw0 u0 w191) (H189:Go.Ev.H) (_:Fm 178 h [⟨l0,o0,w191⟩] [] [] H189) {σ:Stamp},Sim (zw k kE0 x1 x12 x13 zw0) ((cvL G X0 z3l z3r σ (envL [(0,u0),(1,(.p (.int .i64 x1))),(4,(.clo 114 [])),(12,(.p (.int .i64 x12))),(13,(.p (.int .i64 x13)))]) H189).bind K) Q:=by
 induction k with
 | zero=>intros;exact .no
 | succ k ih =>
  intro x1 x12 x13 zw0 w191 h192 H189 S190 σ
  rw [zw]
  refine .round (Sim.ext (zay _ _ _ _ _ _ _ _ _) ?_)
  refine .ch (P:=fun r y=>(.p (.bool r),H189)=y) ?_ (fun b208 y209 h210 h211=>?_)
  ·refine .cq ?_ ?_
   ·refine .bd fun a193 h194=>?_
    refine .op ((S190.slW (i:=0) rfl h192).iS h194 rfl) ?_
    obtain ⟨w196,h197,hE195⟩:=(S190.slW (i:=0) rfl h192).el h194 rfl
    obtain rfl:=z5.inv h197
    refine .op (hE195.all (by simp)) ?_
    refine .bd fun a198 h199=>?_
    refine .op ((S190.slW (i:=0) rfl h192).iS h199 rfl) ?_
    obtain ⟨w201,h202,hE200⟩:=(S190.slW (i:=0) rfl h192).el h199 rfl
    obtain rfl:=z5.inv h202
    refine .op (hE200.all (by simp)) ?_
    refine .clo ?_
    refine .call (z19 k a193 (show z5.R a193 [.p (.int .i64 a193.f_At),.p (.int .u64 a193.Key)] from (z5.mk)) a198 (show z5.R a198 [.p (.int .i64 a198.f_At),.p (.int .u64 a198.Key)] from (z5.mk))) fun r203 cs204 H205 h206 q207=>?_
    cases q207
    refine .ci ?_
    exact .ret rfl rfl
   ·exact .ret rfl rfl
  subst h211
  refine .ab ?_
  refine .cq ?_ ?_
  ·exact ih x1 x12 (IntKind.wrap .i64 (x13-1)) zw0 w191 h192 H189 (S190.wk2 aN aN)
  exact hE0 x1 x12 x13 zw0 w191 h192 H189 (S190.wk2 aN aN)
theorem z6f {h:H} {l0:Loc} {o0:Nat} {u0:V} {kE0:Int→Int→(List z8)→Option β} (hE0:∀ (q1:Int) (q13:Int) (zw0:(List z8)) (w253:List C) (h254:WL l0 o0 z5 zw0 u0 w253) (H251:Go.Ev.H) (_:Fm 178 h [⟨l0,o0,w253⟩] [] [] H251),Sim (kE0 q1 q13 zw0) (K ((.exit 4),(envL [(0,u0),(1,(.p (.int .i64 q1))),(13,(.p (.int .i64 q13)))]),H251)) Q) (k:Nat):∀ (x1:Int) (x12:Int) (x13:Int) (zw0:(List z8)) (w154:List C) (h155:WL l0 o0 z5 zw0 u0 w154) (H152:Go.Ev.H) (_:Fm 178 h [⟨l0,o0,w154⟩] [] [] H152) {σ:Stamp},Sim (zx k kE0 x1 x12 x13 zw0) ((cvL G X0 z3p z3x σ (envL [(0,u0),(1,(.p (.int .i64 x1))),(4,(.clo 114 [])),(12,(.p (.int .i64 x12))),(13,(.p (.int .i64 x13)))]) H152).bind K) Q:=by
 induction k with
 | zero=>intros;exact .no
 | succ k ih =>
  intro x1 x12 x13 zw0 w154 h155 H152 S153 σ
  rw [zx]
  refine .round (Sim.ext (zb1 _ _ _ _ _ _ _ _ _) ?_)
  refine .as (z6i ?_ k x1 x12 x13 zw0 w154 h155 H152 (S153.wk2 aN aN))
  ·intro r184_1 r184_12 r184_13 zw0 w187 h188 H185 S186
   refine .ext (zaf _ _ _ _ _ _ _ _ _) ?_
   refine .as (z69 ?_ k r184_1 r184_12 r184_13 zw0 w187 h188 H185 (S186.wk2 aN aN))
   ·intro r217_1 r217_12 r217_13 zw0 w220 h221 H218 S219
    refine .ext (zah _ _ _ _ _ _ _ _ _) ?_
    refine .cq ?_ ?_
    ·exact hE0 r217_1 r217_13 zw0 w220 h221 H218 (S219.wk2 aN aN)
    refine .bd fun a223 h224=>?_
    refine .op ((S219.slW (i:=0) rfl h221).iS h224 rfl) ?_
    obtain ⟨w226,h227,hE225⟩:=(S219.slW (i:=0) rfl h221).el h224 rfl
    obtain rfl:=z5.inv h227
    refine .op (hE225.all (by simp)) ?_
    refine .bd fun a228 h229=>?_
    refine .op ((S219.slW (i:=0) rfl h221).iS h229 rfl) ?_
    obtain ⟨w231,h232,hE230⟩:=(S219.slW (i:=0) rfl h221).el h229 rfl
    obtain rfl:=z5.inv h232
    refine .op (hE230.all (by simp)) ?_
    refine .bd fun a233 h234=>?_
    refine .op ((S219.slW (i:=0) rfl h221).iS h234 rfl) ?_
    refine .bd fun a238 h239=>?_
    obtain ⟨w240,H235,e236,h241,S237⟩:=S219.setWA (i:=0) (e:=2) (own:=false) (σ:=(13::0::1::1::1::0::σ)) (nv:=[.p (.int .i64 a223.f_At),.p (.int .u64 a223.Key)]) (xv:=(.agg [.p (.int .i64 a223.f_At),.p (.int .u64 a223.Key)])) rfl h221 h239 rfl (z28 (sC (sI _ _) (sC (sI _ _) sN))) (show z5.R a223 [.p (.int .i64 a223.f_At),.p (.int .u64 a223.Key)] from (z5.mk)) rfl
    refine .op (sM e236) ?_
    refine .bd fun a242 h243=>?_
    refine .op ((S237.slW (i:=0) rfl h241).iS h243 rfl) ?_
    refine .bd fun a247 h248=>?_
    obtain ⟨w249,H244,e245,h250,S246⟩:=S237.setWA (i:=0) (e:=2) (own:=false) (σ:=(15::0::1::1::1::0::σ)) (nv:=[.p (.int .i64 a228.f_At),.p (.int .u64 a228.Key)]) (xv:=(.agg [.p (.int .i64 a228.f_At),.p (.int .u64 a228.Key)])) rfl h241 h248 rfl (z28 (sC (sI _ _) (sC (sI _ _) sN))) (show z5.R a228 [.p (.int .i64 a228.f_At),.p (.int .u64 a228.Key)] from (z5.mk)) rfl
    refine .op (sM e245) ?_
    exact ih r217_1 (IntKind.wrap .i64 (r217_12+1)) (IntKind.wrap .i64 (r217_13-1)) a247 w249 h250 H244 (S246.wk2 aN aN)
theorem z12 (k:Nat) {h:H} {σ:Stamp} (x0:List z8) {u0:V} {l0:Loc} {o0:Nat} {w0:List C} (hw0:WL l0 o0 z5 x0 u0 w0) (ha0:AtC h l0 o0 w0) (x1:Int) (x2:Int) (x3:Int):Sim (zh k x0 x1 x2 x3) (ev G X0 163 σ [u0,(.p (.int .i64 x1)),(.p (.int .i64 x2)),(.p (.int .i64 x3)),(.clo 114 [])] h) (fun r s=>∃ (wb0:List C),WL l0 o0 z5 r.2.2 u0 wb0∧s=([.v (.p (.int .i64 r.1)),.v (.p (.bool r.2.1))],pts h [⟨l0,o0,wb0⟩])):=by
 refine .ev rfl (Sim.ext (za6 _ _ _ _ _ _ _ _ _) ?_)
 rw [zh]
 have S0:Fm 178 h [⟨l0,o0,w0⟩] [] [] (List.replicate 178 []::h):=Fm.start1 ha0
 refine .bd fun a1 h2=>?_
 refine .op ((S0.slW (i:=0) rfl hw0).iS h2 rfl) ?_
 obtain ⟨w4,h5,hE3⟩:=(S0.slW (i:=0) rfl hw0).el h2 rfl
 obtain rfl:=z5.inv h5
 refine .op (hE3.all (by simp)) ?_
 refine .bd fun a6 h7=>?_
 refine .op ((S0.slW (i:=0) rfl hw0).iS h7 rfl) ?_
 obtain ⟨w9,h10,hE8⟩:=(S0.slW (i:=0) rfl hw0).el h7 rfl
 obtain rfl:=z5.inv h10
 refine .op (hE8.all (by simp)) ?_
 refine .bd fun a11 h12=>?_
 refine .op ((S0.slW (i:=0) rfl hw0).iS h12 rfl) ?_
 refine .bd fun a16 h17=>?_
 obtain ⟨w18,H13,e14,h19,S15⟩:=S0.setWA (i:=0) (e:=2) (own:=false) (σ:=(13::0::1::0::σ)) (nv:=[.p (.int .i64 a1.f_At),.p (.int .u64 a1.Key)]) (xv:=(.agg [.p (.int .i64 a1.f_At),.p (.int .u64 a1.Key)])) rfl hw0 h17 rfl (z28 (sC (sI _ _) (sC (sI _ _) sN))) (show z5.R a1 [.p (.int .i64 a1.f_At),.p (.int .u64 a1.Key)] from (z5.mk)) rfl
 refine .op (sM e14) ?_
 refine .bd fun a20 h21=>?_
 refine .op ((S15.slW (i:=0) rfl h19).iS h21 rfl) ?_
 refine .bd fun a25 h26=>?_
 obtain ⟨w27,H22,e23,h28,S24⟩:=S15.setWA (i:=0) (e:=2) (own:=false) (σ:=(15::0::1::0::σ)) (nv:=[.p (.int .i64 a6.f_At),.p (.int .u64 a6.Key)]) (xv:=(.agg [.p (.int .i64 a6.f_At),.p (.int .u64 a6.Key)])) rfl h19 h26 rfl (z28 (sC (sI _ _) (sC (sI _ _) sN))) (show z5.R a6 [.p (.int .i64 a6.f_At),.p (.int .u64 a6.Key)] from (z5.mk)) rfl
 refine .op (sM e23) ?_
 refine .as (z6a ?_ k x1 (IntKind.wrap .i64 (x1+1)) (IntKind.wrap .i64 (x2-1)) a25 w27 h28 H22 (S24.wk2 aN aN))
 ·intro r57_1 r57_12 r57_13 zw0 w60 h61 H58 S59
  refine .ext (zak _ _ _ _ _ _ _ _ _) ?_
  refine .as (z6j ?_ k r57_1 r57_12 r57_13 zw0 w60 h61 H58 (S59.wk2 aN aN))
  ·intro r90_1 r90_12 r90_13 zw0 w93 h94 H91 S92
   refine .ext (zag _ _ _ _ _ _ _ _ _) ?_
   refine .cq ?_ ?_
   ·refine .bd fun a96 h97=>?_
    refine .op ((S92.slW (i:=0) rfl h94).iS h97 rfl) ?_
    obtain ⟨w99,h100,hE98⟩:=(S92.slW (i:=0) rfl h94).el h97 rfl
    obtain rfl:=z5.inv h100
    refine .op (hE98.all (by simp)) ?_
    refine .bd fun a101 h102=>?_
    refine .op ((S92.slW (i:=0) rfl h94).iS h102 rfl) ?_
    obtain ⟨w104,h105,hE103⟩:=(S92.slW (i:=0) rfl h94).el h102 rfl
    obtain rfl:=z5.inv h105
    refine .op (hE103.all (by simp)) ?_
    refine .bd fun a106 h107=>?_
    refine .op ((S92.slW (i:=0) rfl h94).iS h107 rfl) ?_
    refine .bd fun a111 h112=>?_
    obtain ⟨w113,H108,e109,h114,S110⟩:=S92.setWA (i:=0) (e:=2) (own:=false) (σ:=(13::0::1::0::1::1::1::1::1::0::σ)) (nv:=[.p (.int .i64 a96.f_At),.p (.int .u64 a96.Key)]) (xv:=(.agg [.p (.int .i64 a96.f_At),.p (.int .u64 a96.Key)])) rfl h94 h112 rfl (z28 (sC (sI _ _) (sC (sI _ _) sN))) (show z5.R a96 [.p (.int .i64 a96.f_At),.p (.int .u64 a96.Key)] from (z5.mk)) rfl
    refine .op (sM e109) ?_
    refine .bd fun a115 h116=>?_
    refine .op ((S110.slW (i:=0) rfl h114).iS h116 rfl) ?_
    refine .bd fun a120 h121=>?_
    obtain ⟨w122,H117,e118,h123,S119⟩:=S110.setWA (i:=0) (e:=2) (own:=false) (σ:=(15::0::1::0::1::1::1::1::1::0::σ)) (nv:=[.p (.int .i64 a101.f_At),.p (.int .u64 a101.Key)]) (xv:=(.agg [.p (.int .i64 a101.f_At),.p (.int .u64 a101.Key)])) rfl h114 h121 rfl (z28 (sC (sI _ _) (sC (sI _ _) sN))) (show z5.R a101 [.p (.int .i64 a101.f_At),.p (.int .u64 a101.Key)] from (z5.mk)) rfl
    refine .op (sM e118) ?_
    exact .fin (S119.finN (lC (sI _ _).lv (lC (sB _).lv lN))) ⟨w122,h123,rfl⟩
   refine .bd fun a124 h125=>?_
   refine .op ((S92.slW (i:=0) rfl h94).iS h125 rfl) ?_
   obtain ⟨w127,h128,hE126⟩:=(S92.slW (i:=0) rfl h94).el h125 rfl
   obtain rfl:=z5.inv h128
   refine .op (hE126.all (by simp)) ?_
   refine .bd fun a129 h130=>?_
   refine .op ((S92.slW (i:=0) rfl h94).iS h130 rfl) ?_
   obtain ⟨w132,h133,hE131⟩:=(S92.slW (i:=0) rfl h94).el h130 rfl
   obtain rfl:=z5.inv h133
   refine .op (hE131.all (by simp)) ?_
   refine .bd fun a134 h135=>?_
   refine .op ((S92.slW (i:=0) rfl h94).iS h135 rfl) ?_
   refine .bd fun a139 h140=>?_
   obtain ⟨w141,H136,e137,h142,S138⟩:=S92.setWA (i:=0) (e:=2) (own:=false) (σ:=(13::0::1::1::1::1::1::1::0::σ)) (nv:=[.p (.int .i64 a124.f_At),.p (.int .u64 a124.Key)]) (xv:=(.agg [.p (.int .i64 a124.f_At),.p (.int .u64 a124.Key)])) rfl h94 h140 rfl (z28 (sC (sI _ _) (sC (sI _ _) sN))) (show z5.R a124 [.p (.int .i64 a124.f_At),.p (.int .u64 a124.Key)] from (z5.mk)) rfl
   refine .op (sM e137) ?_
   refine .bd fun a143 h144=>?_
   refine .op ((S138.slW (i:=0) rfl h142).iS h144 rfl) ?_
   refine .bd fun a148 h149=>?_
   obtain ⟨w150,H145,e146,h151,S147⟩:=S138.setWA (i:=0) (e:=2) (own:=false) (σ:=(15::0::1::1::1::1::1::1::0::σ)) (nv:=[.p (.int .i64 a129.f_At),.p (.int .u64 a129.Key)]) (xv:=(.agg [.p (.int .i64 a129.f_At),.p (.int .u64 a129.Key)])) rfl h142 h149 rfl (z28 (sC (sI _ _) (sC (sI _ _) sN))) (show z5.R a129 [.p (.int .i64 a129.f_At),.p (.int .u64 a129.Key)] from (z5.mk)) rfl
   refine .op (sM e146) ?_
   refine .as (z6f ?_ k r90_1 (IntKind.wrap .i64 (r90_12+1)) (IntKind.wrap .i64 (r90_13-1)) a148 w150 h151 H145 (S147.wk2 aN aN))
   ·intro r255_1 r255_13 zw0 w258 h259 H256 S257
    refine .ext (zai _ _ _ _ _ _ _) ?_
    refine .bd fun a260 h261=>?_
    refine .op ((S257.slW (i:=0) rfl h259).iS h261 rfl) ?_
    obtain ⟨w263,h264,hE262⟩:=(S257.slW (i:=0) rfl h259).el h261 rfl
    obtain rfl:=z5.inv h264
    refine .op (hE262.all (by simp)) ?_
    refine .bd fun a265 h266=>?_
    refine .op ((S257.slW (i:=0) rfl h259).iS h266 rfl) ?_
    obtain ⟨w268,h269,hE267⟩:=(S257.slW (i:=0) rfl h259).el h266 rfl
    obtain rfl:=z5.inv h269
    refine .op (hE267.all (by simp)) ?_
    refine .bd fun a270 h271=>?_
    refine .op ((S257.slW (i:=0) rfl h259).iS h271 rfl) ?_
    refine .bd fun a275 h276=>?_
    obtain ⟨w277,H272,e273,h278,S274⟩:=S257.setWA (i:=0) (e:=2) (own:=false) (σ:=(13::0::1::1::1::1::1::1::1::1::1::1::0::σ)) (nv:=[.p (.int .i64 a260.f_At),.p (.int .u64 a260.Key)]) (xv:=(.agg [.p (.int .i64 a260.f_At),.p (.int .u64 a260.Key)])) rfl h259 h276 rfl (z28 (sC (sI _ _) (sC (sI _ _) sN))) (show z5.R a260 [.p (.int .i64 a260.f_At),.p (.int .u64 a260.Key)] from (z5.mk)) rfl
    refine .op (sM e273) ?_
    refine .bd fun a279 h280=>?_
    refine .op ((S274.slW (i:=0) rfl h278).iS h280 rfl) ?_
    refine .bd fun a284 h285=>?_
    obtain ⟨w286,H281,e282,h287,S283⟩:=S274.setWA (i:=0) (e:=2) (own:=false) (σ:=(15::0::1::1::1::1::1::1::1::1::1::1::0::σ)) (nv:=[.p (.int .i64 a265.f_At),.p (.int .u64 a265.Key)]) (xv:=(.agg [.p (.int .i64 a265.f_At),.p (.int .u64 a265.Key)])) rfl h278 h285 rfl (z28 (sC (sI _ _) (sC (sI _ _) sN))) (show z5.R a265 [.p (.int .i64 a265.f_At),.p (.int .u64 a265.Key)] from (z5.mk)) rfl
    refine .op (sM e282) ?_
    exact .fin (S283.finN (lC (sI _ _).lv (lC (sB _).lv lN))) ⟨w286,h287,rfl⟩
end
end Go.Ev
namespace Go.Ev
open Go.Proofs
set_option linter.unusedVariables false
set_option linter.unusedSimpArgs false
set_option maxRecDepth 100000
noncomputable section
abbrev KT12:=Exit→Env→H→Option (List C × H)
variable (rec : CallF) (loop : LoopV) (σ : Stamp)
def z2y:Code:=(codeAt (bodyOf Try.f162) [1,1,1,0,0,0])
def z2x:Lv:=⟨2048,1024,[(0,2048)]⟩
def z5d:KT12:=(kBlock 0 (kSeq G rec loop (codeAt (bodyOf Try.f162) [1,1,1,1]) ⟨1024,1024,[]⟩ (1::1::1::0::σ) (finC G false Try.f162 (1::σ))))
def z2w:Code:=(codeAt (bodyOf Try.f162) [1,1,1,0,0,0,0,0,0,0])
def z30:Lv:=⟨6163,1024,[(2,6163),(1,6163),(0,2048)]⟩
def z5f:Exit→Env→H→Option (Exit×Env×H):=(kBlock 2 (kSeq G rec loop (codeAt (bodyOf Try.f162) [1,1,1,0,0,0,0,1]) ⟨6163,1024,[(1,6163),(0,2048)]⟩ (0::σ) (kBlock 1 (kRound loop (codeAt (bodyOf Try.f162) [1,1,1,0,0,0]) ⟨2048,1024,[(0,2048)]⟩ σ))))
def z2v:Code:=(codeAt (bodyOf Try.f162) [1,1,1,0,0,0,0,1,0,0,0])
def z2z:Lv:=⟨6163,1024,[(4,6163),(1,6163),(0,2048)]⟩
def z5c:Exit→Env→H→Option (Exit×Env×H):=(kBlock 4 (kSeq G rec loop (codeAt (bodyOf Try.f162) [1,1,1,0,0,0,0,1,1]) ⟨6163,1024,[(1,6163),(0,2048)]⟩ (1::0::σ) (kBlock 1 (kRound loop (codeAt (bodyOf Try.f162) [1,1,1,0,0,0]) ⟨2048,1024,[(0,2048)]⟩ σ))))
theorem z8u (x0:V) (x1:Int) (x2:Int) (x3:Int) (x4:V) (h:H):cvBody G rec loop 162 σ [x0,(.p (.int .i64 x1)),(.p (.int .i64 x2)),(.p (.int .i64 x3)),x4] h =
(iS 2 x0 x3).bind fun t1 =>
(ldO true 2 (List.replicate 90 []::h) t1).bind fun t2 =>
(iS 2 x0 x1).bind fun t3 =>
(ldO true 2 (List.replicate 90 []::h) t3).bind fun t4 =>
(iS 2 x0 x1).bind fun t5 =>
((stO false 2 (13::0::1::0::σ) (List.replicate 90 []::h) t5 t2).map fun h=>(udf,h)).bind fun q6 =>
(iS 2 x0 x3).bind fun t7 =>
((stO false 2 (15::0::1::0::σ) q6.2 t7 t4).map fun h=>(udf,h)).bind fun q8 =>
(loop z2y z2x (0::1::1::1::0::σ) (envL [(0,x0),(1,(.p (.int .i64 x1))),(4,x4),(11,(.p (.int .i64 (IntKind.wrap .i64 (x1+1))))),(12,(.p (.int .i64 (IntKind.wrap .i64 (x2-1)))))]) q8.2).bind fun r9=>z5d rec loop σ r9.1 r9.2.1 r9.2.2:=by kernel_rfl
theorem z9o (x0:V) (x1:Int) (x4:V) (x11:Int) (x12:Int) (h:H):z1n G rec loop z2y z2x σ (envL [(0,x0),(1,(.p (.int .i64 x1))),(4,x4),(11,(.p (.int .i64 x11))),(12,(.p (.int .i64 x12)))]) h =
(loop z2w z30 (0::0::σ) (envL [(0,x0),(1,(.p (.int .i64 x1))),(4,x4),(11,(.p (.int .i64 x11))),(12,(.p (.int .i64 x12)))]) h).bind fun r10=>z5f rec loop σ r10.1 r10.2.1 r10.2.2:=by kernel_rfl
theorem z8z (x11:Int) (h:H):z5d rec loop σ (.exit 0) (envL [(11,(.p (.int .i64 x11)))]) h =
fin false σ h [(.p (.int .i64 x11))]:=by kernel_rfl
theorem z9n (x0:V) (x1:Int) (x4:V) (x11:Int) (x12:Int) (h:H):z1n G rec loop z2w z30 σ (envL [(0,x0),(1,(.p (.int .i64 x1))),(4,x4),(11,(.p (.int .i64 x11))),(12,(.p (.int .i64 x12)))]) h =
(bif decide (x11≤x12) then ((iS 2 x0 x1).bind fun t11 =>
(ldO true 2 h t11).bind fun t12 =>
(iS 2 x0 x11).bind fun t13 =>
(ldO true 2 h t13).bind fun t14 =>
(cloO rec x4 (13::0::0::0::σ) [t12,t14] h (some 44)).bind fun q15 =>
(castI .i64 q15.1).bind fun n16 =>
some ((.p (.bool (!(decide (n16<0))))),q15.2)) else (some ((.p (.bool false)),h))).bind fun q17 =>
(asB q17.1).bind fun b18 =>
bif b18 then (
loop z2w z30 (1::σ) (envL [(0,x0),(1,(.p (.int .i64 x1))),(4,x4),(11,(.p (.int .i64 (IntKind.wrap .i64 (x11+1))))),(12,(.p (.int .i64 x12)))]) q17.2)
else (
some ((.exit 2),(envL [(0,x0),(1,(.p (.int .i64 x1))),(4,x4),(11,(.p (.int .i64 x11))),(12,(.p (.int .i64 x12)))]),q17.2)):=by kernel_rfl
theorem z90 (x0:V) (x1:Int) (x4:V) (x11:Int) (x12:Int) (h:H):z5f rec loop σ (.exit 2) (envL [(0,x0),(1,(.p (.int .i64 x1))),(4,x4),(11,(.p (.int .i64 x11))),(12,(.p (.int .i64 x12)))]) h =
(loop z2v z2z (0::1::0::σ) (envL [(0,x0),(1,(.p (.int .i64 x1))),(4,x4),(11,(.p (.int .i64 x11))),(12,(.p (.int .i64 x12)))]) h).bind fun r19=>z5c rec loop σ r19.1 r19.2.1 r19.2.2:=by kernel_rfl
theorem z9r (x0:V) (x1:Int) (x4:V) (x11:Int) (x12:Int) (h:H):z1n G rec loop z2v z2z σ (envL [(0,x0),(1,(.p (.int .i64 x1))),(4,x4),(11,(.p (.int .i64 x11))),(12,(.p (.int .i64 x12)))]) h =
(bif decide (x11≤x12) then ((iS 2 x0 x1).bind fun t20 =>
(ldO true 2 h t20).bind fun t21 =>
(iS 2 x0 x12).bind fun t22 =>
(ldO true 2 h t22).bind fun t23 =>
(cloO rec x4 (13::0::0::0::σ) [t21,t23] h (some 63)).bind fun q24 =>
(castI .i64 q24.1).bind fun n25 =>
some ((.p (.bool (decide (n25<0)))),q24.2)) else (some ((.p (.bool false)),h))).bind fun q26 =>
(asB q26.1).bind fun b27 =>
bif b27 then (
loop z2v z2z (1::σ) (envL [(0,x0),(1,(.p (.int .i64 x1))),(4,x4),(11,(.p (.int .i64 x11))),(12,(.p (.int .i64 (IntKind.wrap .i64 (x12-1)))))]) q26.2)
else (
some ((.exit 4),(envL [(0,x0),(1,(.p (.int .i64 x1))),(4,x4),(11,(.p (.int .i64 x11))),(12,(.p (.int .i64 x12)))]),q26.2)):=by kernel_rfl
theorem z92 (x0:V) (x1:Int) (x4:V) (x11:Int) (x12:Int) (h:H):z5c rec loop σ (.exit 4) (envL [(0,x0),(1,(.p (.int .i64 x1))),(4,x4),(11,(.p (.int .i64 x11))),(12,(.p (.int .i64 x12)))]) h =
bif decide (x11>x12) then (
some ((.exit 0),(envL [(11,(.p (.int .i64 x11)))]),h))
else (
(iS 2 x0 x12).bind fun t28 =>
(ldO true 2 h t28).bind fun t29 =>
(iS 2 x0 x11).bind fun t30 =>
(ldO true 2 h t30).bind fun t31 =>
(iS 2 x0 x11).bind fun t32 =>
((stO false 2 (13::0::1::1::1::0::σ) h t32 t29).map fun h=>(udf,h)).bind fun q33 =>
(iS 2 x0 x12).bind fun t34 =>
((stO false 2 (15::0::1::1::1::0::σ) q33.2 t34 t31).map fun h=>(udf,h)).bind fun q35 =>
loop z2y z2x (1::σ) (envL [(0,x0),(1,(.p (.int .i64 x1))),(4,x4),(11,(.p (.int .i64 (IntKind.wrap .i64 (x11+1))))),(12,(.p (.int .i64 (IntKind.wrap .i64 (x12-1)))))]) q35.2):=by kernel_rfl
end
end Go.Ev
namespace Go.Ev
open Go.Proofs
set_option linter.unusedVariables false
set_option linter.unusedSimpArgs false
set_option maxRecDepth 100000
section
variable {β α : Type} {Q : β→α→Prop} {K : Exit × Env × H→Option α}
def zz {β:Type} (k:Nat) (kE0:Int→Int→Int→(List z8)→Option β) (x1:Int) (x11:Int) (x12:Int) (zw0:(List z8)):Option β:=match k with
| 0=>none
| k+1 =>
(bif decide (x11≤x12) then ((ix zw0 x1).bind fun a37 =>
(ix zw0 x11).bind fun a42 =>
(zk k a37 a42).bind fun r47 =>
some (!(decide (r47<0)))) else (some false)).bind fun b52 =>
bif b52 then (
zz k kE0 x1 (IntKind.wrap .i64 (x11+1)) x12 zw0)
else (
kE0 x1 x11 x12 zw0)
def z10 {β:Type} (k:Nat) (kE0:Int→Int→Int→(List z8)→Option β) (x1:Int) (x11:Int) (x12:Int) (zw0:(List z8)):Option β:=match k with
| 0=>none
| k+1 =>
(bif decide (x11≤x12) then ((ix zw0 x1).bind fun a70 =>
(ix zw0 x12).bind fun a75 =>
(zk k a70 a75).bind fun r80 =>
some (decide (r80<0))) else (some false)).bind fun b85 =>
bif b85 then (
z10 k kE0 x1 x11 (IntKind.wrap .i64 (x12-1)) zw0)
else (
kE0 x1 x11 x12 zw0)
def z1g {β:Type} (k:Nat) (kE0:Int→(List z8)→Option β) (x1:Int) (x11:Int) (x12:Int) (zw0:(List z8)):Option β:=match k with
| 0=>none
| k+1 =>
zz k (fun r61_1 r61_11 r61_12 zw0 =>
z10 k (fun r94_1 r94_11 r94_12 zw0 =>
bif decide (r94_11>r94_12) then (
kE0 r94_11 zw0)
else (
(ix zw0 r94_12).bind fun a100 =>
(ix zw0 r94_11).bind fun a105 =>
(ix zw0 r94_11).bind fun a110 =>
(stx zw0 r94_11 a100).bind fun a115 =>
(ix a115 r94_12).bind fun a119 =>
(stx a115 r94_12 a105).bind fun a124 =>
z1g k kE0 r94_1 (IntKind.wrap .i64 (r94_11+1)) (IntKind.wrap .i64 (r94_12-1)) a124)) r61_1 r61_11 r61_12 zw0) x1 x11 x12 zw0
def zf (k:Nat) (x0:(List z8)) (x1:Int) (x2:Int) (x3:Int):Option (Int×(List z8)) :=
(ix x0 x3).bind fun a1 =>
(ix x0 x1).bind fun a6 =>
(ix x0 x1).bind fun a11 =>
(stx x0 x1 a1).bind fun a16 =>
(ix a16 x3).bind fun a20 =>
(stx a16 x3 a6).bind fun a25 =>
z1g k (fun r132_11 zw0 =>
some (r132_11,zw0)) x1 (IntKind.wrap .i64 (x1+1)) (IntKind.wrap .i64 (x2-1)) a25
theorem z58 {h:H} {l0:Loc} {o0:Nat} {u0:V} {kE0:Int→Int→Int→(List z8)→Option β} (hE0:∀ (q1:Int) (q11:Int) (q12:Int) (zw0:(List z8)) (w59:List C) (h60:WL l0 o0 z5 zw0 u0 w59) (H57:Go.Ev.H) (_:Fm 90 h [⟨l0,o0,w59⟩] [] [] H57),Sim (kE0 q1 q11 q12 zw0) (K ((.exit 2),(envL [(0,u0),(1,(.p (.int .i64 q1))),(4,(.clo 114 [])),(11,(.p (.int .i64 q11))),(12,(.p (.int .i64 q12)))]),H57)) Q) (k:Nat):∀ (x1:Int) (x11:Int) (x12:Int) (zw0:(List z8)) (w35:List C) (h36:WL l0 o0 z5 zw0 u0 w35) (H33:Go.Ev.H) (_:Fm 90 h [⟨l0,o0,w35⟩] [] [] H33) {σ:Stamp},Sim (zz k kE0 x1 x11 x12 zw0) ((cvL G X0 z2w z30 σ (envL [(0,u0),(1,(.p (.int .i64 x1))),(4,(.clo 114 [])),(11,(.p (.int .i64 x11))),(12,(.p (.int .i64 x12)))]) H33).bind K) Q:=by
 induction k with
 | zero=>intros;exact .no
 | succ k ih =>
  intro x1 x11 x12 zw0 w35 h36 H33 S34 σ
  rw [zz]
  refine .round (Sim.ext (z9n _ _ _ _ _ _ _ _ _) ?_)
  refine .ch (P:=fun r y=>(.p (.bool r),H33)=y) ?_ (fun b52 y53 h54 h55=>?_)
  ·refine .cq ?_ ?_
   ·refine .bd fun a37 h38=>?_
    refine .op ((S34.slW (i:=0) rfl h36).iS h38 rfl) ?_
    obtain ⟨w40,h41,hE39⟩:=(S34.slW (i:=0) rfl h36).el h38 rfl
    obtain rfl:=z5.inv h41
    refine .op (hE39.all (by simp)) ?_
    refine .bd fun a42 h43=>?_
    refine .op ((S34.slW (i:=0) rfl h36).iS h43 rfl) ?_
    obtain ⟨w45,h46,hE44⟩:=(S34.slW (i:=0) rfl h36).el h43 rfl
    obtain rfl:=z5.inv h46
    refine .op (hE44.all (by simp)) ?_
    refine .clo ?_
    refine .call (z19 k a37 (show z5.R a37 [.p (.int .i64 a37.f_At),.p (.int .u64 a37.Key)] from (z5.mk)) a42 (show z5.R a42 [.p (.int .i64 a42.f_At),.p (.int .u64 a42.Key)] from (z5.mk))) fun r47 cs48 H49 h50 q51=>?_
    cases q51
    refine .ci ?_
    exact .ret rfl rfl
   ·exact .ret rfl rfl
  subst h55
  refine .ab ?_
  refine .cq ?_ ?_
  ·exact ih x1 (IntKind.wrap .i64 (x11+1)) x12 zw0 w35 h36 H33 (S34.wk2 aN aN)
  exact hE0 x1 x11 x12 zw0 w35 h36 H33 (S34.wk2 aN aN)
theorem z5b {h:H} {l0:Loc} {o0:Nat} {u0:V} {kE0:Int→Int→Int→(List z8)→Option β} (hE0:∀ (q1:Int) (q11:Int) (q12:Int) (zw0:(List z8)) (w92:List C) (h93:WL l0 o0 z5 zw0 u0 w92) (H90:Go.Ev.H) (_:Fm 90 h [⟨l0,o0,w92⟩] [] [] H90),Sim (kE0 q1 q11 q12 zw0) (K ((.exit 4),(envL [(0,u0),(1,(.p (.int .i64 q1))),(4,(.clo 114 [])),(11,(.p (.int .i64 q11))),(12,(.p (.int .i64 q12)))]),H90)) Q) (k:Nat):∀ (x1:Int) (x11:Int) (x12:Int) (zw0:(List z8)) (w68:List C) (h69:WL l0 o0 z5 zw0 u0 w68) (H66:Go.Ev.H) (_:Fm 90 h [⟨l0,o0,w68⟩] [] [] H66) {σ:Stamp},Sim (z10 k kE0 x1 x11 x12 zw0) ((cvL G X0 z2v z2z σ (envL [(0,u0),(1,(.p (.int .i64 x1))),(4,(.clo 114 [])),(11,(.p (.int .i64 x11))),(12,(.p (.int .i64 x12)))]) H66).bind K) Q:=by
 induction k with
 | zero=>intros;exact .no
 | succ k ih =>
  intro x1 x11 x12 zw0 w68 h69 H66 S67 σ
  rw [z10]
  refine .round (Sim.ext (z9r _ _ _ _ _ _ _ _ _) ?_)
  refine .ch (P:=fun r y=>(.p (.bool r),H66)=y) ?_ (fun b85 y86 h87 h88=>?_)
  ·refine .cq ?_ ?_
   ·refine .bd fun a70 h71=>?_
    refine .op ((S67.slW (i:=0) rfl h69).iS h71 rfl) ?_
    obtain ⟨w73,h74,hE72⟩:=(S67.slW (i:=0) rfl h69).el h71 rfl
    obtain rfl:=z5.inv h74
    refine .op (hE72.all (by simp)) ?_
    refine .bd fun a75 h76=>?_
    refine .op ((S67.slW (i:=0) rfl h69).iS h76 rfl) ?_
    obtain ⟨w78,h79,hE77⟩:=(S67.slW (i:=0) rfl h69).el h76 rfl
    obtain rfl:=z5.inv h79
    refine .op (hE77.all (by simp)) ?_
    refine .clo ?_
    refine .call (z19 k a70 (show z5.R a70 [.p (.int .i64 a70.f_At),.p (.int .u64 a70.Key)] from (z5.mk)) a75 (show z5.R a75 [.p (.int .i64 a75.f_At),.p (.int .u64 a75.Key)] from (z5.mk))) fun r80 cs81 H82 h83 q84=>?_
    cases q84
    refine .ci ?_
    exact .ret rfl rfl
   ·exact .ret rfl rfl
  subst h88
  refine .ab ?_
  refine .cq ?_ ?_
  ·exact ih x1 x11 (IntKind.wrap .i64 (x12-1)) zw0 w68 h69 H66 (S67.wk2 aN aN)
  exact hE0 x1 x11 x12 zw0 w68 h69 H66 (S67.wk2 aN aN)
theorem z57 {h:H} {l0:Loc} {o0:Nat} {u0:V} {kE0:Int→(List z8)→Option β} (hE0:∀ (q11:Int) (zw0:(List z8)) (w130:List C) (h131:WL l0 o0 z5 zw0 u0 w130) (H128:Go.Ev.H) (_:Fm 90 h [⟨l0,o0,w130⟩] [] [] H128),Sim (kE0 q11 zw0) (K ((.exit 0),(envL [(11,(.p (.int .i64 q11)))]),H128)) Q) (k:Nat):∀ (x1:Int) (x11:Int) (x12:Int) (zw0:(List z8)) (w31:List C) (h32:WL l0 o0 z5 zw0 u0 w31) (H29:Go.Ev.H) (_:Fm 90 h [⟨l0,o0,w31⟩] [] [] H29) {σ:Stamp},Sim (z1g k kE0 x1 x11 x12 zw0) ((cvL G X0 z2y z2x σ (envL [(0,u0),(1,(.p (.int .i64 x1))),(4,(.clo 114 [])),(11,(.p (.int .i64 x11))),(12,(.p (.int .i64 x12)))]) H29).bind K) Q:=by
 induction k with
 | zero=>intros;exact .no
 | succ k ih =>
  intro x1 x11 x12 zw0 w31 h32 H29 S30 σ
  rw [z1g]
  refine .round (Sim.ext (z9o _ _ _ _ _ _ _ _ _) ?_)
  refine .as (z58 ?_ k x1 x11 x12 zw0 w31 h32 H29 (S30.wk2 aN aN))
  ·intro r61_1 r61_11 r61_12 zw0 w64 h65 H62 S63
   refine .ext (z90 _ _ _ _ _ _ _ _ _) ?_
   refine .as (z5b ?_ k r61_1 r61_11 r61_12 zw0 w64 h65 H62 (S63.wk2 aN aN))
   ·intro r94_1 r94_11 r94_12 zw0 w97 h98 H95 S96
    refine .ext (z92 _ _ _ _ _ _ _ _ _) ?_
    refine .cq ?_ ?_
    ·exact hE0 r94_11 zw0 w97 h98 H95 (S96.wk2 aN aN)
    refine .bd fun a100 h101=>?_
    refine .op ((S96.slW (i:=0) rfl h98).iS h101 rfl) ?_
    obtain ⟨w103,h104,hE102⟩:=(S96.slW (i:=0) rfl h98).el h101 rfl
    obtain rfl:=z5.inv h104
    refine .op (hE102.all (by simp)) ?_
    refine .bd fun a105 h106=>?_
    refine .op ((S96.slW (i:=0) rfl h98).iS h106 rfl) ?_
    obtain ⟨w108,h109,hE107⟩:=(S96.slW (i:=0) rfl h98).el h106 rfl
    obtain rfl:=z5.inv h109
    refine .op (hE107.all (by simp)) ?_
    refine .bd fun a110 h111=>?_
    refine .op ((S96.slW (i:=0) rfl h98).iS h111 rfl) ?_
    refine .bd fun a115 h116=>?_
    obtain ⟨w117,H112,e113,h118,S114⟩:=S96.setWA (i:=0) (e:=2) (own:=false) (σ:=(13::0::1::1::1::0::σ)) (nv:=[.p (.int .i64 a100.f_At),.p (.int .u64 a100.Key)]) (xv:=(.agg [.p (.int .i64 a100.f_At),.p (.int .u64 a100.Key)])) rfl h98 h116 rfl (z28 (sC (sI _ _) (sC (sI _ _) sN))) (show z5.R a100 [.p (.int .i64 a100.f_At),.p (.int .u64 a100.Key)] from (z5.mk)) rfl
    refine .op (sM e113) ?_
    refine .bd fun a119 h120=>?_
    refine .op ((S114.slW (i:=0) rfl h118).iS h120 rfl) ?_
    refine .bd fun a124 h125=>?_
    obtain ⟨w126,H121,e122,h127,S123⟩:=S114.setWA (i:=0) (e:=2) (own:=false) (σ:=(15::0::1::1::1::0::σ)) (nv:=[.p (.int .i64 a105.f_At),.p (.int .u64 a105.Key)]) (xv:=(.agg [.p (.int .i64 a105.f_At),.p (.int .u64 a105.Key)])) rfl h118 h125 rfl (z28 (sC (sI _ _) (sC (sI _ _) sN))) (show z5.R a105 [.p (.int .i64 a105.f_At),.p (.int .u64 a105.Key)] from (z5.mk)) rfl
    refine .op (sM e122) ?_
    exact ih r94_1 (IntKind.wrap .i64 (r94_11+1)) (IntKind.wrap .i64 (r94_12-1)) a124 w126 h127 H121 (S123.wk2 aN aN)
theorem zt (k:Nat) {h:H} {σ:Stamp} (x0:List z8) {u0:V} {l0:Loc} {o0:Nat} {w0:List C} (hw0:WL l0 o0 z5 x0 u0 w0) (ha0:AtC h l0 o0 w0) (x1:Int) (x2:Int) (x3:Int):Sim (zf k x0 x1 x2 x3) (ev G X0 162 σ [u0,(.p (.int .i64 x1)),(.p (.int .i64 x2)),(.p (.int .i64 x3)),(.clo 114 [])] h) (fun r s=>∃ (wb0:List C),WL l0 o0 z5 r.2 u0 wb0∧s=([.v (.p (.int .i64 r.1))],pts h [⟨l0,o0,wb0⟩])):=by
 refine .ev rfl (Sim.ext (z8u _ _ _ _ _ _ _ _ _) ?_)
 rw [zf]
 have S0:Fm 90 h [⟨l0,o0,w0⟩] [] [] (List.replicate 90 []::h):=Fm.start1 ha0
 refine .bd fun a1 h2=>?_
 refine .op ((S0.slW (i:=0) rfl hw0).iS h2 rfl) ?_
 obtain ⟨w4,h5,hE3⟩:=(S0.slW (i:=0) rfl hw0).el h2 rfl
 obtain rfl:=z5.inv h5
 refine .op (hE3.all (by simp)) ?_
 refine .bd fun a6 h7=>?_
 refine .op ((S0.slW (i:=0) rfl hw0).iS h7 rfl) ?_
 obtain ⟨w9,h10,hE8⟩:=(S0.slW (i:=0) rfl hw0).el h7 rfl
 obtain rfl:=z5.inv h10
 refine .op (hE8.all (by simp)) ?_
 refine .bd fun a11 h12=>?_
 refine .op ((S0.slW (i:=0) rfl hw0).iS h12 rfl) ?_
 refine .bd fun a16 h17=>?_
 obtain ⟨w18,H13,e14,h19,S15⟩:=S0.setWA (i:=0) (e:=2) (own:=false) (σ:=(13::0::1::0::σ)) (nv:=[.p (.int .i64 a1.f_At),.p (.int .u64 a1.Key)]) (xv:=(.agg [.p (.int .i64 a1.f_At),.p (.int .u64 a1.Key)])) rfl hw0 h17 rfl (z28 (sC (sI _ _) (sC (sI _ _) sN))) (show z5.R a1 [.p (.int .i64 a1.f_At),.p (.int .u64 a1.Key)] from (z5.mk)) rfl
 refine .op (sM e14) ?_
 refine .bd fun a20 h21=>?_
 refine .op ((S15.slW (i:=0) rfl h19).iS h21 rfl) ?_
 refine .bd fun a25 h26=>?_
 obtain ⟨w27,H22,e23,h28,S24⟩:=S15.setWA (i:=0) (e:=2) (own:=false) (σ:=(15::0::1::0::σ)) (nv:=[.p (.int .i64 a6.f_At),.p (.int .u64 a6.Key)]) (xv:=(.agg [.p (.int .i64 a6.f_At),.p (.int .u64 a6.Key)])) rfl h19 h26 rfl (z28 (sC (sI _ _) (sC (sI _ _) sN))) (show z5.R a6 [.p (.int .i64 a6.f_At),.p (.int .u64 a6.Key)] from (z5.mk)) rfl
 refine .op (sM e23) ?_
 refine .as (z57 ?_ k x1 (IntKind.wrap .i64 (x1+1)) (IntKind.wrap .i64 (x2-1)) a25 w27 h28 H22 (S24.wk2 aN aN))
 ·intro r132_11 zw0 w135 h136 H133 S134
  refine .ext (z8z _ _ _ _ _) ?_
  exact .fin (S134.finN (lC (sI _ _).lv lN)) ⟨w135,h136,rfl⟩
end
end Go.Ev
namespace Go.Ev
open Go.Proofs
set_option linter.unusedVariables false
set_option linter.unusedSimpArgs false
set_option maxRecDepth 100000
noncomputable section
abbrev KT13:=Exit→Env→H→Option (List C × H)
variable (rec : CallF) (loop : LoopV) (σ : Stamp)
def z3f:Code:=(codeAt (bodyOf Try.f160) [1,1,0,0])
def z3g:Lv:=⟨0,0,[(0,0)]⟩
def z63 (rec:CallF) (loop:LoopV) (σ:Stamp):KT13:=(kBlock 0 (finC G false Try.f160 (1::σ)))
theorem z9e (x0:V) (x1:Int) (x2:Int) (x3:V) (h:H):cvBody G rec loop 160 σ [x0,(.p (.int .i64 x1)),(.p (.int .i64 x2)),x3] h =
(loop z3f z3g (1::1::0::σ) (envL [(0,x0),(8,(.p (.int .i64 x1))),(9,(.p (.int .i64 (IntKind.wrap .i64 (x2-1)))))]) (List.replicate 34 []::h)).bind fun r1=>z63 rec loop σ r1.1 r1.2.1 r1.2.2:=by kernel_rfl
theorem zac (x0:V) (x8:Int) (x9:Int) (h:H):z1n G rec loop z3f z3g σ (envL [(0,x0),(8,(.p (.int .i64 x8))),(9,(.p (.int .i64 x9)))]) h =
bif decide (x8<x9) then (
(iS 2 x0 x9).bind fun t2 =>
(ldO true 2 h t2).bind fun t3 =>
(iS 2 x0 x8).bind fun t4 =>
(ldO true 2 h t4).bind fun t5 =>
(iS 2 x0 x8).bind fun t6 =>
((stO false 2 (13::0::1::0::σ) h t6 t3).map fun h=>(udf,h)).bind fun q7 =>
(iS 2 x0 x9).bind fun t8 =>
((stO false 2 (15::0::1::0::σ) q7.2 t8 t5).map fun h=>(udf,h)).bind fun q9 =>
loop z3f z3g (1::σ) (envL [(0,x0),(8,(.p (.int .i64 (IntKind.wrap .i64 (x8+1))))),(9,(.p (.int .i64 (IntKind.wrap .i64 (x9-1)))))]) q9.2)
else (
some ((.exit 0),(envL []),h)):=by kernel_rfl
theorem z9p  (h:H):z63 rec loop σ (.exit 0) (envL []) h =
fin false σ h []:=by kernel_rfl
end
end Go.Ev
namespace Go.Ev
open Go.Proofs
set_option linter.unusedVariables false
set_option linter.unusedSimpArgs false
set_option maxRecDepth 100000
section
variable {β α : Type} {Q : β→α→Prop} {K : Exit × Env × H→Option α}
def z15 {β:Type} (k:Nat) (kE0:(List z8)→Option β) (x8:Int) (x9:Int) (zw0:(List z8)):Option β:=match k with
| 0=>none
| k+1 =>
bif decide (x8<x9) then (
(ix zw0 x9).bind fun a6 =>
(ix zw0 x8).bind fun a11 =>
(ix zw0 x8).bind fun a16 =>
(stx zw0 x8 a6).bind fun a21 =>
(ix a21 x9).bind fun a25 =>
(stx a21 x9 a11).bind fun a30 =>
z15 k kE0 (IntKind.wrap .i64 (x8+1)) (IntKind.wrap .i64 (x9-1)) a30)
else (
kE0 zw0)
def z1d (k:Nat) (x0:(List z8)) (x1:Int) (x2:Int):Option ((List z8)) :=
z15 k (fun zw0 =>
some (zw0)) x1 (IntKind.wrap .i64 (x2-1)) x0
theorem z5t {h:H} {l0:Loc} {o0:Nat} {u0:V} {kE0:(List z8)→Option β} (hE0:∀ (zw0:(List z8)) (w36:List C) (h37:WL l0 o0 z5 zw0 u0 w36) (H34:Go.Ev.H) (_:Fm 34 h [⟨l0,o0,w36⟩] [] [] H34),Sim (kE0 zw0) (K ((.exit 0),(envL []),H34)) Q) (k:Nat):∀ (x8:Int) (x9:Int) (zw0:(List z8)) (w3:List C) (h4:WL l0 o0 z5 zw0 u0 w3) (H1:Go.Ev.H) (_:Fm 34 h [⟨l0,o0,w3⟩] [] [] H1) {σ:Stamp},Sim (z15 k kE0 x8 x9 zw0) ((cvL G X0 z3f z3g σ (envL [(0,u0),(8,(.p (.int .i64 x8))),(9,(.p (.int .i64 x9)))]) H1).bind K) Q:=by
 induction k with
 | zero=>intros;exact .no
 | succ k ih =>
  intro x8 x9 zw0 w3 h4 H1 S2 σ
  rw [z15]
  refine .round (Sim.ext (zac _ _ _ _ _ _ _) ?_)
  refine .cq ?_ ?_
  ·refine .bd fun a6 h7=>?_
   refine .op ((S2.slW (i:=0) rfl h4).iS h7 rfl) ?_
   obtain ⟨w9,h10,hE8⟩:=(S2.slW (i:=0) rfl h4).el h7 rfl
   obtain rfl:=z5.inv h10
   refine .op (hE8.all (by simp)) ?_
   refine .bd fun a11 h12=>?_
   refine .op ((S2.slW (i:=0) rfl h4).iS h12 rfl) ?_
   obtain ⟨w14,h15,hE13⟩:=(S2.slW (i:=0) rfl h4).el h12 rfl
   obtain rfl:=z5.inv h15
   refine .op (hE13.all (by simp)) ?_
   refine .bd fun a16 h17=>?_
   refine .op ((S2.slW (i:=0) rfl h4).iS h17 rfl) ?_
   refine .bd fun a21 h22=>?_
   obtain ⟨w23,H18,e19,h24,S20⟩:=S2.setWA (i:=0) (e:=2) (own:=false) (σ:=(13::0::1::0::σ)) (nv:=[.p (.int .i64 a6.f_At),.p (.int .u64 a6.Key)]) (xv:=(.agg [.p (.int .i64 a6.f_At),.p (.int .u64 a6.Key)])) rfl h4 h22 rfl (z28 (sC (sI _ _) (sC (sI _ _) sN))) (show z5.R a6 [.p (.int .i64 a6.f_At),.p (.int .u64 a6.Key)] from (z5.mk)) rfl
   refine .op (sM e19) ?_
   refine .bd fun a25 h26=>?_
   refine .op ((S20.slW (i:=0) rfl h24).iS h26 rfl) ?_
   refine .bd fun a30 h31=>?_
   obtain ⟨w32,H27,e28,h33,S29⟩:=S20.setWA (i:=0) (e:=2) (own:=false) (σ:=(15::0::1::0::σ)) (nv:=[.p (.int .i64 a11.f_At),.p (.int .u64 a11.Key)]) (xv:=(.agg [.p (.int .i64 a11.f_At),.p (.int .u64 a11.Key)])) rfl h24 h31 rfl (z28 (sC (sI _ _) (sC (sI _ _) sN))) (show z5.R a11 [.p (.int .i64 a11.f_At),.p (.int .u64 a11.Key)] from (z5.mk)) rfl
   refine .op (sM e28) ?_
   exact ih (IntKind.wrap .i64 (x8+1)) (IntKind.wrap .i64 (x9-1)) a30 w32 h33 H27 (S29.wk2 aN aN)
  exact hE0 zw0 w3 h4 H1 (S2.wk2 aN aN)
theorem z42 (k:Nat) {h:H} {σ:Stamp} (x0:List z8) {u0:V} {l0:Loc} {o0:Nat} {w0:List C} (hw0:WL l0 o0 z5 x0 u0 w0) (ha0:AtC h l0 o0 w0) (x1:Int) (x2:Int):Sim (z1d k x0 x1 x2) (ev G X0 160 σ [u0,(.p (.int .i64 x1)),(.p (.int .i64 x2)),(.clo 114 [])] h) (fun r s=>∃ (wb0:List C),WL l0 o0 z5 r u0 wb0∧s=([],pts h [⟨l0,o0,wb0⟩])):=by
 refine .ev rfl (Sim.ext (z9e _ _ _ _ _ _ _ _) ?_)
 rw [z1d]
 have S0:Fm 34 h [⟨l0,o0,w0⟩] [] [] (List.replicate 34 []::h):=Fm.start1 ha0
 refine .as (z5t ?_ k x1 (IntKind.wrap .i64 (x2-1)) x0 w0 hw0 (List.replicate 34 []::h) (S0.wk2 aN aN))
 ·intro zw0 w41 h42 H39 S40
  refine .ext (z9p _ _ _ _) ?_
  exact .fin (S40.finN lN) ⟨w41,h42,rfl⟩
def z9 {β:Type} (k:Nat) (rec:(List z8)→Int→Int→Int→Option ((List z8))) (kE0:(List z8)→Option β) (x1:Int) (x2:Int) (x3:Int) (x10:Bool) (x11:Bool) (zw0:(List z8)):Option β:=match k with
| 0=>none
| k+1 =>
bif decide ((IntKind.wrap .i64 (x2-x1))≤12) then (
(zu k zw0 x1 x2).bind fun r6 =>
kE0 r6)
else (
bif x3==0 then (
(z1p k zw0 x1 x2).bind fun r15 =>
kE0 r15)
else (
bif !x10 then (
(z1m k zw0 x1 x2).bind fun r24 =>
(z1e k r24 x1 x2).bind fun r32 =>
bif r32.2==2 then (
(z1d k r24 x1 x2).bind fun r38 =>
(bif x10 then (some x11) else (some false)).bind fun b46 =>
(bif b46 then (some (1==1)) else (some false)).bind fun b50 =>
bif b50 then (
(zi k r38 x1 x2).bind fun r55 =>
bif r55.1 then (
kE0 r55.2)
else (
(bif decide (x1>0) then ((ix r55.2 (IntKind.wrap .i64 (x1-1))).bind fun a64 =>
(ix r55.2 (IntKind.wrap .i64 ((IntKind.wrap .i64 (x2-1))-(IntKind.wrap .i64 (r32.1-x1))))).bind fun a69 =>
(zk k a64 a69).bind fun r74 =>
some (!(decide (r74<0)))) else (some false)).bind fun b79 =>
bif b79 then (
(zf k r55.2 x1 x2 (IntKind.wrap .i64 ((IntKind.wrap .i64 (x2-1))-(IntKind.wrap .i64 (r32.1-x1))))).bind fun r84 =>
z9 k rec kE0 r84.1 x2 (IntKind.wrap .i64 (x3-1)) x10 x11 r84.2)
else (
(zh k r55.2 x1 x2 (IntKind.wrap .i64 ((IntKind.wrap .i64 (x2-1))-(IntKind.wrap .i64 (r32.1-x1))))).bind fun r92 =>
bif decide ((IntKind.wrap .i64 (r92.1-x1))<(IntKind.wrap .i64 (x2-r92.1))) then (
(rec r92.2.2 x1 r92.1 (IntKind.wrap .i64 (x3-1))).bind fun r101 =>
z9 k rec kE0 (IntKind.wrap .i64 (r92.1+1)) x2 (IntKind.wrap .i64 (x3-1)) (decide ((IntKind.wrap .i64 (r92.1-x1))≥(IntKind.wrap .i64 (Int.tdiv (IntKind.wrap .i64 (x2-x1)) 8)))) r92.2.1 r101)
else (
(rec r92.2.2 (IntKind.wrap .i64 (r92.1+1)) x2 (IntKind.wrap .i64 (x3-1))).bind fun r109 =>
z9 k rec kE0 x1 r92.1 (IntKind.wrap .i64 (x3-1)) (decide ((IntKind.wrap .i64 (x2-r92.1))≥(IntKind.wrap .i64 (Int.tdiv (IntKind.wrap .i64 (x2-x1)) 8)))) r92.2.1 r109))))
else (
(bif decide (x1>0) then ((ix r38 (IntKind.wrap .i64 (x1-1))).bind fun a117 =>
(ix r38 (IntKind.wrap .i64 ((IntKind.wrap .i64 (x2-1))-(IntKind.wrap .i64 (r32.1-x1))))).bind fun a122 =>
(zk k a117 a122).bind fun r127 =>
some (!(decide (r127<0)))) else (some false)).bind fun b132 =>
bif b132 then (
(zf k r38 x1 x2 (IntKind.wrap .i64 ((IntKind.wrap .i64 (x2-1))-(IntKind.wrap .i64 (r32.1-x1))))).bind fun r137 =>
z9 k rec kE0 r137.1 x2 (IntKind.wrap .i64 (x3-1)) x10 x11 r137.2)
else (
(zh k r38 x1 x2 (IntKind.wrap .i64 ((IntKind.wrap .i64 (x2-1))-(IntKind.wrap .i64 (r32.1-x1))))).bind fun r145 =>
bif decide ((IntKind.wrap .i64 (r145.1-x1))<(IntKind.wrap .i64 (x2-r145.1))) then (
(rec r145.2.2 x1 r145.1 (IntKind.wrap .i64 (x3-1))).bind fun r154 =>
z9 k rec kE0 (IntKind.wrap .i64 (r145.1+1)) x2 (IntKind.wrap .i64 (x3-1)) (decide ((IntKind.wrap .i64 (r145.1-x1))≥(IntKind.wrap .i64 (Int.tdiv (IntKind.wrap .i64 (x2-x1)) 8)))) r145.2.1 r154)
else (
(rec r145.2.2 (IntKind.wrap .i64 (r145.1+1)) x2 (IntKind.wrap .i64 (x3-1))).bind fun r162 =>
z9 k rec kE0 x1 r145.1 (IntKind.wrap .i64 (x3-1)) (decide ((IntKind.wrap .i64 (x2-r145.1))≥(IntKind.wrap .i64 (Int.tdiv (IntKind.wrap .i64 (x2-x1)) 8)))) r145.2.1 r162))))
else (
(bif x10 then (some x11) else (some false)).bind fun b170 =>
(bif b170 then (some (r32.2==1)) else (some false)).bind fun b174 =>
bif b174 then (
(zi k r24 x1 x2).bind fun r179 =>
bif r179.1 then (
kE0 r179.2)
else (
(bif decide (x1>0) then ((ix r179.2 (IntKind.wrap .i64 (x1-1))).bind fun a188 =>
(ix r179.2 r32.1).bind fun a193 =>
(zk k a188 a193).bind fun r198 =>
some (!(decide (r198<0)))) else (some false)).bind fun b203 =>
bif b203 then (
(zf k r179.2 x1 x2 r32.1).bind fun r208 =>
z9 k rec kE0 r208.1 x2 (IntKind.wrap .i64 (x3-1)) x10 x11 r208.2)
else (
(zh k r179.2 x1 x2 r32.1).bind fun r216 =>
bif decide ((IntKind.wrap .i64 (r216.1-x1))<(IntKind.wrap .i64 (x2-r216.1))) then (
(rec r216.2.2 x1 r216.1 (IntKind.wrap .i64 (x3-1))).bind fun r225 =>
z9 k rec kE0 (IntKind.wrap .i64 (r216.1+1)) x2 (IntKind.wrap .i64 (x3-1)) (decide ((IntKind.wrap .i64 (r216.1-x1))≥(IntKind.wrap .i64 (Int.tdiv (IntKind.wrap .i64 (x2-x1)) 8)))) r216.2.1 r225)
else (
(rec r216.2.2 (IntKind.wrap .i64 (r216.1+1)) x2 (IntKind.wrap .i64 (x3-1))).bind fun r233 =>
z9 k rec kE0 x1 r216.1 (IntKind.wrap .i64 (x3-1)) (decide ((IntKind.wrap .i64 (x2-r216.1))≥(IntKind.wrap .i64 (Int.tdiv (IntKind.wrap .i64 (x2-x1)) 8)))) r216.2.1 r233))))
else (
(bif decide (x1>0) then ((ix r24 (IntKind.wrap .i64 (x1-1))).bind fun a241 =>
(ix r24 r32.1).bind fun a246 =>
(zk k a241 a246).bind fun r251 =>
some (!(decide (r251<0)))) else (some false)).bind fun b256 =>
bif b256 then (
(zf k r24 x1 x2 r32.1).bind fun r261 =>
z9 k rec kE0 r261.1 x2 (IntKind.wrap .i64 (x3-1)) x10 x11 r261.2)
else (
(zh k r24 x1 x2 r32.1).bind fun r269 =>
bif decide ((IntKind.wrap .i64 (r269.1-x1))<(IntKind.wrap .i64 (x2-r269.1))) then (
(rec r269.2.2 x1 r269.1 (IntKind.wrap .i64 (x3-1))).bind fun r278 =>
z9 k rec kE0 (IntKind.wrap .i64 (r269.1+1)) x2 (IntKind.wrap .i64 (x3-1)) (decide ((IntKind.wrap .i64 (r269.1-x1))≥(IntKind.wrap .i64 (Int.tdiv (IntKind.wrap .i64 (x2-x1)) 8)))) r269.2.1 r278)
else (
(rec r269.2.2 (IntKind.wrap .i64 (r269.1+1)) x2 (IntKind.wrap .i64 (x3-1))).bind fun r286 =>
z9 k rec kE0 x1 r269.1 (IntKind.wrap .i64 (x3-1)) (decide ((IntKind.wrap .i64 (x2-r269.1))≥(IntKind.wrap .i64 (Int.tdiv (IntKind.wrap .i64 (x2-x1)) 8)))) r269.2.1 r286)))))
else (
(z1e k zw0 x1 x2).bind fun r294 =>
bif r294.2==2 then (
(z1d k zw0 x1 x2).bind fun r300 =>
(bif x10 then (some x11) else (some false)).bind fun b308 =>
(bif b308 then (some (1==1)) else (some false)).bind fun b312 =>
bif b312 then (
(zi k r300 x1 x2).bind fun r317 =>
bif r317.1 then (
kE0 r317.2)
else (
(bif decide (x1>0) then ((ix r317.2 (IntKind.wrap .i64 (x1-1))).bind fun a326 =>
(ix r317.2 (IntKind.wrap .i64 ((IntKind.wrap .i64 (x2-1))-(IntKind.wrap .i64 (r294.1-x1))))).bind fun a331 =>
(zk k a326 a331).bind fun r336 =>
some (!(decide (r336<0)))) else (some false)).bind fun b341 =>
bif b341 then (
(zf k r317.2 x1 x2 (IntKind.wrap .i64 ((IntKind.wrap .i64 (x2-1))-(IntKind.wrap .i64 (r294.1-x1))))).bind fun r346 =>
z9 k rec kE0 r346.1 x2 x3 x10 x11 r346.2)
else (
(zh k r317.2 x1 x2 (IntKind.wrap .i64 ((IntKind.wrap .i64 (x2-1))-(IntKind.wrap .i64 (r294.1-x1))))).bind fun r354 =>
bif decide ((IntKind.wrap .i64 (r354.1-x1))<(IntKind.wrap .i64 (x2-r354.1))) then (
(rec r354.2.2 x1 r354.1 x3).bind fun r363 =>
z9 k rec kE0 (IntKind.wrap .i64 (r354.1+1)) x2 x3 (decide ((IntKind.wrap .i64 (r354.1-x1))≥(IntKind.wrap .i64 (Int.tdiv (IntKind.wrap .i64 (x2-x1)) 8)))) r354.2.1 r363)
else (
(rec r354.2.2 (IntKind.wrap .i64 (r354.1+1)) x2 x3).bind fun r371 =>
z9 k rec kE0 x1 r354.1 x3 (decide ((IntKind.wrap .i64 (x2-r354.1))≥(IntKind.wrap .i64 (Int.tdiv (IntKind.wrap .i64 (x2-x1)) 8)))) r354.2.1 r371))))
else (
(bif decide (x1>0) then ((ix r300 (IntKind.wrap .i64 (x1-1))).bind fun a379 =>
(ix r300 (IntKind.wrap .i64 ((IntKind.wrap .i64 (x2-1))-(IntKind.wrap .i64 (r294.1-x1))))).bind fun a384 =>
(zk k a379 a384).bind fun r389 =>
some (!(decide (r389<0)))) else (some false)).bind fun b394 =>
bif b394 then (
(zf k r300 x1 x2 (IntKind.wrap .i64 ((IntKind.wrap .i64 (x2-1))-(IntKind.wrap .i64 (r294.1-x1))))).bind fun r399 =>
z9 k rec kE0 r399.1 x2 x3 x10 x11 r399.2)
else (
(zh k r300 x1 x2 (IntKind.wrap .i64 ((IntKind.wrap .i64 (x2-1))-(IntKind.wrap .i64 (r294.1-x1))))).bind fun r407 =>
bif decide ((IntKind.wrap .i64 (r407.1-x1))<(IntKind.wrap .i64 (x2-r407.1))) then (
(rec r407.2.2 x1 r407.1 x3).bind fun r416 =>
z9 k rec kE0 (IntKind.wrap .i64 (r407.1+1)) x2 x3 (decide ((IntKind.wrap .i64 (r407.1-x1))≥(IntKind.wrap .i64 (Int.tdiv (IntKind.wrap .i64 (x2-x1)) 8)))) r407.2.1 r416)
else (
(rec r407.2.2 (IntKind.wrap .i64 (r407.1+1)) x2 x3).bind fun r424 =>
z9 k rec kE0 x1 r407.1 x3 (decide ((IntKind.wrap .i64 (x2-r407.1))≥(IntKind.wrap .i64 (Int.tdiv (IntKind.wrap .i64 (x2-x1)) 8)))) r407.2.1 r424))))
else (
(bif x10 then (some x11) else (some false)).bind fun b432 =>
(bif b432 then (some (r294.2==1)) else (some false)).bind fun b436 =>
bif b436 then (
(zi k zw0 x1 x2).bind fun r441 =>
bif r441.1 then (
kE0 r441.2)
else (
(bif decide (x1>0) then ((ix r441.2 (IntKind.wrap .i64 (x1-1))).bind fun a450 =>
(ix r441.2 r294.1).bind fun a455 =>
(zk k a450 a455).bind fun r460 =>
some (!(decide (r460<0)))) else (some false)).bind fun b465 =>
bif b465 then (
(zf k r441.2 x1 x2 r294.1).bind fun r470 =>
z9 k rec kE0 r470.1 x2 x3 x10 x11 r470.2)
else (
(zh k r441.2 x1 x2 r294.1).bind fun r478 =>
bif decide ((IntKind.wrap .i64 (r478.1-x1))<(IntKind.wrap .i64 (x2-r478.1))) then (
(rec r478.2.2 x1 r478.1 x3).bind fun r487 =>
z9 k rec kE0 (IntKind.wrap .i64 (r478.1+1)) x2 x3 (decide ((IntKind.wrap .i64 (r478.1-x1))≥(IntKind.wrap .i64 (Int.tdiv (IntKind.wrap .i64 (x2-x1)) 8)))) r478.2.1 r487)
else (
(rec r478.2.2 (IntKind.wrap .i64 (r478.1+1)) x2 x3).bind fun r495 =>
z9 k rec kE0 x1 r478.1 x3 (decide ((IntKind.wrap .i64 (x2-r478.1))≥(IntKind.wrap .i64 (Int.tdiv (IntKind.wrap .i64 (x2-x1)) 8)))) r478.2.1 r495))))
else (
(bif decide (x1>0) then ((ix zw0 (IntKind.wrap .i64 (x1-1))).bind fun a503 =>
(ix zw0 r294.1).bind fun a508 =>
(zk k a503 a508).bind fun r513 =>
some (!(decide (r513<0)))) else (some false)).bind fun b518 =>
bif b518 then (
(zf k zw0 x1 x2 r294.1).bind fun r523 =>
z9 k rec kE0 r523.1 x2 x3 x10 x11 r523.2)
else (
(zh k zw0 x1 x2 r294.1).bind fun r531 =>
bif decide ((IntKind.wrap .i64 (r531.1-x1))<(IntKind.wrap .i64 (x2-r531.1))) then (
(rec r531.2.2 x1 r531.1 x3).bind fun r540 =>
z9 k rec kE0 (IntKind.wrap .i64 (r531.1+1)) x2 x3 (decide ((IntKind.wrap .i64 (r531.1-x1))≥(IntKind.wrap .i64 (Int.tdiv (IntKind.wrap .i64 (x2-x1)) 8)))) r531.2.1 r540)
else (
(rec r531.2.2 (IntKind.wrap .i64 (r531.1+1)) x2 x3).bind fun r548 =>
z9 k rec kE0 x1 r531.1 x3 (decide ((IntKind.wrap .i64 (x2-r531.1))≥(IntKind.wrap .i64 (Int.tdiv (IntKind.wrap .i64 (x2-x1)) 8)))) r531.2.1 r548)))))))
def z1i (k:Nat) (x0:(List z8)) (x1:Int) (x2:Int) (x3:Int):Option ((List z8)):=match k with
| 0=>none
| k+1 =>
z9 k (z1i k) (fun zw0 =>
some (zw0)) x1 x2 x3 true true x0
theorem z6t {h:H} {l0:Loc} {o0:Nat} {u0:V} {rec:(List z8)→Int→Int→Int→Option ((List z8))} {kE0:(List z8)→Option β} (hrec:∀ {h:H} {σ:Stamp} (x0:List z8) {u0:V} {l0:Loc} {o0:Nat} {w0:List C} (hw0:WL l0 o0 z5 x0 u0 w0) (ha0:AtC h l0 o0 w0) (x1:Int) (x2:Int) (x3:Int),Sim (rec x0 x1 x2 x3) (ev G X0 142 σ [u0,(.p (.int .i64 x1)),(.p (.int .i64 x2)),(.p (.int .i64 x3)),(.clo 114 [])] h) (fun r s=>∃ (wb0:List C),WL l0 o0 z5 r u0 wb0∧s=([],pts h [⟨l0,o0,wb0⟩]))) (hE0:∀ (zw0:(List z8)) (w558:List C) (h559:WL l0 o0 z5 zw0 u0 w558) (H556:Go.Ev.H) (_:Fm 148 h [⟨l0,o0,w558⟩] [] [] H556),Sim (kE0 zw0) (K (.ret,(envL []),H556)) Q) (k:Nat):∀ (x1:Int) (x2:Int) (x3:Int) (x10:Bool) (x11:Bool) (zw0:(List z8)) (w3:List C) (h4:WL l0 o0 z5 zw0 u0 w3) (H1:Go.Ev.H) (_:Fm 148 h [⟨l0,o0,w3⟩] [] [] H1) {σ:Stamp},Sim (z9 k rec kE0 x1 x2 x3 x10 x11 zw0) ((cvL G X0 zd zc σ (envL [(0,u0),(1,(.p (.int .i64 x1))),(2,(.p (.int .i64 x2))),(3,(.p (.int .i64 x3))),(4,(.clo 114 [])),(10,(.p (.bool x10))),(11,(.p (.bool x11)))]) H1).bind K) Q:=by
 induction k with
 | zero=>intros;exact .no
 | succ k ih =>
  intro x1 x2 x3 x10 x11 zw0 w3 h4 H1 S2 σ
  rw [z9]
  refine .round (Sim.ext (zbk _ _ _ _ _ _ _ _ _ _ _) ?_)
  refine .cq ?_ ?_
  ·refine .call (z66 k zw0 h4 (S2.atB (i:=0) rfl) x1 x2) fun r6 cs7 H8 h9 q10=>?_
   obtain ⟨w11,h12,q10⟩:=q10
   cases q10
   have S13:=S2.setB (i:=0) (cs:=w11) rfl (WL.same h4 h12)
   exact hE0 r6 w11 h12 (ptC H1 l0 o0 w11) (S13.wk2 aN aN)
  refine .cq ?_ ?_
  ·refine .call (z7a k zw0 h4 (S2.atB (i:=0) rfl) x1 x2) fun r15 cs16 H17 h18 q19=>?_
   obtain ⟨w20,h21,q19⟩:=q19
   cases q19
   have S22:=S2.setB (i:=0) (cs:=w20) rfl (WL.same h4 h21)
   exact hE0 r15 w20 h21 (ptC H1 l0 o0 w20) (S22.wk2 aN aN)
  refine .cq ?_ ?_
  ·refine .call (z67 k zw0 h4 (S2.atB (i:=0) rfl) x1 x2) fun r24 cs25 H26 h27 q28=>?_
   obtain ⟨w29,h30,q28⟩:=q28
   cases q28
   have S31:=S2.setB (i:=0) (cs:=w29) rfl (WL.same h4 h30)
   refine .call (z44 k r24 (S31.slW (i:=0) rfl h30) x1 x2) fun r32 cs33 H34 h35 q36=>?_
   cases q36
   refine .or ?_
   refine .ci ?_
   refine .or ?_
   refine .ci ?_
   refine .cq ?_ ?_
   ·refine .call (z42 k r24 h30 (S31.atB (i:=0) rfl) x1 x2) fun r38 cs39 H40 h41 q42=>?_
    obtain ⟨w43,h44,q42⟩:=q42
    cases q42
    have S45:=S31.setB (i:=0) (cs:=w43) rfl (WL.same h30 h44)
    refine .ch (P:=fun r y=>r=y) ?_ (fun b46 y47 h48 h49=>?_)
    ·refine .cq ?_ ?_
     ·exact .ret rfl rfl
     ·exact .ret rfl rfl
    subst h49
    refine .ch (P:=fun r y=>r=y) ?_ (fun b50 y51 h52 h53=>?_)
    ·refine .cq ?_ ?_
     ·exact .ret rfl rfl
     ·exact .ret rfl rfl
    subst h53
    refine .cq ?_ ?_
    ·refine .call (z1y k r38 h44 (S45.atB (i:=0) rfl) x1 x2) fun r55 cs56 H57 h58 q59=>?_
     obtain ⟨w60,h61,q59⟩:=q59
     cases q59
     have S62:=S45.setB (i:=0) (cs:=w60) rfl (WL.same h44 h61)
     refine .ab ?_
     refine .cq ?_ ?_
     ·exact hE0 r55.2 w60 h61 (ptC (ptC (ptC H1 l0 o0 w29) l0 o0 w43) l0 o0 w60) (S62.wk2 aN aN)
     refine .ch (P:=fun r y=>(.p (.bool r),(ptC (ptC (ptC H1 l0 o0 w29) l0 o0 w43) l0 o0 w60))=y) ?_ (fun b79 y80 h81 h82=>?_)
     ·refine .cq ?_ ?_
      ·refine .bd fun a64 h65=>?_
       refine .op ((S62.slW (i:=0) rfl h61).iS h65 rfl) ?_
       obtain ⟨w67,h68,hE66⟩:=(S62.slW (i:=0) rfl h61).el h65 rfl
       obtain rfl:=z5.inv h68
       refine .op (hE66.all (by simp)) ?_
       refine .bd fun a69 h70=>?_
       refine .op ((S62.slW (i:=0) rfl h61).iS h70 rfl) ?_
       obtain ⟨w72,h73,hE71⟩:=(S62.slW (i:=0) rfl h61).el h70 rfl
       obtain rfl:=z5.inv h73
       refine .op (hE71.all (by simp)) ?_
       refine .clo ?_
       refine .call (z19 k a64 (show z5.R a64 [.p (.int .i64 a64.f_At),.p (.int .u64 a64.Key)] from (z5.mk)) a69 (show z5.R a69 [.p (.int .i64 a69.f_At),.p (.int .u64 a69.Key)] from (z5.mk))) fun r74 cs75 H76 h77 q78=>?_
       cases q78
       refine .ci ?_
       exact .ret rfl rfl
      ·exact .ret rfl rfl
     subst h82
     refine .ab ?_
     refine .cq ?_ ?_
     ·refine .call (zt k r55.2 h61 (S62.atB (i:=0) rfl) x1 x2 (IntKind.wrap .i64 ((IntKind.wrap .i64 (x2-1))-(IntKind.wrap .i64 (r32.1-x1))))) fun r84 cs85 H86 h87 q88=>?_
      obtain ⟨w89,h90,q88⟩:=q88
      cases q88
      have S91:=S62.setB (i:=0) (cs:=w89) rfl (WL.same h61 h90)
      refine .ci ?_
      exact ih r84.1 x2 (IntKind.wrap .i64 (x3-1)) x10 x11 r84.2 w89 h90 (ptC (ptC (ptC (ptC H1 l0 o0 w29) l0 o0 w43) l0 o0 w60) l0 o0 w89) (S91.wk2 aN aN)
     refine .call (z12 k r55.2 h61 (S62.atB (i:=0) rfl) x1 x2 (IntKind.wrap .i64 ((IntKind.wrap .i64 (x2-1))-(IntKind.wrap .i64 (r32.1-x1))))) fun r92 cs93 H94 h95 q96=>?_
     obtain ⟨w97,h98,q96⟩:=q96
     cases q96
     have S99:=S62.setB (i:=0) (cs:=w97) rfl (WL.same h61 h98)
     refine .or ?_
     refine .ci ?_
     refine .or ?_
     refine .ab ?_
     refine .cq ?_ ?_
     ·refine .call (hrec r92.2.2 h98 (S99.atB (i:=0) rfl) x1 r92.1 (IntKind.wrap .i64 (x3-1))) fun r101 cs102 H103 h104 q105=>?_
      obtain ⟨w106,h107,q105⟩:=q105
      cases q105
      have S108:=S99.setB (i:=0) (cs:=w106) rfl (WL.same h98 h107)
      exact ih (IntKind.wrap .i64 (r92.1+1)) x2 (IntKind.wrap .i64 (x3-1)) (decide ((IntKind.wrap .i64 (r92.1-x1))≥(IntKind.wrap .i64 (Int.tdiv (IntKind.wrap .i64 (x2-x1)) 8)))) r92.2.1 r101 w106 h107 (ptC (ptC (ptC (ptC (ptC H1 l0 o0 w29) l0 o0 w43) l0 o0 w60) l0 o0 w97) l0 o0 w106) (S108.wk2 aN aN)
     refine .call (hrec r92.2.2 h98 (S99.atB (i:=0) rfl) (IntKind.wrap .i64 (r92.1+1)) x2 (IntKind.wrap .i64 (x3-1))) fun r109 cs110 H111 h112 q113=>?_
     obtain ⟨w114,h115,q113⟩:=q113
     cases q113
     have S116:=S99.setB (i:=0) (cs:=w114) rfl (WL.same h98 h115)
     exact ih x1 r92.1 (IntKind.wrap .i64 (x3-1)) (decide ((IntKind.wrap .i64 (x2-r92.1))≥(IntKind.wrap .i64 (Int.tdiv (IntKind.wrap .i64 (x2-x1)) 8)))) r92.2.1 r109 w114 h115 (ptC (ptC (ptC (ptC (ptC H1 l0 o0 w29) l0 o0 w43) l0 o0 w60) l0 o0 w97) l0 o0 w114) (S116.wk2 aN aN)
    refine .ch (P:=fun r y=>(.p (.bool r),(ptC (ptC H1 l0 o0 w29) l0 o0 w43))=y) ?_ (fun b132 y133 h134 h135=>?_)
    ·refine .cq ?_ ?_
     ·refine .bd fun a117 h118=>?_
      refine .op ((S45.slW (i:=0) rfl h44).iS h118 rfl) ?_
      obtain ⟨w120,h121,hE119⟩:=(S45.slW (i:=0) rfl h44).el h118 rfl
      obtain rfl:=z5.inv h121
      refine .op (hE119.all (by simp)) ?_
      refine .bd fun a122 h123=>?_
      refine .op ((S45.slW (i:=0) rfl h44).iS h123 rfl) ?_
      obtain ⟨w125,h126,hE124⟩:=(S45.slW (i:=0) rfl h44).el h123 rfl
      obtain rfl:=z5.inv h126
      refine .op (hE124.all (by simp)) ?_
      refine .clo ?_
      refine .call (z19 k a117 (show z5.R a117 [.p (.int .i64 a117.f_At),.p (.int .u64 a117.Key)] from (z5.mk)) a122 (show z5.R a122 [.p (.int .i64 a122.f_At),.p (.int .u64 a122.Key)] from (z5.mk))) fun r127 cs128 H129 h130 q131=>?_
      cases q131
      refine .ci ?_
      exact .ret rfl rfl
     ·exact .ret rfl rfl
    subst h135
    refine .ab ?_
    refine .cq ?_ ?_
    ·refine .call (zt k r38 h44 (S45.atB (i:=0) rfl) x1 x2 (IntKind.wrap .i64 ((IntKind.wrap .i64 (x2-1))-(IntKind.wrap .i64 (r32.1-x1))))) fun r137 cs138 H139 h140 q141=>?_
     obtain ⟨w142,h143,q141⟩:=q141
     cases q141
     have S144:=S45.setB (i:=0) (cs:=w142) rfl (WL.same h44 h143)
     refine .ci ?_
     exact ih r137.1 x2 (IntKind.wrap .i64 (x3-1)) x10 x11 r137.2 w142 h143 (ptC (ptC (ptC H1 l0 o0 w29) l0 o0 w43) l0 o0 w142) (S144.wk2 aN aN)
    refine .call (z12 k r38 h44 (S45.atB (i:=0) rfl) x1 x2 (IntKind.wrap .i64 ((IntKind.wrap .i64 (x2-1))-(IntKind.wrap .i64 (r32.1-x1))))) fun r145 cs146 H147 h148 q149=>?_
    obtain ⟨w150,h151,q149⟩:=q149
    cases q149
    have S152:=S45.setB (i:=0) (cs:=w150) rfl (WL.same h44 h151)
    refine .or ?_
    refine .ci ?_
    refine .or ?_
    refine .ab ?_
    refine .cq ?_ ?_
    ·refine .call (hrec r145.2.2 h151 (S152.atB (i:=0) rfl) x1 r145.1 (IntKind.wrap .i64 (x3-1))) fun r154 cs155 H156 h157 q158=>?_
     obtain ⟨w159,h160,q158⟩:=q158
     cases q158
     have S161:=S152.setB (i:=0) (cs:=w159) rfl (WL.same h151 h160)
     exact ih (IntKind.wrap .i64 (r145.1+1)) x2 (IntKind.wrap .i64 (x3-1)) (decide ((IntKind.wrap .i64 (r145.1-x1))≥(IntKind.wrap .i64 (Int.tdiv (IntKind.wrap .i64 (x2-x1)) 8)))) r145.2.1 r154 w159 h160 (ptC (ptC (ptC (ptC H1 l0 o0 w29) l0 o0 w43) l0 o0 w150) l0 o0 w159) (S161.wk2 aN aN)
    refine .call (hrec r145.2.2 h151 (S152.atB (i:=0) rfl) (IntKind.wrap .i64 (r145.1+1)) x2 (IntKind.wrap .i64 (x3-1))) fun r162 cs163 H164 h165 q166=>?_
    obtain ⟨w167,h168,q166⟩:=q166
    cases q166
    have S169:=S152.setB (i:=0) (cs:=w167) rfl (WL.same h151 h168)
    exact ih x1 r145.1 (IntKind.wrap .i64 (x3-1)) (decide ((IntKind.wrap .i64 (x2-r145.1))≥(IntKind.wrap .i64 (Int.tdiv (IntKind.wrap .i64 (x2-x1)) 8)))) r145.2.1 r162 w167 h168 (ptC (ptC (ptC (ptC H1 l0 o0 w29) l0 o0 w43) l0 o0 w150) l0 o0 w167) (S169.wk2 aN aN)
   refine .ch (P:=fun r y=>r=y) ?_ (fun b170 y171 h172 h173=>?_)
   ·refine .cq ?_ ?_
    ·exact .ret rfl rfl
    ·exact .ret rfl rfl
   subst h173
   refine .ch (P:=fun r y=>r=y) ?_ (fun b174 y175 h176 h177=>?_)
   ·refine .cq ?_ ?_
    ·exact .ret rfl rfl
    ·exact .ret rfl rfl
   subst h177
   refine .cq ?_ ?_
   ·refine .call (z1y k r24 h30 (S31.atB (i:=0) rfl) x1 x2) fun r179 cs180 H181 h182 q183=>?_
    obtain ⟨w184,h185,q183⟩:=q183
    cases q183
    have S186:=S31.setB (i:=0) (cs:=w184) rfl (WL.same h30 h185)
    refine .ab ?_
    refine .cq ?_ ?_
    ·exact hE0 r179.2 w184 h185 (ptC (ptC H1 l0 o0 w29) l0 o0 w184) (S186.wk2 aN aN)
    refine .ch (P:=fun r y=>(.p (.bool r),(ptC (ptC H1 l0 o0 w29) l0 o0 w184))=y) ?_ (fun b203 y204 h205 h206=>?_)
    ·refine .cq ?_ ?_
     ·refine .bd fun a188 h189=>?_
      refine .op ((S186.slW (i:=0) rfl h185).iS h189 rfl) ?_
      obtain ⟨w191,h192,hE190⟩:=(S186.slW (i:=0) rfl h185).el h189 rfl
      obtain rfl:=z5.inv h192
      refine .op (hE190.all (by simp)) ?_
      refine .bd fun a193 h194=>?_
      refine .op ((S186.slW (i:=0) rfl h185).iS h194 rfl) ?_
      obtain ⟨w196,h197,hE195⟩:=(S186.slW (i:=0) rfl h185).el h194 rfl
      obtain rfl:=z5.inv h197
      refine .op (hE195.all (by simp)) ?_
      refine .clo ?_
      refine .call (z19 k a188 (show z5.R a188 [.p (.int .i64 a188.f_At),.p (.int .u64 a188.Key)] from (z5.mk)) a193 (show z5.R a193 [.p (.int .i64 a193.f_At),.p (.int .u64 a193.Key)] from (z5.mk))) fun r198 cs199 H200 h201 q202=>?_
      cases q202
      refine .ci ?_
      exact .ret rfl rfl
     ·exact .ret rfl rfl
    subst h206
    refine .ab ?_
    refine .cq ?_ ?_
    ·refine .call (zt k r179.2 h185 (S186.atB (i:=0) rfl) x1 x2 r32.1) fun r208 cs209 H210 h211 q212=>?_
     obtain ⟨w213,h214,q212⟩:=q212
     cases q212
     have S215:=S186.setB (i:=0) (cs:=w213) rfl (WL.same h185 h214)
     refine .ci ?_
     exact ih r208.1 x2 (IntKind.wrap .i64 (x3-1)) x10 x11 r208.2 w213 h214 (ptC (ptC (ptC H1 l0 o0 w29) l0 o0 w184) l0 o0 w213) (S215.wk2 aN aN)
    refine .call (z12 k r179.2 h185 (S186.atB (i:=0) rfl) x1 x2 r32.1) fun r216 cs217 H218 h219 q220=>?_
    obtain ⟨w221,h222,q220⟩:=q220
    cases q220
    have S223:=S186.setB (i:=0) (cs:=w221) rfl (WL.same h185 h222)
    refine .or ?_
    refine .ci ?_
    refine .or ?_
    refine .ab ?_
    refine .cq ?_ ?_
    ·refine .call (hrec r216.2.2 h222 (S223.atB (i:=0) rfl) x1 r216.1 (IntKind.wrap .i64 (x3-1))) fun r225 cs226 H227 h228 q229=>?_
     obtain ⟨w230,h231,q229⟩:=q229
     cases q229
     have S232:=S223.setB (i:=0) (cs:=w230) rfl (WL.same h222 h231)
     exact ih (IntKind.wrap .i64 (r216.1+1)) x2 (IntKind.wrap .i64 (x3-1)) (decide ((IntKind.wrap .i64 (r216.1-x1))≥(IntKind.wrap .i64 (Int.tdiv (IntKind.wrap .i64 (x2-x1)) 8)))) r216.2.1 r225 w230 h231 (ptC (ptC (ptC (ptC H1 l0 o0 w29) l0 o0 w184) l0 o0 w221) l0 o0 w230) (S232.wk2 aN aN)
    refine .call (hrec r216.2.2 h222 (S223.atB (i:=0) rfl) (IntKind.wrap .i64 (r216.1+1)) x2 (IntKind.wrap .i64 (x3-1))) fun r233 cs234 H235 h236 q237=>?_
    obtain ⟨w238,h239,q237⟩:=q237
    cases q237
    have S240:=S223.setB (i:=0) (cs:=w238) rfl (WL.same h222 h239)
    exact ih x1 r216.1 (IntKind.wrap .i64 (x3-1)) (decide ((IntKind.wrap .i64 (x2-r216.1))≥(IntKind.wrap .i64 (Int.tdiv (IntKind.wrap .i64 (x2-x1)) 8)))) r216.2.1 r233 w238 h239 (ptC (ptC (ptC (ptC H1 l0 o0 w29) l0 o0 w184) l0 o0 w221) l0 o0 w238) (S240.wk2 aN aN)
   refine .ch (P:=fun r y=>(.p (.bool r),(ptC H1 l0 o0 w29))=y) ?_ (fun b256 y257 h258 h259=>?_)
   ·refine .cq ?_ ?_
    ·refine .bd fun a241 h242=>?_
     refine .op ((S31.slW (i:=0) rfl h30).iS h242 rfl) ?_
     obtain ⟨w244,h245,hE243⟩:=(S31.slW (i:=0) rfl h30).el h242 rfl
     obtain rfl:=z5.inv h245
     refine .op (hE243.all (by simp)) ?_
     refine .bd fun a246 h247=>?_
     refine .op ((S31.slW (i:=0) rfl h30).iS h247 rfl) ?_
     obtain ⟨w249,h250,hE248⟩:=(S31.slW (i:=0) rfl h30).el h247 rfl
     obtain rfl:=z5.inv h250
     refine .op (hE248.all (by simp)) ?_
     refine .clo ?_
     refine .call (z19 k a241 (show z5.R a241 [.p (.int .i64 a241.f_At),.p (.int .u64 a241.Key)] from (z5.mk)) a246 (show z5.R a246 [.p (.int .i64 a246.f_At),.p (.int .u64 a246.Key)] from (z5.mk))) fun r251 cs252 H253 h254 q255=>?_
     cases q255
     refine .ci ?_
     exact .ret rfl rfl
    ·exact .ret rfl rfl
   subst h259
   refine .ab ?_
   refine .cq ?_ ?_
   ·refine .call (zt k r24 h30 (S31.atB (i:=0) rfl) x1 x2 r32.1) fun r261 cs262 H263 h264 q265=>?_
    obtain ⟨w266,h267,q265⟩:=q265
    cases q265
    have S268:=S31.setB (i:=0) (cs:=w266) rfl (WL.same h30 h267)
    refine .ci ?_
    exact ih r261.1 x2 (IntKind.wrap .i64 (x3-1)) x10 x11 r261.2 w266 h267 (ptC (ptC H1 l0 o0 w29) l0 o0 w266) (S268.wk2 aN aN)
   refine .call (z12 k r24 h30 (S31.atB (i:=0) rfl) x1 x2 r32.1) fun r269 cs270 H271 h272 q273=>?_
   obtain ⟨w274,h275,q273⟩:=q273
   cases q273
   have S276:=S31.setB (i:=0) (cs:=w274) rfl (WL.same h30 h275)
   refine .or ?_
   refine .ci ?_
   refine .or ?_
   refine .ab ?_
   refine .cq ?_ ?_
   ·refine .call (hrec r269.2.2 h275 (S276.atB (i:=0) rfl) x1 r269.1 (IntKind.wrap .i64 (x3-1))) fun r278 cs279 H280 h281 q282=>?_
    obtain ⟨w283,h284,q282⟩:=q282
    cases q282
    have S285:=S276.setB (i:=0) (cs:=w283) rfl (WL.same h275 h284)
    exact ih (IntKind.wrap .i64 (r269.1+1)) x2 (IntKind.wrap .i64 (x3-1)) (decide ((IntKind.wrap .i64 (r269.1-x1))≥(IntKind.wrap .i64 (Int.tdiv (IntKind.wrap .i64 (x2-x1)) 8)))) r269.2.1 r278 w283 h284 (ptC (ptC (ptC H1 l0 o0 w29) l0 o0 w274) l0 o0 w283) (S285.wk2 aN aN)
   refine .call (hrec r269.2.2 h275 (S276.atB (i:=0) rfl) (IntKind.wrap .i64 (r269.1+1)) x2 (IntKind.wrap .i64 (x3-1))) fun r286 cs287 H288 h289 q290=>?_
   obtain ⟨w291,h292,q290⟩:=q290
   cases q290
   have S293:=S276.setB (i:=0) (cs:=w291) rfl (WL.same h275 h292)
   exact ih x1 r269.1 (IntKind.wrap .i64 (x3-1)) (decide ((IntKind.wrap .i64 (x2-r269.1))≥(IntKind.wrap .i64 (Int.tdiv (IntKind.wrap .i64 (x2-x1)) 8)))) r269.2.1 r286 w291 h292 (ptC (ptC (ptC H1 l0 o0 w29) l0 o0 w274) l0 o0 w291) (S293.wk2 aN aN)
  refine .call (z44 k zw0 (S2.slW (i:=0) rfl h4) x1 x2) fun r294 cs295 H296 h297 q298=>?_
  cases q298
  refine .or ?_
  refine .ci ?_
  refine .or ?_
  refine .ci ?_
  refine .cq ?_ ?_
  ·refine .call (z42 k zw0 h4 (S2.atB (i:=0) rfl) x1 x2) fun r300 cs301 H302 h303 q304=>?_
   obtain ⟨w305,h306,q304⟩:=q304
   cases q304
   have S307:=S2.setB (i:=0) (cs:=w305) rfl (WL.same h4 h306)
   refine .ch (P:=fun r y=>r=y) ?_ (fun b308 y309 h310 h311=>?_)
   ·refine .cq ?_ ?_
    ·exact .ret rfl rfl
    ·exact .ret rfl rfl
   subst h311
   refine .ch (P:=fun r y=>r=y) ?_ (fun b312 y313 h314 h315=>?_)
   ·refine .cq ?_ ?_
    ·exact .ret rfl rfl
    ·exact .ret rfl rfl
   subst h315
   refine .cq ?_ ?_
   ·refine .call (z1y k r300 h306 (S307.atB (i:=0) rfl) x1 x2) fun r317 cs318 H319 h320 q321=>?_
    obtain ⟨w322,h323,q321⟩:=q321
    cases q321
    have S324:=S307.setB (i:=0) (cs:=w322) rfl (WL.same h306 h323)
    refine .ab ?_
    refine .cq ?_ ?_
    ·exact hE0 r317.2 w322 h323 (ptC (ptC H1 l0 o0 w305) l0 o0 w322) (S324.wk2 aN aN)
    refine .ch (P:=fun r y=>(.p (.bool r),(ptC (ptC H1 l0 o0 w305) l0 o0 w322))=y) ?_ (fun b341 y342 h343 h344=>?_)
    ·refine .cq ?_ ?_
     ·refine .bd fun a326 h327=>?_
      refine .op ((S324.slW (i:=0) rfl h323).iS h327 rfl) ?_
      obtain ⟨w329,h330,hE328⟩:=(S324.slW (i:=0) rfl h323).el h327 rfl
      obtain rfl:=z5.inv h330
      refine .op (hE328.all (by simp)) ?_
      refine .bd fun a331 h332=>?_
      refine .op ((S324.slW (i:=0) rfl h323).iS h332 rfl) ?_
      obtain ⟨w334,h335,hE333⟩:=(S324.slW (i:=0) rfl h323).el h332 rfl
      obtain rfl:=z5.inv h335
      refine .op (hE333.all (by simp)) ?_
      refine .clo ?_
      refine .call (z19 k a326 (show z5.R a326 [.p (.int .i64 a326.f_At),.p (.int .u64 a326.Key)] from (z5.mk)) a331 (show z5.R a331 [.p (.int .i64 a331.f_At),.p (.int .u64 a331.Key)] from (z5.mk))) fun r336 cs337 H338 h339 q340=>?_
      cases q340
      refine .ci ?_
      exact .ret rfl rfl
     ·exact .ret rfl rfl
    subst h344
    refine .ab ?_
    refine .cq ?_ ?_
    ·refine .call (zt k r317.2 h323 (S324.atB (i:=0) rfl) x1 x2 (IntKind.wrap .i64 ((IntKind.wrap .i64 (x2-1))-(IntKind.wrap .i64 (r294.1-x1))))) fun r346 cs347 H348 h349 q350=>?_
     obtain ⟨w351,h352,q350⟩:=q350
     cases q350
     have S353:=S324.setB (i:=0) (cs:=w351) rfl (WL.same h323 h352)
     refine .ci ?_
     exact ih r346.1 x2 x3 x10 x11 r346.2 w351 h352 (ptC (ptC (ptC H1 l0 o0 w305) l0 o0 w322) l0 o0 w351) (S353.wk2 aN aN)
    refine .call (z12 k r317.2 h323 (S324.atB (i:=0) rfl) x1 x2 (IntKind.wrap .i64 ((IntKind.wrap .i64 (x2-1))-(IntKind.wrap .i64 (r294.1-x1))))) fun r354 cs355 H356 h357 q358=>?_
    obtain ⟨w359,h360,q358⟩:=q358
    cases q358
    have S361:=S324.setB (i:=0) (cs:=w359) rfl (WL.same h323 h360)
    refine .or ?_
    refine .ci ?_
    refine .or ?_
    refine .ab ?_
    refine .cq ?_ ?_
    ·refine .call (hrec r354.2.2 h360 (S361.atB (i:=0) rfl) x1 r354.1 x3) fun r363 cs364 H365 h366 q367=>?_
     obtain ⟨w368,h369,q367⟩:=q367
     cases q367
     have S370:=S361.setB (i:=0) (cs:=w368) rfl (WL.same h360 h369)
     exact ih (IntKind.wrap .i64 (r354.1+1)) x2 x3 (decide ((IntKind.wrap .i64 (r354.1-x1))≥(IntKind.wrap .i64 (Int.tdiv (IntKind.wrap .i64 (x2-x1)) 8)))) r354.2.1 r363 w368 h369 (ptC (ptC (ptC (ptC H1 l0 o0 w305) l0 o0 w322) l0 o0 w359) l0 o0 w368) (S370.wk2 aN aN)
    refine .call (hrec r354.2.2 h360 (S361.atB (i:=0) rfl) (IntKind.wrap .i64 (r354.1+1)) x2 x3) fun r371 cs372 H373 h374 q375=>?_
    obtain ⟨w376,h377,q375⟩:=q375
    cases q375
    have S378:=S361.setB (i:=0) (cs:=w376) rfl (WL.same h360 h377)
    exact ih x1 r354.1 x3 (decide ((IntKind.wrap .i64 (x2-r354.1))≥(IntKind.wrap .i64 (Int.tdiv (IntKind.wrap .i64 (x2-x1)) 8)))) r354.2.1 r371 w376 h377 (ptC (ptC (ptC (ptC H1 l0 o0 w305) l0 o0 w322) l0 o0 w359) l0 o0 w376) (S378.wk2 aN aN)
   refine .ch (P:=fun r y=>(.p (.bool r),(ptC H1 l0 o0 w305))=y) ?_ (fun b394 y395 h396 h397=>?_)
   ·refine .cq ?_ ?_
    ·refine .bd fun a379 h380=>?_
     refine .op ((S307.slW (i:=0) rfl h306).iS h380 rfl) ?_
     obtain ⟨w382,h383,hE381⟩:=(S307.slW (i:=0) rfl h306).el h380 rfl
     obtain rfl:=z5.inv h383
     refine .op (hE381.all (by simp)) ?_
     refine .bd fun a384 h385=>?_
     refine .op ((S307.slW (i:=0) rfl h306).iS h385 rfl) ?_
     obtain ⟨w387,h388,hE386⟩:=(S307.slW (i:=0) rfl h306).el h385 rfl
     obtain rfl:=z5.inv h388
     refine .op (hE386.all (by simp)) ?_
     refine .clo ?_
     refine .call (z19 k a379 (show z5.R a379 [.p (.int .i64 a379.f_At),.p (.int .u64 a379.Key)] from (z5.mk)) a384 (show z5.R a384 [.p (.int .i64 a384.f_At),.p (.int .u64 a384.Key)] from (z5.mk))) fun r389 cs390 H391 h392 q393=>?_
     cases q393
     refine .ci ?_
     exact .ret rfl rfl
    ·exact .ret rfl rfl
   subst h397
   refine .ab ?_
   refine .cq ?_ ?_
   ·refine .call (zt k r300 h306 (S307.atB (i:=0) rfl) x1 x2 (IntKind.wrap .i64 ((IntKind.wrap .i64 (x2-1))-(IntKind.wrap .i64 (r294.1-x1))))) fun r399 cs400 H401 h402 q403=>?_
    obtain ⟨w404,h405,q403⟩:=q403
    cases q403
    have S406:=S307.setB (i:=0) (cs:=w404) rfl (WL.same h306 h405)
    refine .ci ?_
    exact ih r399.1 x2 x3 x10 x11 r399.2 w404 h405 (ptC (ptC H1 l0 o0 w305) l0 o0 w404) (S406.wk2 aN aN)
   refine .call (z12 k r300 h306 (S307.atB (i:=0) rfl) x1 x2 (IntKind.wrap .i64 ((IntKind.wrap .i64 (x2-1))-(IntKind.wrap .i64 (r294.1-x1))))) fun r407 cs408 H409 h410 q411=>?_
   obtain ⟨w412,h413,q411⟩:=q411
   cases q411
   have S414:=S307.setB (i:=0) (cs:=w412) rfl (WL.same h306 h413)
   refine .or ?_
   refine .ci ?_
   refine .or ?_
   refine .ab ?_
   refine .cq ?_ ?_
   ·refine .call (hrec r407.2.2 h413 (S414.atB (i:=0) rfl) x1 r407.1 x3) fun r416 cs417 H418 h419 q420=>?_
    obtain ⟨w421,h422,q420⟩:=q420
    cases q420
    have S423:=S414.setB (i:=0) (cs:=w421) rfl (WL.same h413 h422)
    exact ih (IntKind.wrap .i64 (r407.1+1)) x2 x3 (decide ((IntKind.wrap .i64 (r407.1-x1))≥(IntKind.wrap .i64 (Int.tdiv (IntKind.wrap .i64 (x2-x1)) 8)))) r407.2.1 r416 w421 h422 (ptC (ptC (ptC H1 l0 o0 w305) l0 o0 w412) l0 o0 w421) (S423.wk2 aN aN)
   refine .call (hrec r407.2.2 h413 (S414.atB (i:=0) rfl) (IntKind.wrap .i64 (r407.1+1)) x2 x3) fun r424 cs425 H426 h427 q428=>?_
   obtain ⟨w429,h430,q428⟩:=q428
   cases q428
   have S431:=S414.setB (i:=0) (cs:=w429) rfl (WL.same h413 h430)
   exact ih x1 r407.1 x3 (decide ((IntKind.wrap .i64 (x2-r407.1))≥(IntKind.wrap .i64 (Int.tdiv (IntKind.wrap .i64 (x2-x1)) 8)))) r407.2.1 r424 w429 h430 (ptC (ptC (ptC H1 l0 o0 w305) l0 o0 w412) l0 o0 w429) (S431.wk2 aN aN)
  refine .ch (P:=fun r y=>r=y) ?_ (fun b432 y433 h434 h435=>?_)
  ·refine .cq ?_ ?_
   ·exact .ret rfl rfl
   ·exact .ret rfl rfl
  subst h435
  refine .ch (P:=fun r y=>r=y) ?_ (fun b436 y437 h438 h439=>?_)
  ·refine .cq ?_ ?_
   ·exact .ret rfl rfl
   ·exact .ret rfl rfl
  subst h439
  refine .cq ?_ ?_
  ·refine .call (z1y k zw0 h4 (S2.atB (i:=0) rfl) x1 x2) fun r441 cs442 H443 h444 q445=>?_
   obtain ⟨w446,h447,q445⟩:=q445
   cases q445
   have S448:=S2.setB (i:=0) (cs:=w446) rfl (WL.same h4 h447)
   refine .ab ?_
   refine .cq ?_ ?_
   ·exact hE0 r441.2 w446 h447 (ptC H1 l0 o0 w446) (S448.wk2 aN aN)
   refine .ch (P:=fun r y=>(.p (.bool r),(ptC H1 l0 o0 w446))=y) ?_ (fun b465 y466 h467 h468=>?_)
   ·refine .cq ?_ ?_
    ·refine .bd fun a450 h451=>?_
     refine .op ((S448.slW (i:=0) rfl h447).iS h451 rfl) ?_
     obtain ⟨w453,h454,hE452⟩:=(S448.slW (i:=0) rfl h447).el h451 rfl
     obtain rfl:=z5.inv h454
     refine .op (hE452.all (by simp)) ?_
     refine .bd fun a455 h456=>?_
     refine .op ((S448.slW (i:=0) rfl h447).iS h456 rfl) ?_
     obtain ⟨w458,h459,hE457⟩:=(S448.slW (i:=0) rfl h447).el h456 rfl
     obtain rfl:=z5.inv h459
     refine .op (hE457.all (by simp)) ?_
     refine .clo ?_
     refine .call (z19 k a450 (show z5.R a450 [.p (.int .i64 a450.f_At),.p (.int .u64 a450.Key)] from (z5.mk)) a455 (show z5.R a455 [.p (.int .i64 a455.f_At),.p (.int .u64 a455.Key)] from (z5.mk))) fun r460 cs461 H462 h463 q464=>?_
     cases q464
     refine .ci ?_
     exact .ret rfl rfl
    ·exact .ret rfl rfl
   subst h468
   refine .ab ?_
   refine .cq ?_ ?_
   ·refine .call (zt k r441.2 h447 (S448.atB (i:=0) rfl) x1 x2 r294.1) fun r470 cs471 H472 h473 q474=>?_
    obtain ⟨w475,h476,q474⟩:=q474
    cases q474
    have S477:=S448.setB (i:=0) (cs:=w475) rfl (WL.same h447 h476)
    refine .ci ?_
    exact ih r470.1 x2 x3 x10 x11 r470.2 w475 h476 (ptC (ptC H1 l0 o0 w446) l0 o0 w475) (S477.wk2 aN aN)
   refine .call (z12 k r441.2 h447 (S448.atB (i:=0) rfl) x1 x2 r294.1) fun r478 cs479 H480 h481 q482=>?_
   obtain ⟨w483,h484,q482⟩:=q482
   cases q482
   have S485:=S448.setB (i:=0) (cs:=w483) rfl (WL.same h447 h484)
   refine .or ?_
   refine .ci ?_
   refine .or ?_
   refine .ab ?_
   refine .cq ?_ ?_
   ·refine .call (hrec r478.2.2 h484 (S485.atB (i:=0) rfl) x1 r478.1 x3) fun r487 cs488 H489 h490 q491=>?_
    obtain ⟨w492,h493,q491⟩:=q491
    cases q491
    have S494:=S485.setB (i:=0) (cs:=w492) rfl (WL.same h484 h493)
    exact ih (IntKind.wrap .i64 (r478.1+1)) x2 x3 (decide ((IntKind.wrap .i64 (r478.1-x1))≥(IntKind.wrap .i64 (Int.tdiv (IntKind.wrap .i64 (x2-x1)) 8)))) r478.2.1 r487 w492 h493 (ptC (ptC (ptC H1 l0 o0 w446) l0 o0 w483) l0 o0 w492) (S494.wk2 aN aN)
   refine .call (hrec r478.2.2 h484 (S485.atB (i:=0) rfl) (IntKind.wrap .i64 (r478.1+1)) x2 x3) fun r495 cs496 H497 h498 q499=>?_
   obtain ⟨w500,h501,q499⟩:=q499
   cases q499
   have S502:=S485.setB (i:=0) (cs:=w500) rfl (WL.same h484 h501)
   exact ih x1 r478.1 x3 (decide ((IntKind.wrap .i64 (x2-r478.1))≥(IntKind.wrap .i64 (Int.tdiv (IntKind.wrap .i64 (x2-x1)) 8)))) r478.2.1 r495 w500 h501 (ptC (ptC (ptC H1 l0 o0 w446) l0 o0 w483) l0 o0 w500) (S502.wk2 aN aN)
  refine .ch (P:=fun r y=>(.p (.bool r),H1)=y) ?_ (fun b518 y519 h520 h521=>?_)
  ·refine .cq ?_ ?_
   ·refine .bd fun a503 h504=>?_
    refine .op ((S2.slW (i:=0) rfl h4).iS h504 rfl) ?_
    obtain ⟨w506,h507,hE505⟩:=(S2.slW (i:=0) rfl h4).el h504 rfl
    obtain rfl:=z5.inv h507
    refine .op (hE505.all (by simp)) ?_
    refine .bd fun a508 h509=>?_
    refine .op ((S2.slW (i:=0) rfl h4).iS h509 rfl) ?_
    obtain ⟨w511,h512,hE510⟩:=(S2.slW (i:=0) rfl h4).el h509 rfl
    obtain rfl:=z5.inv h512
    refine .op (hE510.all (by simp)) ?_
    refine .clo ?_
    refine .call (z19 k a503 (show z5.R a503 [.p (.int .i64 a503.f_At),.p (.int .u64 a503.Key)] from (z5.mk)) a508 (show z5.R a508 [.p (.int .i64 a508.f_At),.p (.int .u64 a508.Key)] from (z5.mk))) fun r513 cs514 H515 h516 q517=>?_
    cases q517
    refine .ci ?_
    exact .ret rfl rfl
   ·exact .ret rfl rfl
  subst h521
  refine .ab ?_
  refine .cq ?_ ?_
  ·refine .call (zt k zw0 h4 (S2.atB (i:=0) rfl) x1 x2 r294.1) fun r523 cs524 H525 h526 q527=>?_
   obtain ⟨w528,h529,q527⟩:=q527
   cases q527
   have S530:=S2.setB (i:=0) (cs:=w528) rfl (WL.same h4 h529)
   refine .ci ?_
   exact ih r523.1 x2 x3 x10 x11 r523.2 w528 h529 (ptC H1 l0 o0 w528) (S530.wk2 aN aN)
  refine .call (z12 k zw0 h4 (S2.atB (i:=0) rfl) x1 x2 r294.1) fun r531 cs532 H533 h534 q535=>?_
  obtain ⟨w536,h537,q535⟩:=q535
  cases q535
  have S538:=S2.setB (i:=0) (cs:=w536) rfl (WL.same h4 h537)
  refine .or ?_
  refine .ci ?_
  refine .or ?_
  refine .ab ?_
  refine .cq ?_ ?_
  ·refine .call (hrec r531.2.2 h537 (S538.atB (i:=0) rfl) x1 r531.1 x3) fun r540 cs541 H542 h543 q544=>?_
   obtain ⟨w545,h546,q544⟩:=q544
   cases q544
   have S547:=S538.setB (i:=0) (cs:=w545) rfl (WL.same h537 h546)
   exact ih (IntKind.wrap .i64 (r531.1+1)) x2 x3 (decide ((IntKind.wrap .i64 (r531.1-x1))≥(IntKind.wrap .i64 (Int.tdiv (IntKind.wrap .i64 (x2-x1)) 8)))) r531.2.1 r540 w545 h546 (ptC (ptC H1 l0 o0 w536) l0 o0 w545) (S547.wk2 aN aN)
  refine .call (hrec r531.2.2 h537 (S538.atB (i:=0) rfl) (IntKind.wrap .i64 (r531.1+1)) x2 x3) fun r548 cs549 H550 h551 q552=>?_
  obtain ⟨w553,h554,q552⟩:=q552
  cases q552
  have S555:=S538.setB (i:=0) (cs:=w553) rfl (WL.same h537 h554)
  exact ih x1 r531.1 x3 (decide ((IntKind.wrap .i64 (x2-r531.1))≥(IntKind.wrap .i64 (Int.tdiv (IntKind.wrap .i64 (x2-x1)) 8)))) r531.2.1 r548 w553 h554 (ptC (ptC H1 l0 o0 w536) l0 o0 w553) (S555.wk2 aN aN)
theorem z7i (k:Nat):∀ {h:H} {σ:Stamp} (x0:List z8) {u0:V} {l0:Loc} {o0:Nat} {w0:List C} (hw0:WL l0 o0 z5 x0 u0 w0) (ha0:AtC h l0 o0 w0) (x1:Int) (x2:Int) (x3:Int),Sim (z1i k x0 x1 x2 x3) (ev G X0 142 σ [u0,(.p (.int .i64 x1)),(.p (.int .i64 x2)),(.p (.int .i64 x3)),(.clo 114 [])] h) (fun r s=>∃ (wb0:List C),WL l0 o0 z5 r u0 wb0∧s=([],pts h [⟨l0,o0,wb0⟩])):=by
 induction k with
 | zero=>intros;exact .no
 | succ k ih =>
  intro h σ x0 u0 l0 o0 w0 hw0 ha0 x1 x2 x3
  refine .ev rfl (Sim.ext (zao _ _ _ _ _ _ _ _ _) ?_)
  rw [z1i]
  have S0:Fm 148 h [⟨l0,o0,w0⟩] [] [] (List.replicate 148 []::h):=Fm.start1 ha0
  refine .as (z6t (@ih) ?_ k x1 x2 x3 true true x0 w0 hw0 (List.replicate 148 []::h) (S0.wk2 aN aN))
  ·intro zw0 w563 h564 H561 S562
   refine .ext (zal _ _ _ _) ?_
   exact .fin (S562.finN lN) ⟨w563,h564,rfl⟩
def z1v (k:Nat) (x0:(List z8)):Option ((List z8)) :=
(z50 (IntKind.wrap .u64 ((x0.length:Int)))).bind fun r1 =>
(z1i k x0 0 ((x0.length:Int)) r1).bind fun r6 =>
some (r6)
theorem z6g (k:Nat) {h:H} {σ:Stamp} (x0:List z8) {u0:V} {l0:Loc} {o0:Nat} {w0:List C} (hw0:WL l0 o0 z5 x0 u0 w0) (ha0:AtC h l0 o0 w0):Sim (z1v k x0) (ev G X0 113 σ [u0,(.clo 114 [])] h) (fun r s=>∃ (wb0:List C),WL l0 o0 z5 r u0 wb0∧s=([],pts h [⟨l0,o0,wb0⟩])):=by
 refine .ev rfl (Sim.ext (z98 _ _ _ _ _ _) ?_)
 rw [z1v]
 have S0:Fm 14 h [⟨l0,o0,w0⟩] [] [] (List.replicate 14 []::h):=Fm.start1 ha0
 refine .op ((S0.slW (i:=0) rfl hw0).len) ?_
 refine .ci ?_
 refine .call (zel (IntKind.wrap .u64 ((x0.length:Int)))) fun r1 cs2 H3 h4 q5=>?_
 cases q5
 refine .ci ?_
 refine .call (z7i k x0 hw0 (S0.atB (i:=0) rfl) 0 ((x0.length:Int)) r1) fun r6 cs7 H8 h9 q10=>?_
 obtain ⟨w11,h12,q10⟩:=q10
 cases q10
 have S13:=S0.setB (i:=0) (cs:=w11) rfl (WL.same hw0 h12)
 exact .fin (S13.finN lN) ⟨w11,h12,rfl⟩
end
end Go.Ev
namespace Go.Ev
namespace Srt
abbrev D:=z8
def z0:D:=⟨0,0⟩
def kv (d:D):Int:=d.f_At*18446744073709551616+d.Key
def OkD (d:D):Prop:=0≤d.Key∧d.Key<18446744073709551616
def OkDs (xs:List D):Prop:=∀ x∈xs,OkD x
def g (xs:List D) (q:Nat):Int:=kv (xs.getD q z0)
theorem cmp64 (a b:Int):z6c a b=some (if a<b then -1 else if b<a then 1 else 0):=by
 unfold z6c z7l
 by_cases h1:a<b
 ·simp [h1]
 ·by_cases h2:b<a
  ·simp [h1,h2]
  ·simp [h1,h2]
theorem cmpu (a b:Int):z48 a b=some (if a<b then -1 else if b<a then 1 else 0):=by
 unfold z48 z75
 by_cases h1:a<b
 ·simp [h1]
 ·by_cases h2:b<a
  ·simp [h1,h2]
  ·simp [h1,h2]
theorem or2 {a b:Int} {k:Nat} (hk:3≤k):z6z k [a,b]=some (if a=0 then b else a):=by
 obtain ⟨k,rfl⟩:∃ j,k=j+1+1+1:=⟨k-3,by omega⟩
 unfold z6z
 rw [z5n]
 have e1:decide ((0:Int)<(([a,b]:List Int).length:Int))=true:=rfl
 have e2:ix [a,b] 0=some a:=rfl
 rw [e1,cond_true,e2,Option.bind_some]
 by_cases ha:a=0
 ·subst ha
  rw [if_pos rfl,bne_self_eq_false,cond_false,show IntKind.wrap .i64 ((0:Int)+1)=1 from rfl,z5n]
  have e3:decide ((1:Int)<(([0,b]:List Int).length:Int))=true:=rfl
  have e4:ix [0,b] 1=some b:=rfl
  rw [e3,cond_true,e4,Option.bind_some]
  by_cases hb:b=0
  ·subst hb
   rw [bne_self_eq_false,cond_false,show IntKind.wrap .i64 ((1:Int)+1)=2 from rfl,z5n];rfl
  ·rw [show (b != 0)=true from bne_iff_ne.2 hb,cond_true]
 ·rw [if_neg ha,show (a != 0)=true from bne_iff_ne.2 ha,cond_true]
theorem cmp_ok {a b:D} (ha:OkD a) (hb:OkD b) {k:Nat} (hk:3≤k):∃ c,zk k a b=some c∧decide (c<0)=decide (kv a<kv b):=by
 unfold zk
 rw [cmp64,Option.bind_some,cmpu,Option.bind_some,or2 hk,Option.bind_some]
 refine ⟨_,rfl,?_⟩
 obtain ⟨a0,a1⟩:=ha
 obtain ⟨b0,b1⟩:=hb
 unfold kv
 rw [Bool.eq_iff_iff,decide_eq_true_eq,decide_eq_true_eq]
 by_cases h1:a.f_At<b.f_At
 ·simp only [h1,if_true]
  rw [if_neg (by omega)]
  omega
 ·by_cases h2:b.f_At<a.f_At
  ·simp only [h1,h2,if_true,if_false]
   rw [if_neg (by omega)]
   omega
  ·simp only [h1,h2,if_false,if_true]
   by_cases h3:a.Key<b.Key
   ·simp only [h3,if_true];omega
   ·by_cases h4:b.Key<a.Key
    ·simp only [h3,h4,if_true,if_false];omega
    ·simp only [h3,h4,if_false];omega
theorem ix_g {xs:List D} {i:Nat} (h:i<xs.length):ix xs (i:Int)=some (xs.getD i z0):=by
 unfold ix
 rw [if_pos (by omega),Int.toNat_natCast,List.getElem?_eq_getElem h,List.getD_eq_getElem?_getD,List.getElem?_eq_getElem h];rfl
theorem zja {xs:List D} (h:OkDs xs) (q:Nat):OkD (xs.getD q z0):=by
 rw [List.getD_eq_getElem?_getD]
 cases hq:xs[q]? with
 | none=>exact ⟨Int.le_refl _,by decide⟩
 | some x=>exact h x (List.mem_of_getElem? hq)
theorem cmp_at {xs:List D} (h:OkDs xs) (i j:Nat) {k:Nat} (hk:3≤k):∃ c,zk k (xs.getD i z0) (xs.getD j z0)=some c∧decide (c<0)=decide (g xs i<g xs j):=cmp_ok (zja h i) (zja h j) hk
def swp (xs:List D) (i j:Nat):List D:=(xs.set i (xs.getD j z0)).set j (xs.getD i z0)
theorem z47 {xs:List D} {i j:Nat}:(swp xs i j).length=xs.length:=by simp [swp]
theorem zqu {xs:List D} {i j q:Nat} (hi:i<xs.length) (hj:j<xs.length):(swp xs i j).getD q z0=if q=j then xs.getD i z0 else if q=i then xs.getD j z0 else xs.getD q z0:=by
 unfold swp
 simp only [List.getD_eq_getElem?_getD,List.getElem?_set,List.length_set]
 by_cases h1:j=q
 ·subst h1;simp [hj]
 ·by_cases h2:i=q
  ·subst h2;simp [h1,Ne.symm h1,hi]
  ·simp [h1,h2,Ne.symm h1,Ne.symm h2]
theorem zl3 {xs:List D} {i j:Nat} (hi:i<xs.length) (hj:j<xs.length):(swp xs i j).Perm xs:=by
 have:=List.set_set_perm hi hj
 unfold swp
 rw [List.getD_eq_getElem?_getD,List.getD_eq_getElem?_getD,List.getElem?_eq_getElem hi,List.getElem?_eq_getElem hj]
 exact this
theorem swp_g {xs:List D} {i j q:Nat} (hi:i<xs.length) (hj:j<xs.length):g (swp xs i j) q=if q=j then g xs i else if q=i then g xs j else g xs q:=by
 unfold g
 rw [zqu hi hj]
 split
 ·rfl
 ·split<;>rfl
theorem z5k {β:Type} {xs:List D} {i j:Nat} (hi:i<xs.length) (hj:j<xs.length) (K:List D→Option β) :
  ((ix xs (j:Int)).bind fun a=>(ix xs (i:Int)).bind fun b=>(ix xs (i:Int)).bind fun _=>(stx xs (i:Int) a).bind fun c=>(ix c (j:Int)).bind fun _=>(stx c (j:Int) b).bind K)=K (swp xs i j):=by
 have s1:stx xs (i:Int) (xs.getD j z0)=some (xs.set i (xs.getD j z0)):=by
  unfold stx;rw [if_pos ⟨by omega,by omega⟩];rfl
 have s2:stx (xs.set i (xs.getD j z0)) (j:Int) (xs.getD i z0)=some (swp xs i j):=by
  unfold stx;rw [if_pos ⟨by omega,by rw [List.length_set];omega⟩];rfl
 rw [ix_g hj,Option.bind_some,ix_g hi,Option.bind_some,Option.bind_some,s1,Option.bind_some,ix_g (by rw [List.length_set];exact hj),Option.bind_some,s2,Option.bind_some]
theorem zf6 {β:Type} {xs:List D} {i j:Nat} (hi:i<xs.length) (hj:j<xs.length) (K:List D→Option β) :
  ((some (xs.getD j z0)).bind fun a=>(some (xs.getD i z0)).bind fun b=>(some (xs.getD i z0)).bind fun _=>(stx xs (i:Int) a).bind fun c=>(ix c (j:Int)).bind fun _=>(stx c (j:Int) b).bind K)=K (swp xs i j):=by
 have:=z5k hi hj K
 rw [ix_g hj,ix_g hi] at this
 exact this
inductive Sw (a b:Nat):List D→List D→Prop
 | refl (xs:List D):Sw a b xs xs
 | step {xs ys:List D} {i j:Nat} (h:Sw a b xs ys) (h1:a≤i) (h2:i<b) (h3:a≤j) (h4:j<b) (hb:b≤ys.length):Sw a b xs (swp ys i j)
section
variable {a b:Nat} {xs ys zs:List D}
theorem Sw.len (h:Sw a b xs ys):ys.length=xs.length:=by
 induction h with
 | refl=>rfl
 | step _ _ _ _ _ _ ih=>rw [z47,ih]
theorem Sw.trans (h:Sw a b xs ys) (h':Sw a b ys zs):Sw a b xs zs:=by
 induction h' with
 | refl=>exact h
 | step _ h1 h2 h3 h4 h5 ih=>exact .step ih h1 h2 h3 h4 h5
theorem Sw.wide (h:Sw a b xs ys) {a' b':Nat} (ha:a'≤a) (hb:b≤b') (hl:b'≤xs.length):Sw a' b' xs ys:=by
 induction h with
 | refl=>exact .refl _
 | step h h1 h2 h3 h4 h5 ih=>exact .step ih (by omega) (by omega) (by omega) (by omega) (by rw [h.len];exact hl)
theorem Sw.one {i j:Nat} (h1:a≤i) (h2:i<b) (h3:a≤j) (h4:j<b) (hb:b≤xs.length):Sw a b xs (swp xs i j):=.step (.refl _) h1 h2 h3 h4 hb
theorem Sw.out (h:Sw a b xs ys) {q:Nat} (hq:q<a∨b≤q):ys.getD q z0=xs.getD q z0:=by
 induction h with
 | refl=>rfl
 | step h h1 h2 h3 h4 h5 ih=>rw [zqu (by omega) (by omega),if_neg (by omega),if_neg (by omega),ih]
theorem Sw.outg (h:Sw a b xs ys) {q:Nat} (hq:q<a∨b≤q):g ys q=g xs q:=by unfold g;rw [h.out hq]
theorem Sw.all (h:Sw a b xs ys) {P:Int→Prop} (hP:∀ q,a≤q→q<b→P (g xs q)):∀ q,a≤q→q<b→P (g ys q):=by
 induction h with
 | refl=>exact hP
 | step h h1 h2 h3 h4 h5 ih =>
  intro q q1 q2
  rw [swp_g (by omega) (by omega)]
  split
  ·exact ih _ h1 h2
  ·split
   ·exact ih _ h3 h4
   ·exact ih q q1 q2
theorem Sw.perm (h:Sw a b xs ys):ys.Perm xs:=by
 induction h with
 | refl=>exact .refl _
 | step h h1 h2 h3 h4 h5 ih=>exact (zl3 (by omega) (by omega)).trans ih
theorem Sw.ok (h:Sw a b xs ys) (ho:OkDs xs):OkDs ys:=fun x hx=>ho x (h.perm.mem_iff.1 hx)
end
def Od (xs:List D) (a b:Nat):Prop:=∀ p q,a≤p→p≤q→q<b→g xs p≤g xs q
theorem od_of {xs:List D} {a b:Nat} (h:∀ q,a≤q→q+1<b→g xs q≤g xs (q+1)):Od xs a b:=by
 intro p q hp hpq hq
 obtain ⟨d,rfl⟩:∃ d,q=p+d:=⟨q-p,by omega⟩
 clear hpq
 induction d with
 | zero=>exact Int.le_refl _
 | succ d ih =>
  have h1:=ih (by omega)
  have h2:=h (p+d) (by omega) (by omega)
  exact Int.le_trans h1 h2
theorem wr {n:Int} (h1:-1000000≤n) (h2:n≤1000000):IntKind.wrap .i64 n=n:=wrap_i64 (by omega) (by omega)
theorem wS {i:Nat} (h:i<100000):IntKind.wrap .i64 ((i:Int)+1)=((i+1:Nat):Int):=by rw [wr (by omega) (by omega)];omega
theorem wP {i:Nat} (h:i<100000) (h0:0<i):IntKind.wrap .i64 ((i:Int)-1)=((i-1:Nat):Int):=by rw [wr (by omega) (by omega)];omega
theorem ins_l1 {β:Type} {x1 x2 x8:Int} {a:Nat} (ha:x1=a) (kE:Int→Int→Int→List D→Option β):∀ m k:Nat,∀ xs:List D,OkDs xs→a+m<xs.length→xs.length≤1000→m+5≤k→Od xs a (a+m) →
  ∃ ys,z13 k kE x1 x2 x8 ((a+m:Nat):Int) xs=kE x1 x2 x8 ys∧Sw a (a+m+1) xs ys∧Od ys a (a+m+1):=by
 intro m
 induction m with
 | zero =>
  intro k xs ho hl h1000 hk hod
  obtain ⟨k,rfl⟩:∃ j,k=j+1:=⟨k-1,by omega⟩
  rw [z13,decide_eq_false (by omega),cond_false,Option.bind_some,cond_false]
  exact ⟨xs,rfl,.refl _,fun p q h1 h2 h3=>by
   have:p=q:=by omega
   rw [this];exact Int.le_refl _⟩
 | succ m ih =>
  intro k xs ho hl h1000 hk hod
  obtain ⟨k,rfl⟩:∃ j,k=j+1:=⟨k-1,by omega⟩
  rw [z13,decide_eq_true (by omega),cond_true,wP (by omega) (by omega),ix_g hl,Option.bind_some,ix_g (by omega),Option.bind_some]
  obtain ⟨c,c1,c2⟩:=cmp_at ho (a+(m+1)) (a+(m+1)-1) (k:=k) (by omega)
  rw [c1,Option.bind_some,c2,Option.bind_some]
  have hp1:a+(m+1)-1=a+m:=by omega
  rw [hp1]
  by_cases h:g xs (a+(m+1))<g xs (a+m)
  ·rw [decide_eq_true h,cond_true]
   have ho':OkDs (swp xs (a+(m+1)) (a+m)):=fun x hx=>ho x ((zl3 (by omega) (by omega)).mem_iff.1 hx)
   have hgg:∀ q,g (swp xs (a+(m+1)) (a+m)) q=if q=a+m then g xs (a+(m+1)) else if q=a+(m+1) then g xs (a+m) else g xs q:=fun q=>swp_g (by omega) (by omega)
   obtain ⟨ys,e1,e2,e3⟩:=ih k (swp xs (a+(m+1)) (a+m)) ho' (by rw [z47];omega) (by rw [z47];exact h1000) (by omega) (fun p q h1 h2 h3=>by
    rw [hgg,hgg,if_neg (by omega),if_neg (by omega),if_neg (by omega),if_neg (by omega)]
    exact hod p q h1 h2 (by omega))
   refine ⟨ys,(zf6 (i:=a+(m+1)) (j:=a+m) (by omega) (by omega) _).trans e1,?_,?_⟩
   ·exact (Sw.one (by omega) (by omega) (by omega) (by omega) (by omega)).trans (e2.wide (Nat.le_refl _) (by omega) (by rw [z47];omega))
   ·intro p q h1 h2 h3
    by_cases hq:q=a+(m+1)
    ·have hlast:g ys (a+(m+1))=g xs (a+m):=by
      rw [e2.outg (by omega),hgg,if_neg (by omega),if_pos rfl]
     rw [hq,hlast]
     by_cases hp:p=a+(m+1)
     ·rw [hp,hlast];exact Int.le_refl _
     ·refine e2.all (P:=fun v=>v≤g xs (a+m)) (fun r r1 r2=>?_) p h1 (by omega)
      show g (swp xs (a+(m+1)) (a+m)) r≤g xs (a+m)
      rw [hgg]
      split
      ·omega
      ·rw [if_neg (by omega)]
       exact hod r (a+m) r1 (by omega) (by omega)
    ·exact e3 p q h1 h2 (by omega)
  ·rw [decide_eq_false h,cond_false]
   refine ⟨xs,rfl,.refl _,od_of fun q q1 q2=>?_⟩
   by_cases hq:q=a+m
   ·rw [hq]
    have:a+m+1=a+(m+1):=by omega
    rw [this];omega
   ·exact hod q (q+1) q1 (by omega) (by omega)
theorem ins_l0 {β:Type} {a b:Nat} (kE:List D→Option β):∀ m i k:Nat,∀ xs:List D,i+m=b→OkDs xs→b≤xs.length→xs.length≤1000→a<i→b+m+10≤k→Od xs a i →
  ∃ ys,zl k kE (a:Int) (b:Int) (i:Int) xs=kE ys∧Sw a b xs ys∧Od ys a b:=by
 intro m
 induction m with
 | zero =>
  intro i k xs hi ho hl h1000 hai hk hod
  obtain ⟨k,rfl⟩:∃ j,k=j+1:=⟨k-1,by omega⟩
  rw [zl,decide_eq_false (by omega),cond_false]
  have:i=b:=by omega
  subst this
  exact ⟨xs,rfl,.refl _,hod⟩
 | succ m ih =>
  intro i k xs hi ho hl h1000 hai hk hod
  obtain ⟨k,rfl⟩:∃ j,k=j+1:=⟨k-1,by omega⟩
  rw [zl,decide_eq_true (by omega),cond_true]
  obtain ⟨d,rfl⟩:∃ d,i=a+d:=⟨i-a,by omega⟩
  obtain ⟨ys,e1,e2,e3⟩:=ins_l1 (x1:=(a:Int)) (x2:=(b:Int)) (x8:=((a+d:Nat):Int)) rfl (fun r62_1 r62_2 r62_8 zw0=>zl k kE r62_1 r62_2 (IntKind.wrap .i64 (r62_8+1)) zw0) d k xs ho (by omega) h1000 (by omega) hod
  have hb:=e2.wide (a':=a) (b':=b) (Nat.le_refl _) (by omega) hl
  obtain ⟨zs,f1,f2,f3⟩:=ih (a+d+1) k ys (by omega) (e2.ok ho) (by rw [e2.len];exact hl) (by rw [e2.len];exact h1000) (by omega) (by omega) e3
  refine ⟨zs,e1.trans ?_,hb.trans f2,f3⟩
  rw [wS (by omega)]
  exact f1
def Sorts (F:Option (List D)) (a b:Nat) (xs:List D):Prop:=∃ ys,F=some ys∧Sw a b xs ys∧Od ys a b
theorem ins_ok {a b k:Nat} {xs:List D} (ho:OkDs xs) (hl:b≤xs.length) (h1000:xs.length≤1000) (hab:a<b) (hk:b+b+20≤k):Sorts (zu k xs (a:Int) (b:Int)) a b xs:=by
 unfold Sorts zu
 rw [wS (by omega)]
 exact ins_l0 (fun zw0=>some zw0) (b-(a+1)) (a+1) k xs (by omega) ho hl h1000 (by omega) (by omega) (fun p q h1 h2 h3=>by
  have:p=q:=by omega
  rw [this];exact Int.le_refl _)
end Srt
end Go.Ev
namespace Go.Ev
namespace Srt
theorem zn7 {β:Type} {a j:Nat} (kE:Int→Int→Int→List D→Option β) {xs:List D} (ho:OkDs xs) (ha:a<xs.length) (hj:j<xs.length) (h1000:xs.length≤1000):∀ m i k:Nat,i+m=j+1→m+5≤k →
  ∃ i':Nat,zy k kE (a:Int) (i:Int) (j:Int) xs=kE (a:Int) (i':Int) (j:Int) xs∧i≤i'∧i'≤j+1∧(∀ q,i≤q→q<i'→g xs q<g xs a)∧(i'≤j→¬ (g xs i'<g xs a)):=by
 intro m
 induction m with
 | zero =>
  intro i k hi hk
  obtain ⟨k,rfl⟩:∃ j,k=j+1:=⟨k-1,by omega⟩
  rw [zy,decide_eq_false (by omega),cond_false,Option.bind_some,cond_false]
  exact ⟨i,rfl,by omega,by omega,fun q h1 h2=>by omega,fun h=>by omega⟩
 | succ m ih =>
  intro i k hi hk
  obtain ⟨k,rfl⟩:∃ j,k=j+1:=⟨k-1,by omega⟩
  obtain ⟨c,c1,c2⟩:=cmp_at ho i a (k:=k) (by omega)
  rw [zy,decide_eq_true (by omega),cond_true,ix_g (i:=i) (by omega),Option.bind_some,ix_g (i:=a) (by omega),Option.bind_some,c1,Option.bind_some,c2,Option.bind_some,wS (by omega)]
  by_cases h:g xs i<g xs a
  ·have e:(decide (g xs i<g xs a))=true:=by exact decide_eq_true h
   rw [e,cond_true]
   obtain ⟨i',e1,e2,e3,e4,e5⟩:=ih (i+1) k (by omega) (by omega)
   refine ⟨i',e1,by omega,e3,fun q q1 q2=>?_,e5⟩
   by_cases hq:q=i
   ·rw [hq];exact h
   ·exact e4 q (by omega) q2
  ·have e:(decide (g xs i<g xs a))=false:=by exact decide_eq_false h
   rw [e,cond_false]
   exact ⟨i,rfl,by omega,by omega,fun q q1 q2=>by omega,fun _=>h⟩
theorem zmk {β:Type} {a j:Nat} (kE:Int→Int→Int→List D→Option β) {xs:List D} (ho:OkDs xs) (ha:a<xs.length) (hj:j<xs.length) (h1000:xs.length≤1000):∀ m i k:Nat,i+m=j+1→m+5≤k →
  ∃ i':Nat,z1b k kE (a:Int) (i:Int) (j:Int) xs=kE (a:Int) (i':Int) (j:Int) xs∧i≤i'∧i'≤j+1∧(∀ q,i≤q→q<i'→g xs q<g xs a)∧(i'≤j→¬ (g xs i'<g xs a)):=by
 intro m
 induction m with
 | zero =>
  intro i k hi hk
  obtain ⟨k,rfl⟩:∃ j,k=j+1:=⟨k-1,by omega⟩
  rw [z1b,decide_eq_false (by omega),cond_false,Option.bind_some,cond_false]
  exact ⟨i,rfl,by omega,by omega,fun q h1 h2=>by omega,fun h=>by omega⟩
 | succ m ih =>
  intro i k hi hk
  obtain ⟨k,rfl⟩:∃ j,k=j+1:=⟨k-1,by omega⟩
  obtain ⟨c,c1,c2⟩:=cmp_at ho i a (k:=k) (by omega)
  rw [z1b,decide_eq_true (by omega),cond_true,ix_g (i:=i) (by omega),Option.bind_some,ix_g (i:=a) (by omega),Option.bind_some,c1,Option.bind_some,c2,Option.bind_some,wS (by omega)]
  by_cases h:g xs i<g xs a
  ·have e:(decide (g xs i<g xs a))=true:=by exact decide_eq_true h
   rw [e,cond_true]
   obtain ⟨i',e1,e2,e3,e4,e5⟩:=ih (i+1) k (by omega) (by omega)
   refine ⟨i',e1,by omega,e3,fun q q1 q2=>?_,e5⟩
   by_cases hq:q=i
   ·rw [hq];exact h
   ·exact e4 q (by omega) q2
  ·have e:(decide (g xs i<g xs a))=false:=by exact decide_eq_false h
   rw [e,cond_false]
   exact ⟨i,rfl,by omega,by omega,fun q q1 q2=>by omega,fun _=>h⟩
theorem znc {β:Type} {a i:Nat} (kE:Int→Int→Int→List D→Option β) {xs:List D} (ho:OkDs xs) (ha:a<xs.length) (hi0:0<i) (h1000:xs.length≤1000):∀ m j k:Nat,i+m=j+1→j<xs.length→m+5≤k →
  ∃ j':Nat,z1c k kE (a:Int) (i:Int) (j:Int) xs=kE (a:Int) (i:Int) (j':Int) xs∧j'≤j∧i≤j'+1∧(∀ q,j'<q→q≤j→¬ g xs q<g xs a)∧(i≤j'→¬ (¬ g xs j'<g xs a)):=by
 intro m
 induction m with
 | zero =>
  intro j k hi hj hk
  obtain ⟨k,rfl⟩:∃ j,k=j+1:=⟨k-1,by omega⟩
  rw [z1c,decide_eq_false (by omega),cond_false,Option.bind_some,cond_false]
  exact ⟨j,rfl,by omega,by omega,fun q h1 h2=>by omega,fun h=>by omega⟩
 | succ m ih =>
  intro j k hi hj hk
  obtain ⟨k,rfl⟩:∃ j,k=j+1:=⟨k-1,by omega⟩
  obtain ⟨c,c1,c2⟩:=cmp_at ho j a (k:=k) (by omega)
  rw [z1c,decide_eq_true (by omega),cond_true,ix_g (i:=j) (by omega),Option.bind_some,ix_g (i:=a) (by omega),Option.bind_some,c1,Option.bind_some,c2,Option.bind_some,wP (by omega) (by omega)]
  by_cases h:¬ g xs j<g xs a
  ·have e:(!decide (g xs j<g xs a))=true:=by rw [decide_eq_false h];rfl
   rw [e,cond_true]
   obtain ⟨j',e1,e2,e3,e4,e5⟩:=ih (j-1) k (by omega) (by omega) (by omega)
   refine ⟨j',e1,by omega,e3,fun q q1 q2=>?_,e5⟩
   by_cases hq:q=j
   ·rw [hq];exact h
   ·exact e4 q q1 (by omega)
  ·have e:(!decide (g xs j<g xs a))=false:=by rw [decide_eq_true (Classical.not_not.1 h)];rfl
   rw [e,cond_false]
   exact ⟨j,rfl,by omega,by omega,fun q q1 q2=>by omega,fun _=>h⟩
theorem zmg {β:Type} {a i:Nat} (kE:Int→Int→Int→List D→Option β) {xs:List D} (ho:OkDs xs) (ha:a<xs.length) (hi0:0<i) (h1000:xs.length≤1000):∀ m j k:Nat,i+m=j+1→j<xs.length→m+5≤k →
  ∃ j':Nat,zw k kE (a:Int) (i:Int) (j:Int) xs=kE (a:Int) (i:Int) (j':Int) xs∧j'≤j∧i≤j'+1∧(∀ q,j'<q→q≤j→¬ g xs q<g xs a)∧(i≤j'→¬ (¬ g xs j'<g xs a)):=by
 intro m
 induction m with
 | zero =>
  intro j k hi hj hk
  obtain ⟨k,rfl⟩:∃ j,k=j+1:=⟨k-1,by omega⟩
  rw [zw,decide_eq_false (by omega),cond_false,Option.bind_some,cond_false]
  exact ⟨j,rfl,by omega,by omega,fun q h1 h2=>by omega,fun h=>by omega⟩
 | succ m ih =>
  intro j k hi hj hk
  obtain ⟨k,rfl⟩:∃ j,k=j+1:=⟨k-1,by omega⟩
  obtain ⟨c,c1,c2⟩:=cmp_at ho j a (k:=k) (by omega)
  rw [zw,decide_eq_true (by omega),cond_true,ix_g (i:=j) (by omega),Option.bind_some,ix_g (i:=a) (by omega),Option.bind_some,c1,Option.bind_some,c2,Option.bind_some,wP (by omega) (by omega)]
  by_cases h:¬ g xs j<g xs a
  ·have e:(!decide (g xs j<g xs a))=true:=by rw [decide_eq_false h];rfl
   rw [e,cond_true]
   obtain ⟨j',e1,e2,e3,e4,e5⟩:=ih (j-1) k (by omega) (by omega) (by omega)
   refine ⟨j',e1,by omega,e3,fun q q1 q2=>?_,e5⟩
   by_cases hq:q=j
   ·rw [hq];exact h
   ·exact e4 q q1 (by omega)
  ·have e:(!decide (g xs j<g xs a))=false:=by rw [decide_eq_true (Classical.not_not.1 h)];rfl
   rw [e,cond_false]
   exact ⟨j,rfl,by omega,by omega,fun q q1 q2=>by omega,fun _=>h⟩
theorem zhw {β:Type} {a j:Nat} (kE:Int→Int→Int→List D→Option β) {xs:List D} (ho:OkDs xs) (ha:a<xs.length) (hj:j<xs.length) (h1000:xs.length≤1000):∀ m i k:Nat,i+m=j+1→m+5≤k →
  ∃ i':Nat,zz k kE (a:Int) (i:Int) (j:Int) xs=kE (a:Int) (i':Int) (j:Int) xs∧i≤i'∧i'≤j+1∧(∀ q,i≤q→q<i'→¬ g xs a<g xs q)∧(i'≤j→¬ (¬ g xs a<g xs i')):=by
 intro m
 induction m with
 | zero =>
  intro i k hi hk
  obtain ⟨k,rfl⟩:∃ j,k=j+1:=⟨k-1,by omega⟩
  rw [zz,decide_eq_false (by omega),cond_false,Option.bind_some,cond_false]
  exact ⟨i,rfl,by omega,by omega,fun q h1 h2=>by omega,fun h=>by omega⟩
 | succ m ih =>
  intro i k hi hk
  obtain ⟨k,rfl⟩:∃ j,k=j+1:=⟨k-1,by omega⟩
  obtain ⟨c,c1,c2⟩:=cmp_at ho a i (k:=k) (by omega)
  rw [zz,decide_eq_true (by omega),cond_true,ix_g (i:=a) (by omega),Option.bind_some,ix_g (i:=i) (by omega),Option.bind_some,c1,Option.bind_some,c2,Option.bind_some,wS (by omega)]
  by_cases h:¬ g xs a<g xs i
  ·have e:(!decide (g xs a<g xs i))=true:=by rw [decide_eq_false h];rfl
   rw [e,cond_true]
   obtain ⟨i',e1,e2,e3,e4,e5⟩:=ih (i+1) k (by omega) (by omega)
   refine ⟨i',e1,by omega,e3,fun q q1 q2=>?_,e5⟩
   by_cases hq:q=i
   ·rw [hq];exact h
   ·exact e4 q (by omega) q2
  ·have e:(!decide (g xs a<g xs i))=false:=by rw [decide_eq_true (Classical.not_not.1 h)];rfl
   rw [e,cond_false]
   exact ⟨i,rfl,by omega,by omega,fun q q1 q2=>by omega,fun _=>h⟩
theorem zi0 {β:Type} {a i:Nat} (kE:Int→Int→Int→List D→Option β) {xs:List D} (ho:OkDs xs) (ha:a<xs.length) (hi0:0<i) (h1000:xs.length≤1000):∀ m j k:Nat,i+m=j+1→j<xs.length→m+5≤k →
  ∃ j':Nat,z10 k kE (a:Int) (i:Int) (j:Int) xs=kE (a:Int) (i:Int) (j':Int) xs∧j'≤j∧i≤j'+1∧(∀ q,j'<q→q≤j→g xs a<g xs q)∧(i≤j'→¬ (g xs a<g xs j')):=by
 intro m
 induction m with
 | zero =>
  intro j k hi hj hk
  obtain ⟨k,rfl⟩:∃ j,k=j+1:=⟨k-1,by omega⟩
  rw [z10,decide_eq_false (by omega),cond_false,Option.bind_some,cond_false]
  exact ⟨j,rfl,by omega,by omega,fun q h1 h2=>by omega,fun h=>by omega⟩
 | succ m ih =>
  intro j k hi hj hk
  obtain ⟨k,rfl⟩:∃ j,k=j+1:=⟨k-1,by omega⟩
  obtain ⟨c,c1,c2⟩:=cmp_at ho a j (k:=k) (by omega)
  rw [z10,decide_eq_true (by omega),cond_true,ix_g (i:=a) (by omega),Option.bind_some,ix_g (i:=j) (by omega),Option.bind_some,c1,Option.bind_some,c2,Option.bind_some,wP (by omega) (by omega)]
  by_cases h:g xs a<g xs j
  ·have e:(decide (g xs a<g xs j))=true:=by exact decide_eq_true h
   rw [e,cond_true]
   obtain ⟨j',e1,e2,e3,e4,e5⟩:=ih (j-1) k (by omega) (by omega) (by omega)
   refine ⟨j',e1,by omega,e3,fun q q1 q2=>?_,e5⟩
   by_cases hq:q=j
   ·rw [hq];exact h
   ·exact e4 q q1 (by omega)
  ·have e:(decide (g xs a<g xs j))=false:=by exact decide_eq_false h
   rw [e,cond_false]
   exact ⟨j,rfl,by omega,by omega,fun q q1 q2=>by omega,fun _=>h⟩
theorem swp_ok {xs:List D} {i j:Nat} (ho:OkDs xs) (hi:i<xs.length) (hj:j<xs.length):OkDs (swp xs i j):=fun x hx=>ho x ((zl3 hi hj).mem_iff.1 hx)
structure PI (a b i j:Nat) (v:Int) (xs0 xs:List D):Prop where
 sw:Sw a b xs0 xs
 hv:g xs a=v
 ai:a<i
 jb:j<b
 ij:i≤j+1
 lo:∀ q,a<q→q<i→g xs q<v
 hi:∀ q,j<q→q<b→¬ g xs q<v
theorem zv3 {β:Type} {a b:Nat} {v:Int} (kE:Int→Int→List D→Option β) {xs0:List D} (ho:OkDs xs0) (hl:b≤xs0.length) (h1000:xs0.length≤1000):∀ m i j k:Nat,∀ xs:List D,i+m=j+1→m+1100≤k→PI a b i j v xs0 xs →
  ∃ j' xs',zx k kE (a:Int) (i:Int) (j:Int) xs=kE (a:Int) ((j':Nat):Int) xs'∧PI a b (j'+1) j' v xs0 xs':=by
 intro m
 induction m using Nat.strongRecOn with
 | ind m ih =>
  intro i j k xs hi hk hp
  obtain ⟨k,rfl⟩:∃ j,k=j+1:=⟨k-1,by omega⟩
  have len:=hp.sw.len
  have hok:=hp.sw.ok ho
  have p1:=hp.ai
  have p2:=hp.jb
  rw [zx]
  obtain ⟨i',e1,e2,e3,e4,e5⟩:=zmk (fun r184_1 r184_12 r184_13 zw0=>zw k (fun r217_1 r217_12 r217_13 zw0=>bif decide (r217_12>r217_13) then (kE r217_1 r217_13 zw0) else ((ix zw0 r217_13).bind fun a223=>(ix zw0 r217_12).bind fun a228=>(ix zw0 r217_12).bind fun a233=>(stx zw0 r217_12 a223).bind fun a238=>(ix a238 r217_13).bind fun a242=>(stx a238 r217_13 a228).bind fun a247=>zx k kE r217_1 (IntKind.wrap .i64 (r217_12+1)) (IntKind.wrap .i64 (r217_13-1)) a247)) r184_1 r184_12 r184_13 zw0) hok (a:=a) (j:=j) (by omega) (by omega) (by omega) m i k (by omega) (by omega)
  obtain ⟨j',f1,f2,f3,f4,f5⟩:=zmg (fun r217_1 r217_12 r217_13 zw0=>bif decide (r217_12>r217_13) then (kE r217_1 r217_13 zw0) else ((ix zw0 r217_13).bind fun a223=>(ix zw0 r217_12).bind fun a228=>(ix zw0 r217_12).bind fun a233=>(stx zw0 r217_12 a223).bind fun a238=>(ix a238 r217_13).bind fun a242=>(stx a238 r217_13 a228).bind fun a247=>zx k kE r217_1 (IntKind.wrap .i64 (r217_12+1)) (IntKind.wrap .i64 (r217_13-1)) a247)) hok (a:=a) (i:=i') (by omega) (by omega) (by omega) (j+1-i') j k (by omega) (by omega) (by omega)
  have lo':∀ q,a<q→q<i'→g xs q<v:=fun q q1 q2=>by
   by_cases hq:q<i
   ·exact hp.lo q q1 hq
   ·have:=e4 q (by omega) q2
    rw [hp.hv] at this;exact this
  have hi':∀ q,j'<q→q<b→¬ g xs q<v:=fun q q1 q2=>by
   by_cases hq:j<q
   ·exact hp.hi q hq q2
   ·have:=f4 q q1 (by omega)
    rw [hp.hv] at this;exact this
  by_cases hc:i'≤j'
  ·have g1:=e5 (by omega)
   have g2:=f5 hc
   rw [hp.hv] at g1 g2
   have hne:i'≠j':=fun e=>by rw [e] at g1;exact g2 g1
   have hgg:∀ q,g (swp xs i' j') q=if q=j' then g xs i' else if q=i' then g xs j' else g xs q:=fun q=>swp_g (by omega) (by omega)
   have hp':PI a b (i'+1) (j'-1) v xs0 (swp xs i' j'):=by
    refine ⟨.step hp.sw (by omega) (by omega) (by omega) (by omega) (by omega),?_,by omega,by omega,by omega,fun q q1 q2=>?_,fun q q1 q2=>?_⟩
    ·rw [hgg,if_neg (by omega),if_neg (by omega)];exact hp.hv
    ·rw [hgg,if_neg (by omega)]
     by_cases hq:q=i'
     ·rw [if_pos hq];exact Classical.not_not.1 g2
     ·rw [if_neg hq];exact lo' q q1 (by omega)
    ·rw [hgg]
     by_cases hq:q=j'
     ·rw [if_pos hq];exact g1
     ·rw [if_neg hq,if_neg (by omega)];exact hi' q (by omega) q2
   obtain ⟨j2,xs2,r1,r2⟩:=ih (j'-1+1-(i'+1)) (by omega) (i'+1) (j'-1) k (swp xs i' j') (by omega) (by omega) hp'
   refine ⟨j2,xs2,e1.trans (f1.trans ?_),r2⟩
   show (bif decide ((i':Int)>(j':Int)) then _ else _)=_
   rw [decide_eq_false (by omega),cond_false,wS (by omega),wP (by omega) (by omega)]
   exact (z5k (i:=i') (j:=j') (by omega) (by omega) _).trans r1
  ·refine ⟨j',xs,e1.trans (f1.trans ?_),⟨hp.sw,hp.hv,by omega,by omega,by omega,fun q q1 q2=>lo' q q1 (by omega),hi'⟩⟩
   show (bif decide ((i':Int)>(j':Int)) then _ else _)=_
   rw [decide_eq_true (by omega),cond_true]
theorem zpp {a b j:Nat} {v:Int} {xs0 xs:List D} (hl:b≤xs0.length) (hp:PI a b (j+1) j v xs0 xs):a≤j∧j<b∧Sw a b xs0 (swp xs j a)∧(∀ q,a≤q→q<j→g (swp xs j a) q<g (swp xs j a) j)∧(∀ q,j<q→q<b→g (swp xs j a) j≤g (swp xs j a) q):=by
 have len:=hp.sw.len
 have p1:=hp.ai
 have p2:=hp.jb
 have hgg:∀ q,g (swp xs j a) q=if q=a then g xs j else if q=j then g xs a else g xs q:=fun q=>swp_g (by omega) (by omega)
 have hj:g (swp xs j a) j=v:=by
  rw [hgg]
  by_cases h:j=a
  ·rw [if_pos h,h];exact hp.hv
  ·rw [if_neg h,if_pos rfl];exact hp.hv
 refine ⟨by omega,p2,.step hp.sw (by omega) (by omega) (by omega) (by omega) (by omega),fun q q1 q2=>?_,fun q q1 q2=>?_⟩
 ·rw [hj,hgg]
  by_cases h:q=a
  ·rw [if_pos h];exact hp.lo j (by omega) (by omega)
  ·rw [if_neg h,if_neg (by omega)];exact hp.lo q (by omega) (by omega)
 ·rw [hj,hgg,if_neg (by omega),if_neg (by omega)]
  have:=hp.hi q q1 q2
  omega
theorem zjf {a b p k:Nat} {xs:List D} (ho:OkDs xs) (hl:b≤xs.length) (h1000:xs.length≤1000) (hab:a<b) (hpa:a≤p) (hpb:p<b) (hk:2200≤k) :
  ∃ mid ok ys,zh k xs (a:Int) (b:Int) (p:Int)=some (((mid:Nat):Int),ok,ys)∧a≤mid∧mid<b∧Sw a b xs ys∧(∀ q,a≤q→q<mid→g ys q<g ys mid)∧(∀ q,mid<q→q<b→g ys mid≤g ys q):=by
 unfold zh
 have hs1:Sw a b xs (swp xs a p):=Sw.one (by omega) (by omega) hpa hpb hl
 have ho1:=hs1.ok ho
 have len1:=hs1.len
 have hp0:PI a b (a+1) (b-1) (g (swp xs a p) a) xs (swp xs a p):=⟨hs1,rfl,by omega,by omega,by omega,fun q q1 q2=>by omega,fun q q1 q2=>by omega⟩
 generalize hK:(fun (r57_1 r57_12 r57_13:Int) (zw0:List D)=>_)=K
 have sr:=z5k (xs:=xs) (i:=a) (j:=p) (by omega) (by omega) (fun a25=>zy k K (a:Int) (IntKind.wrap .i64 ((a:Int)+1)) (IntKind.wrap .i64 ((b:Int)-1)) a25)
 obtain ⟨i',e1,e2,e3,e4,e5⟩:=zn7 K ho1 (a:=a) (j:=b-1) (by omega) (by omega) (by omega) (b-1-a) (a+1) k (by omega) (by omega)
 rw [wS (by omega),wP (by omega) (by omega)] at sr
 rw [wS (by omega),wP (by omega) (by omega)]
 have run:=sr.trans e1
 obtain ⟨Z,hZ⟩:∃ Z,Z=K (a:Int) (i':Int) ((b-1:Nat):Int) (swp xs a p):=⟨_,rfl⟩
 rw [← hZ] at run
 have key:∃ mid ok ys,Z=some (((mid:Nat):Int),ok,ys)∧a≤mid∧mid<b∧Sw a b xs ys∧(∀ q,a≤q→q<mid→g ys q<g ys mid)∧(∀ q,mid<q→q<b→g ys mid≤g ys q):=by
  rw [hZ,← hK]
  simp only
  generalize hK2:(fun (r90_1 r90_12 r90_13:Int) (zw0:List D)=>_)=K2
  obtain ⟨j',f1,f2,f3,f4,f5⟩:=znc K2 ho1 (a:=a) (i:=i') (by omega) (by omega) (by omega) (b-1+1-i') (b-1) k (by omega) (by omega) (by omega)
  rw [f1,← hK2]
  simp only
  by_cases hc:i'≤j'
  ·have g1:=e5 (by omega)
   have g2:=f5 hc
   have hne:i'≠j':=fun e=>by rw [e] at g1;exact g2 g1
   have hgg:∀ q,g (swp (swp xs a p) i' j') q=if q=j' then g (swp xs a p) i' else if q=i' then g (swp xs a p) j' else g (swp xs a p) q:=fun q=>swp_g (by omega) (by omega)
   have hp':PI a b (i'+1) (j'-1) (g (swp xs a p) a) xs (swp (swp xs a p) i' j'):=by
    refine ⟨.step hs1 (by omega) (by omega) (by omega) (by omega) (by omega),?_,by omega,by omega,by omega,fun q q1 q2=>?_,fun q q1 q2=>?_⟩
    ·rw [hgg,if_neg (by omega),if_neg (by omega)]
    ·rw [hgg,if_neg (by omega)]
     by_cases hq:q=i'
     ·rw [if_pos hq];exact Classical.not_not.1 g2
     ·rw [if_neg hq];exact e4 q (by omega) (by omega)
    ·rw [hgg]
     by_cases hq:q=j'
     ·rw [if_pos hq];exact g1
     ·rw [if_neg hq,if_neg (by omega)];exact f4 q (by omega) (by omega)
   rw [decide_eq_false (by omega),cond_false,wS (by omega),wP (by omega) (by omega)]
   generalize hK3:(fun (r255_1 r255_13:Int) (zw0:List D)=>_)=K3
   obtain ⟨j2,xs2,r1,r2⟩:=zv3 K3 ho hl h1000 (j'-1+1-(i'+1)) (i'+1) (j'-1) k _ (by omega) (by omega) hp'
   obtain ⟨m1,m2,m3,m4,m5⟩:=zpp hl r2
   refine ⟨j2,false,swp xs2 j2 a,?_,m1,m2,m3,m4,m5⟩
   refine (z5k (i:=i') (j:=j') (by omega) (by omega) _).trans (r1.trans ?_)
   rw [← hK3]
   have l2:=r2.sw.len
   exact z5k (i:=j2) (j:=a) (by omega) (by omega) (fun a284=>some (((j2:Nat):Int),false,a284))
  ·have hp':PI a b (j'+1) j' (g (swp xs a p) a) xs (swp xs a p):=⟨hs1,rfl,by omega,by omega,by omega,fun q q1 q2=>e4 q (by omega) (by omega),fun q q1 q2=>f4 q q1 (by omega)⟩
   obtain ⟨m1,m2,m3,m4,m5⟩:=zpp hl hp'
   rw [decide_eq_true (by omega),cond_true]
   exact ⟨j',true,swp (swp xs a p) j' a,z5k (i:=j') (j:=a) (by omega) (by omega) (fun a120=>some (((j':Nat):Int),true,a120)),m1,m2,m3,m4,m5⟩
 obtain ⟨mid,ok,ys,k1,k2⟩:=key
 exact ⟨mid,ok,ys,run.trans k1,k2⟩
structure PE (a b i j:Nat) (v:Int) (xs0 xs:List D):Prop where
 sw:Sw a b xs0 xs
 hv:g xs a=v
 ai:a<i
 jb:j<b
 ij:i≤j+1
 lo:∀ q,a<q→q<i→¬ v<g xs q
 hi:∀ q,j<q→q<b→v<g xs q
theorem zsl {β:Type} {a b:Nat} {v:Int} (kE:Int→List D→Option β) {xs0:List D} (ho:OkDs xs0) (hl:b≤xs0.length) (h1000:xs0.length≤1000):∀ m i j k:Nat,∀ xs:List D,i+m=j+1→m+1100≤k→PE a b i j v xs0 xs →
  ∃ j' xs',z1g k kE (a:Int) (i:Int) (j:Int) xs=kE ((j'+1:Nat):Int) xs'∧PE a b (j'+1) j' v xs0 xs':=by
 intro m
 induction m using Nat.strongRecOn with
 | ind m ih =>
  intro i j k xs hi hk hp
  obtain ⟨k,rfl⟩:∃ j,k=j+1:=⟨k-1,by omega⟩
  have len:=hp.sw.len
  have hok:=hp.sw.ok ho
  have p1:=hp.ai
  have p2:=hp.jb
  rw [z1g]
  generalize hK:(fun (r61_1 r61_11 r61_12:Int) (zw0:List D)=>_)=K
  obtain ⟨i',e1,e2,e3,e4,e5⟩:=zhw K hok (a:=a) (j:=j) (by omega) (by omega) (by omega) m i k (by omega) (by omega)
  rw [e1,← hK]
  simp only
  generalize hK2:(fun (r94_1 r94_11 r94_12:Int) (zw0:List D)=>_)=K2
  obtain ⟨j',f1,f2,f3,f4,f5⟩:=zi0 K2 hok (a:=a) (i:=i') (by omega) (by omega) (by omega) (j+1-i') j k (by omega) (by omega) (by omega)
  rw [f1,← hK2]
  simp only
  have lo':∀ q,a<q→q<i'→¬ v<g xs q:=fun q q1 q2=>by
   by_cases hq:q<i
   ·exact hp.lo q q1 hq
   ·have:=e4 q (by omega) q2
    rw [hp.hv] at this;exact this
  have hi':∀ q,j'<q→q<b→v<g xs q:=fun q q1 q2=>by
   by_cases hq:j<q
   ·exact hp.hi q hq q2
   ·have:=f4 q q1 (by omega)
    rw [hp.hv] at this;exact this
  by_cases hc:i'≤j'
  ·have g1:=e5 (by omega)
   have g2:=f5 hc
   rw [hp.hv] at g1 g2
   have hne:i'≠j':=fun e=>by rw [e] at g1;exact g1 g2
   have hgg:∀ q,g (swp xs i' j') q=if q=j' then g xs i' else if q=i' then g xs j' else g xs q:=fun q=>swp_g (by omega) (by omega)
   have hp':PE a b (i'+1) (j'-1) v xs0 (swp xs i' j'):=by
    refine ⟨.step hp.sw (by omega) (by omega) (by omega) (by omega) (by omega),?_,by omega,by omega,by omega,fun q q1 q2=>?_,fun q q1 q2=>?_⟩
    ·rw [hgg,if_neg (by omega),if_neg (by omega)];exact hp.hv
    ·rw [hgg,if_neg (by omega)]
     by_cases hq:q=i'
     ·rw [if_pos hq];exact g2
     ·rw [if_neg hq];exact lo' q q1 (by omega)
    ·rw [hgg]
     by_cases hq:q=j'
     ·rw [if_pos hq];exact Classical.not_not.1 g1
     ·rw [if_neg hq,if_neg (by omega)];exact hi' q (by omega) q2
   obtain ⟨j2,xs2,r1,r2⟩:=ih (j'-1+1-(i'+1)) (by omega) (i'+1) (j'-1) k (swp xs i' j') (by omega) (by omega) hp'
   refine ⟨j2,xs2,?_,r2⟩
   rw [decide_eq_false (by omega),cond_false,wS (by omega),wP (by omega) (by omega)]
   exact (z5k (i:=i') (j:=j') (by omega) (by omega) _).trans r1
  ·refine ⟨j',xs,?_,⟨hp.sw,hp.hv,by omega,by omega,by omega,fun q q1 q2=>lo' q q1 (by omega),hi'⟩⟩
   rw [decide_eq_true (by omega),cond_true]
   have:i'=j'+1:=by omega
   rw [this]
theorem zsm {a b p k:Nat} {xs:List D} (ho:OkDs xs) (hl:b≤xs.length) (h1000:xs.length≤1000) (hab:a<b) (hpa:a≤p) (hpb:p<b) (hk:2200≤k) :
  ∃ mid ys,zf k xs (a:Int) (b:Int) (p:Int)=some (((mid:Nat):Int),ys)∧a<mid∧mid≤b∧Sw a b xs ys∧g ys a=g xs p∧(∀ q,a≤q→q<mid→g ys q≤g ys a)∧(∀ q,mid≤q→q<b→g ys a<g ys q):=by
 unfold zf
 have hs1:Sw a b xs (swp xs a p):=Sw.one (by omega) (by omega) hpa hpb hl
 have len1:=hs1.len
 have hva:g (swp xs a p) a=g xs p:=by
  rw [swp_g (by omega) (by omega)]
  by_cases h:a=p
  ·rw [if_pos h,h]
  ·rw [if_neg h,if_pos rfl]
 have hp0:PE a b (a+1) (b-1) (g xs p) xs (swp xs a p):=⟨hs1,hva,by omega,by omega,by omega,fun q q1 q2=>by omega,fun q q1 q2=>by omega⟩
 obtain ⟨j',xs',r1,r2⟩:=zsl (fun (r132_11:Int) (zw0:List D)=>some (r132_11,zw0)) ho hl h1000 (b-1-a) (a+1) (b-1) k _ (by omega) (by omega) hp0
 have q1:=r2.ai
 have q2:=r2.jb
 refine ⟨j'+1,xs',?_,by omega,by omega,r2.sw,r2.hv,fun q h1 h2=>?_,fun q h1 h2=>?_⟩
 ·refine (z5k (xs:=xs) (i:=a) (j:=p) (by omega) (by omega) _).trans ?_
  rw [wS (by omega),wP (by omega) (by omega)]
  exact r1
 ·rw [r2.hv]
  by_cases h:q=a
  ·rw [h,r2.hv];exact Int.le_refl _
  ·have:=r2.lo q (by omega) h2
   omega
 ·rw [r2.hv]
  exact r2.hi q (by omega) h2
end Srt
end Go.Ev
namespace Go.Ev
namespace Srt
theorem rev_l0 {β:Type} {a b:Nat} (kE:List D→Option β):∀ m i j k:Nat,∀ xs:List D,j≤i+m→m+5≤k→a≤i→j<b→b≤xs.length→xs.length≤1000 →
  ∃ ys,z15 k kE (i:Int) (j:Int) xs=kE ys∧Sw a b xs ys:=by
 intro m
 induction m with
 | zero =>
  intro i j k xs hi hk ha hb hl h1000
  obtain ⟨k,rfl⟩:∃ j,k=j+1:=⟨k-1,by omega⟩
  rw [z15,decide_eq_false (by omega),cond_false]
  exact ⟨xs,rfl,.refl _⟩
 | succ m ih =>
  intro i j k xs hi hk ha hb hl h1000
  obtain ⟨k,rfl⟩:∃ j,k=j+1:=⟨k-1,by omega⟩
  rw [z15]
  by_cases h:i<j
  ·rw [decide_eq_true (by omega),cond_true,wS (by omega),wP (by omega) (by omega)]
   obtain ⟨ys,e1,e2⟩:=ih (i+1) (j-1) k (swp xs i j) (by omega) (by omega) (by omega) (by omega) (by rw [z47];exact hl) (by rw [z47];exact h1000)
   exact ⟨ys,(z5k (i:=i) (j:=j) (by omega) (by omega) _).trans e1,(Sw.one (by omega) (by omega) (by omega) (by omega) hl).trans e2⟩
  ·rw [decide_eq_false (by omega),cond_false]
   exact ⟨xs,rfl,.refl _⟩
theorem rev_ok {a b k:Nat} {xs:List D} (hab:a<b) (hl:b≤xs.length) (h1000:xs.length≤1000) (hk:1100≤k):∃ ys,z1d k xs (a:Int) (b:Int)=some ys∧Sw a b xs ys:=by
 unfold z1d
 rw [wP (by omega) (by omega)]
 exact rev_l0 (fun zw0=>some zw0) (b-1-a) a (b-1) k xs (by omega) (by omega) (by omega) (by omega) hl h1000
theorem zi4 {xs:List D} (ho:OkDs xs) {i j k:Nat} (hi:i<xs.length) (hj:j<xs.length) (hk:3≤k) (s:Int):∃ i' j' s',z1k k xs (i:Int) (j:Int) s=some (((i':Nat):Int),((j':Nat):Int),s')∧((i'=i∧j'=j)∨(i'=j∧j'=i)):=by
 unfold z1k
 obtain ⟨c,c1,c2⟩:=cmp_at ho j i hk
 rw [ix_g hj,Option.bind_some,ix_g hi,Option.bind_some,c1,Option.bind_some]
 cases decide (c<0)
 ·exact ⟨i,j,_,rfl,.inl ⟨rfl,rfl⟩⟩
 ·exact ⟨j,i,_,rfl,.inr ⟨rfl,rfl⟩⟩
theorem zi9 {xs:List D} (ho:OkDs xs) {h i j k:Nat} (hh:h<xs.length) (hi:i<xs.length) (hj:j<xs.length) (hk:3≤k) (s:Int):∃ m s',z1l k xs (h:Int) (i:Int) (j:Int) s=some (((m:Nat):Int),s')∧(m=h∨m=i∨m=j):=by
 unfold z1l
 obtain ⟨a1,b1,s1,e1,h1⟩:=zi4 ho hh hi hk s
 rw [e1,Option.bind_some]
 simp only
 obtain ⟨a2,b2,s2,e2,h2⟩:=zi4 ho (i:=b1) (j:=j) (by omega) hj hk s1
 rw [e2,Option.bind_some]
 simp only
 obtain ⟨a3,b3,s3,e3,h3⟩:=zi4 ho (i:=a1) (j:=a2) (by omega) (by omega) hk s2
 rw [e3,Option.bind_some]
 exact ⟨b3,s3,rfl,by omega⟩
theorem adj_ok {xs:List D} (ho:OkDs xs) {i k:Nat} (h0:0<i) (hi:i+1<xs.length) (h1000:xs.length≤1000) (hk:3≤k) (s:Int):∃ m s',z18 k xs (i:Int) s=some (((m:Nat):Int),s')∧i≤m+1∧m≤i+1:=by
 unfold z18
 rw [wS (by omega),wP (by omega) h0]
 obtain ⟨m,s',e,h⟩:=zi9 ho (h:=i-1) (i:=i) (j:=i+1) (by omega) (by omega) hi hk s
 rw [e,Option.bind_some]
 exact ⟨m,s',rfl,by omega,by omega⟩
theorem ztc {a b k:Nat} {xs:List D} (ho:OkDs xs) (hab:a+12<b) (hl:b≤xs.length) (h1000:xs.length≤1000) (hk:3≤k):∃ p t,z1e k xs (a:Int) (b:Int)=some (((p:Nat):Int),t)∧a≤p∧p<b:=by
 unfold z1e
 obtain ⟨q,hq,hq2⟩:∃ q:Nat,Int.tdiv ((b:Int)-(a:Int)) 4=(q:Int)∧4*q≤b-a∧b-a<4*q+4:=⟨(b-a) / 4,by rw [Int.tdiv_eq_ediv_of_nonneg (by omega)];omega,by omega,by omega⟩
 have w0:IntKind.wrap .i64 ((b:Int)-(a:Int))=(b:Int)-(a:Int):=wr (by omega) (by omega)
 have w1:IntKind.wrap .i64 (q:Int)=q:=wr (by omega) (by omega)
 have m1:IntKind.wrap .i64 ((a:Int)+IntKind.wrap .i64 ((q:Int)*1))=((a+q:Nat):Int):=by rw [wr (n:=(q:Int)*1) (by omega) (by omega),wr (by omega) (by omega)];omega
 have m2:IntKind.wrap .i64 ((a:Int)+IntKind.wrap .i64 ((q:Int)*2))=((a+2*q:Nat):Int):=by rw [wr (n:=(q:Int)*2) (by omega) (by omega),wr (by omega) (by omega)];omega
 have m3:IntKind.wrap .i64 ((a:Int)+IntKind.wrap .i64 ((q:Int)*3))=((a+3*q:Nat):Int):=by rw [wr (n:=(q:Int)*3) (by omega) (by omega),wr (by omega) (by omega)];omega
 have fin:∀ (m:Nat) (s:Int),a≤m→m<b→∃ p t,(bif s==0 then some ((m:Int),(1:Int)) else (bif s==12 then some ((m:Int),2) else some ((m:Int),0)))=some (((p:Nat):Int),t)∧a≤p∧p<b:=fun m s h1 h2=>by
  cases s==0
  ·cases s==12
   ·exact ⟨m,_,rfl,h1,h2⟩
   ·exact ⟨m,_,rfl,h1,h2⟩
  ·exact ⟨m,_,rfl,h1,h2⟩
 rw [w0,hq,w1,m1,m2,m3,decide_eq_true (by omega),cond_true]
 by_cases h50:(b:Int)-(a:Int)≥50
 ·rw [decide_eq_true h50,cond_true]
  obtain ⟨i1,s1,e1,b1,b1'⟩:=adj_ok ho (i:=a+q) (by omega) (by omega) h1000 hk 0
  rw [e1,Option.bind_some]
  simp only
  obtain ⟨i2,s2,e2,b2,b2'⟩:=adj_ok ho (i:=a+2*q) (by omega) (by omega) h1000 hk s1
  rw [e2,Option.bind_some]
  simp only
  obtain ⟨i3,s3,e3,b3,b3'⟩:=adj_ok ho (i:=a+3*q) (by omega) (by omega) h1000 hk s2
  rw [e3,Option.bind_some]
  simp only
  obtain ⟨m,s4,e4,h4⟩:=zi9 ho (h:=i1) (i:=i2) (j:=i3) (by omega) (by omega) (by omega) hk s3
  rw [e4,Option.bind_some]
  exact fin m s4 (by omega) (by omega)
 ·rw [decide_eq_false h50,cond_false]
  obtain ⟨m,s4,e4,h4⟩:=zi9 ho (h:=a+q) (i:=a+2*q) (j:=a+3*q) (by omega) (by omega) (by omega) hk 0
  rw [e4,Option.bind_some]
  exact fin m s4 (by omega) (by omega)
theorem pow_ok:∀ n:Fin 1024,8≤n.1→∃ e:Fin 12,z4t (n.1:Int)=some ((2^e.1:Nat):Int)∧n.1<2^e.1∧2^e.1≤2*n.1:=by decide +kernel
theorem brk_l0 {β:Type} {a b n e:Nat} (kE:List D→Option β) (hn:a+n=b) (hn8:8≤n) (he:e<12) (h1:n<2^e) (h2:2^e≤2*n):∀ m i k:Nat,∀ r:Int,∀ xs:List D,i+m=a+n / 4*2+2→m+5≤k→a≤i→b≤xs.length→xs.length≤1000 →
  ∃ ys,zq k kE (a:Int) (n:Int) ((2^e:Nat):Int) (i:Int) r xs=kE ys∧Sw a b xs ys:=by
 intro m
 induction m with
 | zero =>
  intro i k r xs hi hk ha hl h1000
  obtain ⟨k,rfl⟩:∃ j,k=j+1:=⟨k-1,by omega⟩
  have w1:IntKind.wrap .i64 (IntKind.wrap .i64 ((a:Int)+IntKind.wrap .i64 (IntKind.wrap .i64 (Int.tdiv (n:Int) 4)*2))+1)=((a+n / 4*2+1:Nat):Int):=by
   rw [Int.tdiv_eq_ediv_of_nonneg (by omega),wr (n:=(n:Int) / 4) (by omega) (by omega),wr (n:=(n:Int) / 4*2) (by omega) (by omega),wr (n:=(a:Int)+(n:Int) / 4*2) (by omega) (by omega),wr (by omega) (by omega)];omega
  rw [zq,w1,decide_eq_false (by omega),cond_false]
  exact ⟨xs,rfl,.refl _⟩
 | succ m ih =>
  intro i k r xs hi hk ha hl h1000
  obtain ⟨k,rfl⟩:∃ j,k=j+1:=⟨k-1,by omega⟩
  have w1:IntKind.wrap .i64 (IntKind.wrap .i64 ((a:Int)+IntKind.wrap .i64 (IntKind.wrap .i64 (Int.tdiv (n:Int) 4)*2))+1)=((a+n / 4*2+1:Nat):Int):=by
   rw [Int.tdiv_eq_ediv_of_nonneg (by omega),wr (n:=(n:Int) / 4) (by omega) (by omega),wr (n:=(n:Int) / 4*2) (by omega) (by omega),wr (n:=(a:Int)+(n:Int) / 4*2) (by omega) (by omega),wr (by omega) (by omega)];omega
  have hp:(2^e:Nat)≤2048:=Nat.le_trans (Nat.pow_le_pow_right (by omega) (show e≤11 by omega)) (by decide)
  obtain ⟨v,hv⟩:∃ v,z6r r=some (v,v):=⟨_,rfl⟩
  have hu:IntKind.wrap .u64 (((2^e:Nat):Int)-1)=((2^e-1:Nat):Int):=by
   have:0<2^e:=Nat.two_pow_pos e
   rw [show ((2^e:Nat):Int)-1=((2^e-1:Nat):Int) by omega]
   simp only [IntKind.wrap,IntKind.signed,IntKind.bits]
   simp
   omega
  have hm:intBits .and .u64 v ((2^e-1:Nat):Int)=v % 2^e:=zhe (k:=.u64) (n:=e) v rfl (by show e<64;omega)
  obtain ⟨o,ho⟩:∃ o:Nat,v % 2^e=(o:Int)∧o<2^e:=by
   have hpos:(0:Int)<2^e:=by exact_mod_cast Nat.two_pow_pos e
   have h1:=Int.emod_nonneg v (show (2:Int)^e≠0 by omega)
   have h2:=Int.emod_lt_of_pos v hpos
   have h3:((2^e:Nat):Int)=2^e:=by simp
   exact ⟨(v % 2^e).toNat,by omega,by omega⟩
  rw [zq,w1,decide_eq_true (by omega),cond_true,hv,Option.bind_some]
  simp only
  rw [hu,hm,ho.1,wr (n:=(o:Int)) (by omega) (by omega),wS (by omega)]
  by_cases h:o≥n
  ·rw [decide_eq_true (by omega),cond_true]
   have w2:IntKind.wrap .i64 ((a:Int)+IntKind.wrap .i64 ((o:Int)-(n:Int)))=((a+(o-n):Nat):Int):=by rw [wr (n:=(o:Int)-(n:Int)) (by omega) (by omega),wr (by omega) (by omega)];omega
   rw [w2]
   obtain ⟨ys,e1,e2⟩:=ih (i+1) k v (swp xs i (a+(o-n))) (by omega) (by omega) (by omega) (by rw [z47];exact hl) (by rw [z47];exact h1000)
   exact ⟨ys,(z5k (i:=i) (j:=a+(o-n)) (by omega) (by omega) _).trans e1,(Sw.one (by omega) (by omega) (by omega) (by omega) hl).trans e2⟩
  ·rw [decide_eq_false (by omega),cond_false]
   have w2:IntKind.wrap .i64 ((a:Int)+(o:Int))=((a+o:Nat):Int):=by rw [wr (by omega) (by omega)];omega
   rw [w2]
   obtain ⟨ys,e1,e2⟩:=ih (i+1) k v (swp xs i (a+o)) (by omega) (by omega) (by omega) (by rw [z47];exact hl) (by rw [z47];exact h1000)
   exact ⟨ys,(z5k (i:=i) (j:=a+o) (by omega) (by omega) _).trans e1,(Sw.one (by omega) (by omega) (by omega) (by omega) hl).trans e2⟩
theorem brk_ok {a b k:Nat} {xs:List D} (hab:a+12<b) (hl:b≤xs.length) (h1000:xs.length≤1000) (hk:1100≤k):∃ ys,z1m k xs (a:Int) (b:Int)=some ys∧Sw a b xs ys:=by
 unfold z1m
 have w0:IntKind.wrap .i64 ((b:Int)-(a:Int))=((b-a:Nat):Int):=by rw [wr (by omega) (by omega)];omega
 obtain ⟨e,p1,p2,p3⟩:=pow_ok ⟨b-a,by omega⟩ (by show 8≤b-a;omega)
 have w1:IntKind.wrap .i64 (IntKind.wrap .i64 ((a:Int)+IntKind.wrap .i64 (IntKind.wrap .i64 (Int.tdiv ((b-a:Nat):Int) 4)*2))-1)=((a+(b-a) / 4*2-1:Nat):Int):=by
  rw [Int.tdiv_eq_ediv_of_nonneg (by omega),wr (n:=((b-a:Nat):Int) / 4) (by omega) (by omega),wr (n:=((b-a:Nat):Int) / 4*2) (by omega) (by omega),wr (n:=(a:Int)+((b-a:Nat):Int) / 4*2) (by omega) (by omega),wr (by omega) (by omega)];omega
 have p1:z4t ((b-a:Nat):Int)=some ((2^e.1:Nat):Int):=p1
 rw [w0,decide_eq_true (by omega),cond_true,p1,Option.bind_some,w1]
 have p2:b-a<2^e.1:=p2
 have p3:2^e.1≤2*(b-a):=p3
 exact brk_l0 (a:=a) (b:=b) (n:=b-a) (e:=e.1) (fun zw0=>some zw0) (by omega) (by omega) e.2 p2 p3 3 (a+(b-a) / 4*2-1) k _ xs (by omega) (by omega) (by omega) hl h1000
def LB (xs:List D) (a b:Nat):Prop:=0<a→∀ q,a≤q→q<b→g xs (a-1)≤g xs q
theorem pis_l2 {β:Type} {x1 x2 x9 x10:Int} {a:Nat} (kE:Int→Int→Int→Int→List D→Option β):∀ m k:Nat,∀ xs:List D,OkDs xs→a+m<xs.length→xs.length≤1000→m+5≤k→LB xs a (a+m+1)→Od xs a (a+m) →
  ∃ ys,zj k kE x1 x2 x9 x10 ((a+m:Nat):Int) xs=kE x1 x2 x9 x10 ys∧Sw a (a+m+1) xs ys∧Od ys a (a+m+1):=by
 intro m
 induction m with
 | zero =>
  intro k xs ho hl h1000 hk hlb hod
  obtain ⟨k,rfl⟩:∃ j,k=j+1:=⟨k-1,by omega⟩
  have one:Od xs a (a+0+1):=fun p q h1 h2 h3=>by
   have:p=q:=by omega
   rw [this];exact Int.le_refl _
  rw [zj]
  by_cases h0:0<a
  ·rw [decide_eq_true (by omega),cond_true,wP (by omega) (by omega),ix_g (by omega),Option.bind_some,ix_g (by omega),Option.bind_some]
   obtain ⟨c,c1,c2⟩:=cmp_at ho (a+0) (a+0-1) (k:=k) (by omega)
   have:=hlb h0 a (by omega) (by omega)
   rw [c1,Option.bind_some,c2,decide_eq_false (show ¬ g xs (a+0)<g xs (a+0-1) by rw [Nat.add_zero];omega),Bool.not_false,cond_true]
   exact ⟨xs,rfl,.refl _,one⟩
  ·rw [decide_eq_false (by omega),cond_false]
   exact ⟨xs,rfl,.refl _,one⟩
 | succ m ih =>
  intro k xs ho hl h1000 hk hlb hod
  obtain ⟨k,rfl⟩:∃ j,k=j+1:=⟨k-1,by omega⟩
  rw [zj,decide_eq_true (by omega),cond_true,wP (by omega) (by omega),ix_g hl,Option.bind_some,ix_g (by omega),Option.bind_some]
  obtain ⟨c,c1,c2⟩:=cmp_at ho (a+(m+1)) (a+(m+1)-1) (k:=k) (by omega)
  rw [c1,Option.bind_some,c2]
  have hp1:a+(m+1)-1=a+m:=by omega
  rw [hp1]
  by_cases h:g xs (a+(m+1))<g xs (a+m)
  ·rw [decide_eq_true h,Bool.not_true,cond_false]
   have ho':OkDs (swp xs (a+(m+1)) (a+m)):=swp_ok ho (by omega) (by omega)
   have hgg:∀ q,g (swp xs (a+(m+1)) (a+m)) q=if q=a+m then g xs (a+(m+1)) else if q=a+(m+1) then g xs (a+m) else g xs q:=fun q=>swp_g (by omega) (by omega)
   obtain ⟨ys,e1,e2,e3⟩:=ih k (swp xs (a+(m+1)) (a+m)) ho' (by rw [z47];omega) (by rw [z47];exact h1000) (by omega) (fun h0 q q1 q2=>by
    rw [hgg,hgg,if_neg (by omega),if_neg (by omega)]
    split
    ·exact hlb h0 _ (by omega) (by omega)
    ·rw [if_neg (by omega)];exact hlb h0 q q1 (by omega)) (fun p q h1 h2 h3=>by
    rw [hgg,hgg,if_neg (by omega),if_neg (by omega),if_neg (by omega),if_neg (by omega)]
    exact hod p q h1 h2 (by omega))
   refine ⟨ys,(zf6 (i:=a+(m+1)) (j:=a+m) (by omega) (by omega) _).trans e1,?_,?_⟩
   ·exact (Sw.one (by omega) (by omega) (by omega) (by omega) (by omega)).trans (e2.wide (Nat.le_refl _) (by omega) (by rw [z47];omega))
   ·intro p q h1 h2 h3
    by_cases hq:q=a+(m+1)
    ·have hlast:g ys (a+(m+1))=g xs (a+m):=by
      rw [e2.outg (by omega),hgg,if_neg (by omega),if_pos rfl]
     rw [hq,hlast]
     by_cases hp:p=a+(m+1)
     ·rw [hp,hlast];exact Int.le_refl _
     ·refine e2.all (P:=fun v=>v≤g xs (a+m)) (fun r r1 r2=>?_) p h1 (by omega)
      show g (swp xs (a+(m+1)) (a+m)) r≤g xs (a+m)
      rw [hgg]
      split
      ·omega
      ·rw [if_neg (by omega)]
       exact hod r (a+m) r1 (by omega) (by omega)
    ·exact e3 p q h1 h2 (by omega)
  ·rw [decide_eq_false h,Bool.not_false,cond_true]
   refine ⟨xs,rfl,.refl _,od_of fun q q1 q2=>?_⟩
   by_cases hq:q=a+m
   ·rw [hq]
    have:a+m+1=a+(m+1):=by omega
    rw [this];omega
   ·exact hod q (q+1) q1 (by omega) (by omega)
theorem pis_l3 {β:Type} {x1 x9 x10:Int} {a b:Nat} (kE:Int→Int→Int→Int→List D→Option β):∀ m j k:Nat,∀ xs:List D,j+m=b→a<j→OkDs xs→b≤xs.length→xs.length≤1000→m+5≤k →
  ∃ ys,ze k kE x1 (b:Int) x9 x10 (j:Int) xs=kE x1 (b:Int) x9 x10 ys∧Sw a b xs ys:=by
 intro m
 induction m with
 | zero =>
  intro j k xs hj ha ho hl h1000 hk
  obtain ⟨k,rfl⟩:∃ j,k=j+1:=⟨k-1,by omega⟩
  rw [ze,decide_eq_false (by omega),cond_false]
  exact ⟨xs,rfl,.refl _⟩
 | succ m ih =>
  intro j k xs hj ha ho hl h1000 hk
  obtain ⟨k,rfl⟩:∃ j,k=j+1:=⟨k-1,by omega⟩
  obtain ⟨c,c1,c2⟩:=cmp_at ho j (j-1) (k:=k) (by omega)
  rw [ze,decide_eq_true (by omega),cond_true,wP (by omega) (by omega),wS (by omega),ix_g (by omega),Option.bind_some,ix_g (by omega),Option.bind_some,c1,Option.bind_some]
  cases decide (c<0)
  ·exact ⟨xs,rfl,.refl _⟩
  ·rw [Bool.not_true,cond_false]
   obtain ⟨ys,e1,e2⟩:=ih (j+1) k (swp xs j (j-1)) (by omega) (by omega) (swp_ok ho (by omega) (by omega)) (by rw [z47];exact hl) (by rw [z47];exact h1000) (by omega)
   exact ⟨ys,(zf6 (i:=j) (j:=j-1) (by omega) (by omega) _).trans e1,(Sw.one (by omega) (by omega) (by omega) (by omega) hl).trans e2⟩
theorem pis_l1 {β:Type} {a b:Nat} {x10:Int} (kE:Int→Int→Int→Int→List D→Option β) {xs:List D} (ho:OkDs xs) (hl:b≤xs.length) (h1000:xs.length≤1000):∀ m i k:Nat,i+m=b→0<i→m+5≤k →
  ∃ i':Nat,zr k kE (a:Int) (b:Int) (i:Int) x10 xs=kE (a:Int) (b:Int) (i':Int) x10 xs∧i≤i'∧i'≤b∧(∀ q,i≤q→q<i'→g xs (q-1)≤g xs q)∧(i'<b→g xs i'<g xs (i'-1)):=by
 intro m
 induction m with
 | zero =>
  intro i k hi h0 hk
  obtain ⟨k,rfl⟩:∃ j,k=j+1:=⟨k-1,by omega⟩
  rw [zr,decide_eq_false (by omega),cond_false,Option.bind_some,cond_false]
  exact ⟨i,rfl,by omega,by omega,fun q h1 h2=>by omega,fun h=>by omega⟩
 | succ m ih =>
  intro i k hi h0 hk
  obtain ⟨k,rfl⟩:∃ j,k=j+1:=⟨k-1,by omega⟩
  obtain ⟨c,c1,c2⟩:=cmp_at ho i (i-1) (k:=k) (by omega)
  rw [zr,decide_eq_true (by omega),cond_true,wP (by omega) (by omega),ix_g (by omega),Option.bind_some,ix_g (by omega),Option.bind_some,c1,Option.bind_some,c2,Option.bind_some,wS (by omega)]
  by_cases h:g xs i<g xs (i-1)
  ·rw [decide_eq_true h,Bool.not_true,cond_false]
   exact ⟨i,rfl,by omega,by omega,fun q h1 h2=>by omega,fun _=>h⟩
  ·rw [decide_eq_false h,Bool.not_false,cond_true]
   obtain ⟨i',e1,e2,e3,e4,e5⟩:=ih (i+1) k (by omega) (by omega) (by omega)
   refine ⟨i',e1,by omega,e3,fun q q1 q2=>?_,e5⟩
   by_cases hq:q=i
   ·rw [hq];omega
   ·exact e4 q (by omega) q2
theorem LB.sw {xs ys:List D} {a b c:Nat} (h:LB xs a b) (hs:Sw a b xs ys) (hc:c≤b):LB ys a c:=fun h0 q q1 q2=>by
 rw [hs.outg (by omega)]
 exact hs.all (P:=fun v=>g xs (a-1)≤v) (fun r r1 r2=>h h0 r r1 r2) q q1 (by omega)
theorem pis_l0 {β:Type} {a b:Nat} (kE0:List D→Option β) (kE1:Bool→List D→Option β) (hab:a<b):∀ m i n k:Nat,∀ xs:List D,n+m=5→m+1100≤k→a<i→i≤b→OkDs xs→b≤xs.length→xs.length≤1000→LB xs a b→Od xs a i →
  ∃ ys,Sw a b xs ys∧(∃ r,za k kE0 kE1 (a:Int) (b:Int) (i:Int) (n:Int) xs=kE1 r ys∧(r=true→Od ys a b)∨za k kE0 kE1 (a:Int) (b:Int) (i:Int) (n:Int) xs=kE0 ys):=by
 intro m
 induction m with
 | zero =>
  intro i n k xs hn hk hai hib ho hl h1000 hlb hod
  obtain ⟨k,rfl⟩:∃ j,k=j+1:=⟨k-1,by omega⟩
  rw [za,decide_eq_false (by omega),cond_false]
  exact ⟨xs,.refl _,true,.inr rfl⟩
 | succ m ih =>
  intro i n k xs hn hk hai hib ho hl h1000 hlb hod
  obtain ⟨k,rfl⟩:∃ j,k=j+1:=⟨k-1,by omega⟩
  rw [za,decide_eq_true (by omega),cond_true]
  generalize hK:(fun (r34_1 r34_2 r34_9 r34_10:Int) (zw0:List D)=>_)=K
  obtain ⟨i',e1,e2,e3,e4,e5⟩:=pis_l1 (x10:=(n:Int)) (a:=a) K ho hl h1000 (b-i) i k (by omega) (by omega) (by omega)
  rw [e1,← hK]
  simp only
  have hod':Od xs a i':=od_of fun q q1 q2=>by
   by_cases hq:q+1<i
   ·exact hod q (q+1) q1 (by omega) hq
   ·have:=e4 (q+1) (by omega) q2
    rw [Nat.add_sub_cancel] at this;exact this
  by_cases hc:i'=b
  ·subst hc
   rw [show ((i':Int)==(i':Int))=true from beq_self_eq_true _,cond_true]
   exact ⟨xs,.refl _,true,.inl ⟨rfl,fun _=>hod'⟩⟩
  ·rw [show ((i':Int)==(b:Int))=false from beq_eq_false_iff_ne.2 (by omega),cond_false,wr (n:=(b:Int)-(a:Int)) (by omega) (by omega)]
   by_cases h50:(b:Int)-(a:Int)<50
   ·rw [decide_eq_true h50,cond_true]
    exact ⟨xs,.refl _,false,.inl ⟨rfl,fun h=>by cases h⟩⟩
   ·rw [decide_eq_false h50,cond_false,wP (by omega) (by omega),wS (i:=i') (by omega),wr (n:=(i':Int)-(a:Int)) (by omega) (by omega)]
    have hgg:∀ q,g (swp xs i' (i'-1)) q=if q=i'-1 then g xs i' else if q=i' then g xs (i'-1) else g xs q:=fun q=>swp_g (by omega) (by omega)
    have s1:Sw a b xs (swp xs i' (i'-1)):=Sw.one (by omega) (by omega) (by omega) (by omega) hl
    have o1:=s1.ok ho
    have l1:=s1.len
    have d1:Od (swp xs i' (i'-1)) a (i'-1):=fun p q h1 h2 h3=>by
     rw [hgg,hgg,if_neg (by omega),if_neg (by omega),if_neg (by omega),if_neg (by omega)]
     exact hod' p q h1 h2 (by omega)
    -- behind the shift to the left
    have right:∀ ys:List D,Sw a b xs ys→Od ys a i'→∃ zs,Sw a b xs zs∧(∃ r,(bif decide (IntKind.wrap .i64 ((b:Int)-(i':Int))≥2) then ze k (fun r182_1 r182_2 r182_9 r182_10 zw0=>za k kE0 kE1 r182_1 r182_2 r182_9 (IntKind.wrap .i64 (r182_10+1)) zw0) (a:Int) (b:Int) (i':Int) (n:Int) ((i'+1:Nat):Int) ys else za k kE0 kE1 (a:Int) (b:Int) (i':Int) (IntKind.wrap .i64 ((n:Int)+1)) ys)=kE1 r zs∧(r=true→Od zs a b)∨(bif decide (IntKind.wrap .i64 ((b:Int)-(i':Int))≥2) then ze k (fun r182_1 r182_2 r182_9 r182_10 zw0=>za k kE0 kE1 r182_1 r182_2 r182_9 (IntKind.wrap .i64 (r182_10+1)) zw0) (a:Int) (b:Int) (i':Int) (n:Int) ((i'+1:Nat):Int) ys else za k kE0 kE1 (a:Int) (b:Int) (i':Int) (IntKind.wrap .i64 ((n:Int)+1)) ys)=kE0 zs):=fun ys sy dy=>by
     have ly:=sy.len
     have oy:=sy.ok ho
     have by_:=hlb.sw sy (Nat.le_refl _)
     cases decide (IntKind.wrap .i64 ((b:Int)-(i':Int))≥2)
     ·rw [cond_false,wS (by omega)]
      obtain ⟨zs,z1,z2⟩:=ih i' (n+1) k ys (by omega) (by omega) (by omega) e3 oy (by omega) (by omega) by_ dy
      exact ⟨zs,sy.trans z1,z2⟩
     ·rw [cond_true]
      obtain ⟨ws,w1,w2⟩:=pis_l3 (x1:=(a:Int)) (x9:=(i':Int)) (x10:=(n:Int)) (a:=i') (b:=b) (fun r182_1 r182_2 r182_9 r182_10 zw0=>za k kE0 kE1 r182_1 r182_2 r182_9 (IntKind.wrap .i64 (r182_10+1)) zw0) (b-(i'+1)) (i'+1) k ys (by omega) (by omega) oy (by omega) (by omega) (by omega)
      have w3:=w2.wide (a':=a) (b':=b) (by omega) (Nat.le_refl _) (by omega)
      have dw:Od ws a i':=fun p q h1 h2 h3=>by
       rw [w2.outg (by omega),w2.outg (by omega)];exact dy p q h1 h2 h3
      obtain ⟨zs,z1,z2⟩:=ih i' (n+1) k ws (by omega) (by omega) (by omega) e3 (w3.ok oy) (by rw [w3.len];omega) (by rw [w3.len];omega) (by_.sw w3 (Nat.le_refl _)) dw
      rw [w1,wS (by omega)]
      exact ⟨zs,(sy.trans w3).trans z1,z2⟩
    by_cases h2:(i':Int)-(a:Int)≥2
    ·obtain ⟨d,hd⟩:∃ d,i'-1=a+d:=⟨i'-1-a,by omega⟩
     generalize hK2:(fun (r123_1 r123_2 r123_9 r123_10:Int) (zw0:List D)=>_)=K2
     obtain ⟨ys,y1,y2,y3⟩:=pis_l2 (x1:=(a:Int)) (x2:=(b:Int)) (x9:=(i':Int)) (x10:=(n:Int)) K2 d k (swp xs i' (i'-1)) o1 (by omega) (by omega) (by omega) (hlb.sw s1 (by omega)) (by rw [← hd];exact d1)
     have sy:=s1.trans (y2.wide (a':=a) (b':=b) (Nat.le_refl _) (by omega) (by omega))
     obtain ⟨zs,z1,r,z2⟩:=right ys sy (by rw [show i'=a+d+1 by omega];exact y3)
     refine ⟨zs,z1,r,?_⟩
     have run:=z5k (xs:=xs) (i:=i') (j:=i'-1) (by omega) (by omega) (fun a65=>bif decide ((i':Int)-(a:Int)≥2) then zj k K2 (a:Int) (b:Int) (i':Int) (n:Int) ((i'-1:Nat):Int) a65 else (bif decide (IntKind.wrap .i64 ((b:Int)-(i':Int))≥2) then ze k (fun r188_1 r188_2 r188_9 r188_10 zw0=>za k kE0 kE1 r188_1 r188_2 r188_9 (IntKind.wrap .i64 (r188_10+1)) zw0) (a:Int) (b:Int) (i':Int) (n:Int) ((i'+1:Nat):Int) a65 else za k kE0 kE1 (a:Int) (b:Int) (i':Int) (IntKind.wrap .i64 ((n:Int)+1)) a65))
     rw [decide_eq_true h2] at run ⊢
     rw [← hd] at y1
     rw [cond_true,y1] at run
     subst hK2
     have wz:IntKind.wrap .i64 ((i':Int)+1)=((i'+1:Nat):Int):=wS (by omega)
     simp only [wz] at run
     rcases z2 with ⟨z2,z3⟩ | z2
     ·exact .inl ⟨run.trans z2,z3⟩
     ·exact .inr (run.trans z2)
    ·have sy:=s1
     obtain ⟨zs,z1,r,z2⟩:=right _ sy (fun p q h1 h2' h3=>by
      have:p=q:=by omega
      rw [this];exact Int.le_refl _)
     refine ⟨zs,z1,r,?_⟩
     generalize hK2:(fun (r123_1 r123_2 r123_9 r123_10:Int) (zw0:List D)=>_)=K2
     have run:=z5k (xs:=xs) (i:=i') (j:=i'-1) (by omega) (by omega) (fun a65=>bif decide ((i':Int)-(a:Int)≥2) then zj k K2 (a:Int) (b:Int) (i':Int) (n:Int) ((i'-1:Nat):Int) a65 else (bif decide (IntKind.wrap .i64 ((b:Int)-(i':Int))≥2) then ze k (fun r188_1 r188_2 r188_9 r188_10 zw0=>za k kE0 kE1 r188_1 r188_2 r188_9 (IntKind.wrap .i64 (r188_10+1)) zw0) (a:Int) (b:Int) (i':Int) (n:Int) ((i'+1:Nat):Int) a65 else za k kE0 kE1 (a:Int) (b:Int) (i':Int) (IntKind.wrap .i64 ((n:Int)+1)) a65))
     rw [decide_eq_false h2] at run ⊢
     rw [cond_false] at run
     rcases z2 with ⟨z2,z3⟩ | z2
     ·exact .inl ⟨run.trans z2,z3⟩
     ·exact .inr (run.trans z2)
theorem pis_ok {a b k:Nat} {xs:List D} (ho:OkDs xs) (hl:b≤xs.length) (h1000:xs.length≤1000) (hab:a<b) (hlb:LB xs a b) (hk:1200≤k):∃ r ys,zi k xs (a:Int) (b:Int)=some (r,ys)∧Sw a b xs ys∧(r=true→Od ys a b):=by
 unfold zi
 rw [wS (by omega)]
 obtain ⟨ys,y1,r,y2⟩:=pis_l0 (fun (zw0:List D)=>some (false,zw0)) (fun (r206_8:Bool) (zw0:List D)=>some (r206_8,zw0)) hab 5 (a+1) 0 k xs rfl (by omega) (by omega) (by omega) ho hl h1000 hlb (fun p q h1 h2 h3=>by
  have:p=q:=by omega
  rw [this];exact Int.le_refl _)
 rcases y2 with ⟨y2,y3⟩ | y2
 ·exact ⟨r,ys,y2,y1,y3⟩
 ·exact ⟨false,ys,y2,y1,fun h=>by cases h⟩
end Srt
end Go.Ev
namespace Go.Ev
namespace Srt
def par (p c:Nat):Prop:=c=2*p+1∨c=2*p+2
def HP (a n lo:Nat) (xs:List D):Prop:=∀ i c,lo≤i→par i c→c<n→g xs (a+c)≤g xs (a+i)
structure SI (a n lo r:Nat) (xs:List D):Prop where
 h:∀ i c,lo≤i→i≠r→par i c→c<n→g xs (a+c)≤g xs (a+i)
 p:∀ i c,lo≤i→par i r→par r c→c<n→g xs (a+c)≤g xs (a+i)
theorem SI.hp {a n lo r:Nat} {xs:List D} (hs:SI a n lo r xs) (hr:∀ c,par r c→c<n→g xs (a+c)≤g xs (a+r)):HP a n lo xs:=fun i c hi hp hc=>by
 by_cases h:i=r
 ·rw [h] at hp ⊢;exact hr c hp hc
 ·exact hs.h i c hi h hp hc
theorem SI.down {a n lo r c:Nat} {xs:List D} (hs:SI a n lo r xs) (hlo:lo≤r) (hl:a+n≤xs.length) (hrc:par r c) (hc:c<n) (hlt:g xs (a+r)<g xs (a+c)) (hmax:∀ d,par r d→d<n→g xs (a+d)≤g xs (a+c)):SI a n lo c (swp xs (a+r) (a+c)):=by
 have hne:r≠c:=by rcases hrc with h | h<;>omega
 have hgg:∀ q,g (swp xs (a+r) (a+c)) (a+q)=if q=c then g xs (a+r) else if q=r then g xs (a+c) else g xs (a+q):=fun q=>by
  have hrn:r<n:=by rcases hrc with h | h<;>omega
  rw [swp_g (by omega) (by omega)]
  by_cases h1:q=c
  ·rw [if_pos (by omega),if_pos h1]
  ·rw [if_neg (by omega),if_neg h1]
   by_cases h2:q=r
   ·rw [if_pos (by omega),if_pos h2]
   ·rw [if_neg (by omega),if_neg h2]
 refine ⟨fun i d hi hic hid hd=>?_,fun i d hi hic hcd hd=>?_⟩
 ·rw [hgg,hgg,if_neg hic]
  by_cases h1:d=c
  ·rw [if_pos h1]
   have hir:i=r:=by subst h1;rcases hid with h | h<;>rcases hrc with h' | h'<;>omega
   rw [if_pos hir];omega
  ·rw [if_neg h1]
   by_cases h2:d=r
   ·rw [if_pos h2]
    have hir:i≠r:=fun e=>by subst h2;subst e;rcases hid with h | h<;>omega
    rw [if_neg hir]
    rw [h2] at hid
    exact hs.p i c hi hid hrc hc
   ·rw [if_neg h2]
    by_cases h3:i=r
    ·rw [if_pos h3]
     rw [h3] at hid
     exact hmax d hid hd
    ·rw [if_neg h3]
     exact hs.h i d hi h3 hid hd
 ·have hir:i=r:=by rcases hic with h | h<;>rcases hrc with h' | h'<;>omega
  have hdc:d≠c:=by rcases hcd with h | h<;>omega
  have hdr:d≠r:=by rcases hcd with h | h<;>rcases hrc with h' | h'<;>omega
  have hcr:c≠r:=Ne.symm hne
  rw [hgg,hgg,if_neg hdc,if_neg hdr,hir,if_neg hne,if_pos rfl]
  exact hs.h c d (by rcases hrc with h | h<;>omega) hcr hcd hd
theorem zut {a n lo:Nat}:∀ m r k:Nat,∀ xs:List D,n≤r+m→m+5≤k→OkDs xs→a+n≤xs.length→xs.length≤1000→r≤2000→lo≤r→SI a n lo r xs →
  ∃ ys,zn k (fun zw0=>some zw0) (fun zw0=>some zw0) (n:Int) (a:Int) (r:Int) xs=some ys∧Sw a (a+n) xs ys∧HP a n lo ys:=by
 intro m
 induction m with
 | zero =>
  intro r k xs hr hk ho hl h1000 hr2 hlo hs
  obtain ⟨k,rfl⟩:∃ j,k=j+1:=⟨k-1,by omega⟩
  have w1:IntKind.wrap .i64 (IntKind.wrap .i64 (2*(r:Int))+1)=((2*r+1:Nat):Int):=by rw [wr (n:=2*(r:Int)) (by omega) (by omega),wr (by omega) (by omega)];omega
  rw [zn,w1,decide_eq_true (by omega),cond_true]
  exact ⟨xs,rfl,.refl _,hs.hp fun c hp hc=>by rcases hp with h | h<;>omega⟩
 | succ m ih =>
  intro r k xs hr hk ho hl h1000 hr2 hlo hs
  obtain ⟨k,rfl⟩:∃ j,k=j+1:=⟨k-1,by omega⟩
  have w1:IntKind.wrap .i64 (IntKind.wrap .i64 (2*(r:Int))+1)=((2*r+1:Nat):Int):=by rw [wr (n:=2*(r:Int)) (by omega) (by omega),wr (by omega) (by omega)];omega
  rw [zn,w1]
  by_cases h0:2*r+1≥n
  ·rw [decide_eq_true (by omega),cond_true]
   exact ⟨xs,rfl,.refl _,hs.hp fun c hp hc=>by rcases hp with h | h<;>omega⟩
  ·have w2:IntKind.wrap .i64 (((2*r+1:Nat):Int)+1)=((2*r+2:Nat):Int):=by rw [wr (by omega) (by omega)];omega
   have w3:IntKind.wrap .i64 ((a:Int)+((2*r+1:Nat):Int))=((a+(2*r+1):Nat):Int):=by rw [wr (by omega) (by omega)];omega
   have w4:IntKind.wrap .i64 (((a+(2*r+1):Nat):Int)+1)=((a+(2*r+2):Nat):Int):=by rw [wr (by omega) (by omega)];omega
   have w5:IntKind.wrap .i64 ((a:Int)+(r:Int))=((a+r:Nat):Int):=by rw [wr (by omega) (by omega)];omega
   have w6:IntKind.wrap .i64 ((a:Int)+((2*r+2:Nat):Int))=((a+(2*r+2):Nat):Int):=by rw [wr (by omega) (by omega)];omega
   rw [decide_eq_false (by omega),cond_false,w2,w3,w4,w5,w6]
   have fin:∀ c:Nat,par r c→c<n→(∀ d,par r d→d<n→g xs (a+d)≤g xs (a+c))→∀ Z:Option (List D),
     ((ix xs ((a+r:Nat):Int)).bind fun a26=>(ix xs ((a+c:Nat):Int)).bind fun a31=>(zk k a26 a31).bind fun r36=>bif !(decide (r36<0)) then some xs else
      ((ix xs ((a+c:Nat):Int)).bind fun a42=>(ix xs ((a+r:Nat):Int)).bind fun a47=>(ix xs ((a+r:Nat):Int)).bind fun _=>(stx xs ((a+r:Nat):Int) a42).bind fun a57=>(ix a57 ((a+c:Nat):Int)).bind fun _=>(stx a57 ((a+c:Nat):Int) a47).bind fun a66=>zn k (fun zw0=>some zw0) (fun zw0=>some zw0) (n:Int) (a:Int) (c:Int) a66))=Z→∃ ys,Z=some ys∧Sw a (a+n) xs ys∧HP a n lo ys:=fun c hrc hc hmax Z hZ=>by
    obtain ⟨q,c1,c2⟩:=cmp_at ho (a+r) (a+c) (k:=k) (by omega)
    rw [ix_g (by omega),Option.bind_some,ix_g (by omega),Option.bind_some,c1,Option.bind_some,c2] at hZ
    by_cases h:g xs (a+r)<g xs (a+c)
    ·rw [decide_eq_true h,Bool.not_true,cond_false] at hZ
     have hs':=hs.down hlo hl hrc hc h hmax
     obtain ⟨ys,e1,e2,e3⟩:=ih c k (swp xs (a+r) (a+c)) (by rcases hrc with h | h<;>omega) (by omega) (swp_ok ho (by omega) (by omega)) (by rw [z47];exact hl) (by rw [z47];exact h1000) (by omega) (by rcases hrc with h | h<;>omega) hs'
     exact ⟨ys,hZ.symm.trans ((zf6 (i:=a+r) (j:=a+c) (by omega) (by omega) _).trans e1),(Sw.one (by omega) (by omega) (by omega) (by omega) hl).trans e2,e3⟩
    ·rw [decide_eq_false h,Bool.not_false,cond_true] at hZ
     exact ⟨xs,hZ.symm,.refl _,hs.hp fun d hd hdn=>by have:=hmax d hd hdn;omega⟩
   by_cases h2:2*r+2<n
   ·rw [decide_eq_true (by omega),cond_true]
    obtain ⟨q,c1,c2⟩:=cmp_at ho (a+(2*r+1)) (a+(2*r+2)) (k:=k) (by omega)
    have first:((ix xs ((a+(2*r+1):Nat):Int)).bind fun a6=>(ix xs ((a+(2*r+2):Nat):Int)).bind fun a11=>(zk k a6 a11).bind fun r16=>some (decide (r16<0)))=some (decide (g xs (a+(2*r+1))<g xs (a+(2*r+2)))):=by
     rw [ix_g (by omega),Option.bind_some,ix_g (by omega),Option.bind_some,c1,Option.bind_some,c2]
    by_cases h:g xs (a+(2*r+1))<g xs (a+(2*r+2))
    ·rw [first,Option.bind_some,decide_eq_true h,cond_true]
     exact fin (2*r+2) (.inr rfl) h2 (fun d hd _=>by rcases hd with e | e<;>subst e<;>omega) _ rfl
    ·rw [first,Option.bind_some,decide_eq_false h,cond_false]
     exact fin (2*r+1) (.inl rfl) (by omega) (fun d hd _=>by rcases hd with e | e<;>subst e<;>omega) _ rfl
   ·rw [decide_eq_false (by omega),cond_false,Option.bind_some,cond_false]
    exact fin (2*r+1) (.inl rfl) (by omega) (fun d hd hdn=>by
     rcases hd with e | e
     ·subst e;exact Int.le_refl _
     ·omega) _ rfl
theorem zqv {a n lo k:Nat} {xs:List D} (ho:OkDs xs) (hl:a+n≤xs.length) (h1000:xs.length≤1000) (hlo:lo≤1000) (hk:1100≤k) (hs:SI a n lo lo xs):∃ ys,z1h k xs (lo:Int) (n:Int) (a:Int)=some ys∧Sw a (a+n) xs ys∧HP a n lo ys :=
 zut n lo k xs (by omega) (by omega) ho hl h1000 (by omega) (Nat.le_refl _) hs
theorem ztp {β:Type} {a n:Nat} (kE:Int→Int→Int→List D→Option β):∀ m k:Nat,∀ xs:List D,m+1200≤k→m≤1000→OkDs xs→a+n≤xs.length→xs.length≤1000→HP a n m xs →
  ∃ ys,z1f k kE (a:Int) 0 (n:Int) ((m:Int)-1) xs=kE (a:Int) 0 (n:Int) ys∧Sw a (a+n) xs ys∧HP a n 0 ys:=by
 intro m
 induction m with
 | zero =>
  intro k xs hk hm ho hl h1000 hp
  obtain ⟨k,rfl⟩:∃ j,k=j+1:=⟨k-1,by omega⟩
  rw [z1f,decide_eq_false (by omega),cond_false]
  exact ⟨xs,rfl,.refl _,hp⟩
 | succ m ih =>
  intro k xs hk hm ho hl h1000 hp
  obtain ⟨k,rfl⟩:∃ j,k=j+1:=⟨k-1,by omega⟩
  have e0:(((m+1:Nat):Int)-1)=(m:Int):=by omega
  obtain ⟨ys,y1,y2,y3⟩:=zqv (a:=a) (n:=n) (lo:=m) (k:=k) ho hl h1000 (by omega) (by omega) ⟨fun i c hi hne hpc hc=>hp i c (by omega) hpc hc,fun i c hi hpm hpc hc=>by rcases hpm with h | h<;>omega⟩
  rw [z1f,e0,decide_eq_true (by omega),cond_true,y1,Option.bind_some,wr (by omega) (by omega)]
  obtain ⟨zs,z1,z2,z3⟩:=ih k ys (by omega) (by omega) (y2.ok ho) (by rw [y2.len];exact hl) (by rw [y2.len];exact h1000) y3
  exact ⟨zs,z1,y2.trans z2,z3⟩
theorem HP.top {a n:Nat} {xs:List D} (h:HP a n 0 xs):∀ c,c<n→g xs (a+c)≤g xs a:=by
 intro c
 induction c using Nat.strongRecOn with
 | ind c ih =>
  intro hc
  by_cases h0:c=0
  ·subst h0;exact Int.le_refl _
  ·have h1:=h ((c-1) / 2) c (by omega) (by unfold par;omega) hc
   have h2:=ih ((c-1) / 2) (by omega) (by omega)
   omega
theorem zv4 {β:Type} {a n:Nat} (kE:List D→Option β):∀ m k:Nat,∀ xs:List D,m+1200≤k→m≤n→OkDs xs→a+n≤xs.length→xs.length≤1000→HP a m 0 xs→Od xs (a+m) (a+n)→(∀ q t,a≤q→q<a+m→a+m≤t→t<a+n→g xs q≤g xs t) →
  ∃ ys,zm k kE (a:Int) 0 ((m:Int)-1) xs=kE ys∧Sw a (a+n) xs ys∧Od ys a (a+n):=by
 intro m
 induction m with
 | zero =>
  intro k xs hk hm ho hl h1000 hp hod _
  obtain ⟨k,rfl⟩:∃ j,k=j+1:=⟨k-1,by omega⟩
  rw [zm,decide_eq_false (by omega),cond_false]
  exact ⟨xs,rfl,.refl _,hod⟩
 | succ m ih =>
  intro k xs hk hm ho hl h1000 hp hod htl
  obtain ⟨k,rfl⟩:∃ j,k=j+1:=⟨k-1,by omega⟩
  have e0:(((m+1:Nat):Int)-1)=(m:Int):=by omega
  have w5:IntKind.wrap .i64 ((a:Int)+(m:Int))=((a+m:Nat):Int):=by rw [wr (by omega) (by omega)];omega
  have hgg:∀ q,g (swp xs a (a+m)) q=if q=a+m then g xs a else if q=a then g xs (a+m) else g xs q:=fun q=>swp_g (by omega) (by omega)
  have s1:Sw a (a+n) xs (swp xs a (a+m)):=Sw.one (by omega) (by omega) (by omega) (by omega) hl
  have top:=hp.top
  have hsi:SI a m 0 0 (swp xs a (a+m)):=by
   refine ⟨fun i c _ hne hpc hc=>?_,fun i c _ hp0 _ _=>by rcases hp0 with h | h<;>omega⟩
   have hic:i<c:=by rcases hpc with h | h<;>omega
   rw [hgg,hgg,if_neg (by omega),if_neg (by omega),if_neg (by omega),if_neg (by omega)]
   exact hp i c (by omega) hpc (by omega)
  obtain ⟨ys,y1,y2,y3⟩:=zqv (a:=a) (n:=m) (lo:=0) (k:=k) (s1.ok ho) (by rw [z47];omega) (by rw [z47];exact h1000) (by omega) (by omega) hsi
  have hbig:∀ q,a+m≤q→g ys q=if q=a+m then g xs a else g xs q:=fun q hq=>by
   rw [y2.outg (.inr hq),hgg]
   by_cases h:q=a+m
   ·rw [if_pos h,if_pos h]
   ·rw [if_neg h,if_neg h,if_neg (by omega)]
  have y4:=y2.wide (a':=a) (b':=a+n) (Nat.le_refl _) (by omega) (by rw [z47];exact hl)
  have sm:∀ q,a≤q→q<a+m→g ys q≤g xs a:=y2.all (P:=fun v=>v≤g xs a) fun q q1 q2=>by
   show g (swp xs a (a+m)) q≤g xs a
   obtain ⟨d,rfl⟩:∃ d,q=a+d:=⟨q-a,by omega⟩
   rw [hgg,if_neg (by omega)]
   split
   ·exact top m (by omega)
   ·exact top d (by omega)
  obtain ⟨zs,z1,z2,z3⟩:=ih k ys (by omega) (by omega) (y4.ok (s1.ok ho)) (by rw [y2.len,z47];exact hl) (by rw [y2.len,z47];exact h1000) y3 (fun p q h1 h2 h3=>by
   rw [hbig p h1,hbig q (by omega)]
   by_cases hp1:p=a+m
   ·rw [if_pos hp1]
    by_cases hq1:q=a+m
    ·rw [if_pos hq1];exact Int.le_refl _
    ·rw [if_neg hq1];exact htl a q (by omega) (by omega) (by omega) h3
   ·rw [if_neg hp1,if_neg (by omega)]
    exact hod p q (by omega) h2 h3) (fun q t q1 q2 t1 t2=>by
   have hq:=sm q q1 q2
   rw [hbig t t1]
   by_cases ht:t=a+m
   ·rw [if_pos ht];exact hq
   ·rw [if_neg ht]
    have:=htl a t (by omega) (by omega) (by omega) t2
    omega)
  refine ⟨zs,?_,(s1.trans y4).trans z2,z3⟩
  rw [zm,e0,decide_eq_true (by omega),cond_true,w5,wr (n:=(m:Int)-1) (by omega) (by omega)]
  refine (z5k (i:=a) (j:=a+m) (by omega) (by omega) (fun a52=>(z1h k a52 0 (m:Int) (a:Int)).bind fun r56=>zm k kE (a:Int) 0 ((m:Int)-1) r56)).trans ?_
  have y1':z1h k (swp xs a (a+m)) 0 (m:Int) (a:Int)=some ys:=y1
  rw [y1',Option.bind_some]
  exact z1
theorem zu6 {a b k:Nat} {xs:List D} (ho:OkDs xs) (hl:b≤xs.length) (h1000:xs.length≤1000) (hab:a<b) (hk:2300≤k):Sorts (z1p k xs (a:Int) (b:Int)) a b xs:=by
 unfold Sorts z1p
 have w0:IntKind.wrap .i64 ((b:Int)-(a:Int))=((b-a:Nat):Int):=by rw [wr (by omega) (by omega)];omega
 have w1:IntKind.wrap .i64 (Int.tdiv (IntKind.wrap .i64 (((b-a:Nat):Int)-1)) 2)=(((b-a-1) / 2+1:Nat):Int)-1:=by
  rw [wr (n:=((b-a:Nat):Int)-1) (by omega) (by omega),Int.tdiv_eq_ediv_of_nonneg (by omega),wr (by omega) (by omega)];omega
 rw [w0,w1]
 have hab2:a+(b-a)=b:=by omega
 obtain ⟨ys,y1,y2,y3⟩:=ztp (a:=a) (n:=b-a) (fun r18_8 r18_9 r18_10 zw0=>zm k (fun zw0=>some zw0) r18_8 r18_9 (IntKind.wrap .i64 (r18_10-1)) zw0) ((b-a-1) / 2+1) k xs (by omega) (by omega) ho (by omega) h1000 (fun i c hi hp hc=>by rcases hp with h | h<;>omega)
 obtain ⟨zs,z1,z2,z3⟩:=zv4 (a:=a) (n:=b-a) (fun zw0=>some zw0) (b-a) k ys (by omega) (Nat.le_refl _) (y2.ok ho) (by rw [y2.len];omega) (by rw [y2.len];exact h1000) y3 (fun p q h1 h2 h3=>by omega) (fun q t h1 h2 h3 h4=>by omega)
 rw [hab2] at y2 z2 z3
 refine ⟨zs,y1.trans ?_,y2.trans z2,z3⟩
 rw [wr (n:=((b-a:Nat):Int)-1) (by omega) (by omega)]
 exact z1
end Srt
end Go.Ev
namespace Go.Ev
namespace Srt
section
variable {β:Type} (k:Nat) (rec:List D→Int→Int→Int→Option (List D)) (kE0:List D→Option β)
def tailF (x1 x2 x3:Int) (x10 x11:Bool) (p:Int) (zs:List D):Option β :=
 (bif decide (x1>0) then ((ix zs (IntKind.wrap .i64 (x1-1))).bind fun a64=>(ix zs p).bind fun a69=>(zk k a64 a69).bind fun r74=>some (!(decide (r74<0)))) else (some false)).bind fun b79 =>
 bif b79 then ((zf k zs x1 x2 p).bind fun r84=>z9 k rec kE0 r84.1 x2 x3 x10 x11 r84.2)
 else ((zh k zs x1 x2 p).bind fun r92 =>
  bif decide ((IntKind.wrap .i64 (r92.1-x1))<(IntKind.wrap .i64 (x2-r92.1))) then ((rec r92.2.2 x1 r92.1 x3).bind fun r101=>z9 k rec kE0 (IntKind.wrap .i64 (r92.1+1)) x2 x3 (decide ((IntKind.wrap .i64 (r92.1-x1))≥(IntKind.wrap .i64 (Int.tdiv (IntKind.wrap .i64 (x2-x1)) 8)))) r92.2.1 r101)
  else ((rec r92.2.2 (IntKind.wrap .i64 (r92.1+1)) x2 x3).bind fun r109=>z9 k rec kE0 x1 r92.1 x3 (decide ((IntKind.wrap .i64 (x2-r92.1))≥(IntKind.wrap .i64 (Int.tdiv (IntKind.wrap .i64 (x2-x1)) 8)))) r92.2.1 r109))
def pisF (x1 x2 x3:Int) (x10 x11:Bool) (p:Int) (c:Bool) (zs:List D):Option β :=
 (bif x10 then (some x11) else (some false)).bind fun b46=>(bif b46 then (some c) else (some false)).bind fun b50 =>
 bif b50 then ((zi k zs x1 x2).bind fun r55=>bif r55.1 then kE0 r55.2 else tailF k rec kE0 x1 x2 x3 x10 x11 p r55.2)
 else tailF k rec kE0 x1 x2 x3 x10 x11 p zs
def chF (x1 x2 x3:Int) (x10 x11:Bool) (zs:List D):Option β :=
 (z1e k zs x1 x2).bind fun r32 =>
 bif r32.2==2 then ((z1d k zs x1 x2).bind fun r38=>pisF k rec kE0 x1 x2 x3 x10 x11 (IntKind.wrap .i64 ((IntKind.wrap .i64 (x2-1))-(IntKind.wrap .i64 (r32.1-x1)))) (1==1) r38)
 else pisF k rec kE0 x1 x2 x3 x10 x11 r32.1 (r32.2==1) zs
theorem l0_eq (x1 x2 x3:Int) (x10 x11:Bool) (zs:List D):z9 (k+1) rec kE0 x1 x2 x3 x10 x11 zs =
  bif decide ((IntKind.wrap .i64 (x2-x1))≤12) then ((zu k zs x1 x2).bind fun r6=>kE0 r6)
  else (bif x3==0 then ((z1p k zs x1 x2).bind fun r15=>kE0 r15)
  else (bif !x10 then ((z1m k zs x1 x2).bind fun r24=>chF k rec kE0 x1 x2 (IntKind.wrap .i64 (x3-1)) x10 x11 r24) else chF k rec kE0 x1 x2 x3 x10 x11 zs)):=rfl
end
structure Pr (a b:Nat) (xs:List D):Prop where
 ok:OkDs xs
 hl:b≤xs.length
 h1000:xs.length≤1000
 ab:a≤b
 lb:LB xs a b
theorem Pr.sw {a b:Nat} {xs ys:List D} (h:Pr a b xs) (s:Sw a b xs ys):Pr a b ys:=⟨s.ok h.ok,by rw [s.len];exact h.hl,by rw [s.len];exact h.h1000,h.ab,h.lb.sw s (Nat.le_refl _)⟩
theorem zrc {xs:List D} {a m b:Nat} (h1:Od xs a m) (h2:Od xs (m+1) b) (hl:∀ q,a≤q→q<m→g xs q≤g xs m) (hr:∀ q,m<q→q<b→g xs m≤g xs q):Od xs a b:=fun p q hp hpq hq=>by
 by_cases c1:q<m
 ·exact h1 p q hp hpq c1
 ·by_cases c2:p<m
  ·have e1:=hl p hp c2
   by_cases c3:q=m
   ·rw [c3];exact e1
   ·have:=hr q (by omega) hq;omega
  ·by_cases c3:p=m
   ·by_cases c4:q=m
    ·rw [c3,c4];exact Int.le_refl _
    ·rw [c3];exact hr q (by omega) hq
   ·exact h2 p q (by omega) hpq hq
theorem zd5 {β:Type} {k:Nat} {rec:List D→Int→Int→Int→Option (List D)} {kE:List D→Option β} {a b:Nat} {zs:List D} (hp:Pr a b zs) (hab:a+12<b) (hk:2500≤k)
  (hrec:∀ (a' b':Nat) (lim:Int) (ws:List D),b'-a'<b-a→Pr a' b' ws→Sorts (rec ws (a':Int) (b':Int) lim) a' b' ws)
  (hloop:∀ (a' b':Nat) (lim:Int) (f h:Bool) (ws:List D),b'-a'<b-a→Pr a' b' ws→∃ ys,z9 k rec kE (a':Int) (b':Int) lim f h ws=kE ys∧Sw a' b' ws ys∧Od ys a' b')
  (lim:Int) (f h:Bool) {p:Nat} (hpa:a≤p) (hpb:p<b):∃ ys,tailF k rec kE (a:Int) (b:Int) lim f h (p:Int) zs=kE ys∧Sw a b zs ys∧Od ys a b:=by
 have hl:=hp.hl
 have h1000:=hp.h1000
 have noEq:(0<a→g zs (a-1)<g zs p)→((bif decide ((a:Int)>0) then ((ix zs (IntKind.wrap .i64 ((a:Int)-1))).bind fun a64=>(ix zs (p:Int)).bind fun a69=>(zk k a64 a69).bind fun r74=>some (!(decide (r74<0)))) else (some false))=some false):=fun hn=>by
  by_cases h0:0<a
  ·obtain ⟨c,c1,c2⟩:=cmp_at hp.ok (a-1) p (k:=k) (by omega)
   rw [decide_eq_true (by omega),cond_true,wP (by omega) h0,ix_g (by omega),Option.bind_some,ix_g (by omega),Option.bind_some,c1,Option.bind_some,c2,decide_eq_true (hn h0)];rfl
  ·rw [decide_eq_false (by omega),cond_false]
 by_cases hEq:0<a∧¬ g zs (a-1)<g zs p
 ·obtain ⟨h0,hge⟩:=hEq
  obtain ⟨c,c1,c2⟩:=cmp_at hp.ok (a-1) p (k:=k) (by omega)
  have yes:(bif decide ((a:Int)>0) then ((ix zs (IntKind.wrap .i64 ((a:Int)-1))).bind fun a64=>(ix zs (p:Int)).bind fun a69=>(zk k a64 a69).bind fun r74=>some (!(decide (r74<0)))) else (some false))=some true:=by
   rw [decide_eq_true (by omega),cond_true,wP (by omega) h0,ix_g (by omega),Option.bind_some,ix_g (by omega),Option.bind_some,c1,Option.bind_some,c2,decide_eq_false hge];rfl
  obtain ⟨mid,ys1,e1,m1,m2,s1,v1,lo,hi⟩:=zsm hp.ok hl h1000 (by omega) hpa hpb (k:=k) (by omega)
  have p1:=hp.sw s1
  have lbv:∀ q,a≤q→q<b→g zs (a-1)≤g ys1 q:=fun q q1 q2=>by
   have:=p1.lb h0 q q1 q2
   rwa [s1.outg (by omega)] at this
  obtain ⟨ys2,f1,f2,f3⟩:=hloop mid b lim f h ys1 (by omega) ⟨p1.ok,p1.hl,p1.h1000,m2,fun _ q q1 q2=>by
   have e3:=lo (mid-1) (by omega) (by omega)
   have e4:=hi q q1 q2
   omega⟩
  refine ⟨ys2,?_,s1.trans (f2.wide (by omega) (Nat.le_refl _) p1.hl),fun r q hr hrq hq=>?_⟩
  ·unfold tailF
   rw [yes,Option.bind_some,cond_true,e1,Option.bind_some]
   exact f1
  ·have left:∀ t,a≤t→t<mid→g ys2 t=g ys1 a:=fun t t1 t2=>by
    rw [f2.outg (.inl t2)]
    have e3:=lo t t1 t2
    have e4:=lbv t t1 (by omega)
    have e5:=v1
    omega
   have right:∀ t,mid≤t→t<b→g ys1 a<g ys2 t:=f2.all (P:=fun v=>g ys1 a<v) hi
   by_cases c1:r<mid
   ·rw [left r hr c1]
    by_cases c2:q<mid
    ·rw [left q (by omega) c2];exact Int.le_refl _
    ·have:=right q (by omega) hq;omega
   ·exact f3 r q (by omega) hrq hq
 ·have hn:0<a→g zs (a-1)<g zs p:=fun h0=>Classical.not_not.1 fun hx=>hEq ⟨h0,hx⟩
  obtain ⟨mid,ok,ys1,e1,m1,m2,s1,lo,hi⟩:=zjf hp.ok hl h1000 (by omega) hpa hpb (k:=k) (by omega)
  have p1:=hp.sw s1
  have h1l:=p1.hl
  have h1k:=p1.h1000
  unfold tailF
  rw [noEq hn,Option.bind_some,cond_false,e1,Option.bind_some]
  simp only
  rw [wS (i:=mid) (by omega)]
  cases decide (IntKind.wrap .i64 ((mid:Int)-(a:Int))<IntKind.wrap .i64 ((b:Int)-(mid:Int)))
  ·rw [cond_false]
   obtain ⟨ys2,r1,r2,r3⟩:=hrec (mid+1) b lim ys1 (by omega) ⟨p1.ok,p1.hl,p1.h1000,by omega,fun _ q q1 q2=>by
    rw [Nat.add_sub_cancel];exact hi q (by omega) q2⟩
   have p2:Pr a mid ys2:=⟨r2.ok p1.ok,by rw [r2.len];omega,by rw [r2.len];omega,m1,fun h0 q q1 q2=>by
    rw [r2.outg (by omega),r2.outg (by omega)];exact p1.lb h0 q q1 (by omega)⟩
   obtain ⟨ys3,f1,f2,f3⟩:=hloop a mid lim _ ok ys2 (by omega) p2
   refine ⟨ys3,by rw [r1,Option.bind_some];exact f1,?_,?_⟩
   ·exact (s1.trans (r2.wide (by omega) (Nat.le_refl _) h1l)).trans (f2.wide (Nat.le_refl _) (by omega) (by rw [r2.len];exact h1l))
   ·have hm:g ys3 mid=g ys1 mid:=by rw [f2.outg (.inr (Nat.le_refl _)),r2.outg (by omega)]
    refine zrc f3 (fun r q hr hrq hq=>?_) (fun q q1 q2=>?_) (fun q q1 q2=>?_)
    ·rw [f2.outg (by omega),f2.outg (by omega)];exact r3 r q hr hrq hq
    ·rw [hm]
     refine f2.all (P:=fun v=>v≤g ys1 mid) (fun t t1 t2=>?_) q q1 q2
     show g ys2 t≤g ys1 mid
     rw [r2.outg (by omega)]
     have:=lo t t1 t2
     omega
    ·rw [hm,f2.outg (by omega)]
     exact r2.all (P:=fun v=>g ys1 mid≤v) (fun t t1 t2=>hi t (by omega) t2) q (by omega) q2
  ·rw [cond_true]
   obtain ⟨ys2,r1,r2,r3⟩:=hrec a mid lim ys1 (by omega) ⟨p1.ok,by omega,p1.h1000,m1,fun h0 q q1 q2=>p1.lb h0 q q1 (by omega)⟩
   have p2:Pr (mid+1) b ys2:=⟨r2.ok p1.ok,by rw [r2.len];omega,by rw [r2.len];omega,by omega,fun _ q q1 q2=>by
    rw [Nat.add_sub_cancel,r2.outg (by omega),r2.outg (by omega)];exact hi q (by omega) q2⟩
   obtain ⟨ys3,f1,f2,f3⟩:=hloop (mid+1) b lim _ ok ys2 (by omega) p2
   refine ⟨ys3,by rw [r1,Option.bind_some];exact f1,?_,?_⟩
   ·exact (s1.trans (r2.wide (Nat.le_refl _) (by omega) h1l)).trans (f2.wide (by omega) (Nat.le_refl _) (by rw [r2.len];exact h1l))
   ·have hm:g ys3 mid=g ys1 mid:=by rw [f2.outg (by omega),r2.outg (by omega)]
    refine zrc (fun r q hr hrq hq=>?_) f3 (fun q q1 q2=>?_) (fun q q1 q2=>?_)
    ·rw [f2.outg (by omega),f2.outg (by omega)];exact r3 r q hr hrq hq
    ·rw [hm,f2.outg (by omega)]
     refine r2.all (P:=fun v=>v≤g ys1 mid) (fun t t1 t2=>?_) q q1 q2
     have:=lo t t1 t2
     show g ys1 t≤g ys1 mid
     omega
    ·rw [hm]
     refine f2.all (P:=fun v=>g ys1 mid≤v) (fun t t1 t2=>?_) q (by omega) q2
     show g ys1 mid≤g ys2 t
     rw [r2.outg (by omega)]
     exact hi t (by omega) t2
theorem zqy {β:Type} {k:Nat} {rec:List D→Int→Int→Int→Option (List D)} {kE:List D→Option β} {a b:Nat} {zs:List D} (hp:Pr a b zs) (hab:a+12<b) (hk:2500≤k)
  (hrec:∀ (a' b':Nat) (lim:Int) (ws:List D),b'-a'<b-a→Pr a' b' ws→Sorts (rec ws (a':Int) (b':Int) lim) a' b' ws)
  (hloop:∀ (a' b':Nat) (lim:Int) (f h:Bool) (ws:List D),b'-a'<b-a→Pr a' b' ws→∃ ys,z9 k rec kE (a':Int) (b':Int) lim f h ws=kE ys∧Sw a' b' ws ys∧Od ys a' b')
  (lim:Int) (f h c:Bool) {p:Nat} (hpa:a≤p) (hpb:p<b):∃ ys,pisF k rec kE (a:Int) (b:Int) lim f h (p:Int) c zs=kE ys∧Sw a b zs ys∧Od ys a b:=by
 have tl:=zd5 hp hab hk hrec hloop lim f h hpa hpb
 have yes:∃ ys,((zi k zs (a:Int) (b:Int)).bind fun r55=>bif r55.1 then kE r55.2 else tailF k rec kE (a:Int) (b:Int) lim f h (p:Int) r55.2)=kE ys∧Sw a b zs ys∧Od ys a b:=by
  obtain ⟨r,ys,e1,e2,e3⟩:=pis_ok hp.ok hp.hl hp.h1000 (show a<b by omega) hp.lb (k:=k) (by omega)
  rw [e1,Option.bind_some]
  cases r
  ·obtain ⟨ws,w1,w2,w3⟩:=zd5 (hp.sw e2) hab hk hrec hloop lim f h hpa hpb
   exact ⟨ws,w1,e2.trans w2,w3⟩
  ·exact ⟨ys,rfl,e2,e3 rfl⟩
 unfold pisF
 cases hf:f
 ·subst hf;simp only [cond_false,Option.bind_some];exact tl
 ·cases hh:h
  ·subst hf;subst hh;simp only [cond_true,cond_false,Option.bind_some];exact tl
  ·subst hf;subst hh
   cases c
   ·simp only [cond_true,cond_false,Option.bind_some];exact tl
   ·simp only [cond_true,Option.bind_some];exact yes
theorem chF_ok {β:Type} {k:Nat} {rec:List D→Int→Int→Int→Option (List D)} {kE:List D→Option β} {a b:Nat} {zs:List D} (hp:Pr a b zs) (hab:a+12<b) (hk:2500≤k)
  (hrec:∀ (a' b':Nat) (lim:Int) (ws:List D),b'-a'<b-a→Pr a' b' ws→Sorts (rec ws (a':Int) (b':Int) lim) a' b' ws)
  (hloop:∀ (a' b':Nat) (lim:Int) (f h:Bool) (ws:List D),b'-a'<b-a→Pr a' b' ws→∃ ys,z9 k rec kE (a':Int) (b':Int) lim f h ws=kE ys∧Sw a' b' ws ys∧Od ys a' b')
  (lim:Int) (f h:Bool):∃ ys,chF k rec kE (a:Int) (b:Int) lim f h zs=kE ys∧Sw a b zs ys∧Od ys a b:=by
 have hl:=hp.hl
 have h1000:=hp.h1000
 obtain ⟨p,t,e1,p1,p2⟩:=ztc hp.ok hab hl h1000 (k:=k) (by omega)
 unfold chF
 rw [e1,Option.bind_some]
 simp only
 cases t==2
 ·rw [cond_false]
  exact zqy hp hab hk hrec hloop lim f h _ p1 p2
 ·rw [cond_true]
  obtain ⟨ys,y1,y2⟩:=rev_ok (k:=k) (show a<b by omega) hl h1000 (by omega)
  have w:IntKind.wrap .i64 ((IntKind.wrap .i64 ((b:Int)-1))-(IntKind.wrap .i64 ((p:Int)-(a:Int))))=((b-1-(p-a):Nat):Int):=by
   rw [wr (n:=(b:Int)-1) (by omega) (by omega),wr (n:=(p:Int)-(a:Int)) (by omega) (by omega),wr (by omega) (by omega)];omega
  rw [y1,Option.bind_some,w]
  obtain ⟨ws,w1,w2,w3⟩:=zqy (hp.sw y2) hab hk hrec hloop lim f h (1==1) (p:=b-1-(p-a)) (by omega) (by omega)
  exact ⟨ws,w1,y2.trans w2,w3⟩
theorem zsy {β:Type} {rec:List D→Int→Int→Int→Option (List D)} {kE:List D→Option β}:∀ m a b k:Nat,∀ (lim:Int) (f h:Bool) (zs:List D),b-a=m→2600+m≤k→Pr a b zs →
  (∀ (a' b':Nat) (lim:Int) (ws:List D),b'-a'<b-a→Pr a' b' ws→Sorts (rec ws (a':Int) (b':Int) lim) a' b' ws) →
  ∃ ys,z9 k rec kE (a:Int) (b:Int) lim f h zs=kE ys∧Sw a b zs ys∧Od ys a b:=by
 intro m
 induction m using Nat.strongRecOn with
 | ind m ih =>
  intro a b k lim f h zs hm hk hp hrec
  obtain ⟨k,rfl⟩:∃ j,k=j+1:=⟨k-1,by omega⟩
  have hl:=hp.hl
  have h1000:=hp.h1000
  have hab:=hp.ab
  rw [l0_eq,wr (n:=(b:Int)-(a:Int)) (by omega) (by omega)]
  by_cases h12:(b:Int)-(a:Int)≤12
  ·rw [decide_eq_true h12,cond_true]
   by_cases hlt:a<b
   ·obtain ⟨ys,e1,e2,e3⟩:=ins_ok (a:=a) (b:=b) (k:=k) hp.ok hl h1000 hlt (by omega)
    rw [e1,Option.bind_some]
    exact ⟨ys,rfl,e2,e3⟩
   ·have:a=b:=by omega
    subst this
    have e:zu k zs (a:Int) (a:Int)=some zs:=by
     obtain ⟨k,rfl⟩:∃ j,k=j+1:=⟨k-1,by omega⟩
     unfold zu
     rw [wS (by omega),zl,decide_eq_false (by omega),cond_false]
    rw [e,Option.bind_some]
    exact ⟨zs,rfl,.refl _,fun p q h1 h2 h3=>by omega⟩
  ·rw [decide_eq_false h12,cond_false]
   have hloop:∀ (a' b':Nat) (lim:Int) (f h:Bool) (ws:List D),b'-a'<b-a→Pr a' b' ws→∃ ys,z9 k rec kE (a':Int) (b':Int) lim f h ws=kE ys∧Sw a' b' ws ys∧Od ys a' b':=fun a' b' lim f h ws hlt hp' =>
    ih (b'-a') (by omega) a' b' k lim f h ws rfl (by omega) hp' fun a'' b'' lim' ws' hlt' hp''=>hrec a'' b'' lim' ws' (by omega) hp''
   cases lim==0
   ·rw [cond_false]
    cases f
    ·rw [Bool.not_false,cond_true]
     obtain ⟨ys,y1,y2⟩:=brk_ok (k:=k) (show a+12<b by omega) hl h1000 (by omega)
     rw [y1,Option.bind_some]
     obtain ⟨ws,w1,w2,w3⟩:=chF_ok (hp.sw y2) (by omega) (by omega) hrec hloop (IntKind.wrap .i64 (lim-1)) false h
     exact ⟨ws,w1,y2.trans w2,w3⟩
    ·rw [Bool.not_true,cond_false]
     exact chF_ok hp (by omega) (by omega) hrec hloop lim true h
   ·rw [cond_true]
    obtain ⟨ys,e1,e2,e3⟩:=zu6 (a:=a) (b:=b) (k:=k) hp.ok hl h1000 (by omega) (by omega)
    rw [e1,Option.bind_some]
    exact ⟨ys,rfl,e2,e3⟩
theorem pdq_ok:∀ m a b k:Nat,∀ (lim:Int) (zs:List D),b-a=m→2700+m≤k→Pr a b zs→Sorts (z1i k zs (a:Int) (b:Int) lim) a b zs:=by
 intro m
 induction m using Nat.strongRecOn with
 | ind m ih =>
  intro a b k lim zs hm hk hp
  obtain ⟨k,rfl⟩:∃ j,k=j+1:=⟨k-1,by omega⟩
  exact zsy (rec:=z1i k) (kE:=fun zw0=>some zw0) m a b k lim true true zs hm (by omega) hp fun a' b' lim' ws hlt hp'=>ih (b'-a') (by omega) a' b' k lim' ws rfl (by omega) hp'
theorem len_ok:∀ n:Fin 1024,∃ r,z50 (IntKind.wrap .u64 (n.1:Int))=some r:=by
 intro n
 cases h:z50 (IntKind.wrap .u64 (n.1:Int)) with
 | some r=>exact ⟨r,rfl⟩
 | none =>
  exfalso
  have:∀ n:Fin 1024,(z50 (IntKind.wrap .u64 (n.1:Int))).isSome=true:=by decide +kernel
  have:=this n
  rw [h] at this
  cases this
theorem zu1 {xs:List D} (ho:OkDs xs) (h1000:xs.length≤1000) {k:Nat} (hk:4000≤k):∃ ys,z1v k xs=some ys∧ys.Perm xs∧Od ys 0 ys.length:=by
 unfold z1v
 obtain ⟨r,hr⟩:=len_ok ⟨xs.length,by omega⟩
 have hr:z50 (IntKind.wrap .u64 (xs.length:Int))=some r:=hr
 rw [hr,Option.bind_some]
 obtain ⟨ys,e1,e2,e3⟩:=pdq_ok xs.length 0 xs.length k r xs rfl (by omega) ⟨ho,Nat.le_refl _,h1000,by omega,fun h=>by omega⟩
 have e1:z1i k xs 0 (xs.length:Int) r=some ys:=e1
 rw [e1,Option.bind_some]
 exact ⟨ys,rfl,e2.perm,by rw [e2.len];exact e3⟩
end Srt
end Go.Ev
namespace Go.Ev
open Go.Proofs
set_option linter.unusedVariables false
set_option linter.unusedSimpArgs false
set_option maxRecDepth 100000
noncomputable section
abbrev KT14:=Exit→Env→H→Option (List C × H)
variable (rec : CallF) (loop : LoopV) (σ : Stamp)
theorem zg1 (x0:V) (x1:Int) (x2:Int) (h:H):cvBody G rec loop 74 σ [x0,(.p (.int .u64 x1)),(.p (.int .i64 x2))] h =
(callO rec 112 (2::0::0::σ) [x0,(.p (.int .u64 x1))] (List.replicate 26 []::h) (some 8)).bind fun q1 =>
(asB q1.1).bind fun b2 =>
(nilChk x0).bind fun t3 =>
(fA t3 0).bind fun t4 =>
(ldO false 1 q1.2 t4).bind fun t5 =>
(buildV Try.prog 114 [(0,(.p (.int .i64 x2))),(1,(.p (.int .u64 x1)))]).bind fun t6 =>
(bSV Try.prog 111 1 [(0,t6)]).bind fun t7 =>
(apO false 2 16 (9::0::1::0::σ) 18 q1.2 t5 t7).bind fun q8 =>
(nilChk x0).bind fun t9 =>
(fA t9 0).bind fun t10 =>
((stO true 1 (12::0::1::0::σ) q8.2 t10 q8.1).map fun h=>(udf,h)).bind fun q11 =>
(nilChk x0).bind fun t12 =>
(fA t12 0).bind fun t13 =>
(ldO false 1 q11.2 t13).bind fun t14 =>
(callO rec 113 (4::1::1::0::σ) [t14,(.clo 114 [])] q11.2 (some 25)).bind fun q15 =>
fin false σ q15.2 []:=by kernel_rfl
theorem zf2 (x0:V) (x1:Int) (h:H):cvBody G rec loop 112 σ [x0,(.p (.int .u64 x1))] h =
(callO rec 140 (2::0::1::0::σ) [x0,(.p (.int .u64 x1))] (List.replicate 24 []::h) (some 8)).bind fun q1 =>
(castI .i64 q1.1).bind fun n2 =>
bif decide (n2≥0) then (
(nilChk x0).bind fun t3 =>
(fA t3 0).bind fun t4 =>
(ldO false 1 q1.2 t4).bind fun t5 =>
(callO rec 141 (8::1::0::1::1::0::σ) [t5,(.p (.int .i64 n2)),(.p (.int .i64 (IntKind.wrap .i64 (n2+1))))] q1.2 (some 19)).bind fun q6 =>
(nilChk x0).bind fun t7 =>
(fA t7 0).bind fun t8 =>
((stO true 1 (11::1::0::1::1::0::σ) q6.2 t8 q6.1).map fun h=>(udf,h)).bind fun q9 =>
fin false σ q9.2 [(.p (.bool (decide (n2≥0))))])
else (
fin false σ q1.2 [(.p (.bool (decide (n2≥0))))]):=by kernel_rfl
theorem za3 (x0:V) (x1:Int) (x2:Int) (h:H):cvBody G rec loop 141 σ [x0,(.p (.int .i64 x1)),(.p (.int .i64 x2))] h =
(lenO x0).bind fun t1 =>
(castI .i64 t1).bind fun n2 =>
(slS 2 x0 (some x1) (some x2) (some n2)).bind fun t3 =>
bif x1==x2 then (
fin false σ (List.replicate 33 []::h) [x0])
else (
(lenO x0).bind fun t4 =>
(castI .i64 t4).bind fun n5 =>
(slS 2 x0 none (some x1) none).bind fun t6 =>
(slS 2 x0 (some x2) none none).bind fun t7 =>
(apO false 2 16 (6::0::1::1::1::1::0::σ) 26 (List.replicate 33 []::h) t6 t7).bind fun q8 =>
(lenO q8.1).bind fun t9 =>
(castI .i64 t9).bind fun n10 =>
(slS 2 q8.1 (some n10) (some n5) none).bind fun t11 =>
(clearV G q8.2 111 t11).bind fun q12 =>
fin false σ q12.2 [q8.1]):=by kernel_rfl
theorem zfh (x0:V) (x1:Int) (h:H):cvBody G rec loop 140 σ [x0,(.p (.int .u64 x1))] h =
(boxO true (0::0::0::σ) 3 (List.replicate 11 []::h) (.p (.int .u64 x1))).bind fun q1 =>
(nilChk x0).bind fun t2 =>
(fA t2 0).bind fun t3 =>
(ldO false 1 q1.2 t3).bind fun t4 =>
(callO rec 154 (5::0::1::0::σ) [t4,(.clo 155 [q1.1])] q1.2 (some 10)).bind fun q5 =>
(castI .i64 q5.1).bind fun n6 =>
fin false σ q5.2 [(.p (.int .i64 n6))]:=by kernel_rfl
def z37:Code:=(codeAt (bodyOf Try.f154) [1,0,1,0,0])
def z35:Lv:=⟨0,16,[(0,0)]⟩
def z4d:KT14:=(kBlock 0 (kSeq G rec loop (codeAt (bodyOf Try.f154) [1,1]) ⟨16,16,[]⟩ (1::0::σ) (finC G false Try.f154 (1::σ))))
theorem z91 (x0:V) (x1:V) (h:H):cvBody G rec loop 154 σ [x0,x1] h =
(lenO x0).bind fun t1 =>
(castI .i64 t1).bind fun n2 =>
(loop z37 z35 (1::0::1::0::σ) (envL [(0,x0),(1,x1),(7,(.p (.int .i64 n2))),(8,(.p (.int .i64 0)))]) (List.replicate 19 []::h)).bind fun r3=>z4d rec loop σ r3.1 r3.2.1 r3.2.2:=by kernel_rfl
theorem z9z (x0:V) (x1:V) (x7:Int) (x8:Int) (h:H):z1n G rec loop z37 z35 σ (envL [(0,x0),(1,x1),(7,(.p (.int .i64 x7))),(8,(.p (.int .i64 x8)))]) h =
bif decide (x8<x7) then (
(iS 2 x0 x8).bind fun t4 =>
(ldO true 2 h t4).bind fun t5 =>
(cloO rec x1 (5::0::1::0::1::1::0::σ) [t5] h (some 16)).bind fun q6 =>
(asB q6.1).bind fun b7 =>
bif b7 then (
some (.ret,(envL [(4,(.p (.int .i64 x8)))]),q6.2))
else (
loop z37 z35 (1::σ) (envL [(0,x0),(1,x1),(7,(.p (.int .i64 x7))),(8,(.p (.int .i64 (IntKind.wrap .i64 (x8+1)))))]) q6.2))
else (
some ((.exit 0),(envL []),h)):=by kernel_rfl
theorem z9h  (h:H):z4d rec loop σ (.exit 0) (envL []) h =
fin false σ h [(.p (.int .i64 (-1)))]:=by kernel_rfl
theorem z8r (x4:Int) (h:H):z4d rec loop σ .ret (envL [(4,(.p (.int .i64 x4)))]) h =
fin false σ h [(.p (.int .i64 x4))]:=by kernel_rfl
theorem zeq (x0:V) (x1:V) (h:H):cvBody G rec loop 155 σ [x0,x1] h =
(boxO false (0::0::0::σ) 2 (List.replicate 8 []::h) x0).bind fun q1 =>
(fA q1.1 1).bind fun t2 =>
(ldO false 1 q1.2 t2).bind fun t3 =>
(castI .u64 t3).bind fun n4 =>
(ldO false 1 q1.2 x1).bind fun t5 =>
(castI .u64 t5).bind fun n6 =>
fin false σ q1.2 [(.p (.bool (n4==n6)))]:=by kernel_rfl
end
end Go.Ev
namespace Go.Ev
open Go.Proofs
set_option linter.unusedVariables false
set_option linter.unusedSimpArgs false
set_option maxRecDepth 100000
section
variable {β α : Type} {Q : β→α→Prop} {K : Exit × Env × H→Option α}
def z7s (x0:z8) (x1:Int):Option (Bool) :=
some ((x0.Key==x1))
theorem zgh {h:H} {σ:Stamp} (x0:z8) {u0:List V} (hu0:z5.R x0 u0) (x1:Int)  {l1:Loc} {o1:Nat} (ha1:AtC h l1 o1 (List.map C.v [(.p (.int .u64 x1))])):Sim (z7s x0 x1) (ev G X0 155 σ [(.agg u0),(.ref l1 o1)] h) (fun r s=>s=([.v (.p (.bool r))],h)):=by
 refine .ev rfl (Sim.ext (zeq _ _ _ _ _ _) ?_)
 rw [z7s]
 obtain rfl:=z5.inv hu0
 have S0:Fm 8 h [] [] [] (List.replicate 8 []::h):=Fm.start0
 obtain ⟨H1,e2,S3⟩:=S0.box (own:=false) (d:=2) (s:=(0::0::0::σ)) (xs:=[(.p (.int .i64 x0.f_At)),(.p (.int .u64 x0.Key))]) (sC (sI _ _) (sC (sI _ _) sN)) (by decide) rfl
 refine .op (e2) ?_
 refine .fa ?_
 refine .op ((S3.atG (i:=0) rfl).ld (j:=1) rfl) ?_
 refine .ci ?_
 refine .op ((S3.lowA ha1).ld (j:=0) rfl) ?_
 refine .ci ?_
 exact .fin (S3.finN (lC (sB _).lv lN)) rfl
def zo {β:Type} (k:Nat) (kE0:Unit→Option β) (kE1:Int→Option β) (x0:(List z8)) (x1c0:Int) (x7:Int) (x8:Int):Option β:=match k with
| 0=>none
| k+1 =>
bif decide (x8<x7) then (
(ix x0 x8).bind fun a10 =>
(z7s a10 x1c0).bind fun r15 =>
bif r15 then (
kE1 x8)
else (
zo k kE0 kE1 x0 x1c0 x7 (IntKind.wrap .i64 (x8+1))))
else (
kE0 ())
def z23 (k:Nat) (x0:(List z8)) (x1c0:Int):Option (Int) :=
zo k (fun (_:Unit) =>
some ((-1))) (fun r28_4 =>
some (r28_4)) x0 x1c0 ((x0.length:Int)) 0
theorem z59 {h:H}  {kE0:Unit→Option β} {kE1:Int→Option β} (hE0:∀ (_u:Unit) (H21:Go.Ev.H) (_:Fm 19 h [] [] [] H21),Sim (kE0 ()) (K ((.exit 0),(envL []),H21)) Q) (hE1:∀ (q4:Int) (H23:Go.Ev.H) (_:Fm 19 h [] [] [] H23),Sim (kE1 q4) (K (.ret,(envL [(4,(.p (.int .i64 q4)))]),H23)) Q) (k:Nat):∀ (x0:(List z8)) (x1c0:Int) (x7:Int) (x8:Int) (v3:V) (h4:SlH h z5 x0 v3) (lr5:Loc) (or6:Nat) (har7:AtC h lr5 or6 (List.map C.v [(.p (.int .u64 x1c0))])) (H1:Go.Ev.H) (_:Fm 19 h [] [] [] H1) {σ:Stamp},Sim (zo k kE0 kE1 x0 x1c0 x7 x8) ((cvL G X0 z37 z35 σ (envL [(0,v3),(1,(.clo 155 [(.ref lr5 or6)])),(7,(.p (.int .i64 x7))),(8,(.p (.int .i64 x8)))]) H1).bind K) Q:=by
 induction k with
 | zero=>intros;exact .no
 | succ k ih =>
  intro x0 x1c0 x7 x8 v3 h4 lr5 or6 har7 H1 S2 σ
  rw [zo]
  refine .round (Sim.ext (z9z _ _ _ _ _ _ _ _) ?_)
  refine .cq ?_ ?_
  ·refine .bd fun a10 h11=>?_
   refine .op ((S2.low h4).iS h11 rfl) ?_
   obtain ⟨w13,h14,hE12⟩:=(S2.low h4).el h11 rfl
   obtain rfl:=z5.inv h14
   refine .op (hE12.all (by simp)) ?_
   refine .clo ?_
   refine .call (zgh a10 (show z5.R a10 [.p (.int .i64 a10.f_At),.p (.int .u64 a10.Key)] from (z5.mk)) x1c0 (S2.lowA har7)) fun r15 cs16 H17 h18 q19=>?_
   cases q19
   refine .ab ?_
   refine .cq ?_ ?_
   ·exact hE1 x8 H1 (S2.wk2 aN aN)
   exact ih x0 x1c0 x7 (IntKind.wrap .i64 (x8+1)) v3 h4 lr5 or6 har7 H1 (S2.wk2 aN aN)
  exact hE0 () H1 (S2.wk2 aN aN)
theorem z61 (k:Nat) {h:H} {σ:Stamp} (x0:List z8) {u0:V} (hu0:SlH h z5 x0 u0) (x1c0:Int)  {l1c0:Loc} {o1c0:Nat} (ha1c0:AtC h l1c0 o1c0 (List.map C.v [(.p (.int .u64 x1c0))])):Sim (z23 k x0 x1c0) (ev G X0 154 σ [u0,(.clo 155 [(.ref l1c0 o1c0)])] h) (fun r s=>s=([.v (.p (.int .i64 r))],h)):=by
 refine .ev rfl (Sim.ext (z91 _ _ _ _ _ _) ?_)
 rw [z23]
 have S0:Fm 19 h [] [] [] (List.replicate 19 []::h):=Fm.start0
 refine .op ((S0.low hu0).len) ?_
 refine .ci ?_
 refine .as (z59 ?_ ?_ k x0 x1c0 ((x0.length:Int)) 0 u0 hu0 l1c0 o1c0 ha1c0 (List.replicate 19 []::h) (S0.wk2 aN aN))
 ·intro _u H26 S27
  refine .ext (z9h _ _ _ _) ?_
  exact .fin (S27.finN (lC (sI _ _).lv lN)) rfl
 ·intro r28_4 H29 S30
  refine .ext (z8r _ _ _ _ _) ?_
  exact .fin (S30.finN (lC (sI _ _).lv lN)) rfl
def z5p (k:Nat) (x0:z1q) (x1:Int):Option (Int) :=
(z23 k x0.l x1).bind fun r5 =>
some (r5)
theorem zfy (k:Nat) {h:H} {σ:Stamp} (x0:z1q) {c0_0:C} (hc0_0:SoC z5 x0.l c0_0) (hn0_0:Nn c0_0 2) {l0:Loc} {o0:Nat} (ha0:AtC h l0 o0 ([c0_0])) (x1:Int):Sim (z5p k x0 x1) (ev G X0 140 σ [(.ref l0 o0),(.p (.int .u64 x1))] h) (fun r s=>s=([.v (.p (.int .i64 r))],h)):=by
 refine .ev rfl (Sim.ext (zfh _ _ _ _ _ _) ?_)
 rw [z5p]
 have S0:Fm 11 h [] [] [] (List.replicate 11 []::h):=Fm.start0
 obtain ⟨H1,e2,S3⟩:=S0.box1 (own:=true) (d:=3) (s:=(0::0::0::σ)) (x:=(.p (.int .u64 x1))) (sI _ _) (by decide) rfl
 refine .op (e2) ?_
 refine .nc ?_
 refine .fa ?_
 refine .op (hc0_0.ld (S3.lowA ha0) (j:=0) rfl) ?_
 refine .call (z61 k x0.l (hc0_0.sl (S3.lowA ha0) (j:=0) rfl) x1 (S3.atG (i:=0) rfl)) fun r5 cs6 H7 h8 q9=>?_
 cases q9
 refine .ci ?_
 exact .fin (S3.finN (lC (sI _ _).lv lN)) rfl
def z68 (k:Nat) (x0:z1q) (x1:Int):Option (Bool×z1q) :=
(z5p k x0 x1).bind fun r1 =>
bif decide (r1≥0) then (
(del x0.l r1 (IntKind.wrap .i64 (r1+1))).bind fun a7 =>
some ((decide (r1≥0)),(⟨a7⟩:z1q)))
else (
some ((decide (r1≥0)),x0))
theorem zh1 (k:Nat) {h:H} {σ:Stamp} (x0:z1q) {c0_0:C} (hc0_0:SoC z5 x0.l c0_0) (hn0_0:Nn c0_0 2) {l0:Loc} {o0:Nat} (ha0:AtC h l0 o0 ([c0_0])) (x1:Int):Sim (z68 k x0 x1) (ev G X0 112 σ [(.ref l0 o0),(.p (.int .u64 x1))] h) (fun r s=>∃ (cb0_0:C),SoC z5 r.2.l cb0_0∧Nn cb0_0 2∧s=([.v (.p (.bool r.1))],pts h [⟨l0,o0,[cb0_0]⟩])):=by
 refine .ev rfl (Sim.ext (zf2 _ _ _ _ _ _) ?_)
 rw [z68]
 have S0:Fm 24 h [⟨l0,o0,[c0_0]⟩] [] [] (List.replicate 24 []::h):=Fm.start1 ha0
 refine .call (zfy k x0 hc0_0 hn0_0 (S0.atB (i:=0) rfl) x1) fun r1 cs2 H3 h4 q5=>?_
 cases q5
 refine .ci ?_
 refine .cq ?_ ?_
 ·refine .nc ?_
  refine .fa ?_
  refine .op (hc0_0.ld (S0.atB (i:=0) rfl) (j:=0) rfl) ?_
  refine .bd fun a7 h8=>?_
  obtain ⟨v9,c10,H11,e12,S13,h14⟩:=S0.delB (G:=G) (X:=X0) (f:=141) (ii:=0) (jj:=0) (d:=19) (te:=114) (z:=[.p (.int .i64 0),.p (.int .u64 0)]) (fun x i j h=>za3 _ _ _ x i j h) (fun _=>rfl) rfl rfl hc0_0 hn0_0 rfl (by decide) h8 (by kernel_rfl) (by kernel_rfl) rfl (by kernel_rfl) (sC (sI _ _) (sC (sI _ _) sN))
  refine .op (e12) ?_
  refine .nc ?_
  refine .fa ?_
  obtain ⟨c18,H15,e16,h19,h20,S17⟩:=h14 true (11::1::0::1::1::0::σ)
  refine .op (sM e16) ?_
  exact .fin (S17.finN (lC (sB _).lv lN)) ⟨c18,h19,h20,rfl⟩
 exact .fin (S0.finN (lC (sB _).lv lN)) ⟨c0_0,hc0_0,hn0_0,rfl⟩
def z4v (k:Nat) (x0:z1q) (x1:Int) (x2:Int):Option (z1q) :=
(z68 k x0 x1).bind fun r1 =>
(ap 16 r1.2.l ([((⟨x2,x1⟩:z8))])).bind fun a11 =>
(neO a11).bind fun _ =>
(z1v k a11).bind fun r32 =>
some ((⟨r32⟩:z1q))
theorem zdt (k:Nat) {h:H} {σ:Stamp} (x0:z1q) {c0_0:C} (hc0_0:SoC z5 x0.l c0_0) (hn0_0:Nn c0_0 2) {l0:Loc} {o0:Nat} (ha0:AtC h l0 o0 ([c0_0])) (x1:Int) (x2:Int):Sim (z4v k x0 x1 x2) (ev G X0 74 σ [(.ref l0 o0),(.p (.int .u64 x1)),(.p (.int .i64 x2))] h) (fun r s=>∃ (cb0_0:C),SoC z5 r.l cb0_0∧Nn cb0_0 2∧s=([],pts h [⟨l0,o0,[cb0_0]⟩])):=by
 refine .ev rfl (Sim.ext (zg1 _ _ _ _ _ _ _) ?_)
 rw [z4v]
 have S0:Fm 26 h [⟨l0,o0,[c0_0]⟩] [] [] (List.replicate 26 []::h):=Fm.start1 ha0
 refine .call (zh1 k x0 hc0_0 hn0_0 (S0.atB (i:=0) rfl) x1) fun r1 cs2 H3 h4 q5=>?_
 obtain ⟨c6,h7,h8,q5⟩:=q5
 cases q5
 have S9:=S0.setB (i:=0) (cs:=[c6]) rfl rfl
 refine .ab ?_
 refine .nc ?_
 refine .fa ?_
 refine .op (h7.ld (S9.atB (i:=0) rfl) (j:=0) rfl) ?_
 refine .op (bldV (pC rfl (pC rfl pN)) (by kernel_rfl:_=some (.agg [.p (.int .i64 x2),.p (.int .u64 x1)]))) ?_
 have h10:SlF z5 [((⟨x2,x1⟩:z8))] (.fz [(.p (.int .i64 x2)),(.p (.int .u64 x1))] 1 2 true):=SlF.lit (cs:=[(.p (.int .i64 x2)),(.p (.int .u64 x1))]) (RL.cons (show z5.R ((⟨x2,x1⟩:z8)) [.p (.int .i64 x2),.p (.int .u64 x1)] from (z5.mk)) RL.nil) rfl rfl true
 refine .op (bldS (pC (c:=[.p (.int .i64 x2),.p (.int .u64 x1)]) rfl pN) (by kernel_rfl:_=some (vOf h10))) ?_
 refine .bd fun a11 h12=>?_
 obtain ⟨v13,c14,H15,e16,S17⟩:=S9.appB (i:=0) (j:=0) (d:=18) (e:=2) (own:=false) (σ:=(9::0::1::0::σ)) rfl rfl h7 h8 (h10.h (ptC (List.replicate 26 []::h) l0 o0 ([c6]))).y h12 (by simp) rfl (by decide) (by decide) rfl
 refine .op (e16) ?_
 refine .nc ?_
 refine .fa ?_
 obtain ⟨c22,H19,e20,h23,h24,S21⟩:=S17.mvB (i:=0) (j:=0) (k:=0) (σ:=(12::0::1::0::σ)) rfl rfl rfl rfl rfl
 refine .op (sM e20) ?_
 refine .nc ?_
 refine .fa ?_
 refine .op (h23.ld (S21.atB (i:=0) rfl) (j:=0) rfl) ?_
 refine .bd fun _ h31=>?_
 obtain ⟨l25,w26,h27,h28,h29,h30⟩:=S21.lendB (i:=0) (j:=0) rfl rfl h23 h24 (e:=2) rfl h31
 refine .call (z6g k a11 h27 h28) fun r32 cs33 H34 h35 q36=>?_
 obtain ⟨w37,h38,q36⟩:=q36
 cases q36
 obtain ⟨c40,h41,h42,S39⟩:=h30 _ _ h38
 exact .fin (S39.finN lN) ⟨c40,h41,(Nq.nn h42),rfl⟩
end
end Go.Ev
namespace Go.Ev
open Go.Proofs
set_option linter.unusedVariables false
set_option linter.unusedSimpArgs false
set_option maxRecDepth 100000
noncomputable section
abbrev KT15:=Exit→Env→H→Option (List C × H)
variable (rec : CallF) (loop : LoopV) (σ : Stamp)
def z8f:Code:=(codeAt (bodyOf Try.f78) [1,1,0,0,0])
def z8k:Lv:=⟨33,16,[(0,33)]⟩
def zds:KT15:=(kBlock 0 (kSeq G rec loop (codeAt (bodyOf Try.f78) [1,1,1]) ⟨16,16,[]⟩ (1::1::0::σ) (finC G true Try.f78 (1::σ))))
theorem zg4 (x0:V) (x1:Int) (h:H):cvBody G rec loop 78 σ [x0,(.p (.int .i64 x1))] h =
(loop z8f z8k (0::1::1::0::σ) (envL [(0,x0),(1,(.p (.int .i64 x1))),(5,(.p (.int .i64 0)))]) (List.replicate 46 []::h)).bind fun r1=>zds rec loop σ r1.1 r1.2.1 r1.2.2:=by kernel_rfl
theorem zig (x0:V) (x1:Int) (x5:Int) (h:H):z1n G rec loop z8f z8k σ (envL [(0,x0),(1,(.p (.int .i64 x1))),(5,(.p (.int .i64 x5)))]) h =
(nilChk x0).bind fun t2 =>
(fA t2 0).bind fun t3 =>
(ldO false 1 h t3).bind fun t4 =>
(lenO t4).bind fun t5 =>
(castI .i64 t5).bind fun n6 =>
(bif decide (x5<n6) then ((nilChk x0).bind fun t7 =>
(fA t7 0).bind fun t8 =>
(ldO false 1 h t8).bind fun t9 =>
(iS 2 t9 x5).bind fun t10 =>
(fA t10 0).bind fun t11 =>
(ldO false 1 h t11).bind fun t12 =>
(castI .i64 t12).bind fun n13 =>
some (decide (n13≤x1))) else (some false)).bind fun b14 =>
bif b14 then (
loop z8f z8k (1::σ) (envL [(0,x0),(1,(.p (.int .i64 x1))),(5,(.p (.int .i64 (IntKind.wrap .i64 (x5+1)))))]) h)
else (
some ((.exit 0),(envL [(0,x0),(5,(.p (.int .i64 x5)))]),h)):=by kernel_rfl
theorem zh3 (x0:V) (x5:Int) (h:H):zds rec loop σ (.exit 0) (envL [(0,x0),(5,(.p (.int .i64 x5)))]) h =
(nilChk x0).bind fun t15 =>
(fA t15 0).bind fun t16 =>
(ldO false 1 h t16).bind fun t17 =>
(slS 2 t17 none (some x5) none).bind fun t18 =>
(callO rec 119 (6::0::1::1::1::0::σ) [t18] h (some 34)).bind fun q19 =>
(nilChk x0).bind fun t20 =>
(fA t20 0).bind fun t21 =>
(ldO false 1 q19.2 t21).bind fun t22 =>
(slS 2 t22 (some x5) none none).bind fun t23 =>
(callO rec 119 (7::0::1::1::1::1::0::σ) [t23] q19.2 (some 42)).bind fun q24 =>
(nilChk x0).bind fun t25 =>
(fA t25 0).bind fun t26 =>
((stO true 1 (10::0::1::1::1::1::0::σ) q24.2 t26 q24.1).map fun h=>(udf,h)).bind fun q27 =>
fin true σ q27.2 [q19.1]:=by kernel_rfl
theorem z64 (x0:V) (h:H):cvBody G rec loop 119 σ [x0] h =
(binV Try.prog (List.replicate 8 []::h) .eql 111 x0 (.p (.slice .none 0 0))).bind fun t1 =>
(asB t1).bind fun b2 =>
bif b2 then (
fin false σ (List.replicate 8 []::h) [(.p (.slice .none 0 0))])
else (
(bSV Try.prog 111 0 []).bind fun t3 =>
(apO false 2 16 (2::0::1::1::0::σ) 7 (List.replicate 8 []::h) t3 x0).bind fun q4 =>
fin false σ q4.2 [q4.1]):=by kernel_rfl
end
end Go.Ev
namespace Go.Ev
open Go.Proofs
set_option linter.unusedVariables false
set_option linter.unusedSimpArgs false
set_option maxRecDepth 100000
section
variable {β α : Type} {Q : β→α→Prop} {K : Exit × Env × H→Option α}
def z4c {β:Type} (k:Nat) (kE0:Int→z1q→Option β) (x1:Int) (x5:Int) (zp0:z1q):Option β:=match k with
| 0=>none
| k+1 =>
(bif decide (x5<((zp0.l.length:Int))) then ((ix zp0.l x5).bind fun a6 =>
some (decide (a6.f_At≤x1))) else (some false)).bind fun b14 =>
bif b14 then (
z4c k kE0 x1 (IntKind.wrap .i64 (x5+1)) zp0)
else (
kE0 x5 zp0)
def z7m (k:Nat) (x0:z1q) (x1:Int):Option ((List z8)×z1q) :=
z4c k (fun r24_5 zp0 =>
(sub zp0.l 0 r24_5).bind fun a30 =>
(ze9 16 a30).bind fun r32 =>
(sub zp0.l r24_5 ((zp0.l.length:Int))).bind fun a46 =>
(ze9 16 a46).bind fun r48 =>
some (r32,(⟨r48⟩:z1q))) x1 0 x0
theorem zg5 {h:H} {l0:Loc} {o0:Nat} {kE0:Int→z1q→Option β} (hE0:∀ (q5:Int) (zp0:z1q) (c21:C) (h22:SoC z5 zp0.l c21) (h23:Nn c21 2) (H19:Go.Ev.H) (_:Fm 46 h [⟨l0,o0,[c21]⟩] [] [] H19),Sim (kE0 q5 zp0) (K ((.exit 0),(envL [(0,(.ref l0 o0)),(5,(.p (.int .i64 q5)))]),H19)) Q) (k:Nat):∀ (x1:Int) (x5:Int) (zp0:z1q) (c3:C) (h4:SoC z5 zp0.l c3) (h5:Nn c3 2) (H1:Go.Ev.H) (_:Fm 46 h [⟨l0,o0,[c3]⟩] [] [] H1) {σ:Stamp},Sim (z4c k kE0 x1 x5 zp0) ((cvL G X0 z8f z8k σ (envL [(0,(.ref l0 o0)),(1,(.p (.int .i64 x1))),(5,(.p (.int .i64 x5)))]) H1).bind K) Q:=by
 induction k with
 | zero=>intros;exact .no
 | succ k ih =>
  intro x1 x5 zp0 c3 h4 h5 H1 S2 σ
  rw [z4c]
  refine .round (Sim.ext (zig _ _ _ _ _ _ _) ?_)
  refine .nc ?_
  refine .fa ?_
  refine .op (h4.ld (S2.atB (i:=0) rfl) (j:=0) rfl) ?_
  refine .op ((h4.sl (S2.atB (i:=0) rfl) (j:=0) rfl).len) ?_
  refine .ci ?_
  refine .ch (P:=fun r y=>r=y) ?_ (fun b14 y15 h16 h17=>?_)
  ·refine .cq ?_ ?_
   ·refine .nc ?_
    refine .fa ?_
    refine .op (h4.ld (S2.atB (i:=0) rfl) (j:=0) rfl) ?_
    refine .bd fun a6 h7=>?_
    refine .op ((h4.sl (S2.atB (i:=0) rfl) (j:=0) rfl).iS h7 rfl) ?_
    obtain ⟨w9,h10,hE8⟩:=(h4.sl (S2.atB (i:=0) rfl) (j:=0) rfl).el h7 rfl
    obtain rfl:=z5.inv h10
    refine .op (hE8.fa (j:=0) (by simp)) ?_
    obtain ⟨w12,h13,hE11⟩:=(h4.sl (S2.atB (i:=0) rfl) (j:=0) rfl).el h7 rfl
    obtain rfl:=z5.inv h13
    refine .op (hE11.ld (j:=0) rfl) ?_
    refine .ci ?_
    exact .ret rfl rfl
   ·exact .ret rfl rfl
  subst h17
  refine .cq ?_ ?_
  ·exact ih x1 (IntKind.wrap .i64 (x5+1)) zp0 c3 h4 h5 H1 (S2.wk2 aN aN)
  exact hE0 x5 zp0 c3 h4 h5 H1 (S2.wk2 aN aN)
theorem zi5 (k:Nat) {h:H} {σ:Stamp} (x0:z1q) {c0_0:C} (hc0_0:SoC z5 x0.l c0_0) (hn0_0:Nn c0_0 2) {l0:Loc} {o0:Nat} (ha0:AtC h l0 o0 ([c0_0])) (x1:Int):Sim (z7m k x0 x1) (ev G X0 78 σ [(.ref l0 o0),(.p (.int .i64 x1))] h) (fun r s=>∃ (v0:V),∃ (cb0_0:C),SlF z5 r.1 v0∧SoC z5 r.2.l cb0_0∧Nn cb0_0 2∧s=([.v v0],pts h [⟨l0,o0,[cb0_0]⟩])):=by
 refine .ev rfl (Sim.ext (zg4 _ _ _ _ _ _) ?_)
 rw [z7m]
 have S0:Fm 46 h [⟨l0,o0,[c0_0]⟩] [] [] (List.replicate 46 []::h):=Fm.start1 ha0
 refine .as (zg5 ?_ k x1 0 x0 c0_0 hc0_0 hn0_0 (List.replicate 46 []::h) (S0.wk2 aN aN))
 ·intro r24_5 zp0 c27 h28 h29 H25 S26
  refine .ext (zh3 _ _ _ _ _ _) ?_
  refine .nc ?_
  refine .fa ?_
  refine .op (h28.ld (S26.atB (i:=0) rfl) (j:=0) rfl) ?_
  refine .bd fun a30 h31=>?_
  refine .op ((h28.sl (S26.atB (i:=0) rfl) (j:=0) rfl).slS h31 rfl rfl rfl) ?_
  refine .call (zkx (b:=16) (f:=119) (tt:=114) (e:=2) (τ:=fun σ=>_::_::_::_::_::σ) (fun x h=>z64 _ _ _ x h) ((h28.sl (S26.atB (i:=0) rfl) (j:=0) rfl).sub h31 (e:=2) rfl) rfl (by decide) (by decide) (by decide) (by kernel_rfl) (by kernel_rfl) rfl) fun r32 cs33 H34 h35 q36=>?_
  obtain ⟨c37,cs38,h39,h40,q36⟩:=q36
  cases q36
  obtain ⟨v41,H42,e43,S44⟩:=S26.land (dt:=z5) (d:=34) (e:=0) (n:=0) h39 h40 (by decide) rfl
  erw [e43]
  refine .nc ?_
  refine .fa ?_
  refine .op (h28.ld (S44.atB (i:=0) rfl) (j:=0) rfl) ?_
  refine .bd fun a46 h47=>?_
  refine .op ((h28.sl (S44.atB (i:=0) rfl) (j:=0) rfl).slS h47 rfl rfl rfl) ?_
  refine .call (zkx (b:=16) (f:=119) (tt:=114) (e:=2) (τ:=fun σ=>_::_::_::_::_::σ) (fun x h=>z64 _ _ _ x h) ((h28.sl (S44.atB (i:=0) rfl) (j:=0) rfl).sub h47 (e:=2) rfl) rfl (by decide) (by decide) (by decide) (by kernel_rfl) (by kernel_rfl) rfl) fun r48 cs49 H50 h51 q52=>?_
  obtain ⟨c53,cs54,h55,h56,q52⟩:=q52
  cases q52
  obtain ⟨v57,H58,e59,S60⟩:=S44.land (dt:=z5) (d:=42) (e:=0) (n:=0) h55 h56 (by decide) rfl
  erw [e59]
  refine .nc ?_
  refine .fa ?_
  obtain ⟨c65,H62,e63,h66,h67,S64⟩:=S60.mvB (i:=0) (j:=0) (k:=0) (σ:=(10::0::1::1::1::1::0::σ)) rfl rfl rfl rfl rfl
  refine .op (sM e63) ?_
  obtain ⟨v73,H68,e69,h71,S70⟩:=S64.expFrz (i:=0) (τ:=0::1::σ) rfl rfl
  exact .fin (S70.finE (Ex.st e69 Ex.nil)) ⟨v73,c65,h71,h66,h67,rfl⟩
end
end Go.Ev
namespace Go.Ev
namespace Alm
open Srt
def dropK (l:List D) (key:Int):List D:=l.filter fun x=>x.Key != key
structure TOk (l:List D):Prop where
 ok:OkDs l
 od:Od l 0 l.length
 nd:(l.map fun x=>x.Key).Nodup
theorem zaw {l:List D} {q:Nat} (h:q<l.length):l.getD q z0=l[q]:=by rw [List.getD_eq_getElem?_getD,List.getElem?_eq_getElem h];rfl
theorem kv_at {a b:D} (ha:OkD a) (hb:OkD b) (h:kv a≤kv b):a.f_At≤b.f_At:=by
 obtain ⟨a0,a1⟩:=ha
 obtain ⟨b0,b1⟩:=hb
 unfold kv at h
 omega
theorem zl9 {l:List D} {key:Int} (h:∀ x∈l,x.Key≠key):dropK l key=l:=List.filter_eq_self.2 fun x hx=>bne_iff_ne.2 (h x hx)
theorem zpi {key:Int}:∀ (l:List D) (i:Nat),(l.map fun x=>x.Key).Nodup→i<l.length→(l.getD i z0).Key=key→dropK l key=l.take i++l.drop (i+1)
 | [],i,_,h,_=>by simp at h
 | x::xs,0,hn,_,hk=>by
  have hx:x.Key=key:=hk
  rw [List.map_cons,List.nodup_cons] at hn
  unfold dropK
  rw [List.filter_cons,hx,bne_self_eq_false]
  simp only [Bool.false_eq_true,if_false,List.take_zero,List.nil_append,List.drop_succ_cons,List.drop_zero]
  exact zl9 fun y hy e=>hn.1 (by rw [hx,← e];exact List.mem_map_of_mem (f:=fun x:D=>x.Key) hy)
 | x::xs,i+1,hn,hi,hk=>by
  rw [List.map_cons,List.nodup_cons] at hn
  have hk':(xs.getD i z0).Key=key:=hk
  have hi':i<xs.length:=by simpa using hi
  have hne:x.Key≠key:=fun e=>hn.1 (by
   rw [e,← hk',zaw hi']
   exact List.mem_map_of_mem (f:=fun x:D=>x.Key) (List.getElem_mem hi'))
  have ih:=zpi xs i hn.2 hi' hk'
  unfold dropK at ih ⊢
  rw [List.filter_cons,show (x.Key != key)=true from bne_iff_ne.2 hne,if_pos rfl,ih]
  rfl
theorem zv2 {l:List D} {key:Int} (h1000:l.length≤1000):∀ m i k:Nat,i+m=l.length→m+5≤k→(∀ q,q<i→(l.getD q z0).Key≠key) →
  ∃ r,zo k (fun (_:Unit)=>some (-1)) (fun r=>some r) l key (l.length:Int) (i:Int)=some r∧((r=-1∧∀ x∈l,x.Key≠key)∨∃ j:Nat,r=(j:Int)∧j<l.length∧(l.getD j z0).Key=key):=by
 intro m
 induction m with
 | zero =>
  intro i k hi hk hq
  obtain ⟨k,rfl⟩:∃ j,k=j+1:=⟨k-1,by omega⟩
  rw [zo,decide_eq_false (by omega),cond_false]
  refine ⟨_,rfl,.inl ⟨rfl,fun x hx=>?_⟩⟩
  obtain ⟨q,hq1,rfl⟩:=List.mem_iff_getElem.1 hx
  have:=hq q (by omega)
  rwa [zaw hq1] at this
 | succ m ih =>
  intro i k hi hk hq
  obtain ⟨k,rfl⟩:∃ j,k=j+1:=⟨k-1,by omega⟩
  rw [zo,decide_eq_true (by omega),cond_true,ix_g (by omega),Option.bind_some]
  unfold z7s
  rw [Option.bind_some]
  by_cases h:(l.getD i z0).Key=key
  ·rw [show ((l.getD i z0).Key==key)=true from beq_iff_eq.2 h,cond_true]
   exact ⟨_,rfl,.inr ⟨i,rfl,by omega,h⟩⟩
  ·rw [show ((l.getD i z0).Key==key)=false from beq_eq_false_iff_ne.2 h,cond_false,wS (by omega)]
   exact ih (i+1) k (by omega) (by omega) fun q hq2=>by
    by_cases e:q=i
    ·rw [e];exact h
    ·exact hq q (by omega)
theorem zum {l:List D} {key:Int} (h1000:l.length≤1000) {k:Nat} (hk:1100≤k):∃ r,z5p k ⟨l⟩ key=some r∧((r=-1∧∀ x∈l,x.Key≠key)∨∃ j:Nat,r=(j:Int)∧j<l.length∧(l.getD j z0).Key=key):=by
 obtain ⟨r,e,h⟩:=zv2 (key:=key) h1000 l.length 0 k (by omega) (by omega) (fun q hq=>by omega)
 refine ⟨r,?_,h⟩
 unfold z5p z23
 have e':zo k (fun (_:Unit)=>some (-1)) (fun r=>some r) l key (l.length:Int) 0=some r:=e
 rw [e',Option.bind_some]
theorem zkh {l:List D} {key:Int} (ht:TOk l) (h1000:l.length≤1000) {k:Nat} (hk:1100≤k):z68 k ⟨l⟩ key=some (decide ((dropK l key).length<l.length),⟨dropK l key⟩):=by
 unfold z68
 obtain ⟨r,e,h⟩:=zum (l:=l) (key:=key) h1000 hk
 rw [e,Option.bind_some]
 rcases h with ⟨rfl,h⟩ | ⟨j,rfl,hj,hkey⟩
 ·rw [zl9 h,decide_eq_false (show ¬ ((-1:Int)≥0) by omega),cond_false,decide_eq_false (Nat.lt_irrefl _)]
 ·have hd:=zpi l j ht.nd hj hkey
  have hlen:(dropK l key).length<l.length:=by rw [hd,List.length_append,List.length_take,List.length_drop];omega
  have hdel:del l (j:Int) ((j+1:Nat):Int)=some (dropK l key):=by
   unfold del
   rw [if_pos ⟨by omega,by omega,by omega⟩,hd];rfl
  rw [decide_eq_true (show ((j:Int)≥0) by omega),cond_true,wS (by omega),hdel,Option.bind_some,decide_eq_true hlen]
theorem TOk.perm {l l':List D} (ht:TOk l) (hp:l'.Perm l) (ho:Od l' 0 l'.length):TOk l':=⟨fun x hx=>ht.ok x (hp.mem_iff.1 hx),ho,(hp.map _).nodup_iff.2 ht.nd⟩
theorem set_ok {l:List D} {key t:Int} (ht:TOk l) (hl:l.length<900) (h0:0≤key) (h1:key<18446744073709551616) {k:Nat} (hk:4000≤k):∃ l',z4v k ⟨l⟩ key t=some ⟨l'⟩∧TOk l'∧l'.Perm (dropK l key++[⟨t,key⟩]):=by
 unfold z4v
 have hdl:(dropK l key).length≤l.length:=List.length_filter_le ..
 rw [zkh ht (by omega) (by omega),Option.bind_some]
 simp only
 rw [ap_eq (by omega) (by simp;omega),Option.bind_some]
 have hok:OkDs (dropK l key++[⟨t,key⟩]):=fun x hx=>by
  rcases List.mem_append.1 hx with h | h
  ·exact ht.ok x (List.mem_filter.1 h).1
  ·rw [List.mem_singleton.1 h];exact ⟨h0,h1⟩
 have hne:neO (dropK l key++[(⟨t,key⟩:D)])=some ():=by
  unfold neO
  cases dropK l key<;>rfl
 obtain ⟨ys,e1,e2,e3⟩:=zu1 hok (by simp;omega) hk
 rw [hne,Option.bind_some,e1,Option.bind_some]
 refine ⟨ys,rfl,⟨fun x hx=>hok x (e2.mem_iff.1 hx),e3,?_⟩,e2⟩
 refine (e2.map _).nodup_iff.2 ?_
 rw [List.map_append,List.map_singleton]
 refine List.nodup_append.2 ⟨?_,by simp,fun a ha b hb=>?_⟩
 ·exact ht.nd.sublist (List.Sublist.map _ (List.filter_sublist))
 ·rw [List.mem_singleton] at hb
  obtain ⟨x,hx,rfl⟩:=List.mem_map.1 ha
  rw [hb]
  exact bne_iff_ne.1 (List.mem_filter.1 hx).2
theorem due_l0 {l:List D} {now:Int} (h1000:l.length≤1000) (kE:Int→z1q→Option (List D×z1q)):∀ m i k:Nat,i+m=l.length→m+5≤k→(∀ q,q<i→(l.getD q z0).f_At≤now) →
  ∃ n:Nat,z4c k kE now (i:Int) ⟨l⟩=kE (n:Int) ⟨l⟩∧n≤l.length∧(∀ q,q<n→(l.getD q z0).f_At≤now)∧(n<l.length→¬ (l.getD n z0).f_At≤now):=by
 intro m
 induction m with
 | zero =>
  intro i k hi hk hq
  obtain ⟨k,rfl⟩:∃ j,k=j+1:=⟨k-1,by omega⟩
  rw [z4c]
  simp only
  rw [decide_eq_false (by omega),cond_false,Option.bind_some,cond_false]
  exact ⟨i,rfl,by omega,hq,fun h=>by omega⟩
 | succ m ih =>
  intro i k hi hk hq
  obtain ⟨k,rfl⟩:∃ j,k=j+1:=⟨k-1,by omega⟩
  rw [z4c]
  simp only
  rw [decide_eq_true (by omega),cond_true,ix_g (by omega),Option.bind_some,Option.bind_some]
  by_cases h:(l.getD i z0).f_At≤now
  ·rw [decide_eq_true h,cond_true,wS (by omega)]
   exact ih (i+1) k (by omega) (by omega) fun q hq2=>by
    by_cases e:q=i
    ·rw [e];exact h
    ·exact hq q (by omega)
  ·rw [decide_eq_false h,cond_false]
   exact ⟨i,rfl,by omega,hq,fun _=>h⟩
theorem due_ok {l:List D} {now:Int} (ht:TOk l) (h1000:l.length≤1000) {k:Nat} (hk:1100≤k):∃ n:Nat,z7m k ⟨l⟩ now=some (l.take n,⟨l.drop n⟩)∧n≤l.length∧(∀ x∈l.take n,x.f_At≤now)∧(∀ x∈l.drop n,¬ x.f_At≤now):=by
 unfold z7m
 generalize hK:(fun (r24_5:Int) (zp0:z1q)=>_)=K
 obtain ⟨n,e,h1,h2,h3⟩:=due_l0 (now:=now) h1000 K l.length 0 k (by omega) (by omega) (fun q hq=>by omega)
 refine ⟨n,?_,h1,fun x hx=>?_,fun x hx=>?_⟩
 ·refine Eq.trans e ?_
  rw [← hK]
  simp only
  have s1:sub l 0 (n:Int)=some (l.take n):=by
   unfold sub
   rw [if_pos ⟨by omega,by omega,by omega⟩]
   simp
  have s2:sub l (n:Int) (l.length:Int)=some (l.drop n):=by
   unfold sub
   rw [if_pos ⟨by omega,by omega,by omega⟩,Int.toNat_natCast,List.take_of_length_le (by rw [List.length_drop];omega)]
  rw [s1,Option.bind_some,zko (by omega) (by rw [List.length_take];omega),Option.bind_some,s2,Option.bind_some,zko (by omega) (by rw [List.length_drop];omega),Option.bind_some]
 ·obtain ⟨q,hq,rfl⟩:=List.mem_iff_getElem.1 hx
  rw [List.length_take] at hq
  have:=h2 q (by omega)
  rw [zaw (by omega)] at this
  rwa [List.getElem_take]
 ·obtain ⟨q,hq,rfl⟩:=List.mem_iff_getElem.1 hx
  rw [List.length_drop] at hq
  rw [List.getElem_drop]
  have e1:=h3 (by omega)
  have e2:=ht.od n (n+q) (by omega) (by omega) (by omega)
  have e3:=kv_at (zja ht.ok n) (zja ht.ok (n+q)) e2
  rw [zaw (q:=n+q) (by omega)] at e3
  omega
end Alm
end Go.Ev
namespace Go.Ev
open Go.Proofs
set_option linter.unusedVariables false
set_option linter.unusedSimpArgs false
set_option maxRecDepth 100000
noncomputable section
abbrev KT16:=Exit→Env→H→Option (List C × H)
variable (rec : CallF) (loop : LoopV) (σ : Stamp)
theorem zez (x0:V) (x1:V) (x2:Int) (h:H):cvBody G rec loop 36 σ [x0,x1,(.p (.int .i64 x2))] h =
(boxO false (0::0::0::σ) 4 (List.replicate 55 []::h) x1).bind fun q1 =>
(nilChk x0).bind fun t2 =>
(fA t2 3).bind fun t3 =>
(ldO false 1 q1.2 t3).bind fun t4 =>
(ldO true 3 q1.2 q1.1).bind fun t5 =>
(callO rec 70 (5::0::1::0::σ) [t4,t5,(.clo 71 [])] q1.2 (some 15)).bind fun q6 =>
(extV q6.1 0).bind fun t7 =>
(castI .i64 t7).bind fun n8 =>
(extV q6.1 1).bind fun t9 =>
(asB t9).bind fun b10 =>
bif b10 then (
(nilChk x0).bind fun t11 =>
(fA t11 3).bind fun t12 =>
(ldO false 1 q6.2 t12).bind fun t13 =>
(ldO true 3 q6.2 q1.1).bind fun t14 =>
(iS 3 t13 n8).bind fun t15 =>
((stO false 3 (7::1::0::1::1::0::σ) q6.2 t15 t14).map fun h=>(udf,h)).bind fun q16 =>
(nilChk x0).bind fun t17 =>
(fA t17 4).bind fun t18 =>
(ldO false 1 q16.2 t18).bind fun t19 =>
(fA q1.1 0).bind fun t20 =>
(ldO false 1 q16.2 t20).bind fun t21 =>
(castI .u32 t21).bind fun n22 =>
(callO rec 75 (8::0::1::1::1::0::σ) [(.p (.int .i64 x2))] q16.2 (some 53)).bind fun q23 =>
(castI .i64 q23.1).bind fun n24 =>
need ((some (.p (.int .u64 (IntKind.wrap .u64 n22))):Option V)=some (.p (.int .u64 (IntKind.wrap .u64 n22)))) (
need (ldO false 1 q23.2 t20=some (.p (.int .u32 n22))) (
need (ldO false 1 q23.2 t18=some t19) (
(callO rec 74 (9::0::1::1::1::0::σ) [t19,(.p (.int .u64 (IntKind.wrap .u64 n22))),(.p (.int .i64 n24))] q23.2 (some 54)).bind fun q25 =>
fin false σ q25.2 [(.p (.bool true))]))))
else (
(nilChk x0).bind fun t26 =>
(fA t26 3).bind fun t27 =>
(ldO false 1 q6.2 t27).bind fun t28 =>
(lenO t28).bind fun t29 =>
(castI .i64 t29).bind fun n30 =>
bif decide (n30≥6) then (
fin false σ q6.2 [(.p (.bool false))])
else (
(nilChk x0).bind fun t31 =>
(fA t31 3).bind fun t32 =>
(ldO false 1 q6.2 t32).bind fun t33 =>
(ldO true 3 q6.2 q1.1).bind fun t34 =>
(bSV Try.prog 28 1 [(0,t34)]).bind fun t35 =>
(callO rec 73 (8::1::1::0::1::1::0::σ) [t33,(.p (.int .i64 n8)),t35] q6.2 (some 26)).bind fun q36 =>
(nilChk x0).bind fun t37 =>
(fA t37 3).bind fun t38 =>
((stO true 1 (11::1::1::0::1::1::0::σ) q36.2 t38 q36.1).map fun h=>(udf,h)).bind fun q39 =>
(nilChk x0).bind fun t40 =>
(fA t40 4).bind fun t41 =>
(ldO false 1 q39.2 t41).bind fun t42 =>
(fA q1.1 0).bind fun t43 =>
(ldO false 1 q39.2 t43).bind fun t44 =>
(castI .u32 t44).bind fun n45 =>
(callO rec 75 (8::0::1::1::1::0::σ) [(.p (.int .i64 x2))] q39.2 (some 53)).bind fun q46 =>
(castI .i64 q46.1).bind fun n47 =>
need ((some (.p (.int .u64 (IntKind.wrap .u64 n45))):Option V)=some (.p (.int .u64 (IntKind.wrap .u64 n45)))) (
need (ldO false 1 q46.2 t43=some (.p (.int .u32 n45))) (
need (ldO false 1 q46.2 t41=some t42) (
(callO rec 74 (9::0::1::1::1::0::σ) [t42,(.p (.int .u64 (IntKind.wrap .u64 n45))),(.p (.int .i64 n47))] q46.2 (some 54)).bind fun q48 =>
fin false σ q48.2 [(.p (.bool true))]))))):=by kernel_rfl
theorem zjj (x0:Int) (h:H):cvBody G rec loop 75 σ [(.p (.int .i64 x0))] h =
bif decide (x0<0) then (
fin false σ (List.replicate 9 []::h) [(.p (.int .i64 (IntKind.wrap .i64 (x0+1000000))))])
else (
(callO rec 118 (1::0::1::1::0::σ) [(.p (.int .i64 x0)),(.p (.int .i64 1000000))] (List.replicate 9 []::h) (some 8)).bind fun q1 =>
(castI .i64 q1.1).bind fun n2 =>
fin false σ q1.2 [(.p (.int .i64 n2))]):=by kernel_rfl
theorem zly (x0:Int) (x1:Int) (h:H):cvBody G rec loop 118 σ [(.p (.int .i64 x0)),(.p (.int .i64 x1))] h =
(callO rec 146 (1::0::1::0::σ) [(.p (.int .i64 x0))] (List.replicate 12 []::h) (some 6)).bind fun q1 =>
(castI .u64 q1.1).bind fun n2 =>
(callO rec 146 (3::0::1::0::σ) [(.p (.int .i64 x1))] q1.2 (some 8)).bind fun q3 =>
(castI .u64 q3.1).bind fun n4 =>
fin false σ q3.2 [(.p (.int .i64 (IntKind.wrap .i64 ((if 9223372036854775807<(IntKind.wrap .u64 (n2+n4)) then 9223372036854775807 else (IntKind.wrap .u64 (n2+n4)))))))]:=by kernel_rfl
theorem zmy (x0:Int) (h:H):cvBody G rec loop 146 σ [(.p (.int .i64 x0))] h =
fin false σ (List.replicate 6 []::h) [(.p (.int .u64 (IntKind.wrap .u64 ((if x0>0 then x0 else 0)))))]:=by kernel_rfl
end
end Go.Ev
namespace Go.Ev
open Go.Proofs
set_option linter.unusedVariables false
set_option linter.unusedSimpArgs false
set_option maxRecDepth 100000
section
variable {β α : Type} {Q : β→α→Prop} {K : Exit × Env × H→Option α}
def zbe (x0:Int):Option (Int) :=
some ((IntKind.wrap .u64 ((if x0>0 then x0 else 0))))
theorem zjo {h:H} {σ:Stamp} (x0:Int):Sim (zbe x0) (ev G X0 146 σ [(.p (.int .i64 x0))] h) (fun r s=>s=([.v (.p (.int .u64 r))],h)):=by
 refine .ev rfl (Sim.ext (zmy _ _ _ _ _) ?_)
 rw [zbe]
 have S0:Fm 6 h [] [] [] (List.replicate 6 []::h):=Fm.start0
 exact .fin (S0.finN (lC (sI _ _).lv lN)) rfl
def zbq (x0:Int) (x1:Int):Option (Int) :=
(zbe x0).bind fun r1 =>
(zbe x1).bind fun r6 =>
some ((IntKind.wrap .i64 ((if 9223372036854775807<(IntKind.wrap .u64 (r1+r6)) then 9223372036854775807 else (IntKind.wrap .u64 (r1+r6))))))
theorem zor {h:H} {σ:Stamp} (x0:Int) (x1:Int):Sim (zbq x0 x1) (ev G X0 118 σ [(.p (.int .i64 x0)),(.p (.int .i64 x1))] h) (fun r s=>s=([.v (.p (.int .i64 r))],h)):=by
 refine .ev rfl (Sim.ext (zly _ _ _ _ _ _) ?_)
 rw [zbq]
 have S0:Fm 12 h [] [] [] (List.replicate 12 []::h):=Fm.start0
 refine .call (zjo x0) fun r1 cs2 H3 h4 q5=>?_
 cases q5
 refine .ci ?_
 refine .call (zjo x1) fun r6 cs7 H8 h9 q10=>?_
 cases q10
 refine .ci ?_
 exact .fin (S0.finN (lC (sI _ _).lv lN)) rfl
def z52 (x0:Int):Option (Int) :=
bif decide (x0<0) then (
some ((IntKind.wrap .i64 (x0+1000000))))
else (
(zbq x0 1000000).bind fun r2 =>
some (r2))
theorem zgd {h:H} {σ:Stamp} (x0:Int):Sim (z52 x0) (ev G X0 75 σ [(.p (.int .i64 x0))] h) (fun r s=>s=([.v (.p (.int .i64 r))],h)):=by
 refine .ev rfl (Sim.ext (zjj _ _ _ _ _) ?_)
 rw [z52]
 have S0:Fm 9 h [] [] [] (List.replicate 9 []::h):=Fm.start0
 refine .cq ?_ ?_
 ·exact .fin (S0.finN (lC (sI _ _).lv lN)) rfl
 refine .call (zor x0 1000000) fun r2 cs3 H4 h5 q6=>?_
 cases q6
 refine .ci ?_
 exact .fin (S0.finN (lC (sI _ _).lv lN)) rfl
end
end Go.Ev
namespace Go.Ev
open Go.Proofs
set_option linter.unusedVariables false
set_option linter.unusedSimpArgs false
set_option maxRecDepth 100000
noncomputable section
abbrev KT17:=Exit→Env→H→Option (List C × H)
variable (rec : CallF) (loop : LoopV) (σ : Stamp)
def z1s:Code:=(codeAt (bodyOf Try.f70) [1,1,1,0,0,0])
def z1u:Lv:=⟨789,192,[(0,789)]⟩
def z43:KT17:=(kBlock 0 (kSeq G rec loop (codeAt (bodyOf Try.f70) [1,1,1,1]) ⟨192,192,[]⟩ (1::1::1::0::σ) (finC G false Try.f70 (1::σ))))
theorem z5v (x0:V) (x1:V) (x2:V) (h:H):cvBody G rec loop 70 σ [x0,x1,x2] h =
(boxO false (0::0::0::σ) 4 (List.replicate 49 []::h) x1).bind fun q1 =>
(lenO x0).bind fun t2 =>
(castI .i64 t2).bind fun n3 =>
(loop z1s z1u (0::1::1::1::0::σ) (envL [(0,x0),(2,x2),(4,q1.1),(8,(.p (.int .i64 n3))),(9,(.p (.int .i64 0))),(10,(.p (.int .i64 n3)))]) q1.2).bind fun r4=>z43 rec loop σ r4.1 r4.2.1 r4.2.2:=by kernel_rfl
theorem z6h (x0:V) (x2:V) (x4:V) (x8:Int) (x9:Int) (x10:Int) (h:H):z1n G rec loop z1s z1u σ (envL [(0,x0),(2,x2),(4,x4),(8,(.p (.int .i64 x8))),(9,(.p (.int .i64 x9))),(10,(.p (.int .i64 x10)))]) h =
bif decide (x9<x10) then (
(iS 3 x0 (IntKind.wrap .i64 (Int.fdiv (IntKind.wrap .u64 (IntKind.wrap .i64 (x9+x10))) (2^1)))).bind fun t5 =>
(ldO true 3 h t5).bind fun t6 =>
(ldO true 3 h x4).bind fun t7 =>
(cloO rec x2 (6::0::1::1::0::σ) [t6,t7] h (some 30)).bind fun q8 =>
(castI .i64 q8.1).bind fun n9 =>
bif decide (n9<0) then (
loop z1s z1u (1::σ) (envL [(0,x0),(2,x2),(4,x4),(8,(.p (.int .i64 x8))),(9,(.p (.int .i64 (IntKind.wrap .i64 ((IntKind.wrap .i64 (Int.fdiv (IntKind.wrap .u64 (IntKind.wrap .i64 (x9+x10))) (2^1)))+1))))),(10,(.p (.int .i64 x10)))]) q8.2)
else (
loop z1s z1u (1::σ) (envL [(0,x0),(2,x2),(4,x4),(8,(.p (.int .i64 x8))),(9,(.p (.int .i64 x9))),(10,(.p (.int .i64 (IntKind.wrap .i64 (Int.fdiv (IntKind.wrap .u64 (IntKind.wrap .i64 (x9+x10))) (2^1))))))]) q8.2))
else (
some ((.exit 0),(envL [(0,x0),(2,x2),(4,x4),(8,(.p (.int .i64 x8))),(9,(.p (.int .i64 x9)))]),h)):=by kernel_rfl
theorem z60 (x0:V) (x2:V) (x4:V) (x8:Int) (x9:Int) (h:H):z43 rec loop σ (.exit 0) (envL [(0,x0),(2,x2),(4,x4),(8,(.p (.int .i64 x8))),(9,(.p (.int .i64 x9)))]) h =
(bif decide (x9<x8) then ((iS 3 x0 x9).bind fun t10 =>
(ldO true 3 h t10).bind fun t11 =>
(ldO true 3 h x4).bind fun t12 =>
(cloO rec x2 (11::0::1::1::1::1::0::σ) [t11,t12] h (some 46)).bind fun q13 =>
(castI .i64 q13.1).bind fun n14 =>
some ((.p (.bool (n14==0))),q13.2)) else (some ((.p (.bool false)),h))).bind fun q15 =>
(asB q15.1).bind fun b16 =>
fin false σ q15.2 [(.p (.int .i64 x9)),(.p (.bool b16))]:=by kernel_rfl
theorem ze5 (x0:V) (x1:V) (h:H):cvBody G rec loop 71 σ [x0,x1] h =
(boxO false (0::0::0::σ) 2 (List.replicate 10 []::h) x0).bind fun q1 =>
(boxO false (1::0::0::σ) 3 q1.2 x1).bind fun q2 =>
(fA q1.1 0).bind fun t3 =>
(ldO false 1 q2.2 t3).bind fun t4 =>
(castI .u32 t4).bind fun n5 =>
(fA q2.1 0).bind fun t6 =>
(ldO false 1 q2.2 t6).bind fun t7 =>
(castI .u32 t7).bind fun n8 =>
(callO rec 72 (4::0::1::0::σ) [(.p (.int .u32 n5)),(.p (.int .u32 n8))] q2.2 (some 9)).bind fun q9 =>
(castI .i64 q9.1).bind fun n10 =>
fin false σ q9.2 [(.p (.int .i64 n10))]:=by kernel_rfl
theorem zep (x0:Int) (x1:Int) (h:H):cvBody G rec loop 72 σ [(.p (.int .u32 x0)),(.p (.int .u32 x1))] h =
(callO rec 109 (1::0::1::0::σ) [(.p (.int .u32 x0))] (List.replicate 20 []::h) (some 8)).bind fun q1 =>
(asB q1.1).bind fun b2 =>
(callO rec 109 (1::0::1::1::0::σ) [(.p (.int .u32 x1))] q1.2 (some 10)).bind fun q3 =>
(asB q3.1).bind fun b4 =>
bif b2 then (
bif b4 then (
fin false σ q3.2 [(.p (.int .i64 0))])
else (
fin false σ q3.2 [(.p (.int .i64 (-1)))]))
else (
bif b4 then (
fin false σ q3.2 [(.p (.int .i64 1))])
else (
bif decide (x0<x1) then (
fin false σ q3.2 [(.p (.int .i64 (-1)))])
else (
bif decide (x0>x1) then (
fin false σ q3.2 [(.p (.int .i64 1))])
else (
fin false σ q3.2 [(.p (.int .i64 0))])))):=by kernel_rfl
theorem zfp (x0:Int) (h:H):cvBody G rec loop 109 σ [(.p (.int .u32 x0))] h =
fin false σ (List.replicate 6 []::h) [(.p (.bool (x0 != x0)))]:=by kernel_rfl
end
end Go.Ev
namespace Go.Ev
open Go.Proofs
set_option linter.unusedVariables false
set_option linter.unusedSimpArgs false
set_option maxRecDepth 100000
section
variable {β α : Type} {Q : β→α→Prop} {K : Exit × Env × H→Option α}
def z73 (x0:Int):Option (Bool) :=
some ((x0 != x0))
theorem zcy {h:H} {σ:Stamp} (x0:Int):Sim (z73 x0) (ev G X0 109 σ [(.p (.int .u32 x0))] h) (fun r s=>s=([.v (.p (.bool r))],h)):=by
 refine .ev rfl (Sim.ext (zfp _ _ _ _ _) ?_)
 rw [z73]
 have S0:Fm 6 h [] [] [] (List.replicate 6 []::h):=Fm.start0
 exact .fin (S0.finN (lC (sB _).lv lN)) rfl
def z4r (x0:Int) (x1:Int):Option (Int) :=
(z73 x0).bind fun r1 =>
(z73 x1).bind fun r6 =>
bif r1 then (
bif r6 then (
some (0))
else (
some ((-1))))
else (
bif r6 then (
some (1))
else (
bif decide (x0<x1) then (
some ((-1)))
else (
bif decide (x0>x1) then (
some (1))
else (
some (0)))))
theorem zcj {h:H} {σ:Stamp} (x0:Int) (x1:Int):Sim (z4r x0 x1) (ev G X0 72 σ [(.p (.int .u32 x0)),(.p (.int .u32 x1))] h) (fun r s=>s=([.v (.p (.int .i64 r))],h)):=by
 refine .ev rfl (Sim.ext (zep _ _ _ _ _ _) ?_)
 rw [z4r]
 have S0:Fm 20 h [] [] [] (List.replicate 20 []::h):=Fm.start0
 refine .call (zcy x0) fun r1 cs2 H3 h4 q5=>?_
 cases q5
 refine .ab ?_
 refine .call (zcy x1) fun r6 cs7 H8 h9 q10=>?_
 cases q10
 refine .ab ?_
 refine .cq ?_ ?_
 ·refine .cq ?_ ?_
  ·exact .fin (S0.finN (lC (sI _ _).lv lN)) rfl
  exact .fin (S0.finN (lC (sI _ _).lv lN)) rfl
 refine .cq ?_ ?_
 ·exact .fin (S0.finN (lC (sI _ _).lv lN)) rfl
 refine .cq ?_ ?_
 ·exact .fin (S0.finN (lC (sI _ _).lv lN)) rfl
 refine .cq ?_ ?_
 ·exact .fin (S0.finN (lC (sI _ _).lv lN)) rfl
 exact .fin (S0.finN (lC (sI _ _).lv lN)) rfl
def z4n (x0:z7) (x1:z7):Option (Int) :=
(z4r x0.Owner x1.Owner).bind fun r9 =>
some (r9)
theorem zbu {h:H} {σ:Stamp} (x0:z7) {u0:List V} (hu0:z6.R x0 u0) (x1:z7) {u1:List V} (hu1:z6.R x1 u1):Sim (z4n x0 x1) (ev G X0 71 σ [(.agg u0),(.agg u1)] h) (fun r s=>s=([.v (.p (.int .i64 r))],h)):=by
 refine .ev rfl (Sim.ext (ze5 _ _ _ _ _ _) ?_)
 rw [z4n]
 obtain rfl:=z6.inv hu0
 obtain rfl:=z6.inv hu1
 have S0:Fm 10 h [] [] [] (List.replicate 10 []::h):=Fm.start0
 obtain ⟨H1,e2,S3⟩:=S0.box (own:=false) (d:=2) (s:=(0::0::0::σ)) (xs:=[(.p (.int .u32 x0.Owner)),(.p (.int .u64 x0.Rate)),(.p (.int .i64 x0.Over))]) (sC (sI _ _) (sC (sI _ _) (sC (sI _ _) sN))) (by decide) rfl
 refine .op (e2) ?_
 obtain ⟨H5,e6,S7⟩:=S3.box (own:=false) (d:=3) (s:=(1::0::0::σ)) (xs:=[(.p (.int .u32 x1.Owner)),(.p (.int .u64 x1.Rate)),(.p (.int .i64 x1.Over))]) (sC (sI _ _) (sC (sI _ _) (sC (sI _ _) sN))) (by decide) rfl
 refine .op (e6) ?_
 refine .fa ?_
 refine .op ((S7.atG (i:=1) rfl).ld (j:=0) rfl) ?_
 refine .ci ?_
 refine .fa ?_
 refine .op ((S7.atG (i:=0) rfl).ld (j:=0) rfl) ?_
 refine .ci ?_
 refine .call (zcj x0.Owner x1.Owner) fun r9 cs10 H11 h12 q13=>?_
 cases q13
 refine .ci ?_
 exact .fin (S7.finN (lC (sI _ _).lv lN)) rfl
def zg {β:Type} (k:Nat) (kE0:(List z7)→Int→Int→z7→Option β) (x0:(List z7)) (x8:Int) (x9:Int) (x10:Int) (yg4:z7):Option β:=match k with
| 0=>none
| k+1 =>
bif decide (x9<x10) then (
(ix x0 (IntKind.wrap .i64 (Int.fdiv (IntKind.wrap .u64 (IntKind.wrap .i64 (x9+x10))) (2^1)))).bind fun a12 =>
(z4n a12 yg4).bind fun r17 =>
bif decide (r17<0) then (
zg k kE0 x0 x8 (IntKind.wrap .i64 ((IntKind.wrap .i64 (Int.fdiv (IntKind.wrap .u64 (IntKind.wrap .i64 (x9+x10))) (2^1)))+1)) x10 yg4)
else (
zg k kE0 x0 x8 x9 (IntKind.wrap .i64 (Int.fdiv (IntKind.wrap .u64 (IntKind.wrap .i64 (x9+x10))) (2^1))) yg4))
else (
kE0 x0 x8 x9 yg4)
def z1a (k:Nat) (x0:(List z7)) (x1:z7):Option (Int×Bool) :=
zg k (fun r29_0 r29_8 r29_9 yg10 =>
(bif decide (r29_9<r29_8) then ((ix r29_0 r29_9).bind fun a36 =>
(z4n a36 yg10).bind fun r41 =>
some (r41==0)) else (some false)).bind fun b46 =>
some (r29_9,b46)) x0 ((x0.length:Int)) 0 ((x0.length:Int)) x1
theorem z49 {h:H}  {kE0:(List z7)→Int→Int→z7→Option β} (hE0:∀ (q0:(List z7)) (q8:Int) (q9:Int) (yg10:z7) (v25:V) (h26:SlH h z6 q0 v25) (s27:Stamp) (H23:Go.Ev.H) (_:Fm 49 h [] [(4,s27,List.map C.v [(.p (.int .u32 yg10.Owner)),(.p (.int .u64 yg10.Rate)),(.p (.int .i64 yg10.Over))])] [] H23),Sim (kE0 q0 q8 q9 yg10) (K ((.exit 0),(envL [(0,v25),(2,(.clo 71 [])),(4,(.ref ⟨h.length,4,0,s27,[]⟩ 0)),(8,(.p (.int .i64 q8))),(9,(.p (.int .i64 q9)))]),H23)) Q) (k:Nat):∀ (x0:(List z7)) (x8:Int) (x9:Int) (x10:Int) (yg4:z7) (v7:V) (h8:SlH h z6 x0 v7) (s9:Stamp) (H5:Go.Ev.H) (_:Fm 49 h [] [(4,s9,List.map C.v [(.p (.int .u32 yg4.Owner)),(.p (.int .u64 yg4.Rate)),(.p (.int .i64 yg4.Over))])] [] H5) {σ:Stamp},Sim (zg k kE0 x0 x8 x9 x10 yg4) ((cvL G X0 z1s z1u σ (envL [(0,v7),(2,(.clo 71 [])),(4,(.ref ⟨h.length,4,0,s9,[]⟩ 0)),(8,(.p (.int .i64 x8))),(9,(.p (.int .i64 x9))),(10,(.p (.int .i64 x10)))]) H5).bind K) Q:=by
 induction k with
 | zero=>intros;exact .no
 | succ k ih =>
  intro x0 x8 x9 x10 yg4 v7 h8 s9 H5 S6 σ
  rw [zg]
  refine .round (Sim.ext (z6h _ _ _ _ _ _ _ _ _ _) ?_)
  refine .cq ?_ ?_
  ·refine .bd fun a12 h13=>?_
   refine .op ((S6.low h8).iS h13 rfl) ?_
   obtain ⟨w15,h16,hE14⟩:=(S6.low h8).el h13 rfl
   obtain rfl:=z6.inv h16
   refine .op (hE14.all (by simp)) ?_
   refine .op ((S6.atG (i:=0) rfl).ldVs (j:=0) (xs:=[.p (.int .u32 yg4.Owner),.p (.int .u64 yg4.Rate),.p (.int .i64 yg4.Over)]) rfl rfl (by decide)) ?_
   refine .clo ?_
   refine .call (zbu a12 (show z6.R a12 [.p (.int .u32 a12.Owner),.p (.int .u64 a12.Rate),.p (.int .i64 a12.Over)] from (z6.mk)) yg4 (show z6.R yg4 [.p (.int .u32 yg4.Owner),.p (.int .u64 yg4.Rate),.p (.int .i64 yg4.Over)] from (z6.mk))) fun r17 cs18 H19 h20 q21=>?_
   cases q21
   refine .ci ?_
   refine .cq ?_ ?_
   ·exact ih x0 x8 (IntKind.wrap .i64 ((IntKind.wrap .i64 (Int.fdiv (IntKind.wrap .u64 (IntKind.wrap .i64 (x9+x10))) (2^1)))+1)) x10 yg4 v7 h8 s9 H5 (S6.wk2 (aC (aM 0 rfl) aN) aN)
   exact ih x0 x8 x9 (IntKind.wrap .i64 (Int.fdiv (IntKind.wrap .u64 (IntKind.wrap .i64 (x9+x10))) (2^1))) yg4 v7 h8 s9 H5 (S6.wk2 (aC (aM 0 rfl) aN) aN)
  exact hE0 x0 x8 x9 yg4 v7 h8 s9 H5 (S6.wk2 (aC (aM 0 rfl) aN) aN)
theorem z4f (k:Nat) {h:H} {σ:Stamp} (x0:List z7) {u0:V} (hu0:SlH h z6 x0 u0) (x1:z7) {u1:List V} (hu1:z6.R x1 u1):Sim (z1a k x0 x1) (ev G X0 70 σ [u0,(.agg u1),(.clo 71 [])] h) (fun r s=>s=([.v (.p (.int .i64 r.1)),.v (.p (.bool r.2))],h)):=by
 refine .ev rfl (Sim.ext (z5v _ _ _ _ _ _ _) ?_)
 rw [z1a]
 obtain rfl:=z6.inv hu1
 have S0:Fm 49 h [] [] [] (List.replicate 49 []::h):=Fm.start0
 obtain ⟨H1,e2,S3⟩:=S0.box (own:=false) (d:=4) (s:=(0::0::0::σ)) (xs:=[(.p (.int .u32 x1.Owner)),(.p (.int .u64 x1.Rate)),(.p (.int .i64 x1.Over))]) (sC (sI _ _) (sC (sI _ _) (sC (sI _ _) sN))) (by decide) rfl
 refine .op (e2) ?_
 refine .op ((S3.low hu0).len) ?_
 refine .ci ?_
 refine .as (z49 ?_ k x0 ((x0.length:Int)) 0 ((x0.length:Int)) x1 u0 hu0 (0::0::0::σ) H1 (S3.wk2 (aC (aM 0 rfl) aN) aN))
 ·intro r29_0 r29_8 r29_9 yg10 v32 h33 s34 H30 S31
  refine .ext (z60 _ _ _ _ _ _ _ _ _) ?_
  refine .ch (P:=fun r y=>(.p (.bool r),H30)=y) ?_ (fun b46 y47 h48 h49=>?_)
  ·refine .cq ?_ ?_
   ·refine .bd fun a36 h37=>?_
    refine .op ((S31.low h33).iS h37 rfl) ?_
    obtain ⟨w39,h40,hE38⟩:=(S31.low h33).el h37 rfl
    obtain rfl:=z6.inv h40
    refine .op (hE38.all (by simp)) ?_
    refine .op ((S31.atG (i:=0) rfl).ldVs (j:=0) (xs:=[.p (.int .u32 yg10.Owner),.p (.int .u64 yg10.Rate),.p (.int .i64 yg10.Over)]) rfl rfl (by decide)) ?_
    refine .clo ?_
    refine .call (zbu a36 (show z6.R a36 [.p (.int .u32 a36.Owner),.p (.int .u64 a36.Rate),.p (.int .i64 a36.Over)] from (z6.mk)) yg10 (show z6.R yg10 [.p (.int .u32 yg10.Owner),.p (.int .u64 yg10.Rate),.p (.int .i64 yg10.Over)] from (z6.mk))) fun r41 cs42 H43 h44 q45=>?_
    cases q45
    refine .ci ?_
    exact .ret rfl rfl
   ·exact .ret rfl rfl
  subst h49
  refine .ab ?_
  exact .fin (S31.finN (lC (sI _ _).lv (lC (sB _).lv lN))) rfl
def z4k (k:Nat) (x0:z16) (x1:z7) (x2:Int):Option (Bool×z16) :=
(z1a k x0.tuples x1).bind fun r5 =>
bif r5.2 then (
(ix x0.tuples r5.1).bind fun a11 =>
(stx x0.tuples r5.1 x1).bind fun a16 =>
(z52 x2).bind fun r21 =>
(z4v k x0.ends (IntKind.wrap .u64 x1.Owner) r21).bind fun r26 =>
some (true,(⟨x0.cap,x0.remb,x0.told,a16,r26⟩:z16)))
else (
bif decide (((x0.tuples.length:Int))≥6) then (
some (false,x0))
else (
(ins 24 x0.tuples r5.1 ([x1])).bind fun a37 =>
(z52 x2).bind fun r51 =>
(z4v k x0.ends (IntKind.wrap .u64 x1.Owner) r51).bind fun r56 =>
some (true,(⟨x0.cap,x0.remb,x0.told,a37,r56⟩:z16))))
theorem zco (k:Nat) {h:H} {σ:Stamp} (x0:z16) {c0_3:C} (hc0_3:SoC z6 x0.tuples c0_3) (hn0_3:Nn c0_3 3) {s0_4:Stamp} {c0_4_0:C} (hc0_4_0:SoC z5 x0.ends.l c0_4_0) (hn0_4_0:Nn c0_4_0 2) {l0:Loc} {o0:Nat} (ha0:AtC h l0 o0 ([.v (.p (.int .i64 x0.cap)),.v (.p (.int .u64 x0.remb)),.v (.p (.bool x0.told)),c0_3,.own s0_4 ([c0_4_0])])) (x1:z7) {u1:List V} (hu1:z6.R x1 u1) (x2:Int):Sim (z4k k x0 x1 x2) (ev G X0 36 σ [(.ref l0 o0),(.agg u1),(.p (.int .i64 x2))] h) (fun r s=>∃ (cb0_3:C),∃ (sb0_4:Stamp),∃ (cb0_4_0:C),SoC z6 r.2.tuples cb0_3∧Nn cb0_3 3∧SoC z5 r.2.ends.l cb0_4_0∧Nn cb0_4_0 2∧s=([.v (.p (.bool r.1))],pts h [⟨l0,o0,[.v (.p (.int .i64 r.2.cap)),.v (.p (.int .u64 r.2.remb)),.v (.p (.bool r.2.told)),cb0_3,.own sb0_4 ([cb0_4_0])]⟩])):=by
 refine .ev rfl (Sim.ext (zez _ _ _ _ _ _ _) ?_)
 rw [z4k]
 obtain rfl:=z6.inv hu1
 have S0:Fm 55 h [⟨l0,o0,[.v (.p (.int .i64 x0.cap)),.v (.p (.int .u64 x0.remb)),.v (.p (.bool x0.told)),c0_3,.own s0_4 ([c0_4_0])]⟩] [] [] (List.replicate 55 []::h):=Fm.start1 ha0
 obtain ⟨H1,e2,S3⟩:=S0.box (own:=false) (d:=4) (s:=(0::0::0::σ)) (xs:=[(.p (.int .u32 x1.Owner)),(.p (.int .u64 x1.Rate)),(.p (.int .i64 x1.Over))]) (sC (sI _ _) (sC (sI _ _) (sC (sI _ _) sN))) (by decide) rfl
 refine .op (e2) ?_
 refine .nc ?_
 refine .fa ?_
 refine .op (hc0_3.ld (S3.atB (i:=0) rfl) (j:=3) rfl) ?_
 refine .op ((S3.atG (i:=0) rfl).ldVs (j:=0) (xs:=[(.p (.int .u32 x1.Owner)),(.p (.int .u64 x1.Rate)),(.p (.int .i64 x1.Over))]) rfl rfl (by decide)) ?_
 refine .call (z4f k x0.tuples (hc0_3.sl (S3.atB (i:=0) rfl) (j:=3) rfl) x1 hu1) fun r5 cs6 H7 h8 q9=>?_
 cases q9
 refine .or ?_
 refine .ci ?_
 refine .or ?_
 refine .ab ?_
 refine .cq ?_ ?_
 ·refine .nc ?_
  refine .fa ?_
  refine .op (hc0_3.ld (S3.atB (i:=0) rfl) (j:=3) rfl) ?_
  refine .op ((S3.atG (i:=0) rfl).ldVs (j:=0) (xs:=[(.p (.int .u32 x1.Owner)),(.p (.int .u64 x1.Rate)),(.p (.int .i64 x1.Over))]) rfl rfl (by decide)) ?_
  refine .bd fun a11 h12=>?_
  refine .op ((hc0_3.sl (S3.atB (i:=0) rfl) (j:=3) rfl).iS h12 rfl) ?_
  refine .bd fun a16 h17=>?_
  obtain ⟨c18,H13,e14,h19,h20,S15⟩:=S3.seB (i:=0) (j:=3) (own:=false) (σ:=(7::1::0::1::1::0::σ)) (nv:=[(.p (.int .u32 x1.Owner)),(.p (.int .u64 x1.Rate)),(.p (.int .i64 x1.Over))]) (xv:=(.agg [(.p (.int .u32 x1.Owner)),(.p (.int .u64 x1.Rate)),(.p (.int .i64 x1.Over))])) (n:=3) (e:=3) (off:=0) rfl rfl hc0_3 hn0_3 h12 h17 rfl rfl (by decide) (z28 (sC (sI _ _) (sC (sI _ _) (sC (sI _ _) sN)))) (Dt.whole (show z6.R x1 [(.p (.int .u32 x1.Owner)),(.p (.int .u64 x1.Rate)),(.p (.int .i64 x1.Over))] from hu1) rfl)
  refine .op (sM e14) ?_
  refine .nc ?_
  refine .fa ?_
  refine .op ((S15.atB (i:=0) rfl).ldOwn (j:=4) rfl) ?_
  refine .fa ?_
  refine .op ((S15.atG (i:=0) rfl).ld (j:=0) rfl) ?_
  refine .ci ?_
  refine .call (zgd x2) fun r21 cs22 H23 h24 q25=>?_
  cases q25
  refine .ci ?_
  refine .nd (rfl) ?_
  refine .nd ((S15.atG (i:=0) rfl).ld (j:=0) rfl) ?_
  refine .nd ((S15.atB (i:=0) rfl).ldOwn (j:=4) rfl) ?_
  refine .call (zdt k x0.ends hc0_4_0 hn0_4_0 (S15.subB (i:=0) (j:=4) rfl rfl).1 (IntKind.wrap .u64 x1.Owner) r21) fun r26 cs27 H28 h29 q30=>?_
  obtain ⟨c31,h32,h33,q30⟩:=q30
  cases q30
  have S34:=(S15.subB (i:=0) (j:=4) rfl rfl).2 ([c31]) rfl
  exact .fin (S34.finN (lC (sB _).lv lN)) ⟨c18,s0_4,c31,h19,(Nq.nn h20),h32,h33,rfl⟩
 refine .nc ?_
 refine .fa ?_
 refine .op (hc0_3.ld (S3.atB (i:=0) rfl) (j:=3) rfl) ?_
 refine .op ((hc0_3.sl (S3.atB (i:=0) rfl) (j:=3) rfl).len) ?_
 refine .ci ?_
 refine .cq ?_ ?_
 ·exact .fin (S3.finN (lC (sB _).lv lN)) ⟨c0_3,s0_4,c0_4_0,hc0_3,hn0_3,hc0_4_0,hn0_4_0,rfl⟩
 refine .nc ?_
 refine .fa ?_
 refine .op (hc0_3.ld (S3.atB (i:=0) rfl) (j:=3) rfl) ?_
 refine .op ((S3.atG (i:=0) rfl).ldVs (j:=0) (xs:=[(.p (.int .u32 x1.Owner)),(.p (.int .u64 x1.Rate)),(.p (.int .i64 x1.Over))]) rfl rfl (by decide)) ?_
 have h36:SlF z6 [x1] (.fz [(.p (.int .u32 x1.Owner)),(.p (.int .u64 x1.Rate)),(.p (.int .i64 x1.Over))] 1 3 true):=SlF.lit (cs:=[(.p (.int .u32 x1.Owner)),(.p (.int .u64 x1.Rate)),(.p (.int .i64 x1.Over))]) (RL.cons hu1 RL.nil) rfl rfl true
 refine .op (bldS (pC (c:=[(.p (.int .u32 x1.Owner)),(.p (.int .u64 x1.Rate)),(.p (.int .i64 x1.Over))]) rfl pN) (by kernel_rfl:_=some (vOf h36))) ?_
 refine .bd fun a37 h38=>?_
 obtain ⟨v39,c40,H41,e42,S43⟩:=S3.insB (G:=G) (X:=X0) (f:=73) (ii:=0) (j:=3) (d:=26) (e:=3) (own:=false) (σ:=(8::1::1::0::1::1::0::σ)) (t:=true) (m:=1) (ys:=[x1]) (us:=[(.p (.int .u32 x1.Owner)),(.p (.int .u64 x1.Rate)),(.p (.int .i64 x1.Over))]) (fun _ _ _ _ _=>rfl) rfl rfl hc0_3 hn0_3 (RL.cons hu1 RL.nil) rfl (by decide) rfl h38 rfl (by decide) (by decide) rfl
 refine .op (e42) ?_
 refine .nc ?_
 refine .fa ?_
 obtain ⟨c48,H45,e46,h49,h50,S47⟩:=S43.mvB (i:=0) (j:=3) (k:=0) (σ:=(11::1::1::0::1::1::0::σ)) rfl rfl rfl rfl rfl
 refine .op (sM e46) ?_
 refine .nc ?_
 refine .fa ?_
 refine .op ((S47.atB (i:=0) rfl).ldOwn (j:=4) rfl) ?_
 refine .fa ?_
 refine .op ((S47.atG (i:=0) rfl).ld (j:=0) rfl) ?_
 refine .ci ?_
 refine .call (zgd x2) fun r51 cs52 H53 h54 q55=>?_
 cases q55
 refine .ci ?_
 refine .nd (rfl) ?_
 refine .nd ((S47.atG (i:=0) rfl).ld (j:=0) rfl) ?_
 refine .nd ((S47.atB (i:=0) rfl).ldOwn (j:=4) rfl) ?_
 refine .call (zdt k x0.ends hc0_4_0 hn0_4_0 (S47.subB (i:=0) (j:=4) rfl rfl).1 (IntKind.wrap .u64 x1.Owner) r51) fun r56 cs57 H58 h59 q60=>?_
 obtain ⟨c61,h62,h63,q60⟩:=q60
 cases q60
 have S64:=(S47.subB (i:=0) (j:=4) rfl rfl).2 ([c61]) rfl
 exact .fin (S64.finN (lC (sB _).lv lN)) ⟨c48,s0_4,c61,h49,h50,h62,h63,rfl⟩
end
end Go.Ev
namespace Go.Ev
open Go.Proofs
set_option linter.unusedVariables false
set_option linter.unusedSimpArgs false
set_option maxRecDepth 100000
noncomputable section
abbrev KT18:=Exit→Env→H→Option (List C × H)
variable (rec : CallF) (loop : LoopV) (σ : Stamp)
def z80:Code:=(codeAt (bodyOf Try.f39) [1,1,0,1,0,0])
def z83:Lv:=⟨32,16,[(0,32)]⟩
def zcx:KT18:=(kBlock 0 (kSeq G rec loop (codeAt (bodyOf Try.f39) [1,1,1]) ⟨16,16,[]⟩ (1::1::0::σ) (finC G false Try.f39 (1::σ))))
theorem zfm (x0:V) (x1:Int) (h:H):cvBody G rec loop 39 σ [x0,(.p (.int .i64 x1))] h =
(nilChk x0).bind fun t1 =>
(fA t1 4).bind fun t2 =>
(ldO false 1 (List.replicate 32 []::h) t2).bind fun t3 =>
(callO rec 78 (5::0::1::0::σ) [t3,(.p (.int .i64 x1))] (List.replicate 32 []::h) (some 13)).bind fun q4 =>
(lenO q4.1).bind fun t5 =>
(castI .i64 t5).bind fun n6 =>
(loop z80 z83 (1::0::1::1::0::σ) (envL [(0,x0),(5,q4.1),(14,q4.1),(15,(.p (.int .i64 n6))),(16,(.p (.int .i64 0)))]) q4.2).bind fun r7=>zcx rec loop σ r7.1 r7.2.1 r7.2.2:=by kernel_rfl
theorem zhu (x0:V) (x5:V) (x14:V) (x15:Int) (x16:Int) (h:H):z1n G rec loop z80 z83 σ (envL [(0,x0),(5,x5),(14,x14),(15,(.p (.int .i64 x15))),(16,(.p (.int .i64 x16)))]) h =
bif decide (x16<x15) then (
(iS 2 x14 x16).bind fun t8 =>
(ldO true 2 h t8).bind fun t9 =>
(some (alO [.p (.int .i64 0),.p (.int .u64 0)] (2::0::0::1::1::0::σ) 7 h)).bind fun q10 =>
((stO false 2 (3::0::0::1::1::0::σ) q10.2 q10.1 t9).map fun h=>(udf,h)).bind fun q11 =>
(nilChk x0).bind fun t12 =>
(fA t12 3).bind fun t13 =>
(ldO false 1 q11.2 t13).bind fun t14 =>
(callO rec 79 (6::1::0::1::1::0::σ) [t14,(.clo 80 [q10.1])] q11.2 (some 26)).bind fun q15 =>
(nilChk x0).bind fun t16 =>
(fA t16 3).bind fun t17 =>
((stO true 1 (9::1::0::1::1::0::σ) q15.2 t17 q15.1).map fun h=>(udf,h)).bind fun q18 =>
loop z80 z83 (1::σ) (envL [(0,x0),(5,x5),(14,x14),(15,(.p (.int .i64 x15))),(16,(.p (.int .i64 (IntKind.wrap .i64 (x16+1)))))]) q18.2)
else (
some ((.exit 0),(envL [(5,x5)]),h)):=by kernel_rfl
theorem zgc (x5:V) (h:H):zcx rec loop σ (.exit 0) (envL [(5,x5)]) h =
(lenO x5).bind fun t19 =>
(castI .i64 t19).bind fun n20 =>
fin false σ h [(.p (.int .i64 n20))]:=by kernel_rfl
def z2c:Code:=(codeAt (bodyOf Try.f79) [1,1,1,0,1,0,0])
def z2d:Lv:=⟨33,16,[(0,33)]⟩
def z46:KT18:=(kBlock 0 (kSeq G rec loop (codeAt (bodyOf Try.f79) [1,1,1,1]) ⟨16,16,[]⟩ (1::1::1::0::σ) (finC G false Try.f79 (1::σ))))
theorem z8p (x0:V) (x1:V) (h:H):cvBody G rec loop 79 σ [x0,x1] h =
(callO rec 120 (2::0::1::0::σ) [x0,x1] (List.replicate 42 []::h) (some 10)).bind fun q1 =>
(castI .i64 q1.1).bind fun n2 =>
bif n2==(-1) then (
fin false σ q1.2 [x0])
else (
(loop z2c z2d (1::0::1::1::1::0::σ) (envL [(0,x0),(1,x1),(5,(.p (.int .i64 n2))),(6,(.p (.int .i64 (IntKind.wrap .i64 (n2+1)))))]) q1.2).bind fun r3=>z46 rec loop σ r3.1 r3.2.1 r3.2.2):=by kernel_rfl
theorem z9q (x0:V) (x1:V) (x5:Int) (x6:Int) (h:H):z1n G rec loop z2c z2d σ (envL [(0,x0),(1,x1),(5,(.p (.int .i64 x5))),(6,(.p (.int .i64 x6)))]) h =
(lenO x0).bind fun t4 =>
(castI .i64 t4).bind fun n5 =>
bif decide (x6<n5) then (
(iS 3 x0 x6).bind fun t6 =>
(ldO true 3 h t6).bind fun t7 =>
(some (alO [.p (.int .u32 0),.p (.int .u64 0),.p (.int .i64 0)] (4::0::0::1::0::σ) 7 h)).bind fun q8 =>
((stO false 3 (5::0::0::1::0::σ) q8.2 q8.1 t7).map fun h=>(udf,h)).bind fun q9 =>
(ldO true 3 q9.2 q8.1).bind fun t10 =>
(cloO rec x1 (2::0::1::0::1::0::σ) [t10] q9.2 (some 28)).bind fun q11 =>
(asB q11.1).bind fun b12 =>
bif !b12 then (
(ldO true 3 q11.2 q8.1).bind fun t13 =>
(iS 3 x0 x5).bind fun t14 =>
((stO false 3 (4::0::1::1::0::1::0::σ) q11.2 t14 t13).map fun h=>(udf,h)).bind fun q15 =>
loop z2c z2d (1::σ) (envL [(0,x0),(1,x1),(5,(.p (.int .i64 (IntKind.wrap .i64 (x5+1))))),(6,(.p (.int .i64 (IntKind.wrap .i64 (x6+1)))))]) q15.2)
else (
loop z2c z2d (1::σ) (envL [(0,x0),(1,x1),(5,(.p (.int .i64 x5))),(6,(.p (.int .i64 (IntKind.wrap .i64 (x6+1)))))]) q11.2))
else (
some ((.exit 0),(envL [(0,x0),(5,(.p (.int .i64 x5)))]),h)):=by kernel_rfl
theorem z94 (x0:V) (x5:Int) (h:H):z46 rec loop σ (.exit 0) (envL [(0,x0),(5,(.p (.int .i64 x5)))]) h =
(slS 3 x0 (some x5) none none).bind fun t16 =>
(clearV G h 28 t16).bind fun q17 =>
(slS 3 x0 none (some x5) none).bind fun t18 =>
fin false σ q17.2 [t18]:=by kernel_rfl
theorem zeo (x0:V) (x1:V) (h:H):cvBody G rec loop 80 σ [x0,x1] h =
(boxO false (0::0::0::σ) 2 (List.replicate 10 []::h) x0).bind fun q1 =>
(fA q1.1 0).bind fun t2 =>
(ldO false 1 q1.2 t2).bind fun t3 =>
(castI .u32 t3).bind fun n4 =>
(fA x1 1).bind fun t5 =>
(ldO false 1 q1.2 t5).bind fun t6 =>
(castI .u64 t6).bind fun n7 =>
fin false σ q1.2 [(.p (.bool ((IntKind.wrap .u64 n4)==n7)))]:=by kernel_rfl
end
end Go.Ev
namespace Go.Ev
open Go.Proofs
set_option linter.unusedVariables false
set_option linter.unusedSimpArgs false
set_option maxRecDepth 100000
section
variable {β α : Type} {Q : β→α→Prop} {K : Exit × Env × H→Option α}
def z3a (x0:z7) (x1:z8):Option (Bool) :=
some (((IntKind.wrap .u64 x0.Owner)==x1.Key))
theorem zcf {h:H} {σ:Stamp} (x0:z7) {u0:List V} (hu0:z6.R x0 u0) (x1:z8)  {l1:Loc} {o1:Nat} (ha1:AtC h l1 o1 (List.map C.v [(.p (.int .i64 x1.f_At)),(.p (.int .u64 x1.Key))])):Sim (z3a x0 x1) (ev G X0 80 σ [(.agg u0),(.ref l1 o1)] h) (fun r s=>s=([.v (.p (.bool r))],h)):=by
 refine .ev rfl (Sim.ext (zeo _ _ _ _ _ _) ?_)
 rw [z3a]
 obtain rfl:=z6.inv hu0
 have S0:Fm 10 h [] [] [] (List.replicate 10 []::h):=Fm.start0
 obtain ⟨H1,e2,S3⟩:=S0.box (own:=false) (d:=2) (s:=(0::0::0::σ)) (xs:=[(.p (.int .u32 x0.Owner)),(.p (.int .u64 x0.Rate)),(.p (.int .i64 x0.Over))]) (sC (sI _ _) (sC (sI _ _) (sC (sI _ _) sN))) (by decide) rfl
 refine .op (e2) ?_
 refine .fa ?_
 refine .op ((S3.atG (i:=0) rfl).ld (j:=0) rfl) ?_
 refine .ci ?_
 refine .fa ?_
 refine .op ((S3.lowA ha1).ld (j:=1) rfl) ?_
 refine .ci ?_
 exact .fin (S3.finN (lC (sB _).lv lN)) rfl
end
end Go.Ev
namespace Go.Ev
open Go.Proofs
set_option linter.unusedVariables false
set_option linter.unusedSimpArgs false
set_option maxRecDepth 100000
noncomputable section
abbrev KT19:=Exit→Env→H→Option (List C × H)
variable (rec : CallF) (loop : LoopV) (σ : Stamp)
def z34:Code:=(codeAt (bodyOf Try.f120) [1,0,1,0,0])
def z3b:Lv:=⟨0,16,[(0,0)]⟩
def z4b:KT19:=(kBlock 0 (kSeq G rec loop (codeAt (bodyOf Try.f120) [1,1]) ⟨16,16,[]⟩ (1::0::σ) (finC G false Try.f120 (1::σ))))
theorem z8y (x0:V) (x1:V) (h:H):cvBody G rec loop 120 σ [x0,x1] h =
(lenO x0).bind fun t1 =>
(castI .i64 t1).bind fun n2 =>
(loop z34 z3b (1::0::1::0::σ) (envL [(0,x0),(1,x1),(7,(.p (.int .i64 n2))),(8,(.p (.int .i64 0)))]) (List.replicate 19 []::h)).bind fun r3=>z4b rec loop σ r3.1 r3.2.1 r3.2.2:=by kernel_rfl
theorem za0 (x0:V) (x1:V) (x7:Int) (x8:Int) (h:H):z1n G rec loop z34 z3b σ (envL [(0,x0),(1,x1),(7,(.p (.int .i64 x7))),(8,(.p (.int .i64 x8)))]) h =
bif decide (x8<x7) then (
(iS 3 x0 x8).bind fun t4 =>
(ldO true 3 h t4).bind fun t5 =>
(cloO rec x1 (5::0::1::0::1::1::0::σ) [t5] h (some 16)).bind fun q6 =>
(asB q6.1).bind fun b7 =>
bif b7 then (
some (.ret,(envL [(4,(.p (.int .i64 x8)))]),q6.2))
else (
loop z34 z3b (1::σ) (envL [(0,x0),(1,x1),(7,(.p (.int .i64 x7))),(8,(.p (.int .i64 (IntKind.wrap .i64 (x8+1)))))]) q6.2))
else (
some ((.exit 0),(envL []),h)):=by kernel_rfl
theorem z9b  (h:H):z4b rec loop σ (.exit 0) (envL []) h =
fin false σ h [(.p (.int .i64 (-1)))]:=by kernel_rfl
theorem z8s (x4:Int) (h:H):z4b rec loop σ .ret (envL [(4,(.p (.int .i64 x4)))]) h =
fin false σ h [(.p (.int .i64 x4))]:=by kernel_rfl
end
end Go.Ev
namespace Go.Ev
open Go.Proofs
set_option linter.unusedVariables false
set_option linter.unusedSimpArgs false
set_option maxRecDepth 100000
section
variable {β α : Type} {Q : β→α→Prop} {K : Exit × Env × H→Option α}
def z11 {β:Type} (k:Nat) (kE0:Unit→Option β) (kE1:Int→Option β) (x0:(List z7)) (x1c0:z8) (x7:Int) (x8:Int):Option β:=match k with
| 0=>none
| k+1 =>
bif decide (x8<x7) then (
(ix x0 x8).bind fun a10 =>
(z3a a10 x1c0).bind fun r15 =>
bif r15 then (
kE1 x8)
else (
z11 k kE0 kE1 x0 x1c0 x7 (IntKind.wrap .i64 (x8+1))))
else (
kE0 ())
def z1j (k:Nat) (x0:(List z7)) (x1c0:z8):Option (Int) :=
z11 k (fun (_:Unit) =>
some ((-1))) (fun r28_4 =>
some (r28_4)) x0 x1c0 ((x0.length:Int)) 0
theorem z5a {h:H}  {kE0:Unit→Option β} {kE1:Int→Option β} (hE0:∀ (_u:Unit) (H21:Go.Ev.H) (_:Fm 19 h [] [] [] H21),Sim (kE0 ()) (K ((.exit 0),(envL []),H21)) Q) (hE1:∀ (q4:Int) (H23:Go.Ev.H) (_:Fm 19 h [] [] [] H23),Sim (kE1 q4) (K (.ret,(envL [(4,(.p (.int .i64 q4)))]),H23)) Q) (k:Nat):∀ (x0:(List z7)) (x1c0:z8) (x7:Int) (x8:Int) (v3:V) (h4:SlH h z6 x0 v3) (lr5:Loc) (or6:Nat) (har7:AtC h lr5 or6 (List.map C.v [(.p (.int .i64 x1c0.f_At)),(.p (.int .u64 x1c0.Key))])) (H1:Go.Ev.H) (_:Fm 19 h [] [] [] H1) {σ:Stamp},Sim (z11 k kE0 kE1 x0 x1c0 x7 x8) ((cvL G X0 z34 z3b σ (envL [(0,v3),(1,(.clo 80 [(.ref lr5 or6)])),(7,(.p (.int .i64 x7))),(8,(.p (.int .i64 x8)))]) H1).bind K) Q:=by
 induction k with
 | zero=>intros;exact .no
 | succ k ih =>
  intro x0 x1c0 x7 x8 v3 h4 lr5 or6 har7 H1 S2 σ
  rw [z11]
  refine .round (Sim.ext (za0 _ _ _ _ _ _ _ _) ?_)
  refine .cq ?_ ?_
  ·refine .bd fun a10 h11=>?_
   refine .op ((S2.low h4).iS h11 rfl) ?_
   obtain ⟨w13,h14,hE12⟩:=(S2.low h4).el h11 rfl
   obtain rfl:=z6.inv h14
   refine .op (hE12.all (by simp)) ?_
   refine .clo ?_
   refine .call (zcf a10 (show z6.R a10 [.p (.int .u32 a10.Owner),.p (.int .u64 a10.Rate),.p (.int .i64 a10.Over)] from (z6.mk)) x1c0 (S2.lowA har7)) fun r15 cs16 H17 h18 q19=>?_
   cases q19
   refine .ab ?_
   refine .cq ?_ ?_
   ·exact hE1 x8 H1 (S2.wk2 aN aN)
   exact ih x0 x1c0 x7 (IntKind.wrap .i64 (x8+1)) v3 h4 lr5 or6 har7 H1 (S2.wk2 aN aN)
  exact hE0 () H1 (S2.wk2 aN aN)
theorem z62 (k:Nat) {h:H} {σ:Stamp} (x0:List z7) {u0:V} (hu0:SlH h z6 x0 u0) (x1c0:z8)  {l1c0:Loc} {o1c0:Nat} (ha1c0:AtC h l1c0 o1c0 (List.map C.v [(.p (.int .i64 x1c0.f_At)),(.p (.int .u64 x1c0.Key))])):Sim (z1j k x0 x1c0) (ev G X0 120 σ [u0,(.clo 80 [(.ref l1c0 o1c0)])] h) (fun r s=>s=([.v (.p (.int .i64 r))],h)):=by
 refine .ev rfl (Sim.ext (z8y _ _ _ _ _ _) ?_)
 rw [z1j]
 have S0:Fm 19 h [] [] [] (List.replicate 19 []::h):=Fm.start0
 refine .op ((S0.low hu0).len) ?_
 refine .ci ?_
 refine .as (z5a ?_ ?_ k x0 x1c0 ((x0.length:Int)) 0 u0 hu0 l1c0 o1c0 ha1c0 (List.replicate 19 []::h) (S0.wk2 aN aN))
 ·intro _u H26 S27
  refine .ext (z9b _ _ _ _) ?_
  exact .fin (S27.finN (lC (sI _ _).lv lN)) rfl
 ·intro r28_4 H29 S30
  refine .ext (z8s _ _ _ _ _) ?_
  exact .fin (S30.finN (lC (sI _ _).lv lN)) rfl
def z45 {β:Type} (k:Nat) (kE0:(List z8)→z16→Option β) (x5:(List z8)) (x14:(List z8)) (x15:Int) (x16:Int) (zp0:z16):Option β:=match k with
| 0=>none
| k+1 =>
bif decide (x16<x15) then (
(ix x14 x16).bind fun a23 =>
(delC (z1j k zp0.tuples a23) (fun a=>z3a a a23) zp0.tuples).bind fun a35 =>
z45 k kE0 x5 x14 x15 (IntKind.wrap .i64 (x16+1)) ((⟨zp0.cap,zp0.remb,zp0.told,a35,zp0.ends⟩:z16)))
else (
kE0 x5 zp0)
def z3n (k:Nat) (x0:z16) (x1:Int):Option (Int×z16) :=
(z7m k x0.ends x1).bind fun r1 =>
z45 k (fun r57_5 zp0 =>
some (((r57_5.length:Int)),zp0)) r1.1 r1.1 ((r1.1.length:Int)) 0 ((⟨x0.cap,x0.remb,x0.told,x0.tuples,r1.2⟩:z16))
theorem zfs {h:H} {l0:Loc} {o0:Nat} {kE0:(List z8)→z16→Option β} (hE0:∀ (q5:(List z8)) (zp0:z16) (v51:V) (h52:SlF z5 q5 v51) (c53:C) (h54:SoC z6 zp0.tuples c53) (h55:Nn c53 3) (s55:Stamp) (c55_0:C) (hc55_0:SoC z5 zp0.ends.l c55_0) (hn55_0:Nn c55_0 2) (H49:Go.Ev.H) (_:Fm 32 h [⟨l0,o0,[.v (.p (.int .i64 zp0.cap)),.v (.p (.int .u64 zp0.remb)),.v (.p (.bool zp0.told)),c53,.own s55 ([c55_0])]⟩] [] [] H49),Sim (kE0 q5 zp0) (K ((.exit 0),(envL [(5,v51)]),H49)) Q) (k:Nat):∀ (x5:(List z8)) (x14:(List z8)) (x15:Int) (x16:Int) (zp0:z16) (v14:V) (h15:SlF z5 x5 v14) (v16:V) (h17:SlF z5 x14 v16) (c18:C) (h19:SoC z6 zp0.tuples c18) (h20:Nn c18 3) (s20:Stamp) (c20_0:C) (hc20_0:SoC z5 zp0.ends.l c20_0) (hn20_0:Nn c20_0 2) (H12:Go.Ev.H) (_:Fm 32 h [⟨l0,o0,[.v (.p (.int .i64 zp0.cap)),.v (.p (.int .u64 zp0.remb)),.v (.p (.bool zp0.told)),c18,.own s20 ([c20_0])]⟩] [] [] H12) {σ:Stamp},Sim (z45 k kE0 x5 x14 x15 x16 zp0) ((cvL G X0 z80 z83 σ (envL [(0,(.ref l0 o0)),(5,v14),(14,v16),(15,(.p (.int .i64 x15))),(16,(.p (.int .i64 x16)))]) H12).bind K) Q:=by
 induction k with
 | zero=>intros;exact .no
 | succ k ih =>
  intro x5 x14 x15 x16 zp0 v14 h15 v16 h17 c18 h19 h20 s20 c20_0 hc20_0 hn20_0 H12 S13 σ
  rw [z45]
  refine .round (Sim.ext (zhu _ _ _ _ _ _ _ _ _) ?_)
  refine .cq ?_ ?_
  ·refine .bd fun a23 h24=>?_
   refine .op ((h17.h H12).iS h24 rfl) ?_
   obtain ⟨w26,h27,hE25⟩:=(h17.h H12).el h24 rfl
   obtain rfl:=z5.inv h27
   refine .op (hE25.all (by simp)) ?_
   obtain ⟨H28,e29,S30⟩:=S13.al (d:=7) (s:=(2::0::0::1::1::0::σ)) (z:=[(.p (.int .i64 0)),(.p (.int .u64 0))]) (by decide) rfl
   refine .op (congrArg some e29) ?_
   obtain ⟨H32,e33,S34⟩:=S30.stGv (i:=0) (j:=0) (own:=false) (σ:=(3::0::0::1::1::0::σ)) (xs:=[.p (.int .i64 a23.f_At),.p (.int .u64 a23.Key)]) rfl rfl (sC (sI _ _) (sC (sI _ _) sN)) rfl rfl
   refine .op (sM e33) ?_
   refine .nc ?_
   refine .fa ?_
   refine .op (h19.ld (S34.atB (i:=0) rfl) (j:=3) rfl) ?_
   refine .bd fun a35 h36=>?_
   obtain ⟨v37,c38,H39,e40,S41,h42⟩:=S34.dfB (G:=G) (X:=X0) (F:=79) (IF:=120) (ii:=0) (jj:=3) (d:=26) (te:=57) (z:=[.p (.int .u32 0),.p (.int .u64 0),.p (.int .i64 0)]) (pI:=(z1j k zp0.tuples a23)) (p:=(fun a=>z3a a a23)) (f:=80) (caps:=[(.ref ⟨h.length,7,0,(2::0::0::1::1::0::σ),[]⟩ 0)]) (kf:=z46 (ev G X0) (cvL G X0) ((6::1::0::1::1::0::σ))) (c:=z2c) (lv:=z2d) (fun x0 x1 h=>z8p _ _ _ x0 x1 h) (fun _=>rfl) (fun σ x0 x1 x5 x6 h=>z9q _ _ σ x0 x1 x5 x6 h) (fun x0 x5 h=>z94 _ _ _ x0 x5 h) rfl rfl h19 h20 rfl (by decide) rfl (by decide) (by kernel_rfl) (by kernel_rfl) (by kernel_rfl) (sC (sI _ _) (sC (sI _ _) (sC (sI _ _) sN))) (fun l' L w a xv τ hk hR=>zcf a hR a23 (AtC.by_ (S34.atG (i:=0) rfl) L (S34.keyB (i:=0) rfl hk))) (fun τ=>z62 k zp0.tuples (SlH.up1 (h19.sl (S34.atB (i:=0) rfl) (j:=3) rfl)) a23 (AtC.up (S34.atG (i:=0) rfl) _)) h36
   refine .op (e40) ?_
   refine .nc ?_
   refine .fa ?_
   obtain ⟨c46,H43,e44,h47,h48,S45⟩:=h42 true (9::1::0::1::1::0::σ)
   refine .op (sM e44) ?_
   exact ih x5 x14 x15 (IntKind.wrap .i64 (x16+1)) ((⟨zp0.cap,zp0.remb,zp0.told,a35,zp0.ends⟩:z16)) v14 h15 v16 h17 c46 h47 h48 s20 c20_0 hc20_0 hn20_0 H43 (S45.wk2 aN aN)
  exact hE0 x5 zp0 v14 h15 c18 h19 h20 s20 c20_0 hc20_0 hn20_0 H12 (S13.wk2 aN aN)
theorem z82 (k:Nat) {h:H} {σ:Stamp} (x0:z16) {c0_3:C} (hc0_3:SoC z6 x0.tuples c0_3) (hn0_3:Nn c0_3 3) {s0_4:Stamp} {c0_4_0:C} (hc0_4_0:SoC z5 x0.ends.l c0_4_0) (hn0_4_0:Nn c0_4_0 2) {l0:Loc} {o0:Nat} (ha0:AtC h l0 o0 ([.v (.p (.int .i64 x0.cap)),.v (.p (.int .u64 x0.remb)),.v (.p (.bool x0.told)),c0_3,.own s0_4 ([c0_4_0])])) (x1:Int):Sim (z3n k x0 x1) (ev G X0 39 σ [(.ref l0 o0),(.p (.int .i64 x1))] h) (fun r s=>∃ (cb0_3:C),∃ (sb0_4:Stamp),∃ (cb0_4_0:C),SoC z6 r.2.tuples cb0_3∧Nn cb0_3 3∧SoC z5 r.2.ends.l cb0_4_0∧Nn cb0_4_0 2∧s=([.v (.p (.int .i64 r.1))],pts h [⟨l0,o0,[.v (.p (.int .i64 r.2.cap)),.v (.p (.int .u64 r.2.remb)),.v (.p (.bool r.2.told)),cb0_3,.own sb0_4 ([cb0_4_0])]⟩])):=by
 refine .ev rfl (Sim.ext (zfm _ _ _ _ _ _) ?_)
 rw [z3n]
 have S0:Fm 32 h [⟨l0,o0,[.v (.p (.int .i64 x0.cap)),.v (.p (.int .u64 x0.remb)),.v (.p (.bool x0.told)),c0_3,.own s0_4 ([c0_4_0])]⟩] [] [] (List.replicate 32 []::h):=Fm.start1 ha0
 refine .nc ?_
 refine .fa ?_
 refine .op ((S0.atB (i:=0) rfl).ldOwn (j:=4) rfl) ?_
 refine .call (zi5 k x0.ends hc0_4_0 hn0_4_0 (S0.subB (i:=0) (j:=4) rfl rfl).1 x1) fun r1 cs2 H3 h4 q5=>?_
 obtain ⟨v6,c8,h7,h9,h10,q5⟩:=q5
 cases q5
 have S11:=(S0.subB (i:=0) (j:=4) rfl rfl).2 ([c8]) rfl
 refine .op ((h7.h (pts (List.replicate 32 []::h) [⟨(l0.hop (o0+4) s0_4),0,[c8]⟩])).len) ?_
 refine .ci ?_
 refine .as (zfs ?_ k r1.1 r1.1 ((r1.1.length:Int)) 0 ((⟨x0.cap,x0.remb,x0.told,x0.tuples,r1.2⟩:z16)) v6 h7 v6 h7 c0_3 hc0_3 hn0_3 s0_4 c8 h9 h10 (pts (List.replicate 32 []::h) [⟨(l0.hop (o0+4) s0_4),0,[c8]⟩]) (S11.wk2 aN aN))
 ·intro r57_5 zp0 v60 h61 c62 h63 h64 s64 c64_0 hc64_0 hn64_0 H58 S59
  refine .ext (zgc _ _ _ _ _) ?_
  refine .op ((h61.h H58).len) ?_
  refine .ci ?_
  exact .fin (S59.finN (lC (sI _ _).lv lN)) ⟨c62,s64,c64_0,h63,h64,hc64_0,hn64_0,rfl⟩
end
end Go.Ev
namespace Go.Ev
open Go.Proofs
set_option linter.unusedVariables false
set_option linter.unusedSimpArgs false
set_option maxRecDepth 100000
noncomputable section
abbrev KT20:=Exit→Env→H→Option (List C × H)
variable (rec : CallF) (loop : LoopV) (σ : Stamp)
theorem zfw (x0:V) (h:H):cvBody G rec loop 37 σ [x0] h =
(nilChk x0).bind fun t1 =>
(fA t1 0).bind fun t2 =>
(ldO false 1 (List.replicate 35 []::h) t2).bind fun t3 =>
(castI .i64 t3).bind fun n4 =>
(nilChk x0).bind fun t5 =>
(fA t5 2).bind fun t6 =>
(ldO false 1 (List.replicate 35 []::h) t6).bind fun t7 =>
(asB t7).bind fun b8 =>
bif b8 then (
(nilChk x0).bind fun t9 =>
(fA t9 1).bind fun t10 =>
(ldO false 1 (List.replicate 35 []::h) t10).bind fun t11 =>
(castI .u64 t11).bind fun n12 =>
(callO rec 76 (5::1::0::1::1::0::σ) [(.p (.int .u64 n12))] (List.replicate 35 []::h) (some 19)).bind fun q13 =>
(castI .i64 q13.1).bind fun n14 =>
(nilChk x0).bind fun t15 =>
(fA t15 3).bind fun t16 =>
(ldO false 1 q13.2 t16).bind fun t17 =>
(callO rec 77 (4::0::0::1::1::1::0::σ) [t17] q13.2 (some 26)).bind fun q18 =>
(extV q18.1 0).bind fun t19 =>
(castI .u64 t19).bind fun n20 =>
(extV q18.1 1).bind fun t21 =>
(asB t21).bind fun b22 =>
bif b22 then (
(callO rec 76 (2::1::1::0::1::1::1::0::σ) [(.p (.int .u64 n20))] q18.2 (some 32)).bind fun q23 =>
(castI .i64 q23.1).bind fun n24 =>
fin false σ q23.2 [(.p (.int .i64 ((if n24<((if n14<n4 then n14 else n4)) then n24 else ((if n14<n4 then n14 else n4))))))])
else (
fin false σ q18.2 [(.p (.int .i64 ((if n14<n4 then n14 else n4))))]))
else (
(nilChk x0).bind fun t25 =>
(fA t25 3).bind fun t26 =>
(ldO false 1 (List.replicate 35 []::h) t26).bind fun t27 =>
(callO rec 77 (4::0::0::1::1::1::0::σ) [t27] (List.replicate 35 []::h) (some 26)).bind fun q28 =>
(extV q28.1 0).bind fun t29 =>
(castI .u64 t29).bind fun n30 =>
(extV q28.1 1).bind fun t31 =>
(asB t31).bind fun b32 =>
bif b32 then (
(callO rec 76 (2::1::1::0::1::1::1::0::σ) [(.p (.int .u64 n30))] q28.2 (some 32)).bind fun q33 =>
(castI .i64 q33.1).bind fun n34 =>
fin false σ q33.2 [(.p (.int .i64 ((if n34<n4 then n34 else n4))))])
else (
fin false σ q28.2 [(.p (.int .i64 n4))])):=by kernel_rfl
def zbz:Code:=(codeAt (bodyOf Try.f77) [1,1,0,1,0,0])
def zc0:Lv:=⟨17,12,[(0,17)]⟩
def zho:KT20:=(kBlock 0 (kSeq G rec loop (codeAt (bodyOf Try.f77) [1,1,1]) ⟨12,12,[]⟩ (1::1::0::σ) (finC G false Try.f77 (1::σ))))
theorem zky (x0:V) (h:H):cvBody G rec loop 77 σ [x0] h =
(lenO x0).bind fun t1 =>
(castI .i64 t1).bind fun n2 =>
(loop zbz zc0 (1::0::1::1::0::σ) (envL [(0,x0),(4,(.p (.int .u64 1099511627776))),(7,x0),(8,(.p (.int .i64 n2))),(9,(.p (.int .i64 0)))]) (List.replicate 22 []::h)).bind fun r3=>zho rec loop σ r3.1 r3.2.1 r3.2.2:=by kernel_rfl
theorem zop (x0:V) (x4:Int) (x7:V) (x8:Int) (x9:Int) (h:H):z1n G rec loop zbz zc0 σ (envL [(0,x0),(4,(.p (.int .u64 x4))),(7,x7),(8,(.p (.int .i64 x8))),(9,(.p (.int .i64 x9)))]) h =
bif decide (x9<x8) then (
(iS 3 x7 x9).bind fun t4 =>
(ldO true 3 h t4).bind fun t5 =>
(some (alO [.p (.int .u32 0),.p (.int .u64 0),.p (.int .i64 0)] (2::0::0::1::1::0::σ) 6 h)).bind fun q6 =>
((stO false 3 (3::0::0::1::1::0::σ) q6.2 q6.1 t5).map fun h=>(udf,h)).bind fun q7 =>
(fA q6.1 1).bind fun t8 =>
(ldO false 1 q7.2 t8).bind fun t9 =>
(castI .u64 t9).bind fun n10 =>
loop zbz zc0 (1::σ) (envL [(0,x0),(4,(.p (.int .u64 ((if n10<x4 then n10 else x4))))),(7,x7),(8,(.p (.int .i64 x8))),(9,(.p (.int .i64 (IntKind.wrap .i64 (x9+1)))))]) q7.2)
else (
some ((.exit 0),(envL [(0,x0),(4,(.p (.int .u64 x4)))]),h)):=by kernel_rfl
theorem zm1 (x0:V) (x4:Int) (h:H):zho rec loop σ (.exit 0) (envL [(0,x0),(4,(.p (.int .u64 x4)))]) h =
(lenO x0).bind fun t11 =>
(castI .i64 t11).bind fun n12 =>
bif n12==0 then (
fin false σ h [(.p (.int .u64 0)),(.p (.bool false))])
else (
fin false σ h [(.p (.int .u64 x4)),(.p (.bool true))]):=by kernel_rfl
end
end Go.Ev
namespace Go.Ev
open Go.Proofs
set_option linter.unusedVariables false
set_option linter.unusedSimpArgs false
set_option maxRecDepth 100000
section
variable {β α : Type} {Q : β→α→Prop} {K : Exit × Env × H→Option α}
def z5r {β:Type} (k:Nat) (kE0:(List z7)→Int→Option β) (x0:(List z7)) (x4:Int) (x7:(List z7)) (x8:Int) (x9:Int):Option β:=match k with
| 0=>none
| k+1 =>
bif decide (x9<x8) then (
(ix x7 x9).bind fun a8 =>
z5r k kE0 x0 ((if a8.Rate<x4 then a8.Rate else x4)) x7 x8 (IntKind.wrap .i64 (x9+1)))
else (
kE0 x0 x4)
def zaz (k:Nat) (x0:(List z7)):Option (Int×Bool) :=
z5r k (fun r24_0 r24_4 =>
bif ((r24_0.length:Int))==0 then (
some (0,false))
else (
some (r24_4,true))) x0 1099511627776 x0 ((x0.length:Int)) 0
theorem zkg {h:H}  {kE0:(List z7)→Int→Option β} (hE0:∀ (q0:(List z7)) (q4:Int) (v22:V) (h23:SlH h z6 q0 v22) (H20:Go.Ev.H) (_:Fm 22 h [] [] [] H20),Sim (kE0 q0 q4) (K ((.exit 0),(envL [(0,v22),(4,(.p (.int .u64 q4)))]),H20)) Q) (k:Nat):∀ (x0:(List z7)) (x4:Int) (x7:(List z7)) (x8:Int) (x9:Int) (v3:V) (h4:SlH h z6 x0 v3) (v5:V) (h6:SlH h z6 x7 v5) (H1:Go.Ev.H) (_:Fm 22 h [] [] [] H1) {σ:Stamp},Sim (z5r k kE0 x0 x4 x7 x8 x9) ((cvL G X0 zbz zc0 σ (envL [(0,v3),(4,(.p (.int .u64 x4))),(7,v5),(8,(.p (.int .i64 x8))),(9,(.p (.int .i64 x9)))]) H1).bind K) Q:=by
 induction k with
 | zero=>intros;exact .no
 | succ k ih =>
  intro x0 x4 x7 x8 x9 v3 h4 v5 h6 H1 S2 σ
  rw [z5r]
  refine .round (Sim.ext (zop _ _ _ _ _ _ _ _ _) ?_)
  refine .cq ?_ ?_
  ·refine .bd fun a8 h9=>?_
   refine .op ((S2.low h6).iS h9 rfl) ?_
   obtain ⟨w11,h12,hE10⟩:=(S2.low h6).el h9 rfl
   obtain rfl:=z6.inv h12
   refine .op (hE10.all (by simp)) ?_
   obtain ⟨H13,e14,S15⟩:=S2.al (d:=6) (s:=(2::0::0::1::1::0::σ)) (z:=[(.p (.int .u32 0)),(.p (.int .u64 0)),(.p (.int .i64 0))]) (by decide) rfl
   refine .op (congrArg some e14) ?_
   obtain ⟨H17,e18,S19⟩:=S15.stGv (i:=0) (j:=0) (own:=false) (σ:=(3::0::0::1::1::0::σ)) (xs:=[.p (.int .u32 a8.Owner),.p (.int .u64 a8.Rate),.p (.int .i64 a8.Over)]) rfl rfl (sC (sI _ _) (sC (sI _ _) (sC (sI _ _) sN))) rfl rfl
   refine .op (sM e18) ?_
   refine .fa ?_
   refine .op ((S19.atG (i:=0) rfl).ld (j:=1) rfl) ?_
   refine .ci ?_
   exact ih x0 ((if a8.Rate<x4 then a8.Rate else x4)) x7 x8 (IntKind.wrap .i64 (x9+1)) v3 h4 v5 h6 H17 (S19.wk2 aN aN)
  exact hE0 x0 x4 v3 h4 H1 (S2.wk2 aN aN)
theorem zhg (k:Nat) {h:H} {σ:Stamp} (x0:List z7) {u0:V} (hu0:SlH h z6 x0 u0):Sim (zaz k x0) (ev G X0 77 σ [u0] h) (fun r s=>s=([.v (.p (.int .u64 r.1)),.v (.p (.bool r.2))],h)):=by
 refine .ev rfl (Sim.ext (zky _ _ _ _ _) ?_)
 rw [zaz]
 have S0:Fm 22 h [] [] [] (List.replicate 22 []::h):=Fm.start0
 refine .op ((S0.low hu0).len) ?_
 refine .ci ?_
 refine .as (zkg ?_ k x0 1099511627776 x0 ((x0.length:Int)) 0 u0 hu0 u0 hu0 (List.replicate 22 []::h) (S0.wk2 aN aN))
 ·intro r24_0 r24_4 v27 h28 H25 S26
  refine .ext (zm1 _ _ _ _ _ _) ?_
  refine .op ((S26.low h28).len) ?_
  refine .ci ?_
  refine .cq ?_ ?_
  ·exact .fin (S26.finN (lC (sI _ _).lv (lC (sB _).lv lN))) rfl
  exact .fin (S26.finN (lC (sI _ _).lv (lC (sB _).lv lN))) rfl
end
end Go.Ev
namespace Go.Ev
open Go.Proofs
set_option linter.unusedVariables false
set_option linter.unusedSimpArgs false
set_option maxRecDepth 100000
noncomputable section
abbrev KT21:=Exit→Env→H→Option (List C × H)
variable (rec : CallF) (loop : LoopV) (σ : Stamp)
theorem zkf (x0:Int) (h:H):cvBody G rec loop 76 σ [(.p (.int .u64 x0))] h =
fin false σ (List.replicate 7 []::h) [(.p (.int .i64 (IntKind.wrap .i64 ((if 1099511627776<(IntKind.wrap .u64 (Int.tdiv x0 8)) then 1099511627776 else (IntKind.wrap .u64 (Int.tdiv x0 8)))))))]:=by kernel_rfl
end
end Go.Ev
namespace Go.Ev
open Go.Proofs
set_option linter.unusedVariables false
set_option linter.unusedSimpArgs false
set_option maxRecDepth 100000
section
variable {β α : Type} {Q : β→α→Prop} {K : Exit × Env × H→Option α}
def z6u (x0:Int):Option (Int) :=
some ((IntKind.wrap .i64 ((if 1099511627776<(IntKind.wrap .u64 (Int.tdiv x0 8)) then 1099511627776 else (IntKind.wrap .u64 (Int.tdiv x0 8))))))
theorem zdv {h:H} {σ:Stamp} (x0:Int):Sim (z6u x0) (ev G X0 76 σ [(.p (.int .u64 x0))] h) (fun r s=>s=([.v (.p (.int .i64 r))],h)):=by
 refine .ev rfl (Sim.ext (zkf _ _ _ _ _) ?_)
 rw [z6u]
 have S0:Fm 7 h [] [] [] (List.replicate 7 []::h):=Fm.start0
 exact .fin (S0.finN (lC (sI _ _).lv lN)) rfl
def z1z (k:Nat) (x0:z16):Option (Int) :=
bif x0.told then (
(z6u x0.remb).bind fun r2 =>
(zaz k x0.tuples).bind fun r7 =>
bif r7.2 then (
(z6u r7.1).bind fun r13 =>
some (((if r13<((if r2<x0.cap then r2 else x0.cap)) then r13 else ((if r2<x0.cap then r2 else x0.cap))))))
else (
some (((if r2<x0.cap then r2 else x0.cap)))))
else (
(zaz k x0.tuples).bind fun r18 =>
bif r18.2 then (
(z6u r18.1).bind fun r24 =>
some (((if r24<x0.cap then r24 else x0.cap))))
else (
some (x0.cap)))
theorem z2s (k:Nat) {h:H} {σ:Stamp} (x0:z16) {c0_3:C} (hc0_3:SoC z6 x0.tuples c0_3) (hn0_3:Nn c0_3 3) {s0_4:Stamp} {c0_4_0:C} (hc0_4_0:SoC z5 x0.ends.l c0_4_0) (hn0_4_0:Nn c0_4_0 2) {l0:Loc} {o0:Nat} (ha0:AtC h l0 o0 ([.v (.p (.int .i64 x0.cap)),.v (.p (.int .u64 x0.remb)),.v (.p (.bool x0.told)),c0_3,.own s0_4 ([c0_4_0])])):Sim (z1z k x0) (ev G X0 37 σ [(.ref l0 o0)] h) (fun r s=>s=([.v (.p (.int .i64 r))],h)):=by
 refine .ev rfl (Sim.ext (zfw _ _ _ _ _) ?_)
 rw [z1z]
 have S0:Fm 35 h [] [] [] (List.replicate 35 []::h):=Fm.start0
 refine .nc ?_
 refine .fa ?_
 refine .op ((S0.lowA ha0).ld (j:=0) rfl) ?_
 refine .ci ?_
 refine .nc ?_
 refine .fa ?_
 refine .op ((S0.lowA ha0).ld (j:=2) rfl) ?_
 refine .ab ?_
 refine .cq ?_ ?_
 ·refine .nc ?_
  refine .fa ?_
  refine .op ((S0.lowA ha0).ld (j:=1) rfl) ?_
  refine .ci ?_
  refine .call (zdv x0.remb) fun r2 cs3 H4 h5 q6=>?_
  cases q6
  refine .ci ?_
  refine .nc ?_
  refine .fa ?_
  refine .op (hc0_3.ld (S0.lowA ha0) (j:=3) rfl) ?_
  refine .call (zhg k x0.tuples (hc0_3.sl (S0.lowA ha0) (j:=3) rfl)) fun r7 cs8 H9 h10 q11=>?_
  cases q11
  refine .or ?_
  refine .ci ?_
  refine .or ?_
  refine .ab ?_
  refine .cq ?_ ?_
  ·refine .call (zdv r7.1) fun r13 cs14 H15 h16 q17=>?_
   cases q17
   refine .ci ?_
   exact .fin (S0.finN (lC (sI _ _).lv lN)) rfl
  exact .fin (S0.finN (lC (sI _ _).lv lN)) rfl
 refine .nc ?_
 refine .fa ?_
 refine .op (hc0_3.ld (S0.lowA ha0) (j:=3) rfl) ?_
 refine .call (zhg k x0.tuples (hc0_3.sl (S0.lowA ha0) (j:=3) rfl)) fun r18 cs19 H20 h21 q22=>?_
 cases q22
 refine .or ?_
 refine .ci ?_
 refine .or ?_
 refine .ab ?_
 refine .cq ?_ ?_
 ·refine .call (zdv r18.1) fun r24 cs25 H26 h27 q28=>?_
  cases q28
  refine .ci ?_
  exact .fin (S0.finN (lC (sI _ _).lv lN)) rfl
 exact .fin (S0.finN (lC (sI _ _).lv lN)) rfl
end
end Go.Ev
namespace Go.Ev
open Go.Proofs
set_option linter.unusedVariables false
set_option linter.unusedSimpArgs false
set_option maxRecDepth 100000
noncomputable section
abbrev KT22:=Exit→Env→H→Option (List C × H)
variable (rec : CallF) (loop : LoopV) (σ : Stamp)
theorem zek (x0:V) (h:H):cvBody G rec loop 40 σ [x0] h =
(nilChk x0).bind fun t1 =>
(fA t1 3).bind fun t2 =>
(ldO false 1 (List.replicate 9 []::h) t2).bind fun t3 =>
(callO rec 82 (4::0::1::0::σ) [t3] (List.replicate 9 []::h) (some 7)).bind fun q4 =>
(callO rec 81 (5::0::1::0::σ) [q4.1] q4.2 (some 8)).bind fun q5 =>
fin true σ q5.2 [q5.1]:=by kernel_rfl
theorem z6e (x0:V) (h:H):cvBody G rec loop 81 σ [x0] h =
(lenO x0).bind fun t1 =>
(castI .i64 t1).bind fun n2 =>
(lenO x0).bind fun t3 =>
(castI .i64 t3).bind fun n4 =>
(slS 3 x0 none (some n2) (some n4)).bind fun t5 =>
fin false σ (List.replicate 9 []::h) [t5]:=by kernel_rfl
theorem za7 (x0:V) (h:H):cvBody G rec loop 82 σ [x0] h =
(binV Try.prog (List.replicate 8 []::h) .eql 28 x0 (.p (.slice .none 0 0))).bind fun t1 =>
(asB t1).bind fun b2 =>
bif b2 then (
fin false σ (List.replicate 8 []::h) [(.p (.slice .none 0 0))])
else (
(bSV Try.prog 28 0 []).bind fun t3 =>
(apO false 3 24 (2::0::1::1::0::σ) 7 (List.replicate 8 []::h) t3 x0).bind fun q4 =>
fin false σ q4.2 [q4.1]):=by kernel_rfl
end
end Go.Ev
namespace Go.Ev
open Go.Proofs
set_option linter.unusedVariables false
set_option linter.unusedSimpArgs false
set_option maxRecDepth 100000
section
variable {β α : Type} {Q : β→α→Prop} {K : Exit × Env × H→Option α}
def z2e (x0:z16):Option ((List z7)) :=
(ze9 24 x0.tuples).bind fun r1 =>
some (r1)
theorem z4s {h:H} {σ:Stamp} (x0:z16) {c0_3:C} (hc0_3:SoC z6 x0.tuples c0_3) (hn0_3:Nn c0_3 3) {s0_4:Stamp} {c0_4_0:C} (hc0_4_0:SoC z5 x0.ends.l c0_4_0) (hn0_4_0:Nn c0_4_0 2) {l0:Loc} {o0:Nat} (ha0:AtC h l0 o0 ([.v (.p (.int .i64 x0.cap)),.v (.p (.int .u64 x0.remb)),.v (.p (.bool x0.told)),c0_3,.own s0_4 ([c0_4_0])])):Sim (z2e x0) (ev G X0 40 σ [(.ref l0 o0)] h) (fun r s=>∃ (v0:V),SlF z6 r v0∧s=([.v v0],h)):=by
 refine .ev rfl (Sim.ext (zek _ _ _ _ _) ?_)
 rw [z2e]
 have S0:Fm 9 h [] [] [] (List.replicate 9 []::h):=Fm.start0
 refine .nc ?_
 refine .fa ?_
 refine .op (hc0_3.ld (S0.lowA ha0) (j:=3) rfl) ?_
 refine .call (zkx (b:=24) (f:=82) (tt:=57) (e:=3) (τ:=fun σ=>_::_::_::_::_::σ) (fun x h=>za7 _ _ _ x h) (hc0_3.sl (S0.lowA ha0) (j:=3) rfl) rfl (by decide) (by decide) (by decide) (by kernel_rfl) (by kernel_rfl) rfl) fun r1 cs2 H3 h4 q5=>?_
 obtain ⟨c6,cs7,h8,h9,q5⟩:=q5
 cases q5
 obtain ⟨v10,H11,e12,S13⟩:=S0.land (dt:=z6) (d:=7) (e:=0) (n:=0) h8 h9 (by decide) rfl
 erw [e12]
 obtain ⟨v15,e16,S17⟩:=clip_D (G:=G) (X:=X0) (i:=0) (f:=81) (fun x h=>z6e _ _ _ x h) S13 rfl rfl rfl
 refine .op (e16) ?_
 obtain ⟨v23,H18,e19,h21,S20⟩:=S17.expFrz (i:=0) (τ:=0::1::σ) rfl rfl
 exact .fin (S20.finE (Ex.st e19 Ex.nil)) ⟨v23,h21,rfl⟩
end
end Go.Ev
namespace Go.Ev
open Go.Proofs
set_option linter.unusedVariables false
set_option linter.unusedSimpArgs false
set_option maxRecDepth 100000
noncomputable section
abbrev KT23:=Exit→Env→H→Option (List C × H)
variable (rec : CallF) (loop : LoopV) (σ : Stamp)
theorem zfg (x0:V) (x1:Int) (h:H):cvBody G rec loop 38 σ [x0,(.p (.int .u64 x1))] h =
(nilChk x0).bind fun t1 =>
(fA t1 1).bind fun t2 =>
((stO true 1 (5::0::σ) (List.replicate 11 []::h) t2 (.p (.int .u64 x1))).map fun h=>(udf,h)).bind fun q3 =>
(nilChk x0).bind fun t4 =>
(fA t4 2).bind fun t5 =>
((stO true 1 (8::0::σ) q3.2 t5 (.p (.bool true))).map fun h=>(udf,h)).bind fun q6 =>
fin false σ q6.2 []:=by kernel_rfl
end
end Go.Ev
namespace Go.Ev
open Go.Proofs
set_option linter.unusedVariables false
set_option linter.unusedSimpArgs false
set_option maxRecDepth 100000
section
variable {β α : Type} {Q : β→α→Prop} {K : Exit × Env × H→Option α}
def z5m (x0:z16) (x1:Int):Option (z16) :=
some ((⟨x0.cap,x1,true,x0.tuples,x0.ends⟩:z16))
theorem zch {h:H} {σ:Stamp} (x0:z16) {c0_3:C} (hc0_3:SoC z6 x0.tuples c0_3) (hn0_3:Nn c0_3 3) {s0_4:Stamp} {c0_4_0:C} (hc0_4_0:SoC z5 x0.ends.l c0_4_0) (hn0_4_0:Nn c0_4_0 2) {l0:Loc} {o0:Nat} (ha0:AtC h l0 o0 ([.v (.p (.int .i64 x0.cap)),.v (.p (.int .u64 x0.remb)),.v (.p (.bool x0.told)),c0_3,.own s0_4 ([c0_4_0])])) (x1:Int):Sim (z5m x0 x1) (ev G X0 38 σ [(.ref l0 o0),(.p (.int .u64 x1))] h) (fun r s=>∃ (cb0_3:C),∃ (sb0_4:Stamp),∃ (cb0_4_0:C),SoC z6 r.tuples cb0_3∧Nn cb0_3 3∧SoC z5 r.ends.l cb0_4_0∧Nn cb0_4_0 2∧s=([],pts h [⟨l0,o0,[.v (.p (.int .i64 r.cap)),.v (.p (.int .u64 r.remb)),.v (.p (.bool r.told)),cb0_3,.own sb0_4 ([cb0_4_0])]⟩])):=by
 refine .ev rfl (Sim.ext (zfg _ _ _ _ _ _) ?_)
 rw [z5m]
 have S0:Fm 11 h [⟨l0,o0,[.v (.p (.int .i64 x0.cap)),.v (.p (.int .u64 x0.remb)),.v (.p (.bool x0.told)),c0_3,.own s0_4 ([c0_4_0])]⟩] [] [] (List.replicate 11 []::h):=Fm.start1 ha0
 refine .nc ?_
 refine .fa ?_
 obtain ⟨H1,e2,S3⟩:=S0.stB (i:=0) (j:=1) (own:=true) (σ:=(5::0::σ)) (x:=(.p (.int .u64 x1))) rfl (sI _ _) rfl
 refine .op (sM e2) ?_
 refine .nc ?_
 refine .fa ?_
 obtain ⟨H4,e5,S6⟩:=S3.stB (i:=0) (j:=2) (own:=true) (σ:=(8::0::σ)) (x:=(.p (.bool true))) rfl (sB _) rfl
 refine .op (sM e5) ?_
 exact .fin (S6.finN lN) ⟨c0_3,s0_4,c0_4_0,hc0_3,hn0_3,hc0_4_0,hn0_4_0,rfl⟩
end
end Go.Ev
namespace Go.Ev
open Go.Proofs
set_option linter.unusedVariables false
set_option linter.unusedSimpArgs false
set_option maxRecDepth 100000
noncomputable section
abbrev KT24:=Exit→Env→H→Option (List C × H)
variable (rec : CallF) (loop : LoopV) (σ : Stamp)
theorem zlq (x0:Int) (h:H):cvBody G rec loop 35 σ [(.p (.int .i64 x0))] h =
(callO rec 69 (3::0::1::0::σ) [] (List.replicate 9 []::h) (some 6)).bind fun q1 =>
(buildV Try.prog 100 [(0,(.p (.int .i64 ((if ((if 1099511627776<x0 then 1099511627776 else x0))>1 then ((if 1099511627776<x0 then 1099511627776 else x0)) else 1))))),(4,q1.1)]).bind fun t2 =>
(boxO true (5::0::1::0::σ) 8 q1.2 t2).bind fun q3 =>
fin false σ q3.2 [q3.1]:=by kernel_rfl
theorem zm8  (h:H):cvBody G rec loop 69 σ [] h =
(buildV Try.prog 139 []).bind fun t1 =>
(boxO true (1::0::1::0::σ) 2 (List.replicate 3 []::h) t1).bind fun q2 =>
fin false σ q2.2 [q2.1]:=by kernel_rfl
end
end Go.Ev
namespace Go.Ev
open Go.Proofs
set_option linter.unusedVariables false
set_option linter.unusedSimpArgs false
set_option maxRecDepth 100000
section
variable {β α : Type} {Q : β→α→Prop} {K : Exit × Env × H→Option α}
def zft :Option (z1q) :=
some ((⟨(([]:List z8))⟩:z1q))
theorem zox {h:H} {σ:Stamp} :Sim (zft ) (ev G X0 69 σ [] h) (fun r s=>∃ (s0:Stamp),∃ (cr0_0:C),SoC z5 r.l cr0_0∧Nn cr0_0 2∧s=([.own s0 [cr0_0]],h)):=by
 refine .ev rfl (Sim.ext (zm8 _ _ _ _) ?_)
 rw [zft]
 have S0:Fm 3 h [] [] [] (List.replicate 3 []::h):=Fm.start0
 refine .op (bldV pN (by kernel_rfl:_=some (.agg [.p (.slice none 0 0)]))) ?_
 obtain ⟨H1,e2,S3⟩:=S0.box (own:=true) (d:=2) (s:=(1::0::1::0::σ)) (xs:=[.p (.slice none 0 0)]) (sC (SlF.nil z5).still sN) (by decide) rfl
 refine .op (e2) ?_
 obtain ⟨H5,e6,S7⟩:=S3.expG (i:=0) (τ:=0::1::σ) rfl rfl
 exact .fin (S7.finE (Ex.st e6 Ex.nil)) ⟨(1::0::1::0::σ),(.v (.p (.slice none 0 0))),(SoC.frz (SlF.nil z5)),(fun v h=>by cases h;simp),rfl⟩
def zbo (x0:Int):Option (z16) :=
(zft).bind fun r1 =>
some ((⟨((if ((if 1099511627776<x0 then 1099511627776 else x0))>1 then ((if 1099511627776<x0 then 1099511627776 else x0)) else 1)),0,false,(([]:List z7)),r1⟩:z16))
theorem zis {h:H} {σ:Stamp} (x0:Int):Sim (zbo x0) (ev G X0 35 σ [(.p (.int .i64 x0))] h) (fun r s=>∃ (s0:Stamp),∃ (cr0_3:C),∃ (sr0_4:Stamp),∃ (cr0_4_0:C),SoC z6 r.tuples cr0_3∧Nn cr0_3 3∧SoC z5 r.ends.l cr0_4_0∧Nn cr0_4_0 2∧s=([.own s0 [.v (.p (.int .i64 r.cap)),.v (.p (.int .u64 r.remb)),.v (.p (.bool r.told)),cr0_3,.own sr0_4 ([cr0_4_0])]],h)):=by
 refine .ev rfl (Sim.ext (zlq _ _ _ _ _) ?_)
 rw [zbo]
 have S0:Fm 9 h [] [] [] (List.replicate 9 []::h):=Fm.start0
 refine .call (zox ) fun r1 cs2 H3 h4 q5=>?_
 obtain ⟨s6,c7,h8,h9,q5⟩:=q5
 cases q5
 obtain ⟨H10,e11,S12⟩:=S0.landG (d:=6) (s:=s6) (cs:=[c7]) (by decide) rfl
 erw [e11]
 refine .op (bldV (pC rfl (pC rfl pN)) (by kernel_rfl:_=some (.agg [(.p (.int .i64 ((if ((if 1099511627776<x0 then 1099511627776 else x0))>1 then ((if 1099511627776<x0 then 1099511627776 else x0)) else 1)))),(.p (.int .u64 0)),(.p (.bool false)),(.p (.slice none 0 0)),(.ref ⟨h.length,6,0,s6,[]⟩ 0)]))) ?_
 obtain ⟨H17,e18,S19⟩:=S12.layR (i:=0) (own:=true) rfl rfl
 obtain ⟨H14,e15,S16⟩:=S19.boxL (d:=8) (s:=(5::0::1::0::σ)) (xs:=[(.p (.int .i64 ((if ((if 1099511627776<x0 then 1099511627776 else x0))>1 then ((if 1099511627776<x0 then 1099511627776 else x0)) else 1)))),(.p (.int .u64 0)),(.p (.bool false)),(.p (.slice none 0 0)),(.ref ⟨h.length,6,0,s6,[]⟩ 0)]) (lo_pl (sI _ _) (lo_pl (sI _ _) (lo_pl (sB _) (lo_pl (SlF.nil z6).still (lo_ow e18 lo_nil))))) (by decide) rfl
 refine .op (e15) ?_
 obtain ⟨H21,e22,S23⟩:=S16.expG (i:=0) (τ:=0::1::σ) rfl rfl
 exact .fin (S23.finE (Ex.st e22 Ex.nil)) ⟨(5::0::1::0::σ),(.v (.p (.slice none 0 0))),s6,c7,(SoC.frz (SlF.nil z6)),(fun v h=>by cases h;simp),h8,h9,rfl⟩
end
end Go.Ev
namespace Go.Ev
namespace Lim
open Srt Alm
abbrev Tu:=z7
abbrev Li:=z16
def t0:Tu:=⟨0,0,0⟩
def OkT (t:Tu):Prop:=(0≤t.Owner∧t.Owner<4294967296)∧0≤t.Rate∧t.Rate<18446744073709551616
def So (l:List Tu):Prop:=l.Pairwise fun a b=>a.Owner<b.Owner
def cut (l:List Tu) (o:Int):List Tu:=l.filter fun x=>x.Owner != o
structure Ok (L:Li):Prop where
 so:So L.tuples
 okt:∀ t∈L.tuples,OkT t
 tok:TOk L.ends.l
 keys:(L.ends.l.map fun d=>d.Key).Perm (L.tuples.map fun t=>t.Owner)
 len:L.tuples.length≤6
theorem Ok.len2 {L:Li} (h:Ok L):L.ends.l.length≤6:=by
 have:=h.keys.length_eq
 simp only [List.length_map] at this
 have:=h.len
 omega
theorem wU {n:Int} (h0:0≤n) (h1:n<18446744073709551616):IntKind.wrap .u64 n=n:=by
 simp only [IntKind.wrap,IntKind.signed,IntKind.bits]
 simp
 omega
theorem tget {l:List Tu} {q:Nat} (h:q<l.length):l.getD q t0=l[q]:=by rw [List.getD_eq_getElem?_getD,List.getElem?_eq_getElem h];rfl
theorem tix {l:List Tu} {q:Nat} (h:q<l.length):ix l (q:Int)=some (l.getD q t0):=by
 rw [tget h];exact ix_at (List.getElem?_eq_getElem h)
theorem cmp32 (a b:Int):z4r a b=some (if a<b then -1 else if b<a then 1 else 0):=by
 unfold z4r z73
 by_cases h1:a<b
 ·simp [h1]
 ·by_cases h2:b<a
  ·simp [h1,h2]
  ·simp [h1,h2]
theorem cmpT (a b:Tu):z4n a b=some (if a.Owner<b.Owner then -1 else if b.Owner<a.Owner then 1 else 0):=by
 unfold z4n
 rw [cmp32];rfl
theorem mid {i j:Nat} (h:i+j<1000000):IntKind.wrap .i64 (Int.fdiv (IntKind.wrap .u64 (IntKind.wrap .i64 ((i:Int)+(j:Int)))) (2^1))=(((i+j) / 2:Nat):Int):=by
 have h1:IntKind.wrap .i64 ((i:Int)+(j:Int))=(i:Int)+(j:Int):=wrap_i64 (by omega) (by omega)
 rw [h1,wU (by omega) (by omega),Int.fdiv_eq_ediv_of_nonneg _ (by decide),show ((2:Int)^1)=2 from rfl]
 have h2:((i:Int)+(j:Int)) / 2=(((i+j) / 2:Nat):Int):=by omega
 rw [h2]
 exact wrap_i64 (by omega) (by omega)
theorem So.get {l:List Tu} (h:So l) {p q:Nat} (hpq:p<q) (hq:q<l.length):(l.getD p t0).Owner<(l.getD q t0).Owner:=by
 rw [tget (by omega),tget hq]
 exact List.pairwise_iff_getElem.1 h p q (by omega) hq hpq
theorem bs_l0 {β:Type} {l:List Tu} {t:Tu} (hs:So l) (kE:List Tu→Int→Int→Tu→Option β) (h1000:l.length≤1000):∀ m i j k:Nat,j≤i+m→m+2≤k→i≤j→j≤l.length→(∀ q,q<i→(l.getD q t0).Owner<t.Owner)→(∀ q,j≤q→q<l.length→t.Owner≤(l.getD q t0).Owner) →
  ∃ n:Nat,zg k kE l (l.length:Int) (i:Int) (j:Int) t=kE l (l.length:Int) (n:Int) t∧n≤l.length∧(∀ q,q<n→(l.getD q t0).Owner<t.Owner)∧(∀ q,n≤q→q<l.length→t.Owner≤(l.getD q t0).Owner):=by
 intro m
 induction m with
 | zero =>
  intro i j k hm hk hij hj h1 h2
  obtain ⟨k,rfl⟩:∃ j,k=j+1:=⟨k-1,by omega⟩
  rw [zg,decide_eq_false (by omega),cond_false]
  exact ⟨i,rfl,by omega,h1,fun q a b=>h2 q (by omega) b⟩
 | succ m ih =>
  intro i j k hm hk hij hj h1 h2
  obtain ⟨k,rfl⟩:∃ j,k=j+1:=⟨k-1,by omega⟩
  rw [zg]
  by_cases hlt:i<j
  ·rw [decide_eq_true (by omega),cond_true,mid (by omega)]
   obtain ⟨c,hc⟩:∃ c,c=(i+j) / 2:=⟨_,rfl⟩
   rw [← hc,tix (by omega),Option.bind_some,cmpT,Option.bind_some]
   by_cases h:(l.getD c t0).Owner<t.Owner
   ·rw [if_pos h,decide_eq_true (by decide),cond_true,show IntKind.wrap .i64 ((c:Int)+1)=((c+1:Nat):Int) from wrap_i64 (by omega) (by omega)]
    refine ih (c+1) j k (by omega) (by omega) (by omega) hj (fun q hq=>?_) h2
    by_cases e:q=c
    ·rw [e];exact h
    ·have:=hs.get (p:=q) (q:=c) (by omega) (by omega)
     omega
   ·have:decide ((if (l.getD c t0).Owner<t.Owner then (-1:Int) else if t.Owner<(l.getD c t0).Owner then 1 else 0)<0)=false:=by
     rw [if_neg h];split<;>rfl
    rw [this,cond_false]
    refine ih i c k (by omega) (by omega) (by omega) (by omega) h1 (fun q hq hq2=>?_)
    by_cases e:q=c
    ·rw [e];omega
    ·have:=hs.get (p:=c) (q:=q) (by omega) hq2
     omega
  ·rw [decide_eq_false (by omega),cond_false]
   exact ⟨i,rfl,by omega,h1,fun q a b=>h2 q (by omega) b⟩
theorem bs_ok {l:List Tu} {t:Tu} (hs:So l) (h1000:l.length≤1000) {k:Nat} (hk:1100≤k):∃ (n:Nat) (b:Bool),z1a k l t=some ((n:Int),b)∧n≤l.length∧(∀ q,q<n→(l.getD q t0).Owner<t.Owner)∧(∀ q,n≤q→q<l.length→t.Owner≤(l.getD q t0).Owner) ∧
  (b=true→n<l.length∧(l.getD n t0).Owner=t.Owner)∧(b=false→n<l.length→t.Owner<(l.getD n t0).Owner):=by
 unfold z1a
 generalize hK:(fun (a:List z7) (b c:Int) (d:z7)=>_)=K
 obtain ⟨n,e,h0,h1,h2⟩:=bs_l0 (t:=t) hs K h1000 l.length 0 l.length k (by omega) (by omega) (by omega) (by omega) (fun q hq=>by omega) (fun q a b=>by omega)
 have e':zg k K l (l.length:Int) 0 (l.length:Int) t=K l (l.length:Int) (n:Int) t:=e
 rw [e',← hK]
 simp only
 by_cases hn:n<l.length
 ·rw [decide_eq_true (by omega),cond_true,tix hn,Option.bind_some,cmpT,Option.bind_some,Option.bind_some]
  refine ⟨n,_,rfl,h0,h1,h2,fun h=>⟨hn,?_⟩,fun h _=>?_⟩
  ·have:=h2 n (Nat.le_refl _) hn
   rw [beq_iff_eq] at h
   split at h
   ·cases h
   ·split at h
    ·cases h
    ·omega
  ·have:=h2 n (Nat.le_refl _) hn
   rw [beq_eq_false_iff_ne] at h
   split at h
   ·omega
   ·split at h
    ·assumption
    ·exact absurd rfl h
 ·rw [decide_eq_false (by omega),cond_false,Option.bind_some]
  exact ⟨n,false,rfl,h0,h1,h2,(fun h=>nomatch h),fun _ h=>absurd h hn⟩
def unt (now:Int):Int:=(z52 now).getD 0
theorem unt_eq (now:Int):z52 now=some (unt now):=by
 unfold unt z52 zbq zbe
 cases hb:decide (now<0)<;>rfl
theorem zsv {l:List Tu} {n:Nat} {t:Tu} (hn:n<l.length):l.set n t=l.take n++t::l.drop (n+1):=by
 rw [List.set_eq_take_append_cons_drop,if_pos hn]
theorem So.cons_mid {A B:List Tu} {t:Tu} (ha:So A) (hb:So B) (h1:∀ a∈A,a.Owner<t.Owner) (h2:∀ b∈B,t.Owner<b.Owner):So (A++t::B):=by
 refine List.pairwise_append.2 ⟨ha,List.pairwise_cons.2 ⟨h2,hb⟩,fun a hA b hB=>?_⟩
 rcases List.mem_cons.1 hB with rfl | hB
 ·exact h1 a hA
 ·have:=h1 a hA;have:=h2 b hB;omega
theorem zb5 {l:List Tu} {o:Int} (h:∀ x∈l,x.Owner≠o):cut l o=l:=List.filter_eq_self.2 fun x hx=>bne_iff_ne.2 (h x hx)
theorem zrn (l:List D) (o:Int):(dropK l o).map (fun d=>d.Key)=(l.map fun d=>d.Key).filter (fun x=>x != o):=by
 unfold dropK
 rw [List.filter_map];rfl
theorem zrx (l:List Tu) (o:Int):(cut l o).map (fun t=>t.Owner)=(l.map fun t=>t.Owner).filter (fun x=>x != o):=by
 unfold cut
 rw [List.filter_map];rfl
structure Told (L L':Li) (t:Tu) (now:Int):Prop where
 ok:Ok L'
 cap:L'.cap=L.cap
 remb:L'.remb=L.remb
 told:L'.told=L.told
 tuples:L'.tuples.Perm (cut L.tuples t.Owner++[t])
 ends:L'.ends.l.Perm (dropK L.ends.l t.Owner++[⟨unt now,t.Owner⟩])
theorem zr7 {L:Li} {A B:List Tu} {t:Tu} {now:Int} (hL:Ok L) (ht:OkT t) (hc:cut L.tuples t.Owner=A++B) (ha:So A) (hb:So B) (h1:∀ a∈A,a.Owner<t.Owner) (h2:∀ b∈B,t.Owner<b.Owner) (hlen:A.length+B.length+1≤6) {k:Nat} (hk:4000≤k) :
  ∃ e',z4v k L.ends (IntKind.wrap .u64 t.Owner) (unt now)=some e'∧Told L ⟨L.cap,L.remb,L.told,A++t::B,e'⟩ t now:=by
 obtain ⟨⟨o0,o1⟩,_,_⟩:=ht
 have hl2:=hL.len2
 obtain ⟨e',q1,q2,q3⟩:=set_ok (key:=t.Owner) (t:=unt now) hL.tok (by omega) o0 (by omega) hk
 rw [wU o0 (by omega)]
 have hsub:∀ x∈A++B,x∈L.tuples:=fun x hx=>by rw [← hc] at hx;exact (List.mem_filter.1 hx).1
 have hp:(A++t::B).Perm (cut L.tuples t.Owner++[t]):=by
  rw [hc]
  exact List.perm_middle.trans (List.perm_append_singleton t (A++B)).symm
 refine ⟨⟨e'⟩,q1,⟨⟨ha.cons_mid hb h1 h2,fun x hx=>?_,q2,?_,?_⟩,rfl,rfl,rfl,hp,q3⟩⟩
 ·rcases List.mem_append.1 hx with h | h
  ·exact hL.okt x (hsub x (List.mem_append_left _ h))
  ·rcases List.mem_cons.1 h with rfl | h
   ·exact ⟨⟨o0,o1⟩,by assumption,by assumption⟩
   ·exact hL.okt x (hsub x (List.mem_append_right _ h))
 ·refine (q3.map _).trans (List.Perm.trans ?_ (hp.map _).symm)
  rw [List.map_append,List.map_append,zrn,zrx]
  exact (hL.keys.filter _).append_right _
 ·simp only [List.length_append,List.length_cons];omega
theorem ztm {L:Li} {t:Tu} {now:Int} (hL:Ok L) (ht:OkT t) {k:Nat} (hk:4000≤k):∃ r L',z4k k L t now=some (r,L') ∧
  ((r=false∧L'=L∧L.tuples.length=6∧∀ x∈L.tuples,x.Owner≠t.Owner)∨(r=true∧Told L L' t now)):=by
 have hl:=hL.len
 unfold z4k
 obtain ⟨n,b,e,h0,h1,h2,h3,h4⟩:=bs_ok (t:=t) hL.so (by omega) (k:=k) (by omega)
 rw [e,Option.bind_some]
 have m1:∀ a∈L.tuples.take n,a.Owner<t.Owner:=fun a ha=>by
  obtain ⟨q,hq,rfl⟩:=List.mem_iff_getElem.1 ha
  rw [List.length_take] at hq
  have:=h1 q (by omega)
  rwa [tget (by omega),← List.getElem_take (h:=by simpa using hq)] at this
 have sA:So (L.tuples.take n):=hL.so.sublist (List.take_sublist ..)
 cases b with
 | true =>
  obtain ⟨hn,ho⟩:=h3 rfl
  simp only [cond_true]
  rw [tix hn,Option.bind_some]
  have hst:stx L.tuples (n:Int) t=some (L.tuples.take n++t::L.tuples.drop (n+1)):=by
   unfold stx
   rw [if_pos ⟨by omega,by omega⟩,Int.toNat_natCast,zsv hn]
  have m2:∀ b∈L.tuples.drop (n+1),t.Owner<b.Owner:=fun b hb=>by
   obtain ⟨q,hq,rfl⟩:=List.mem_iff_getElem.1 hb
   rw [List.length_drop] at hq
   have:=hL.so.get (p:=n) (q:=n+1+q) (by omega) (by omega)
   rw [ho,tget (q:=n+1+q) (by omega)] at this
   rwa [List.getElem_drop]
  have hc:cut L.tuples t.Owner=L.tuples.take n++L.tuples.drop (n+1):=by
   have hsp:L.tuples=L.tuples.take n++L.tuples.getD n t0::L.tuples.drop (n+1):=by
    rw [tget hn,← List.drop_eq_getElem_cons hn,List.take_append_drop]
   have c1:cut (L.tuples.take n) t.Owner=L.tuples.take n:=zb5 fun x hx e=>by have:=m1 x hx;omega
   have c2:cut (L.tuples.drop (n+1)) t.Owner=L.tuples.drop (n+1):=zb5 fun x hx e=>by have:=m2 x hx;omega
   have c3:cut (L.tuples.getD n t0::L.tuples.drop (n+1)) t.Owner=cut (L.tuples.drop (n+1)) t.Owner:=by
    unfold cut
    rw [List.filter_cons,ho,bne_self_eq_false];rfl
   have c4:cut L.tuples t.Owner=cut (L.tuples.take n++L.tuples.getD n t0::L.tuples.drop (n+1)) t.Owner:=by rw [← hsp]
   rw [c4]
   unfold cut at c1 c2 c3 ⊢
   rw [List.filter_append,c1,c3,c2]
  obtain ⟨e',q1,q2⟩:=zr7 (now:=now) hL ht hc sA (hL.so.sublist (List.drop_sublist ..)) m1 m2 (by rw [List.length_take,List.length_drop];omega) hk
  rw [hst,Option.bind_some,unt_eq,Option.bind_some,q1,Option.bind_some]
  exact ⟨_,_,rfl,.inr ⟨rfl,q2⟩⟩
 | false =>
  simp only [cond_false]
  have m2:∀ b∈L.tuples.drop n,t.Owner<b.Owner:=fun b hb=>by
   obtain ⟨q,hq,rfl⟩:=List.mem_iff_getElem.1 hb
   rw [List.length_drop] at hq
   rw [List.getElem_drop,← tget (q:=n+q) (by omega)]
   have h5:=h4 rfl (by omega)
   by_cases e:q=0
   ·subst e;exact h5
   ·have:=hL.so.get (p:=n) (q:=n+q) (by omega) (by omega)
    omega
  have hne:∀ x∈L.tuples,x.Owner≠t.Owner:=fun x hx e=>by
   rw [← List.take_append_drop n L.tuples] at hx
   rcases List.mem_append.1 hx with h | h
   ·have:=m1 x h;omega
   ·have:=m2 x h;omega
  by_cases hfull:L.tuples.length≥6
  ·rw [decide_eq_true (by omega),cond_true]
   exact ⟨_,_,rfl,.inl ⟨rfl,rfl,by omega,hne⟩⟩
  ·rw [decide_eq_false (by omega),cond_false]
   have hin:ins 24 L.tuples (n:Int) [t]=some (L.tuples.take n++t::L.tuples.drop n):=by
    unfold ins
    rw [if_pos ⟨by omega,by omega,by simp only [List.length_cons,List.length_nil];omega,by simp only [List.length_cons,List.length_nil];omega⟩,Int.toNat_natCast,List.append_assoc]
    rfl
   have hc:cut L.tuples t.Owner=L.tuples.take n++L.tuples.drop n:=by rw [List.take_append_drop];exact zb5 hne
   obtain ⟨e',q1,q2⟩:=zr7 (now:=now) hL ht hc sA (hL.so.sublist (List.drop_sublist ..)) m1 m2 (by rw [List.length_take,List.length_drop];omega) hk
   rw [hin,Option.bind_some,unt_eq,Option.bind_some,q1,Option.bind_some]
   exact ⟨_,_,rfl,.inr ⟨rfl,q2⟩⟩
theorem tick1 {x:Tu} {d:D} (h:OkT x):z3a x d=some (x.Owner==d.Key):=by
 unfold z3a
 obtain ⟨⟨o0,o1⟩,_⟩:=h
 rw [wU o0 (by omega)]
theorem zot {d:D}:∀ (l:List Tu),(∀ t∈l,OkT t)→delF (fun a=>z3a a d) l=some (cut l d.Key)
 | [],_=>rfl
 | x::xs,h=>by
  rw [delF,tick1 (h x (List.mem_cons_self ..)),Option.bind_some,zot xs (fun t ht=>h t (List.mem_cons_of_mem _ ht)),Option.bind_some]
  unfold cut
  rw [List.filter_cons]
  by_cases e:x.Owner=d.Key
  ·rw [e,beq_self_eq_true,cond_true,bne_self_eq_false];rfl
  ·rw [beq_eq_false_iff_ne.2 e,cond_false,if_pos (bne_iff_ne.2 e)]
theorem idx_l0 {l:List Tu} {d:D} (ho:∀ t∈l,OkT t) (h1000:l.length≤1000):∀ m i k:Nat,i+m=l.length→m+5≤k→(∀ q,q<i→(l.getD q t0).Owner≠d.Key) →
  ∃ r,z11 k (fun (_:Unit)=>some (-1)) (fun r=>some r) l d (l.length:Int) (i:Int)=some r∧((r=-1∧∀ x∈l,x.Owner≠d.Key)∨∃ j:Nat,r=(j:Int)∧j<l.length∧(l.getD j t0).Owner=d.Key∧∀ q,q<j→(l.getD q t0).Owner≠d.Key):=by
 intro m
 induction m with
 | zero =>
  intro i k hi hk hq
  obtain ⟨k,rfl⟩:∃ j,k=j+1:=⟨k-1,by omega⟩
  rw [z11,decide_eq_false (by omega),cond_false]
  refine ⟨_,rfl,.inl ⟨rfl,fun x hx=>?_⟩⟩
  obtain ⟨q,hq1,rfl⟩:=List.mem_iff_getElem.1 hx
  have:=hq q (by omega)
  rwa [tget hq1] at this
 | succ m ih =>
  intro i k hi hk hq
  obtain ⟨k,rfl⟩:∃ j,k=j+1:=⟨k-1,by omega⟩
  have hok:OkT (l.getD i t0):=by rw [tget (by omega)];exact ho _ (List.getElem_mem _)
  rw [z11,decide_eq_true (by omega),cond_true,tix (by omega),Option.bind_some,tick1 hok,Option.bind_some]
  by_cases h:(l.getD i t0).Owner=d.Key
  ·rw [beq_iff_eq.2 h,cond_true]
   exact ⟨_,rfl,.inr ⟨i,rfl,by omega,h,hq⟩⟩
  ·rw [beq_eq_false_iff_ne.2 h,cond_false,show IntKind.wrap .i64 ((i:Int)+1)=((i+1:Nat):Int) from wrap_i64 (by omega) (by omega)]
   exact ih (i+1) k (by omega) (by omega) fun q hq2=>by
    by_cases e:q=i
    ·rw [e];exact h
    ·exact hq q (by omega)
theorem zvc {l:List Tu} {d:D} (ho:∀ t∈l,OkT t) (h1000:l.length≤1000) {k:Nat} (hk:1100≤k) :
  delC (z1j k l d) (fun a=>z3a a d) l=some (cut l d.Key):=by
 obtain ⟨r,e,h⟩:=idx_l0 (d:=d) ho h1000 l.length 0 k (by omega) (by omega) (fun q hq=>by omega)
 have e':z1j k l d=some r:=e
 unfold delC
 rw [e',Option.bind_some]
 rcases h with ⟨rfl,h⟩ | ⟨j,rfl,hj,hkey,hq⟩
 ·rw [if_pos rfl,zb5 h]
 ·rw [if_neg (by omega),if_pos ⟨by omega,by omega,by omega⟩,Int.toNat_natCast,zot _ (fun t ht=>ho t (List.mem_of_mem_drop ht)),Option.bind_some]
  congr 1
  have hsp:l=l.take j++l.getD j t0::l.drop (j+1):=by
   rw [tget hj,← List.drop_eq_getElem_cons hj,List.take_append_drop]
  have c1:cut (l.take j) d.Key=l.take j:=zb5 fun x hx=>by
   obtain ⟨q,hq2,rfl⟩:=List.mem_iff_getElem.1 hx
   rw [List.length_take] at hq2
   have:=hq q (by omega)
   rw [tget (by omega)] at this
   rwa [List.getElem_take]
  have c3:cut (l.getD j t0::l.drop (j+1)) d.Key=cut (l.drop (j+1)) d.Key:=by
   unfold cut
   rw [List.filter_cons,hkey,bne_self_eq_false];rfl
  have c4:cut l d.Key=cut (l.take j++l.getD j t0::l.drop (j+1)) d.Key:=by rw [← hsp]
  rw [c4]
  unfold cut at c1 c3 ⊢
  rw [List.filter_append,c1,c3]
def cuts (l:List Tu) (ds:List D):List Tu:=ds.foldl (fun l d=>cut l d.Key) l
theorem zex (ds:List D):∀ l:List Tu,(cuts l ds).Sublist l:=by
 induction ds with
 | nil=>intro l;exact List.Sublist.refl _
 | cons d ds ih=>intro l;exact (ih (cut l d.Key)).trans List.filter_sublist
theorem zpu (ds:List D):∀ (l:List Tu) (x:Tu),x∈cuts l ds↔x∈l∧∀ d∈ds,x.Owner≠d.Key:=by
 induction ds with
 | nil=>intro l x;simp [cuts]
 | cons d ds ih =>
  intro l x
  show x∈cuts (cut l d.Key) ds↔_
  rw [ih]
  unfold cut
  rw [List.mem_filter,bne_iff_ne]
  simp only [List.mem_cons,forall_eq_or_imp]
  exact ⟨fun ⟨⟨a,b⟩,c⟩=>⟨a,b,c⟩,fun ⟨a,b,c⟩=>⟨⟨a,b⟩,c⟩⟩
theorem zu3 {ds:List D} (kE:List D→Li→Option (Int×Li)) (h1000:ds.length≤1000):∀ m i k:Nat,∀ L:Li,i+m=ds.length→m+1110≤k→(∀ t∈L.tuples,OkT t)→L.tuples.length≤1000 →
  z45 k kE ds ds (ds.length:Int) (i:Int) L=kE ds ⟨L.cap,L.remb,L.told,cuts L.tuples (ds.drop i),L.ends⟩:=by
 intro m
 induction m with
 | zero =>
  intro i k L hi hk ho hl
  obtain ⟨k,rfl⟩:∃ j,k=j+1:=⟨k-1,by omega⟩
  rw [z45,decide_eq_false (by omega),cond_false,List.drop_of_length_le (by omega)]
  rfl
 | succ m ih =>
  intro i k L hi hk ho hl
  obtain ⟨k,rfl⟩:∃ j,k=j+1:=⟨k-1,by omega⟩
  have hx:ix ds (i:Int)=some (ds[i]'(by omega)):=ix_at (List.getElem?_eq_getElem (by omega))
  rw [z45,decide_eq_true (by omega),cond_true,hx,Option.bind_some,zvc ho hl (by omega),Option.bind_some,show IntKind.wrap .i64 ((i:Int)+1)=((i+1:Nat):Int) from wrap_i64 (by omega) (by omega)]
  have hsub:∀ t∈cut L.tuples (ds[i]'(by omega)).Key,t∈L.tuples:=fun t ht=>(List.mem_filter.1 ht).1
  rw [ih (i+1) k _ (by omega) (by omega) (fun t ht=>ho t (hsub t ht)) (Nat.le_trans (List.length_filter_le ..) hl),List.drop_eq_getElem_cons (by omega:i<ds.length)]
  rfl
def due (l:List D) (now:Int):List D:=l.filter fun d=>decide (d.f_At≤now)
def rest (l:List D) (now:Int):List D:=l.filter fun d=>!decide (d.f_At≤now)
theorem zim {l:List Tu} (h:So l):(l.map fun t=>t.Owner).Nodup:=by
 rw [List.nodup_iff_pairwise_ne,List.pairwise_map]
 exact h.imp fun h=>by omega
theorem ztq {L:Li} {now:Int} (hL:Ok L) {k:Nat} (hk:4000≤k):∃ L',z3n k L now=some (((due L.ends.l now).length:Int),L')∧Ok L'∧L'.cap=L.cap∧L'.remb=L.remb∧L'.told=L.told∧L'.tuples=cuts L.tuples (due L.ends.l now)∧L'.ends.l=rest L.ends.l now:=by
 have hl:=hL.len
 have hl2:=hL.len2
 unfold z3n
 obtain ⟨n,e,h0,h1,h2⟩:=due_ok (now:=now) hL.tok (by omega) (k:=k) (by omega)
 rw [e,Option.bind_some]
 have hd:due L.ends.l now=L.ends.l.take n:=by
  unfold due
  rw [← List.take_append_drop n L.ends.l,List.filter_append,List.filter_eq_self.2 (fun x hx=>decide_eq_true (h1 x hx)),List.filter_eq_nil_iff.2 (fun x hx=>by simpa using h2 x hx),List.append_nil,List.take_append_drop]
 have hr:rest L.ends.l now=L.ends.l.drop n:=by
  unfold rest
  rw [← List.take_append_drop n L.ends.l,List.filter_append,List.filter_eq_nil_iff.2 (fun x hx=>by simpa using h1 x hx),List.filter_eq_self.2 (fun x hx=>by simpa using h2 x hx),List.nil_append,List.take_append_drop]
 simp only
 rw [← hd,← hr]
 have hdl:(due L.ends.l now).length≤L.ends.l.length:=List.length_filter_le ..
 have:=zu3 (ds:=due L.ends.l now) (fun r57_5 zp0=>some (((r57_5.length:Int)),zp0)) (by omega) (due L.ends.l now).length 0 k ⟨L.cap,L.remb,L.told,L.tuples,⟨rest L.ends.l now⟩⟩ (by omega) (by omega) hL.okt (by simp only;omega)
 rw [List.drop_zero] at this
 refine ⟨_,this,⟨hL.so.sublist (zex ..),fun t ht=>hL.okt t ((zex ..).subset ht),?_,?_,?_⟩,rfl,rfl,rfl,rfl,rfl⟩
 ·simp only
  rw [hr]
  exact ⟨fun x hx=>hL.tok.ok x (List.mem_of_mem_drop hx),fun p q hp hpq hq=>by
   have hlq:q<L.ends.l.length-n:=by rw [List.length_drop] at hq;exact hq
   have:=hL.tok.od (n+p) (n+q) (by omega) (by omega) (by omega)
   unfold g at this ⊢
   rw [zaw (by omega),zaw (by omega)] at this
   rw [zaw (by rw [List.length_drop];omega),zaw (by rw [List.length_drop];omega),List.getElem_drop,List.getElem_drop]
   exact this,hL.tok.nd.sublist ((List.drop_sublist ..).map _)⟩
 ·-- keys
  simp only
  have nd1:=hL.tok.nd
  have nd2:((rest L.ends.l now).map fun d=>d.Key).Nodup:=nd1.sublist ((List.filter_sublist).map _)
  have nd3:((cuts L.tuples (due L.ends.l now)).map fun t=>t.Owner).Nodup:=(zim hL.so).sublist ((zex ..).map _)
  refine (List.perm_ext_iff_of_nodup nd2 nd3).2 fun o=>?_
  rw [List.mem_map,List.mem_map]
  constructor
  ·rintro ⟨d,hd1,rfl⟩
   have hm:d.Key∈L.tuples.map fun t=>t.Owner:=hL.keys.subset (List.mem_map_of_mem (f:=fun d:D=>d.Key) (List.mem_filter.1 hd1).1)
   obtain ⟨t,ht,hk'⟩:=List.mem_map.1 hm
   refine ⟨t,(zpu _ _ _).2 ⟨ht,fun d2 hd2 e2=>?_⟩,hk'⟩
   have hk2:d2.Key=d.Key:=by rw [← e2];exact hk'
   have e3:d2=d:=by
    have i1:=(List.mem_filter.1 hd2).1
    have i2:=(List.mem_filter.1 hd1).1
    obtain ⟨a,ha,rfl⟩:=List.mem_iff_getElem.1 i1
    obtain ⟨b,hb,rfl⟩:=List.mem_iff_getElem.1 i2
    have hpw:=List.pairwise_iff_getElem.1 (List.pairwise_map.1 (List.nodup_iff_pairwise_ne.1 nd1))
    rcases Nat.lt_trichotomy a b with h | h | h
    ·exact absurd hk2 (hpw a b ha hb h)
    ·subst h;rfl
    ·exact absurd hk2.symm (hpw b a hb ha h)
   subst e3
   have a1:=(List.mem_filter.1 hd1).2
   have a2:=(List.mem_filter.1 hd2).2
   rw [a2] at a1;cases a1
  ·rintro ⟨t,ht,rfl⟩
   obtain ⟨ht1,ht2⟩:=(zpu _ _ _).1 ht
   have hm:t.Owner∈L.ends.l.map fun d=>d.Key:=hL.keys.symm.subset (List.mem_map_of_mem (f:=fun t:Tu=>t.Owner) ht1)
   obtain ⟨d,hd1,hk'⟩:=List.mem_map.1 hm
   refine ⟨d,List.mem_filter.2 ⟨hd1,?_⟩,hk'⟩
   cases hdec:decide (d.f_At≤now) with
   | false=>rfl
   | true=>exact absurd hk'.symm (ht2 d (List.mem_filter.2 ⟨hd1,hdec⟩))
 ·simp only
  exact Nat.le_trans (zex ..).length_le hl
def rb (x:Int):Int:=if 1099511627776<x / 8 then 1099511627776 else x / 8
theorem rb_ok {x:Int} (h0:0≤x) (h1:x<18446744073709551616):z6u x=some (rb x):=by
 unfold z6u rb
 have e:Int.tdiv x 8=x / 8:=Int.tdiv_eq_ediv_of_nonneg h0
 rw [e,wU (by omega) (by omega),wrap_i64 (by split<;>omega) (by split<;>omega)]
structure IsLo (l:List Tu) (m:Int):Prop where
 top:m≤1099511627776
 le:∀ t∈l,m≤t.Rate
 one:m=1099511627776∨∃ t∈l,m=t.Rate
theorem IsLo.uniq {l l':List Tu} {m n:Int} (h:IsLo l m) (h':IsLo l' n) (he:∀ t,t∈l↔t∈l'):m=n:=by
 have h1:=h.top;have h2:=h'.top
 have a:m≤n:=by
  rcases h'.one with e | ⟨t,ht,e⟩
  ·omega
  ·have:=h.le t ((he t).2 ht);omega
 have b:n≤m:=by
  rcases h.one with e | ⟨t,ht,e⟩
  ·omega
  ·have:=h'.le t ((he t).1 ht);omega
 omega
theorem zub {l:List Tu} (h1000:l.length≤1000) (kE:List Tu→Int→Option (Int×Bool)):∀ m i k:Nat,∀ n:Int,i+m=l.length→m+5≤k→IsLo (l.take i) n→∃ n',z5r k kE l n l (l.length:Int) (i:Int)=kE l n'∧IsLo l n':=by
 intro m
 induction m with
 | zero =>
  intro i k n hi hk hn
  obtain ⟨k,rfl⟩:∃ j,k=j+1:=⟨k-1,by omega⟩
  rw [z5r,decide_eq_false (by omega),cond_false]
  rw [List.take_of_length_le (by omega)] at hn
  exact ⟨n,rfl,hn⟩
 | succ m ih =>
  intro i k n hi hk hn
  obtain ⟨k,rfl⟩:∃ j,k=j+1:=⟨k-1,by omega⟩
  have hil:i<l.length:=by omega
  rw [z5r,decide_eq_true (by omega),cond_true,tix (by omega),Option.bind_some,show IntKind.wrap .i64 ((i:Int)+1)=((i+1:Nat):Int) from wrap_i64 (by omega) (by omega),tget hil]
  refine ih (i+1) k _ (by omega) (by omega) ?_
  have ht:l.take (i+1)=l.take i++[l[i]]:=by rw [List.take_add_one,List.getElem?_eq_getElem hil];rfl
  rw [ht]
  have h1:=hn.top
  refine ⟨by split<;>omega,fun t ht=>?_,?_⟩
  ·rcases List.mem_append.1 ht with h | h
   ·have:=hn.le t h;split<;>omega
   ·rw [List.mem_singleton.1 h];split<;>omega
  ·split
   ·exact .inr ⟨l[i],List.mem_append_right _ (List.mem_singleton.2 rfl),rfl⟩
   ·rcases hn.one with e | ⟨t,ht,e⟩
    ·exact .inl e
    ·exact .inr ⟨t,List.mem_append_left _ ht,e⟩
def rv (L:Li) (m:Int):Int :=
 let c:=if L.told=true then (if rb L.remb<L.cap then rb L.remb else L.cap) else L.cap
 if L.tuples=[] then c else if rb m<c then rb m else c
theorem zuw {L:Li} (hL:Ok L) (hr:0≤L.remb∧L.remb<18446744073709551616) {k:Nat} (hk:4000≤k):∃ m,IsLo L.tuples m∧0≤m∧z1z k L=some (rv L m):=by
 have hl:=hL.len
 obtain ⟨m,e,h⟩:=zub (l:=L.tuples) (by omega) (fun r24_0 r24_4=>bif ((r24_0.length:Int))==0 then some (0,false) else some (r24_4,true)) L.tuples.length 0 k 1099511627776 (by omega) (by omega) ⟨by omega,fun t ht=>by simp at ht,.inl rfl⟩
 have hm0:0≤m:=by
  rcases h.one with e | ⟨t,ht,e⟩
  ·omega
  ·have:=(hL.okt t ht).2.1;omega
 have hm1:=h.top
 refine ⟨m,h,hm0,?_⟩
 have e':zaz k L.tuples=(bif ((L.tuples.length:Int))==0 then some (0,false) else some (m,true)):=e
 unfold z1z rv
 rw [e',rb_ok hr.1 hr.2]
 cases ht:L.tuples with
 | nil=>cases L.told<;>simp
 | cons x xs =>
  have hne:(((x::xs).length:Int)==0)=false:=beq_eq_false_iff_ne.2 (by simp only [List.length_cons];omega)
  rw [hne]
  simp only [cond_false,Option.bind_some,cond_true,rb_ok hm0 (by omega)]
  cases L.told<;>simp
theorem new_ok (c:Int):zbo c=some ⟨(if (if 1099511627776<c then 1099511627776 else c)>1 then (if 1099511627776<c then 1099511627776 else c) else 1),0,false,[],⟨[]⟩⟩:=rfl
theorem ok_new {c r:Int} {b:Bool}:Ok ⟨c,r,b,[],⟨[]⟩⟩:=⟨List.Pairwise.nil,fun t ht=>(by cases ht),⟨fun x hx=>(by cases hx),fun p q _ _ h=>absurd h (Nat.not_lt_zero _),List.Pairwise.nil⟩,.refl _,Nat.zero_le _⟩
end Lim
end Go.Ev
namespace Go.Ev
open Go.Proofs
set_option linter.unusedVariables false
set_option linter.unusedSimpArgs false
set_option maxRecDepth 100000
noncomputable section
abbrev KT25:=Exit→Env→H→Option (List C × H)
variable (rec : CallF) (loop : LoopV) (σ : Stamp)
def zcs:Code:=(codeAt (bodyOf Try.f83) [1,1,1,1,1,0,1,0,0])
def zcr:Lv:=⟨32,4,[(0,32)]⟩
def zia:KT25:=(kBlock 0 (kSeq G rec loop (codeAt (bodyOf Try.f83) [1,1,1,1,1,1]) ⟨4,4,[]⟩ (1::1::1::1::1::0::σ) (finC G true Try.f83 (1::σ))))
theorem zlf (x0:V) (h:H):cvBody G rec loop 83 σ [x0] h =
(callO rec 121 (1::0::1::0::σ) [x0] (List.replicate 27 []::h) (some 8)).bind fun q1 =>
(lenO q1.1).bind fun t2 =>
(castI .i64 t2).bind fun n3 =>
bif n3==0 then (
fin true σ q1.2 [(.p (.slice .none 0 0))])
else (
(callO rec 122 (1::0::1::1::1::0::σ) [q1.1,(.clo 123 [])] q1.2 (some 13)).bind fun q4 =>
(some (alO [.p (.int .u32 0),.p (.int .u64 0),.p (.int .i64 0)] (2::0::1::1::1::0::σ) 4 q4.2)).bind fun q5 =>
((stO false 3 (3::0::1::1::1::0::σ) q5.2 q5.1 q4.1).map fun h=>(udf,h)).bind fun q6 =>
(loop zcs zcr (1::0::1::1::1::1::1::0::σ) (envL [(3,q1.1),(4,q5.1),(5,(.p (.slice .none 0 0))),(6,(.p (.bool true)))]) q6.2).bind fun r7=>zia rec loop σ r7.1 r7.2.1 r7.2.2):=by kernel_rfl
theorem zow (x3:V) (x4:V) (x5:V) (x6:Bool) (h:H):z1n G rec loop zcs zcr σ (envL [(3,x3),(4,x4),(5,x5),(6,(.p (.bool x6)))]) h =
bif x6 then (
(ldO true 3 h x4).bind fun t8 =>
(bSV Try.prog 28 1 [(0,t8)]).bind fun t9 =>
(apO false 3 24 (3::0::1::0::σ) 24 h x5 t9).bind fun q10 =>
(ldO true 3 q10.2 x4).bind fun t11 =>
(callO rec 125 (2::1::1::0::σ) [x3,t11] q10.2 (some 18)).bind fun q12 =>
(extV q12.1 0).bind fun t13 =>
(extV q12.1 1).bind fun t14 =>
(asB t14).bind fun b15 =>
((stO false 3 (6::1::1::0::σ) q12.2 x4 t13).map fun h=>(udf,h)).bind fun q16 =>
loop zcs zcr (1::σ) (envL [(3,x3),(4,x4),(5,q10.1),(6,(.p (.bool b15)))]) q16.2)
else (
some ((.exit 0),(envL [(5,x5)]),h)):=by kernel_rfl
theorem znb (x5:V) (h:H):zia rec loop σ (.exit 0) (envL [(5,x5)]) h =
(callO rec 81 (1::0::1::1::1::1::1::1::0::σ) [x5] h (some 26)).bind fun q17 =>
fin true σ q17.2 [q17.1]:=by kernel_rfl
def zcv:Code:=(codeAt (bodyOf Try.f121) [1,1,0,1,0,0])
def zct:Lv:=⟨8,4,[(0,8)]⟩
def ziu:KT25:=(kBlock 0 (kSeq G rec loop (codeAt (bodyOf Try.f121) [1,1,1]) ⟨4,4,[]⟩ (1::1::0::σ) (finC G true Try.f121 (1::σ))))
theorem zm3 (x0:V) (h:H):cvBody G rec loop 121 σ [x0] h =
(lenO x0).bind fun t1 =>
(castI .i64 t1).bind fun n2 =>
(loop zcv zct (1::0::1::1::0::σ) (envL [(3,(.p (.slice .none 0 0))),(6,x0),(7,(.p (.int .i64 n2))),(8,(.p (.int .i64 0)))]) (List.replicate 19 []::h)).bind fun r3=>ziu rec loop σ r3.1 r3.2.1 r3.2.2:=by kernel_rfl
theorem zpt (x3:V) (x6:V) (x7:Int) (x8:Int) (h:H):z1n G rec loop zcv zct σ (envL [(3,x3),(6,x6),(7,(.p (.int .i64 x7))),(8,(.p (.int .i64 x8)))]) h =
bif decide (x8<x7) then (
(iS 3 x6 x8).bind fun t4 =>
(ldO true 3 h t4).bind fun t5 =>
(some (alO [.p (.int .u32 0),.p (.int .u64 0),.p (.int .i64 0)] (2::0::0::1::1::0::σ) 5 h)).bind fun q6 =>
((stO false 3 (3::0::0::1::1::0::σ) q6.2 q6.1 t5).map fun h=>(udf,h)).bind fun q7 =>
(ldO true 3 q7.2 q6.1).bind fun t8 =>
(callO rec 147 (2::1::0::1::1::0::σ) [t8] q7.2 (some 14)).bind fun q9 =>
(bSV Try.prog 28 1 [(0,q9.1)]).bind fun t10 =>
(apO false 3 24 (4::1::0::1::1::0::σ) 16 q9.2 x3 t10).bind fun q11 =>
loop zcv zct (1::σ) (envL [(3,q11.1),(6,x6),(7,(.p (.int .i64 x7))),(8,(.p (.int .i64 (IntKind.wrap .i64 (x8+1)))))]) q11.2)
else (
some ((.exit 0),(envL [(3,x3)]),h)):=by kernel_rfl
theorem zmx (x3:V) (h:H):ziu rec loop σ (.exit 0) (envL [(3,x3)]) h =
fin true σ h [x3]:=by kernel_rfl
theorem zks (x0:V) (h:H):cvBody G rec loop 147 σ [x0] h =
(boxO false (0::0::0::σ) 1 (List.replicate 13 []::h) x0).bind fun q1 =>
(some (alO [.p (.int .u32 0),.p (.int .u64 0),.p (.int .i64 0)] (1::0::0::σ) 2 q1.2)).bind fun q2 =>
(fA q1.1 0).bind fun t3 =>
(ldO false 1 q2.2 t3).bind fun t4 =>
(castI .u32 t4).bind fun n5 =>
(fA q1.1 1).bind fun t6 =>
(ldO false 1 q2.2 t6).bind fun t7 =>
(castI .u64 t7).bind fun n8 =>
(fA q1.1 2).bind fun t9 =>
(ldO false 1 q2.2 t9).bind fun t10 =>
(castI .i64 t10).bind fun n11 =>
(buildV Try.prog 57 [(0,(.p (.int .u32 n5))),(1,(.p (.int .u64 ((if 1099511627776<n8 then 1099511627776 else n8))))),(2,(.p (.int .i64 ((if ((if 511<n11 then 511 else n11))>0 then ((if 511<n11 then 511 else n11)) else 0)))))]).bind fun t12 =>
((stO false 3 (10::0::1::0::σ) q2.2 q2.1 t12).map fun h=>(udf,h)).bind fun q13 =>
((ldO true 3 q13.2 q2.1).bind fun t14=>(some []).map (t14::·)).bind fun t15=>fin false σ q13.2 t15:=by kernel_rfl
end
end Go.Ev
