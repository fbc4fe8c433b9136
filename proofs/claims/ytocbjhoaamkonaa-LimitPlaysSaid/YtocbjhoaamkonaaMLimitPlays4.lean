/- A part of the proof that follows: What one can take is what the document says, for any calls. -/
import Derived.Test.YtocbjhoaamkonaaMLimitPlays3
import Derived.KernelRfl
namespace Go.Ev
open Go.Proofs
set_option linter.unusedVariables false
set_option linter.unusedSimpArgs false
set_option maxRecDepth 100000
section
variable {β α : Type} {Q : β→α→Prop} {K : Exit × Env × H→Option α}
def zcq (x0:z7):Option (z7) :=
some (((⟨x0.Owner,((if 1099511627776<x0.Rate then 1099511627776 else x0.Rate)),((if ((if 511<x0.Over then 511 else x0.Over))>0 then ((if 511<x0.Over then 511 else x0.Over)) else 0))⟩:z7)))
theorem zoo {h:H} {σ:Stamp} (x0:z7) {u0:List V} (hu0:z6.R x0 u0):Sim (zcq x0) (ev G X0 147 σ [(.agg u0)] h) (fun r s=>∃ (w0:List V),z6.R r w0∧s=([.v (.agg w0)],h)):=by
 refine .ev rfl (Sim.ext (zks _ _ _ _ _) ?_)
 rw [zcq]
 obtain rfl:=z6.inv hu0
 have S0:Fm 13 h [] [] [] (List.replicate 13 []::h):=Fm.start0
 obtain ⟨H1,e2,S3⟩:=S0.box (own:=false) (d:=1) (s:=(0::0::0::σ)) (xs:=[(.p (.int .u32 x0.Owner)),(.p (.int .u64 x0.Rate)),(.p (.int .i64 x0.Over))]) (sC (sI _ _) (sC (sI _ _) (sC (sI _ _) sN))) (by decide) rfl
 refine .op (e2) ?_
 obtain ⟨H5,e6,S7⟩:=S3.al (d:=2) (s:=(1::0::0::σ)) (z:=[(.p (.int .u32 0)),(.p (.int .u64 0)),(.p (.int .i64 0))]) (by decide) rfl
 refine .op (congrArg some e6) ?_
 refine .fa ?_
 refine .op ((S7.atG (i:=1) rfl).ld (j:=0) rfl) ?_
 refine .ci ?_
 refine .fa ?_
 refine .op ((S7.atG (i:=1) rfl).ld (j:=1) rfl) ?_
 refine .ci ?_
 refine .fa ?_
 refine .op ((S7.atG (i:=1) rfl).ld (j:=2) rfl) ?_
 refine .ci ?_
 refine .op (bldV (pC rfl (pC rfl (pC rfl pN))) (by kernel_rfl:_=some (.agg [.p (.int .u32 x0.Owner),.p (.int .u64 ((if 1099511627776<x0.Rate then 1099511627776 else x0.Rate))),.p (.int .i64 ((if ((if 511<x0.Over then 511 else x0.Over))>0 then ((if 511<x0.Over then 511 else x0.Over)) else 0)))]))) ?_
 obtain ⟨H9,e10,S11⟩:=S7.stGv (i:=0) (j:=0) (own:=false) (σ:=(10::0::1::0::σ)) (xs:=[.p (.int .u32 x0.Owner),.p (.int .u64 ((if 1099511627776<x0.Rate then 1099511627776 else x0.Rate))),.p (.int .i64 ((if ((if 511<x0.Over then 511 else x0.Over))>0 then ((if 511<x0.Over then 511 else x0.Over)) else 0)))]) rfl rfl (sC (sI _ _) (sC (sI _ _) (sC (sI _ _) sN))) rfl rfl
 refine .op (sM e10) ?_
 have e12:ldO true 3 H9 (.ref ⟨h.length,2,0,(1::0::0::σ),[]⟩ 0)=some (.agg [.p (.int .u32 x0.Owner),.p (.int .u64 ((if 1099511627776<x0.Rate then 1099511627776 else x0.Rate))),.p (.int .i64 ((if ((if 511<x0.Over then 511 else x0.Over))>0 then ((if 511<x0.Over then 511 else x0.Over)) else 0)))]):=(S11.atG (i:=0) rfl).ldVs (j:=0) rfl rfl (by decide)
 refine .op (congrArg (Option.bind · _) e12) ?_
 exact .fin (S11.finN (lC (Stills.lv (z6.still (z6.mk))) lN)) ⟨_,(z6.mk),rfl⟩
def z6k {β:Type} (k:Nat) (kE0:(List z7)→Option β) (x3:(List z7)) (x6:(List z7)) (x7:Int) (x8:Int):Option β:=match k with
| 0=>none
| k+1 =>
bif decide (x8<x7) then (
(ix x6 x8).bind fun a10 =>
(zcq a10).bind fun r22 =>
(ap 24 x3 ([r22])).bind fun a30 =>
z6k k kE0 a30 x6 x7 (IntKind.wrap .i64 (x8+1)))
else (
kE0 x3)
def zbv (k:Nat) (x0:(List z7)):Option ((List z7)) :=
z6k k (fun r42_3 =>
some (r42_3)) (([]:List z7)) x0 ((x0.length:Int)) 0
theorem zlt {h:H}  {kE0:(List z7)→Option β} (hE0:∀ (q3:(List z7)) (v38:V) (H36:Go.Ev.H) (_:Fm 19 h [] [] [⟨[16],v38,z6,q3⟩] H36),Sim (kE0 q3) (K ((.exit 0),(envL [(3,v38)]),H36)) Q) (k:Nat):∀ (x3:(List z7)) (x6:(List z7)) (x7:Int) (x8:Int) (v5:V) (v7:V) (h8:SlH h z6 x6 v7) (H3:Go.Ev.H) (_:Fm 19 h [] [] [⟨[16],v5,z6,x3⟩] H3) {σ:Stamp},Sim (z6k k kE0 x3 x6 x7 x8) ((cvL G X0 zcv zct σ (envL [(3,v5),(6,v7),(7,(.p (.int .i64 x7))),(8,(.p (.int .i64 x8)))]) H3).bind K) Q:=by
 induction k with
 | zero=>intros;exact .no
 | succ k ih =>
  intro x3 x6 x7 x8 v5 v7 h8 H3 S4 σ
  rw [z6k]
  refine .round (Sim.ext (zpt _ _ _ _ _ _ _ _) ?_)
  refine .cq ?_ ?_
  ·refine .bd fun a10 h11=>?_
   refine .op ((S4.low h8).iS h11 rfl) ?_
   obtain ⟨w13,h14,hE12⟩:=(S4.low h8).el h11 rfl
   obtain rfl:=z6.inv h14
   refine .op (hE12.all (by simp)) ?_
   obtain ⟨H15,e16,S17⟩:=S4.al (d:=5) (s:=(2::0::0::1::1::0::σ)) (z:=[(.p (.int .u32 0)),(.p (.int .u64 0)),(.p (.int .i64 0))]) (by decide) rfl
   refine .op (congrArg some e16) ?_
   obtain ⟨H19,e20,S21⟩:=S17.stGv (i:=0) (j:=0) (own:=false) (σ:=(3::0::0::1::1::0::σ)) (xs:=[.p (.int .u32 a10.Owner),.p (.int .u64 a10.Rate),.p (.int .i64 a10.Over)]) rfl rfl (sC (sI _ _) (sC (sI _ _) (sC (sI _ _) sN))) rfl rfl
   refine .op (sM e20) ?_
   refine .op ((S21.atG (i:=0) rfl).ldVs (j:=0) (xs:=[.p (.int .u32 a10.Owner),.p (.int .u64 a10.Rate),.p (.int .i64 a10.Over)]) rfl rfl (by decide)) ?_
   refine .call (zoo a10 (show z6.R a10 [.p (.int .u32 a10.Owner),.p (.int .u64 a10.Rate),.p (.int .i64 a10.Over)] from (z6.mk))) fun r22 cs23 H24 h25 q26=>?_
   obtain ⟨w27,h28,q26⟩:=q26
   cases q26
   obtain rfl:=z6.inv h28
   have h29:SlF z6 [r22] (.fz [(.p (.int .u32 r22.Owner)),(.p (.int .u64 r22.Rate)),(.p (.int .i64 r22.Over))] 1 3 true):=SlF.lit (cs:=[(.p (.int .u32 r22.Owner)),(.p (.int .u64 r22.Rate)),(.p (.int .i64 r22.Over))]) (RL.cons h28 RL.nil) rfl rfl true
   refine .op (bldS (pC (c:=[(.p (.int .u32 r22.Owner)),(.p (.int .u64 r22.Rate)),(.p (.int .i64 r22.Over))]) rfl pN) (by kernel_rfl:_=some (vOf h29))) ?_
   refine .bd fun a30 h31=>?_
   obtain ⟨v32,H33,e34,S35⟩:=S21.app (i:=0) (d:=16) (e:=3) (own:=false) (σ:=(4::1::0::1::1::0::σ)) rfl (h29.h H19).y h31 rfl (by decide) (by decide) rfl
   refine .op (e34) ?_
   exact ih a30 x6 x7 (IntKind.wrap .i64 (x8+1)) v32 v7 h8 H33 (S35.wk2 aN (aC ⟨[16,16],by simp,aM 0 rfl⟩ aN))
  exact hE0 x3 v5 H3 (S4.wk2 aN (aC ⟨[16],by simp,aM 0 rfl⟩ aN))
theorem zov (k:Nat) {h:H} {σ:Stamp} (x0:List z7) {u0:V} (hu0:SlH h z6 x0 u0):Sim (zbv k x0) (ev G X0 121 σ [u0] h) (fun r s=>∃ (v0:V),SlF z6 r v0∧s=([.v v0],h)):=by
 refine .ev rfl (Sim.ext (zm3 _ _ _ _ _) ?_)
 rw [zbv]
 have S0:Fm 19 h [] [] [] (List.replicate 19 []::h):=Fm.start0
 refine .op ((S0.low hu0).len) ?_
 refine .ci ?_
 have S41:=S0.nil z6 []
 refine .as (zlt ?_ k (([]:List z7)) x0 ((x0.length:Int)) 0 (.p (.slice none 0 0)) u0 hu0 (List.replicate 19 []::h) (S41.wk2 aN (aC ⟨[],by simp,aM 0 rfl⟩ aN)))
 ·intro r42_3 v45 H43 S44
  refine .ext (zmx _ _ _ _ _) ?_
  obtain ⟨v52,H47,e48,h50,S49⟩:=S44.expFrz (i:=0) (τ:=0::1::σ) rfl rfl
  exact .fin (S49.finE (Ex.st e48 Ex.nil)) ⟨v52,h50,rfl⟩
end
end Go.Ev
namespace Go.Ev
open Go.Proofs
set_option linter.unusedVariables false
set_option linter.unusedSimpArgs false
set_option maxRecDepth 100000
noncomputable section
abbrev KT26:=Exit→Env→H→Option (List C × H)
variable (rec : CallF) (loop : LoopV) (σ : Stamp)
def za9:Code:=(codeAt (bodyOf Try.f125) [1,1,0,1,0,0])
def zab:Lv:=⟨88,48,[(0,88)]⟩
def zhl:KT26:=(kBlock 0 (kSeq G rec loop (codeAt (bodyOf Try.f125) [1,1,1]) ⟨48,48,[]⟩ (1::1::0::σ) (finC G false Try.f125 (1::σ))))
theorem zl1 (x0:V) (x1:V) (h:H):cvBody G rec loop 125 σ [x0,x1] h =
(boxO false (0::0::0::σ) 3 (List.replicate 53 []::h) x1).bind fun q1 =>
(some (alO [.p (.int .u32 0),.p (.int .u64 0),.p (.int .i64 0)] (1::0::0::σ) 4 q1.2)).bind fun q2 =>
(lenO x0).bind fun t3 =>
(castI .i64 t3).bind fun n4 =>
(loop za9 zab (1::0::1::1::0::σ) (envL [(3,q1.1),(4,q2.1),(6,(.p (.slice .none 0 0))),(10,x0),(11,(.p (.int .i64 n4))),(12,(.p (.int .i64 0)))]) q2.2).bind fun r5=>zhl rec loop σ r5.1 r5.2.1 r5.2.2:=by kernel_rfl
theorem zoh (x3:V) (x4:V) (x6:V) (x10:V) (x11:Int) (x12:Int) (h:H):z1n G rec loop za9 zab σ (envL [(3,x3),(4,x4),(6,x6),(10,x10),(11,(.p (.int .i64 x11))),(12,(.p (.int .i64 x12)))]) h =
bif decide (x12<x11) then (
(iS 3 x10 x12).bind fun t6 =>
(ldO true 3 h t6).bind fun t7 =>
(some (alO [.p (.int .u32 0),.p (.int .u64 0),.p (.int .i64 0)] (2::0::0::1::1::0::σ) 8 h)).bind fun q8 =>
((stO false 3 (3::0::0::1::1::0::σ) q8.2 q8.1 t7).map fun h=>(udf,h)).bind fun q9 =>
(fA q8.1 2).bind fun t10 =>
(ldO false 1 q9.2 t10).bind fun t11 =>
(castI .i64 t11).bind fun n12 =>
(fA x3 2).bind fun t13 =>
(ldO false 1 q9.2 t13).bind fun t14 =>
(castI .i64 t14).bind fun n15 =>
bif decide (n12>n15) then (
(ldO true 3 q9.2 q8.1).bind fun t16 =>
(bSV Try.prog 28 1 [(0,t16)]).bind fun t17 =>
(apO false 3 24 (3::1::1::0::1::1::0::σ) 24 q9.2 x6 t17).bind fun q18 =>
loop za9 zab (1::σ) (envL [(3,x3),(4,x4),(6,q18.1),(10,x10),(11,(.p (.int .i64 x11))),(12,(.p (.int .i64 (IntKind.wrap .i64 (x12+1)))))]) q18.2)
else (
loop za9 zab (1::σ) (envL [(3,x3),(4,x4),(6,x6),(10,x10),(11,(.p (.int .i64 x11))),(12,(.p (.int .i64 (IntKind.wrap .i64 (x12+1)))))]) q9.2))
else (
some ((.exit 0),(envL [(3,x3),(4,x4),(6,x6)]),h)):=by kernel_rfl
theorem zll (x3:V) (x4:V) (x6:V) (h:H):zhl rec loop σ (.exit 0) (envL [(3,x3),(4,x4),(6,x6)]) h =
(lenO x6).bind fun t19 =>
(castI .i64 t19).bind fun n20 =>
bif n20==0 then (
(buildV Try.prog 57 []).bind fun t21 =>
((stO false 3 (1::0::1::0::1::1::1::0::σ) h x4 t21).map fun h=>(udf,h)).bind fun q22 =>
((ldO true 3 q22.2 x4).bind fun t23=>((some []).map ((.p (.bool false))::·)).map (t23::·)).bind fun t24=>fin false σ q22.2 t24)
else (
(callO rec 122 (2::0::1::1::1::1::0::σ) [x6,(.clo 149 [x3])] h (some 32)).bind fun q25 =>
(some (alO [.p (.int .u32 0),.p (.int .u64 0),.p (.int .i64 0)] (3::0::1::1::1::1::0::σ) 9 q25.2)).bind fun q26 =>
((stO false 3 (4::0::1::1::1::1::0::σ) q26.2 q26.1 q25.1).map fun h=>(udf,h)).bind fun q27 =>
(ldO true 3 q27.2 q26.1).bind fun t28 =>
(fA x3 1).bind fun t29 =>
(ldO false 1 q27.2 t29).bind fun t30 =>
(castI .u64 t30).bind fun n31 =>
(fA q26.1 2).bind fun t32 =>
(ldO false 1 q27.2 t32).bind fun t33 =>
(castI .i64 t33).bind fun n34 =>
(fA x3 2).bind fun t35 =>
(ldO false 1 q27.2 t35).bind fun t36 =>
(castI .i64 t36).bind fun n37 =>
(fA x3 2).bind fun t38 =>
(ldO false 1 q27.2 t38).bind fun t39 =>
(castI .i64 t39).bind fun n40 =>
(fA q26.1 1).bind fun t41 =>
(ldO false 1 q27.2 t41).bind fun t42 =>
(castI .u64 t42).bind fun n43 =>
(fA x3 1).bind fun t44 =>
(ldO false 1 q27.2 t44).bind fun t45 =>
(castI .u64 t45).bind fun n46 =>
((stO false 3 (20::0::1::1::1::1::1::0::σ) q27.2 x4 t28).map fun h=>(udf,h)).bind fun q47 =>
need (ldO false 1 q47.2 t44=some (.p (.int .u64 n46))) (
need (ldO false 1 q47.2 t41=some (.p (.int .u64 n43))) (
need ((some (.p (.int .u64 (IntKind.wrap .u64 n40))):Option V)=some (.p (.int .u64 (IntKind.wrap .u64 n40)))) (
need (ldO false 1 q47.2 t38=some (.p (.int .i64 n40))) (
need ((some (.p (.int .u64 (IntKind.wrap .u64 (IntKind.wrap .i64 (n34-n37))))):Option V)=some (.p (.int .u64 (IntKind.wrap .u64 (IntKind.wrap .i64 (n34-n37)))))) (
need (ldO false 1 q47.2 t35=some (.p (.int .i64 n37))) (
need (ldO false 1 q47.2 t32=some (.p (.int .i64 n34))) (
need (ldO false 1 q47.2 t29=some (.p (.int .u64 n31))) (
((ldO true 3 q47.2 x4).bind fun t48=>((some []).map ((.p (.bool (decide ((IntKind.wrap .u64 (n31*(IntKind.wrap .u64 (IntKind.wrap .i64 (n34-n37)))))>(IntKind.wrap .u64 ((IntKind.wrap .u64 n40)*(IntKind.wrap .u64 (n43-n46))))))))::·)).map (t48::·)).bind fun t49=>fin false σ q47.2 t49))))))))):=by kernel_rfl
def z2a:Code:=(codeAt (bodyOf Try.f122) [1,1,1,0,1,0,0])
def z29:Lv:=⟨48,16,[(0,48)]⟩
def z6d:KT26:=(kBlock 0 (kSeq G rec loop (codeAt (bodyOf Try.f122) [1,1,1,1]) ⟨16,16,[]⟩ (1::1::1::0::σ) (finC G false Try.f122 (1::σ))))
theorem z5e (x0:V) (x1:V) (h:H):cvBody G rec loop 122 σ [x0,x1] h =
(some (alO [.p (.int .u32 0),.p (.int .u64 0),.p (.int .i64 0)] (0::0::0::σ) 4 (List.replicate 33 []::h))).bind fun q1 =>
(lenO x0).bind fun t2 =>
(castI .i64 t2).bind fun n3 =>
bif decide (n3<1) then (
none)
else (
(iS 3 x0 0).bind fun t4 =>
(ldO true 3 q1.2 t4).bind fun t5 =>
(some (alO [.p (.int .u32 0),.p (.int .u64 0),.p (.int .i64 0)] (3::0::1::1::0::σ) 5 q1.2)).bind fun q6 =>
((stO false 3 (4::0::1::1::0::σ) q6.2 q6.1 t5).map fun h=>(udf,h)).bind fun q7 =>
(loop z2a z29 (1::0::1::1::1::0::σ) (envL [(0,x0),(1,x1),(4,q1.1),(5,q6.1),(6,(.p (.int .i64 1)))]) q7.2).bind fun r8=>z6d rec loop σ r8.1 r8.2.1 r8.2.2):=by kernel_rfl
theorem z6b (x0:V) (x1:V) (x4:V) (x5:V) (x6:Int) (h:H):z1n G rec loop z2a z29 σ (envL [(0,x0),(1,x1),(4,x4),(5,x5),(6,(.p (.int .i64 x6)))]) h =
(lenO x0).bind fun t9 =>
(castI .i64 t9).bind fun n10 =>
bif decide (x6<n10) then (
(iS 3 x0 x6).bind fun t11 =>
(ldO true 3 h t11).bind fun t12 =>
(ldO true 3 h x5).bind fun t13 =>
(cloO rec x1 (6::0::0::1::0::σ) [t12,t13] h (some 26)).bind fun q14 =>
(castI .i64 q14.1).bind fun n15 =>
bif decide (n15<0) then (
(iS 3 x0 x6).bind fun t16 =>
(ldO true 3 q14.2 t16).bind fun t17 =>
((stO false 3 (4::1::0::1::0::σ) q14.2 x5 t17).map fun h=>(udf,h)).bind fun q18 =>
loop z2a z29 (1::σ) (envL [(0,x0),(1,x1),(4,x4),(5,x5),(6,(.p (.int .i64 (IntKind.wrap .i64 (x6+1)))))]) q18.2)
else (
loop z2a z29 (1::σ) (envL [(0,x0),(1,x1),(4,x4),(5,x5),(6,(.p (.int .i64 (IntKind.wrap .i64 (x6+1)))))]) q14.2))
else (
some ((.exit 0),(envL [(4,x4),(5,x5)]),h)):=by kernel_rfl
theorem z5u (x4:V) (x5:V) (h:H):z6d rec loop σ (.exit 0) (envL [(4,x4),(5,x5)]) h =
(ldO true 3 h x5).bind fun t19 =>
((stO false 3 (1::0::1::1::1::1::0::σ) h x4 t19).map fun h=>(udf,h)).bind fun q20 =>
((ldO true 3 q20.2 x4).bind fun t21=>(some []).map (t21::·)).bind fun t22=>fin false σ q20.2 t22:=by kernel_rfl
theorem zii (x0:V) (x1:V) (x2:V) (h:H):cvBody G rec loop 149 σ [x0,x1,x2] h =
(boxO false (0::0::0::σ) 3 (List.replicate 36 []::h) x0).bind fun q1 =>
(boxO false (1::0::0::σ) 4 q1.2 x1).bind fun q2 =>
(fA q1.1 1).bind fun t3 =>
(ldO false 1 q2.2 t3).bind fun t4 =>
(castI .u64 t4).bind fun n5 =>
(fA x2 1).bind fun t6 =>
(ldO false 1 q2.2 t6).bind fun t7 =>
(castI .u64 t7).bind fun n8 =>
(fA q2.1 2).bind fun t9 =>
(ldO false 1 q2.2 t9).bind fun t10 =>
(castI .i64 t10).bind fun n11 =>
(fA x2 2).bind fun t12 =>
(ldO false 1 q2.2 t12).bind fun t13 =>
(castI .i64 t13).bind fun n14 =>
(fA q2.1 1).bind fun t15 =>
(ldO false 1 q2.2 t15).bind fun t16 =>
(castI .u64 t16).bind fun n17 =>
(fA x2 1).bind fun t18 =>
(ldO false 1 q2.2 t18).bind fun t19 =>
(castI .u64 t19).bind fun n20 =>
(fA q1.1 2).bind fun t21 =>
(ldO false 1 q2.2 t21).bind fun t22 =>
(castI .i64 t22).bind fun n23 =>
(fA x2 2).bind fun t24 =>
(ldO false 1 q2.2 t24).bind fun t25 =>
(castI .i64 t25).bind fun n26 =>
(ldO true 3 q2.2 q1.1).bind fun t27 =>
(ldO true 3 q2.2 q2.1).bind fun t28 =>
(callO rec 117 (24::0::1::0::σ) [(.p (.int .u64 (IntKind.wrap .u64 ((IntKind.wrap .u64 (n5-n8))*(IntKind.wrap .u64 (IntKind.wrap .i64 (n11-n14))))))),(.p (.int .u64 (IntKind.wrap .u64 ((IntKind.wrap .u64 (n17-n20))*(IntKind.wrap .u64 (IntKind.wrap .i64 (n23-n26)))))))] q2.2 (some 30)).bind fun q29 =>
(castI .i64 q29.1).bind fun n30 =>
need (ldO true 3 q29.2 q2.1=some t28) (
need (ldO true 3 q29.2 q1.1=some t27) (
(callO rec 124 (27::0::1::0::σ) [t27,t28] q29.2 (some 33)).bind fun q31 =>
(castI .i64 q31.1).bind fun n32 =>
(bSV Try.prog 23 2 [(0,(.p (.int .i64 n30))),(1,(.p (.int .i64 n32)))]).bind fun t33 =>
(callO rec 115 (29::0::1::0::σ) [t33] q31.2 (some 35)).bind fun q34 =>
(castI .i64 q34.1).bind fun n35 =>
fin false σ q34.2 [(.p (.int .i64 n35))])):=by kernel_rfl
theorem zku (x0:V) (x1:V) (h:H):cvBody G rec loop 124 σ [x0,x1] h =
(boxO false (0::0::0::σ) 2 (List.replicate 17 []::h) x0).bind fun q1 =>
(boxO false (1::0::0::σ) 3 q1.2 x1).bind fun q2 =>
(fA q2.1 2).bind fun t3 =>
(ldO false 1 q2.2 t3).bind fun t4 =>
(castI .i64 t4).bind fun n5 =>
(fA q1.1 2).bind fun t6 =>
(ldO false 1 q2.2 t6).bind fun t7 =>
(castI .i64 t7).bind fun n8 =>
(fA q1.1 0).bind fun t9 =>
(ldO false 1 q2.2 t9).bind fun t10 =>
(castI .u32 t10).bind fun n11 =>
(fA q2.1 0).bind fun t12 =>
(ldO false 1 q2.2 t12).bind fun t13 =>
(castI .u32 t13).bind fun n14 =>
(callO rec 148 (4::0::1::0::σ) [(.p (.int .i64 n5)),(.p (.int .i64 n8))] q2.2 (some 9)).bind fun q15 =>
(castI .i64 q15.1).bind fun n16 =>
need (ldO false 1 q15.2 t12=some (.p (.int .u32 n14))) (
need (ldO false 1 q15.2 t9=some (.p (.int .u32 n11))) (
(callO rec 72 (9::0::1::0::σ) [(.p (.int .u32 n11)),(.p (.int .u32 n14))] q15.2 (some 14)).bind fun q17 =>
(castI .i64 q17.1).bind fun n18 =>
(bSV Try.prog 23 2 [(0,(.p (.int .i64 n16))),(1,(.p (.int .i64 n18)))]).bind fun t19 =>
(callO rec 115 (11::0::1::0::σ) [t19] q17.2 (some 16)).bind fun q20 =>
(castI .i64 q20.1).bind fun n21 =>
fin false σ q20.2 [(.p (.int .i64 n21))])):=by kernel_rfl
theorem zge (x0:Int) (x1:Int) (h:H):cvBody G rec loop 148 σ [(.p (.int .i64 x0)),(.p (.int .i64 x1))] h =
(callO rec 166 (1::0::1::0::σ) [(.p (.int .i64 x0))] (List.replicate 20 []::h) (some 8)).bind fun q1 =>
(asB q1.1).bind fun b2 =>
(callO rec 166 (1::0::1::1::0::σ) [(.p (.int .i64 x1))] q1.2 (some 10)).bind fun q3 =>
(asB q3.1).bind fun b4 =>
bif b2 then (
bif b4 then (
fin false σ q3.2 [(.p (.int .i64 0))])
else (
fin false σ q3.2 [(.p (.int .i64 (-1)))]))
else (
bif b4 then (
fin false σ q3.2 [(.p (.int .i64 1))])
else (
bif decide (x0<x1) then (
fin false σ q3.2 [(.p (.int .i64 (-1)))])
else (
bif decide (x0>x1) then (
fin false σ q3.2 [(.p (.int .i64 1))])
else (
fin false σ q3.2 [(.p (.int .i64 0))])))):=by kernel_rfl
theorem zhy (x0:Int) (h:H):cvBody G rec loop 166 σ [(.p (.int .i64 x0))] h =
fin false σ (List.replicate 6 []::h) [(.p (.bool (x0 != x0)))]:=by kernel_rfl
end
end Go.Ev
namespace Go.Ev
open Go.Proofs
set_option linter.unusedVariables false
set_option linter.unusedSimpArgs false
set_option maxRecDepth 100000
section
variable {β α : Type} {Q : β→α→Prop} {K : Exit × Env × H→Option α}
def z8j (x0:Int):Option (Bool) :=
some ((x0 != x0))
theorem zei {h:H} {σ:Stamp} (x0:Int):Sim (z8j x0) (ev G X0 166 σ [(.p (.int .i64 x0))] h) (fun r s=>s=([.v (.p (.bool r))],h)):=by
 refine .ev rfl (Sim.ext (zhy _ _ _ _ _) ?_)
 rw [z8j]
 have S0:Fm 6 h [] [] [] (List.replicate 6 []::h):=Fm.start0
 exact .fin (S0.finN (lC (sB _).lv lN)) rfl
def z7o (x0:Int) (x1:Int):Option (Int) :=
(z8j x0).bind fun r1 =>
(z8j x1).bind fun r6 =>
bif r1 then (
bif r6 then (
some (0))
else (
some ((-1))))
else (
bif r6 then (
some (1))
else (
bif decide (x0<x1) then (
some ((-1)))
else (
bif decide (x0>x1) then (
some (1))
else (
some (0)))))
theorem zi3 {h:H} {σ:Stamp} (x0:Int) (x1:Int):Sim (z7o x0 x1) (ev G X0 148 σ [(.p (.int .i64 x0)),(.p (.int .i64 x1))] h) (fun r s=>s=([.v (.p (.int .i64 r))],h)):=by
 refine .ev rfl (Sim.ext (zge _ _ _ _ _ _) ?_)
 rw [z7o]
 have S0:Fm 20 h [] [] [] (List.replicate 20 []::h):=Fm.start0
 refine .call (zei x0) fun r1 cs2 H3 h4 q5=>?_
 cases q5
 refine .ab ?_
 refine .call (zei x1) fun r6 cs7 H8 h9 q10=>?_
 cases q10
 refine .ab ?_
 refine .cq ?_ ?_
 ·refine .cq ?_ ?_
  ·exact .fin (S0.finN (lC (sI _ _).lv lN)) rfl
  exact .fin (S0.finN (lC (sI _ _).lv lN)) rfl
 refine .cq ?_ ?_
 ·exact .fin (S0.finN (lC (sI _ _).lv lN)) rfl
 refine .cq ?_ ?_
 ·exact .fin (S0.finN (lC (sI _ _).lv lN)) rfl
 refine .cq ?_ ?_
 ·exact .fin (S0.finN (lC (sI _ _).lv lN)) rfl
 exact .fin (S0.finN (lC (sI _ _).lv lN)) rfl
def z9g (k:Nat) (x0:z7) (x1:z7):Option (Int) :=
(z7o x1.Over x0.Over).bind fun r9 =>
(z4r x0.Owner x1.Owner).bind fun r14 =>
(z6z k ([r9,r14])).bind fun r20 =>
some (r20)
theorem zhs (k:Nat) {h:H} {σ:Stamp} (x0:z7) {u0:List V} (hu0:z6.R x0 u0) (x1:z7) {u1:List V} (hu1:z6.R x1 u1):Sim (z9g k x0 x1) (ev G X0 124 σ [(.agg u0),(.agg u1)] h) (fun r s=>s=([.v (.p (.int .i64 r))],h)):=by
 refine .ev rfl (Sim.ext (zku _ _ _ _ _ _) ?_)
 rw [z9g]
 obtain rfl:=z6.inv hu0
 obtain rfl:=z6.inv hu1
 have S0:Fm 17 h [] [] [] (List.replicate 17 []::h):=Fm.start0
 obtain ⟨H1,e2,S3⟩:=S0.box (own:=false) (d:=2) (s:=(0::0::0::σ)) (xs:=[(.p (.int .u32 x0.Owner)),(.p (.int .u64 x0.Rate)),(.p (.int .i64 x0.Over))]) (sC (sI _ _) (sC (sI _ _) (sC (sI _ _) sN))) (by decide) rfl
 refine .op (e2) ?_
 obtain ⟨H5,e6,S7⟩:=S3.box (own:=false) (d:=3) (s:=(1::0::0::σ)) (xs:=[(.p (.int .u32 x1.Owner)),(.p (.int .u64 x1.Rate)),(.p (.int .i64 x1.Over))]) (sC (sI _ _) (sC (sI _ _) (sC (sI _ _) sN))) (by decide) rfl
 refine .op (e6) ?_
 refine .fa ?_
 refine .op ((S7.atG (i:=0) rfl).ld (j:=2) rfl) ?_
 refine .ci ?_
 refine .fa ?_
 refine .op ((S7.atG (i:=1) rfl).ld (j:=2) rfl) ?_
 refine .ci ?_
 refine .fa ?_
 refine .op ((S7.atG (i:=1) rfl).ld (j:=0) rfl) ?_
 refine .ci ?_
 refine .fa ?_
 refine .op ((S7.atG (i:=0) rfl).ld (j:=0) rfl) ?_
 refine .ci ?_
 refine .call (zi3 x1.Over x0.Over) fun r9 cs10 H11 h12 q13=>?_
 cases q13
 refine .ci ?_
 refine .nd ((S7.atG (i:=0) rfl).ld (j:=0) rfl) ?_
 refine .nd ((S7.atG (i:=1) rfl).ld (j:=0) rfl) ?_
 refine .call (zcj x0.Owner x1.Owner) fun r14 cs15 H16 h17 q18=>?_
 cases q18
 refine .ci ?_
 have h19:SlF (dI .i64) [r9,r14] (.fz [(.p (.int .i64 r9)),(.p (.int .i64 r14))] 2 1 true):=SlF.lit (cs:=[(.p (.int .i64 r9)),(.p (.int .i64 r14))]) (RL.cons (show (dI .i64).R r9 [(.p (.int .i64 r9))] from rfl) (RL.cons (show (dI .i64).R r14 [(.p (.int .i64 r14))] from rfl) RL.nil)) rfl rfl true
 refine .op (bldS (pC rfl (pC rfl pN)) (by kernel_rfl:_=some (vOf h19))) ?_
 refine .call (zc1 k ([r9,r14]) (h19.h H5)) fun r20 cs21 H22 h23 q24=>?_
 cases q24
 refine .ci ?_
 exact .fin (S7.finN (lC (sI _ _).lv lN)) rfl
def z9l (k:Nat) (x0:z7) (x1:z7) (x2:z7):Option (Int) :=
(z48 (IntKind.wrap .u64 ((IntKind.wrap .u64 (x0.Rate-x2.Rate))*(IntKind.wrap .u64 (IntKind.wrap .i64 (x1.Over-x2.Over))))) (IntKind.wrap .u64 ((IntKind.wrap .u64 (x1.Rate-x2.Rate))*(IntKind.wrap .u64 (IntKind.wrap .i64 (x0.Over-x2.Over)))))).bind fun r9 =>
(z9g k x0 x1).bind fun r14 =>
(z6z k ([r9,r14])).bind fun r20 =>
some (r20)
theorem zlx (k:Nat) {h:H} {σ:Stamp} (x0:z7) {u0:List V} (hu0:z6.R x0 u0) (x1:z7) {u1:List V} (hu1:z6.R x1 u1) (x2:z7)  {l2:Loc} {o2:Nat} (ha2:AtC h l2 o2 (List.map C.v [(.p (.int .u32 x2.Owner)),(.p (.int .u64 x2.Rate)),(.p (.int .i64 x2.Over))])):Sim (z9l k x0 x1 x2) (ev G X0 149 σ [(.agg u0),(.agg u1),(.ref l2 o2)] h) (fun r s=>s=([.v (.p (.int .i64 r))],h)):=by
 refine .ev rfl (Sim.ext (zii _ _ _ _ _ _ _) ?_)
 rw [z9l]
 obtain rfl:=z6.inv hu0
 obtain rfl:=z6.inv hu1
 have S0:Fm 36 h [] [] [] (List.replicate 36 []::h):=Fm.start0
 obtain ⟨H1,e2,S3⟩:=S0.box (own:=false) (d:=3) (s:=(0::0::0::σ)) (xs:=[(.p (.int .u32 x0.Owner)),(.p (.int .u64 x0.Rate)),(.p (.int .i64 x0.Over))]) (sC (sI _ _) (sC (sI _ _) (sC (sI _ _) sN))) (by decide) rfl
 refine .op (e2) ?_
 obtain ⟨H5,e6,S7⟩:=S3.box (own:=false) (d:=4) (s:=(1::0::0::σ)) (xs:=[(.p (.int .u32 x1.Owner)),(.p (.int .u64 x1.Rate)),(.p (.int .i64 x1.Over))]) (sC (sI _ _) (sC (sI _ _) (sC (sI _ _) sN))) (by decide) rfl
 refine .op (e6) ?_
 refine .fa ?_
 refine .op ((S7.atG (i:=1) rfl).ld (j:=1) rfl) ?_
 refine .ci ?_
 refine .fa ?_
 refine .op ((S7.lowA ha2).ld (j:=1) rfl) ?_
 refine .ci ?_
 refine .fa ?_
 refine .op ((S7.atG (i:=0) rfl).ld (j:=2) rfl) ?_
 refine .ci ?_
 refine .fa ?_
 refine .op ((S7.lowA ha2).ld (j:=2) rfl) ?_
 refine .ci ?_
 refine .fa ?_
 refine .op ((S7.atG (i:=0) rfl).ld (j:=1) rfl) ?_
 refine .ci ?_
 refine .fa ?_
 refine .op ((S7.lowA ha2).ld (j:=1) rfl) ?_
 refine .ci ?_
 refine .fa ?_
 refine .op ((S7.atG (i:=1) rfl).ld (j:=2) rfl) ?_
 refine .ci ?_
 refine .fa ?_
 refine .op ((S7.lowA ha2).ld (j:=2) rfl) ?_
 refine .ci ?_
 refine .op ((S7.atG (i:=1) rfl).ldVs (j:=0) (xs:=[(.p (.int .u32 x0.Owner)),(.p (.int .u64 x0.Rate)),(.p (.int .i64 x0.Over))]) rfl rfl (by decide)) ?_
 refine .op ((S7.atG (i:=0) rfl).ldVs (j:=0) (xs:=[(.p (.int .u32 x1.Owner)),(.p (.int .u64 x1.Rate)),(.p (.int .i64 x1.Over))]) rfl rfl (by decide)) ?_
 refine .call (z99 (IntKind.wrap .u64 ((IntKind.wrap .u64 (x0.Rate-x2.Rate))*(IntKind.wrap .u64 (IntKind.wrap .i64 (x1.Over-x2.Over))))) (IntKind.wrap .u64 ((IntKind.wrap .u64 (x1.Rate-x2.Rate))*(IntKind.wrap .u64 (IntKind.wrap .i64 (x0.Over-x2.Over)))))) fun r9 cs10 H11 h12 q13=>?_
 cases q13
 refine .ci ?_
 refine .nd ((S7.atG (i:=0) rfl).ldVs (j:=0) (xs:=[(.p (.int .u32 x1.Owner)),(.p (.int .u64 x1.Rate)),(.p (.int .i64 x1.Over))]) rfl rfl (by decide)) ?_
 refine .nd ((S7.atG (i:=1) rfl).ldVs (j:=0) (xs:=[(.p (.int .u32 x0.Owner)),(.p (.int .u64 x0.Rate)),(.p (.int .i64 x0.Over))]) rfl rfl (by decide)) ?_
 refine .call (zhs k x0 hu0 x1 hu1) fun r14 cs15 H16 h17 q18=>?_
 cases q18
 refine .ci ?_
 have h19:SlF (dI .i64) [r9,r14] (.fz [(.p (.int .i64 r9)),(.p (.int .i64 r14))] 2 1 true):=SlF.lit (cs:=[(.p (.int .i64 r9)),(.p (.int .i64 r14))]) (RL.cons (show (dI .i64).R r9 [(.p (.int .i64 r9))] from rfl) (RL.cons (show (dI .i64).R r14 [(.p (.int .i64 r14))] from rfl) RL.nil)) rfl rfl true
 refine .op (bldS (pC rfl (pC rfl pN)) (by kernel_rfl:_=some (vOf h19))) ?_
 refine .call (zc1 k ([r9,r14]) (h19.h H5)) fun r20 cs21 H22 h23 q24=>?_
 cases q24
 refine .ci ?_
 exact .fin (S7.finN (lC (sI _ _).lv lN)) rfl
def z14 {β:Type} (k:Nat) (kE0:z7→z7→Option β) (x0:(List z7)) (x1c0:z7) (x6:Int) (yg4:z7) (yg14:z7):Option β:=match k with
| 0=>none
| k+1 =>
bif decide (x6<((x0.length:Int))) then (
(ix x0 x6).bind fun a31 =>
(z9l k a31 yg14 x1c0).bind fun r36 =>
bif decide (r36<0) then (
(ix x0 x6).bind fun a42 =>
z14 k kE0 x0 x1c0 (IntKind.wrap .i64 (x6+1)) yg4 a42)
else (
z14 k kE0 x0 x1c0 (IntKind.wrap .i64 (x6+1)) yg4 yg14))
else (
kE0 yg4 yg14)
def z21 (k:Nat) (x0:(List z7)) (x1c0:z7):Option (z7) :=
bif decide (((x0.length:Int))<1) then (
none)
else (
(ix x0 0).bind fun a6 =>
z14 k (fun yg27 yg29 =>
some (yg29)) x0 x1c0 1 ((⟨0,0,0⟩:z7)) a6)
theorem z78 {h:H}  {kE0:z7→z7→Option β} (hE0:∀ (yg27:z7) (yg29:z7) (s52:Stamp) (s54:Stamp) (H50:Go.Ev.H) (_:Fm 33 h [] [(4,s52,List.map C.v [(.p (.int .u32 yg27.Owner)),(.p (.int .u64 yg27.Rate)),(.p (.int .i64 yg27.Over))]),(5,s54,List.map C.v [(.p (.int .u32 yg29.Owner)),(.p (.int .u64 yg29.Rate)),(.p (.int .i64 yg29.Over))])] [] H50),Sim (kE0 yg27 yg29) (K ((.exit 0),(envL [(4,(.ref ⟨h.length,4,0,s52,[]⟩ 0)),(5,(.ref ⟨h.length,5,0,s54,[]⟩ 0))]),H50)) Q) (k:Nat):∀ (x0:(List z7)) (x1c0:z7) (x6:Int) (yg4:z7) (yg14:z7) (v20:V) (h21:SlH h z6 x0 v20) (lr22:Loc) (or23:Nat) (har24:AtC h lr22 or23 (List.map C.v [(.p (.int .u32 x1c0.Owner)),(.p (.int .u64 x1c0.Rate)),(.p (.int .i64 x1c0.Over))])) (s26:Stamp) (s28:Stamp) (H18:Go.Ev.H) (_:Fm 33 h [] [(4,s26,List.map C.v [(.p (.int .u32 yg4.Owner)),(.p (.int .u64 yg4.Rate)),(.p (.int .i64 yg4.Over))]),(5,s28,List.map C.v [(.p (.int .u32 yg14.Owner)),(.p (.int .u64 yg14.Rate)),(.p (.int .i64 yg14.Over))])] [] H18) {σ:Stamp},Sim (z14 k kE0 x0 x1c0 x6 yg4 yg14) ((cvL G X0 z2a z29 σ (envL [(0,v20),(1,(.clo 149 [(.ref lr22 or23)])),(4,(.ref ⟨h.length,4,0,s26,[]⟩ 0)),(5,(.ref ⟨h.length,5,0,s28,[]⟩ 0)),(6,(.p (.int .i64 x6)))]) H18).bind K) Q:=by
 induction k with
 | zero=>intros;exact .no
 | succ k ih =>
  intro x0 x1c0 x6 yg4 yg14 v20 h21 lr22 or23 har24 s26 s28 H18 S19 σ
  rw [z14]
  refine .round (Sim.ext (z6b _ _ _ _ _ _ _ _ _) ?_)
  refine .op ((S19.low h21).len) ?_
  refine .ci ?_
  refine .cq ?_ ?_
  ·refine .bd fun a31 h32=>?_
   refine .op ((S19.low h21).iS h32 rfl) ?_
   obtain ⟨w34,h35,hE33⟩:=(S19.low h21).el h32 rfl
   obtain rfl:=z6.inv h35
   refine .op (hE33.all (by simp)) ?_
   refine .op ((S19.atG (i:=1) rfl).ldVs (j:=0) (xs:=[.p (.int .u32 yg14.Owner),.p (.int .u64 yg14.Rate),.p (.int .i64 yg14.Over)]) rfl rfl (by decide)) ?_
   refine .clo ?_
   refine .call (zlx k a31 (show z6.R a31 [.p (.int .u32 a31.Owner),.p (.int .u64 a31.Rate),.p (.int .i64 a31.Over)] from (z6.mk)) yg14 (show z6.R yg14 [.p (.int .u32 yg14.Owner),.p (.int .u64 yg14.Rate),.p (.int .i64 yg14.Over)] from (z6.mk)) x1c0 (S19.lowA har24)) fun r36 cs37 H38 h39 q40=>?_
   cases q40
   refine .ci ?_
   refine .cq ?_ ?_
   ·refine .bd fun a42 h43=>?_
    refine .op ((S19.low h21).iS h43 rfl) ?_
    obtain ⟨w45,h46,hE44⟩:=(S19.low h21).el h43 rfl
    obtain rfl:=z6.inv h46
    refine .op (hE44.all (by simp)) ?_
    obtain ⟨H47,e48,S49⟩:=S19.stGv (i:=1) (j:=0) (own:=false) (σ:=(4::1::0::1::0::σ)) (xs:=[.p (.int .u32 a42.Owner),.p (.int .u64 a42.Rate),.p (.int .i64 a42.Over)]) rfl rfl (sC (sI _ _) (sC (sI _ _) (sC (sI _ _) sN))) rfl rfl
    refine .op (sM e48) ?_
    exact ih x0 x1c0 (IntKind.wrap .i64 (x6+1)) yg4 a42 v20 h21 lr22 or23 har24 s26 s28 H47 (S49.wk2 (aC (aM 0 rfl) (aC (aM 1 rfl) aN)) aN)
   exact ih x0 x1c0 (IntKind.wrap .i64 (x6+1)) yg4 yg14 v20 h21 lr22 or23 har24 s26 s28 H18 (S19.wk2 (aC (aM 0 rfl) (aC (aM 1 rfl) aN)) aN)
  exact hE0 yg4 yg14 s26 s28 H18 (S19.wk2 (aC (aM 0 rfl) (aC (aM 1 rfl) aN)) aN)
theorem z7n (k:Nat) {h:H} {σ:Stamp} (x0:List z7) {u0:V} (hu0:SlH h z6 x0 u0) (x1c0:z7)  {l1c0:Loc} {o1c0:Nat} (ha1c0:AtC h l1c0 o1c0 (List.map C.v [(.p (.int .u32 x1c0.Owner)),(.p (.int .u64 x1c0.Rate)),(.p (.int .i64 x1c0.Over))])):Sim (z21 k x0 x1c0) (ev G X0 122 σ [u0,(.clo 149 [(.ref l1c0 o1c0)])] h) (fun r s=>∃ (w0:List V),z6.R r w0∧s=([.v (.agg w0)],h)):=by
 refine .ev rfl (Sim.ext (z5e _ _ _ _ _ _) ?_)
 rw [z21]
 have S0:Fm 33 h [] [] [] (List.replicate 33 []::h):=Fm.start0
 obtain ⟨H1,e2,S3⟩:=S0.al (d:=4) (s:=(0::0::0::σ)) (z:=[(.p (.int .u32 0)),(.p (.int .u64 0)),(.p (.int .i64 0))]) (by decide) rfl
 refine .op (congrArg some e2) ?_
 refine .op ((S3.low hu0).len) ?_
 refine .ci ?_
 refine .cq ?_ ?_
 ·exact .no
 refine .bd fun a6 h7=>?_
 refine .op ((S3.low hu0).iS h7 rfl) ?_
 obtain ⟨w9,h10,hE8⟩:=(S3.low hu0).el h7 rfl
 obtain rfl:=z6.inv h10
 refine .op (hE8.all (by simp)) ?_
 obtain ⟨H11,e12,S13⟩:=S3.al (d:=5) (s:=(3::0::1::1::0::σ)) (z:=[(.p (.int .u32 0)),(.p (.int .u64 0)),(.p (.int .i64 0))]) (by decide) rfl
 refine .op (congrArg some e12) ?_
 obtain ⟨H15,e16,S17⟩:=S13.stGv (i:=0) (j:=0) (own:=false) (σ:=(4::0::1::1::0::σ)) (xs:=[.p (.int .u32 a6.Owner),.p (.int .u64 a6.Rate),.p (.int .i64 a6.Over)]) rfl rfl (sC (sI _ _) (sC (sI _ _) (sC (sI _ _) sN))) rfl rfl
 refine .op (sM e16) ?_
 refine .as (z78 ?_ k x0 x1c0 1 ((⟨0,0,0⟩:z7)) a6 u0 hu0 l1c0 o1c0 ha1c0 (0::0::0::σ) (3::0::1::1::0::σ) H15 (S17.wk2 (aC (aM 1 rfl) (aC (aM 0 rfl) aN)) aN))
 ·intro yg27 yg29 s59 s61 H57 S58
  refine .ext (z5u _ _ _ _ _ _) ?_
  refine .op ((S58.atG (i:=1) rfl).ldVs (j:=0) (xs:=[.p (.int .u32 yg29.Owner),.p (.int .u64 yg29.Rate),.p (.int .i64 yg29.Over)]) rfl rfl (by decide)) ?_
  obtain ⟨H63,e64,S65⟩:=S58.stGv (i:=0) (j:=0) (own:=false) (σ:=(1::0::1::1::1::1::0::σ)) (xs:=[.p (.int .u32 yg29.Owner),.p (.int .u64 yg29.Rate),.p (.int .i64 yg29.Over)]) rfl rfl (sC (sI _ _) (sC (sI _ _) (sC (sI _ _) sN))) rfl rfl
  refine .op (sM e64) ?_
  have e66:ldO true 3 H63 (.ref ⟨h.length,4,0,s59,[]⟩ 0)=some (.agg [.p (.int .u32 yg29.Owner),.p (.int .u64 yg29.Rate),.p (.int .i64 yg29.Over)]):=(S65.atG (i:=0) rfl).ldVs (j:=0) rfl rfl (by decide)
  refine .op (congrArg (Option.bind · _) e66) ?_
  exact .fin (S65.finN (lC (Stills.lv (z6.still (z6.mk))) lN)) ⟨_,(z6.mk),rfl⟩
def z4z {β:Type} (k:Nat) (kE0:(List z7)→z7→z7→Option β) (x6:(List z7)) (x10:(List z7)) (x11:Int) (x12:Int) (yg4:z7) (yg8:z7):Option β:=match k with
| 0=>none
| k+1 =>
bif decide (x12<x11) then (
(ix x10 x12).bind fun a22 =>
bif decide (a22.Over>yg4.Over) then (
(ap 24 x6 ([a22])).bind fun a36 =>
z4z k kE0 a36 x10 x11 (IntKind.wrap .i64 (x12+1)) yg4 yg8)
else (
z4z k kE0 x6 x10 x11 (IntKind.wrap .i64 (x12+1)) yg4 yg8))
else (
kE0 x6 yg4 yg8)
def zb3 (k:Nat) (x0:(List z7)) (x1:z7):Option (z7×Bool) :=
z4z k (fun r52_6 yg18 yg20 =>
bif ((r52_6.length:Int))==0 then (
some (((⟨0,0,0⟩:z7)),false))
else (
(z21 k r52_6 yg18).bind fun r66 =>
some (r66,(decide ((IntKind.wrap .u64 (yg18.Rate*(IntKind.wrap .u64 (IntKind.wrap .i64 (r66.Over-yg18.Over)))))>(IntKind.wrap .u64 ((IntKind.wrap .u64 yg18.Over)*(IntKind.wrap .u64 (r66.Rate-yg18.Rate))))))))) (([]:List z7)) x0 ((x0.length:Int)) 0 x1 ((⟨0,0,0⟩:z7))
theorem zkq {h:H}  {kE0:(List z7)→z7→z7→Option β} (hE0:∀ (q6:(List z7)) (yg18:z7) (yg20:z7) (v44:V) (s46:Stamp) (s48:Stamp) (H42:Go.Ev.H) (_:Fm 53 h [] [(3,s46,List.map C.v [(.p (.int .u32 yg18.Owner)),(.p (.int .u64 yg18.Rate)),(.p (.int .i64 yg18.Over))]),(4,s48,List.map C.v [(.p (.int .u32 yg20.Owner)),(.p (.int .u64 yg20.Rate)),(.p (.int .i64 yg20.Over))])] [⟨[24],v44,z6,q6⟩] H42),Sim (kE0 q6 yg18 yg20) (K ((.exit 0),(envL [(3,(.ref ⟨h.length,3,0,s46,[]⟩ 0)),(4,(.ref ⟨h.length,4,0,s48,[]⟩ 0)),(6,v44)]),H42)) Q) (k:Nat):∀ (x6:(List z7)) (x10:(List z7)) (x11:Int) (x12:Int) (yg4:z7) (yg8:z7) (v13:V) (v15:V) (h16:SlH h z6 x10 v15) (s17:Stamp) (s19:Stamp) (H11:Go.Ev.H) (_:Fm 53 h [] [(3,s17,List.map C.v [(.p (.int .u32 yg4.Owner)),(.p (.int .u64 yg4.Rate)),(.p (.int .i64 yg4.Over))]),(4,s19,List.map C.v [(.p (.int .u32 yg8.Owner)),(.p (.int .u64 yg8.Rate)),(.p (.int .i64 yg8.Over))])] [⟨[24],v13,z6,x6⟩] H11) {σ:Stamp},Sim (z4z k kE0 x6 x10 x11 x12 yg4 yg8) ((cvL G X0 za9 zab σ (envL [(3,(.ref ⟨h.length,3,0,s17,[]⟩ 0)),(4,(.ref ⟨h.length,4,0,s19,[]⟩ 0)),(6,v13),(10,v15),(11,(.p (.int .i64 x11))),(12,(.p (.int .i64 x12)))]) H11).bind K) Q:=by
 induction k with
 | zero=>intros;exact .no
 | succ k ih =>
  intro x6 x10 x11 x12 yg4 yg8 v13 v15 h16 s17 s19 H11 S12 σ
  rw [z4z]
  refine .round (Sim.ext (zoh _ _ _ _ _ _ _ _ _ _) ?_)
  refine .cq ?_ ?_
  ·refine .bd fun a22 h23=>?_
   refine .op ((S12.low h16).iS h23 rfl) ?_
   obtain ⟨w25,h26,hE24⟩:=(S12.low h16).el h23 rfl
   obtain rfl:=z6.inv h26
   refine .op (hE24.all (by simp)) ?_
   obtain ⟨H27,e28,S29⟩:=S12.al (d:=8) (s:=(2::0::0::1::1::0::σ)) (z:=[(.p (.int .u32 0)),(.p (.int .u64 0)),(.p (.int .i64 0))]) (by decide) rfl
   refine .op (congrArg some e28) ?_
   obtain ⟨H31,e32,S33⟩:=S29.stGv (i:=0) (j:=0) (own:=false) (σ:=(3::0::0::1::1::0::σ)) (xs:=[.p (.int .u32 a22.Owner),.p (.int .u64 a22.Rate),.p (.int .i64 a22.Over)]) rfl rfl (sC (sI _ _) (sC (sI _ _) (sC (sI _ _) sN))) rfl rfl
   refine .op (sM e32) ?_
   refine .fa ?_
   refine .op ((S33.atG (i:=0) rfl).ld (j:=2) rfl) ?_
   refine .ci ?_
   refine .fa ?_
   refine .op ((S33.atG (i:=1) rfl).ld (j:=2) rfl) ?_
   refine .ci ?_
   refine .cq ?_ ?_
   ·refine .op ((S33.atG (i:=0) rfl).ldVs (j:=0) (xs:=[.p (.int .u32 a22.Owner),.p (.int .u64 a22.Rate),.p (.int .i64 a22.Over)]) rfl rfl (by decide)) ?_
    have h35:SlF z6 [a22] (.fz [(.p (.int .u32 a22.Owner)),(.p (.int .u64 a22.Rate)),(.p (.int .i64 a22.Over))] 1 3 true):=SlF.lit (cs:=[(.p (.int .u32 a22.Owner)),(.p (.int .u64 a22.Rate)),(.p (.int .i64 a22.Over))]) (RL.cons (show z6.R a22 [.p (.int .u32 a22.Owner),.p (.int .u64 a22.Rate),.p (.int .i64 a22.Over)] from (z6.mk)) RL.nil) rfl rfl true
    refine .op (bldS (pC (c:=[.p (.int .u32 a22.Owner),.p (.int .u64 a22.Rate),.p (.int .i64 a22.Over)]) rfl pN) (by kernel_rfl:_=some (vOf h35))) ?_
    refine .bd fun a36 h37=>?_
    obtain ⟨v38,H39,e40,S41⟩:=S33.app (i:=0) (d:=24) (e:=3) (own:=false) (σ:=(3::1::1::0::1::1::0::σ)) rfl (h35.h H31).y h37 rfl (by decide) (by decide) rfl
    refine .op (e40) ?_
    exact ih a36 x10 x11 (IntKind.wrap .i64 (x12+1)) yg4 yg8 v38 v15 h16 s17 s19 H39 (S41.wk2 (aC (aM 1 rfl) (aC (aM 2 rfl) aN)) (aC ⟨[24,24],by simp,aM 0 rfl⟩ aN))
   exact ih x6 x10 x11 (IntKind.wrap .i64 (x12+1)) yg4 yg8 v13 v15 h16 s17 s19 H31 (S33.wk2 (aC (aM 1 rfl) (aC (aM 2 rfl) aN)) (aC ⟨[24],by simp,aM 0 rfl⟩ aN))
  exact hE0 x6 yg4 yg8 v13 s17 s19 H11 (S12.wk2 (aC (aM 0 rfl) (aC (aM 1 rfl) aN)) (aC ⟨[24],by simp,aM 0 rfl⟩ aN))
theorem zoe (k:Nat) {h:H} {σ:Stamp} (x0:List z7) {u0:V} (hu0:SlH h z6 x0 u0) (x1:z7) {u1:List V} (hu1:z6.R x1 u1):Sim (zb3 k x0 x1) (ev G X0 125 σ [u0,(.agg u1)] h) (fun r s=>∃ (w0:List V),z6.R r.1 w0∧s=([.v (.agg w0),.v (.p (.bool r.2))],h)):=by
 refine .ev rfl (Sim.ext (zl1 _ _ _ _ _ _) ?_)
 rw [zb3]
 obtain rfl:=z6.inv hu1
 have S0:Fm 53 h [] [] [] (List.replicate 53 []::h):=Fm.start0
 obtain ⟨H1,e2,S3⟩:=S0.box (own:=false) (d:=3) (s:=(0::0::0::σ)) (xs:=[(.p (.int .u32 x1.Owner)),(.p (.int .u64 x1.Rate)),(.p (.int .i64 x1.Over))]) (sC (sI _ _) (sC (sI _ _) (sC (sI _ _) sN))) (by decide) rfl
 refine .op (e2) ?_
 obtain ⟨H5,e6,S7⟩:=S3.al (d:=4) (s:=(1::0::0::σ)) (z:=[(.p (.int .u32 0)),(.p (.int .u64 0)),(.p (.int .i64 0))]) (by decide) rfl
 refine .op (congrArg some e6) ?_
 refine .op ((S7.low hu0).len) ?_
 refine .ci ?_
 have S51:=S7.nil z6 []
 refine .as (zkq ?_ k (([]:List z7)) x0 ((x0.length:Int)) 0 x1 ((⟨0,0,0⟩:z7)) (.p (.slice none 0 0)) u0 hu0 (0::0::0::σ) (1::0::0::σ) H5 (S51.wk2 (aC (aM 1 rfl) (aC (aM 0 rfl) aN)) (aC ⟨[],by simp,aM 0 rfl⟩ aN)))
 ·intro r52_6 yg18 yg20 v55 s57 s59 H53 S54
  refine .ext (zll _ _ _ _ _ _ _) ?_
  refine .op ((S54.sl (i:=0) rfl).len) ?_
  refine .ci ?_
  refine .cq ?_ ?_
  ·refine .op (bldV pN (by kernel_rfl:_=some (.agg [.p (.int .u32 0),.p (.int .u64 0),.p (.int .i64 0)]))) ?_
   obtain ⟨H62,e63,S64⟩:=S54.stGv (i:=1) (j:=0) (own:=false) (σ:=(1::0::1::0::1::1::1::0::σ)) (xs:=[.p (.int .u32 0),.p (.int .u64 0),.p (.int .i64 0)]) rfl rfl (sC (sI _ _) (sC (sI _ _) (sC (sI _ _) sN))) rfl rfl
   refine .op (sM e63) ?_
   have e65:ldO true 3 H62 (.ref ⟨h.length,4,0,s59,[]⟩ 0)=some (.agg [.p (.int .u32 0),.p (.int .u64 0),.p (.int .i64 0)]):=(S64.atG (i:=1) rfl).ldVs (j:=0) rfl rfl (by decide)
   refine .op (congrArg (Option.bind · _) e65) ?_
   exact .fin (S64.finN (lC (Stills.lv (z6.still (z6.mk))) (lC (sB _).lv lN))) ⟨_,(z6.mk),rfl⟩
  refine .call (z7n k r52_6 (S54.sl (i:=0) rfl) yg18 (S54.atG (i:=0) rfl)) fun r66 cs67 H68 h69 q70=>?_
  obtain ⟨w71,h72,q70⟩:=q70
  cases q70
  obtain rfl:=z6.inv h72
  obtain ⟨H73,e74,S75⟩:=S54.al (d:=9) (s:=(3::0::1::1::1::1::0::σ)) (z:=[(.p (.int .u32 0)),(.p (.int .u64 0)),(.p (.int .i64 0))]) (by decide) rfl
  refine .op (congrArg some e74) ?_
  obtain ⟨H77,e78,S79⟩:=S75.stGv (i:=0) (j:=0) (own:=false) (σ:=(4::0::1::1::1::1::0::σ)) (xs:=[(.p (.int .u32 r66.Owner)),(.p (.int .u64 r66.Rate)),(.p (.int .i64 r66.Over))]) rfl rfl (sC (sI _ _) (sC (sI _ _) (sC (sI _ _) sN))) rfl rfl
  refine .op (sM e78) ?_
  refine .op ((S79.atG (i:=0) rfl).ldVs (j:=0) (xs:=[(.p (.int .u32 r66.Owner)),(.p (.int .u64 r66.Rate)),(.p (.int .i64 r66.Over))]) rfl rfl (by decide)) ?_
  refine .fa ?_
  refine .op ((S79.atG (i:=1) rfl).ld (j:=1) rfl) ?_
  refine .ci ?_
  refine .fa ?_
  refine .op ((S79.atG (i:=0) rfl).ld (j:=2) rfl) ?_
  refine .ci ?_
  refine .fa ?_
  refine .op ((S79.atG (i:=1) rfl).ld (j:=2) rfl) ?_
  refine .ci ?_
  refine .fa ?_
  refine .op ((S79.atG (i:=1) rfl).ld (j:=2) rfl) ?_
  refine .ci ?_
  refine .fa ?_
  refine .op ((S79.atG (i:=0) rfl).ld (j:=1) rfl) ?_
  refine .ci ?_
  refine .fa ?_
  refine .op ((S79.atG (i:=1) rfl).ld (j:=1) rfl) ?_
  refine .ci ?_
  obtain ⟨H80,e81,S82⟩:=S79.stGv (i:=2) (j:=0) (own:=false) (σ:=(20::0::1::1::1::1::1::0::σ)) (xs:=[(.p (.int .u32 r66.Owner)),(.p (.int .u64 r66.Rate)),(.p (.int .i64 r66.Over))]) rfl rfl (sC (sI _ _) (sC (sI _ _) (sC (sI _ _) sN))) rfl rfl
  refine .op (sM e81) ?_
  refine .nd ((S82.atG (i:=1) rfl).ld (j:=1) rfl) ?_
  refine .nd ((S82.atG (i:=0) rfl).ld (j:=1) rfl) ?_
  refine .nd (rfl) ?_
  refine .nd ((S82.atG (i:=1) rfl).ld (j:=2) rfl) ?_
  refine .nd (rfl) ?_
  refine .nd ((S82.atG (i:=1) rfl).ld (j:=2) rfl) ?_
  refine .nd ((S82.atG (i:=0) rfl).ld (j:=2) rfl) ?_
  refine .nd ((S82.atG (i:=1) rfl).ld (j:=1) rfl) ?_
  have e83:ldO true 3 H80 (.ref ⟨h.length,4,0,s59,[]⟩ 0)=some (.agg [(.p (.int .u32 r66.Owner)),(.p (.int .u64 r66.Rate)),(.p (.int .i64 r66.Over))]):=(S82.atG (i:=2) rfl).ldVs (j:=0) rfl rfl (by decide)
  refine .op (congrArg (Option.bind · _) e83) ?_
  exact .fin (S82.finN (lC (Stills.lv (z6.still h72)) (lC (sB _).lv lN))) ⟨_,h72,rfl⟩
end
end Go.Ev
namespace Go.Ev
open Go.Proofs
set_option linter.unusedVariables false
set_option linter.unusedSimpArgs false
set_option maxRecDepth 100000
noncomputable section
abbrev KT27:=Exit→Env→H→Option (List C × H)
variable (rec : CallF) (loop : LoopV) (σ : Stamp)
theorem zjl (x0:V) (x1:V) (h:H):cvBody G rec loop 123 σ [x0,x1] h =
(boxO false (0::0::0::σ) 2 (List.replicate 15 []::h) x0).bind fun q1 =>
(boxO false (1::0::0::σ) 3 q1.2 x1).bind fun q2 =>
(fA q1.1 1).bind fun t3 =>
(ldO false 1 q2.2 t3).bind fun t4 =>
(castI .u64 t4).bind fun n5 =>
(fA q2.1 1).bind fun t6 =>
(ldO false 1 q2.2 t6).bind fun t7 =>
(castI .u64 t7).bind fun n8 =>
(ldO true 3 q2.2 q1.1).bind fun t9 =>
(ldO true 3 q2.2 q2.1).bind fun t10 =>
(callO rec 117 (4::0::1::0::σ) [(.p (.int .u64 n5)),(.p (.int .u64 n8))] q2.2 (some 9)).bind fun q11 =>
(castI .i64 q11.1).bind fun n12 =>
need (ldO true 3 q11.2 q2.1=some t10) (
need (ldO true 3 q11.2 q1.1=some t9) (
(callO rec 124 (7::0::1::0::σ) [t9,t10] q11.2 (some 12)).bind fun q13 =>
(castI .i64 q13.1).bind fun n14 =>
(bSV Try.prog 23 2 [(0,(.p (.int .i64 n12))),(1,(.p (.int .i64 n14)))]).bind fun t15 =>
(callO rec 115 (9::0::1::0::σ) [t15] q13.2 (some 14)).bind fun q16 =>
(castI .i64 q16.1).bind fun n17 =>
fin false σ q16.2 [(.p (.int .i64 n17))])):=by kernel_rfl
end
end Go.Ev
namespace Go.Ev
open Go.Proofs
set_option linter.unusedVariables false
set_option linter.unusedSimpArgs false
set_option maxRecDepth 100000
section
variable {β α : Type} {Q : β→α→Prop} {K : Exit × Env × H→Option α}
def za8 (k:Nat) (x0:z7) (x1:z7):Option (Int) :=
(z48 x0.Rate x1.Rate).bind fun r9 =>
(z9g k x0 x1).bind fun r14 =>
(z6z k ([r9,r14])).bind fun r20 =>
some (r20)
theorem zn9 (k:Nat) {h:H} {σ:Stamp} (x0:z7) {u0:List V} (hu0:z6.R x0 u0) (x1:z7) {u1:List V} (hu1:z6.R x1 u1):Sim (za8 k x0 x1) (ev G X0 123 σ [(.agg u0),(.agg u1)] h) (fun r s=>s=([.v (.p (.int .i64 r))],h)):=by
 refine .ev rfl (Sim.ext (zjl _ _ _ _ _ _) ?_)
 rw [za8]
 obtain rfl:=z6.inv hu0
 obtain rfl:=z6.inv hu1
 have S0:Fm 15 h [] [] [] (List.replicate 15 []::h):=Fm.start0
 obtain ⟨H1,e2,S3⟩:=S0.box (own:=false) (d:=2) (s:=(0::0::0::σ)) (xs:=[(.p (.int .u32 x0.Owner)),(.p (.int .u64 x0.Rate)),(.p (.int .i64 x0.Over))]) (sC (sI _ _) (sC (sI _ _) (sC (sI _ _) sN))) (by decide) rfl
 refine .op (e2) ?_
 obtain ⟨H5,e6,S7⟩:=S3.box (own:=false) (d:=3) (s:=(1::0::0::σ)) (xs:=[(.p (.int .u32 x1.Owner)),(.p (.int .u64 x1.Rate)),(.p (.int .i64 x1.Over))]) (sC (sI _ _) (sC (sI _ _) (sC (sI _ _) sN))) (by decide) rfl
 refine .op (e6) ?_
 refine .fa ?_
 refine .op ((S7.atG (i:=1) rfl).ld (j:=1) rfl) ?_
 refine .ci ?_
 refine .fa ?_
 refine .op ((S7.atG (i:=0) rfl).ld (j:=1) rfl) ?_
 refine .ci ?_
 refine .op ((S7.atG (i:=1) rfl).ldVs (j:=0) (xs:=[(.p (.int .u32 x0.Owner)),(.p (.int .u64 x0.Rate)),(.p (.int .i64 x0.Over))]) rfl rfl (by decide)) ?_
 refine .op ((S7.atG (i:=0) rfl).ldVs (j:=0) (xs:=[(.p (.int .u32 x1.Owner)),(.p (.int .u64 x1.Rate)),(.p (.int .i64 x1.Over))]) rfl rfl (by decide)) ?_
 refine .call (z99 x0.Rate x1.Rate) fun r9 cs10 H11 h12 q13=>?_
 cases q13
 refine .ci ?_
 refine .nd ((S7.atG (i:=0) rfl).ldVs (j:=0) (xs:=[(.p (.int .u32 x1.Owner)),(.p (.int .u64 x1.Rate)),(.p (.int .i64 x1.Over))]) rfl rfl (by decide)) ?_
 refine .nd ((S7.atG (i:=1) rfl).ldVs (j:=0) (xs:=[(.p (.int .u32 x0.Owner)),(.p (.int .u64 x0.Rate)),(.p (.int .i64 x0.Over))]) rfl rfl (by decide)) ?_
 refine .call (zhs k x0 hu0 x1 hu1) fun r14 cs15 H16 h17 q18=>?_
 cases q18
 refine .ci ?_
 have h19:SlF (dI .i64) [r9,r14] (.fz [(.p (.int .i64 r9)),(.p (.int .i64 r14))] 2 1 true):=SlF.lit (cs:=[(.p (.int .i64 r9)),(.p (.int .i64 r14))]) (RL.cons (show (dI .i64).R r9 [(.p (.int .i64 r9))] from rfl) (RL.cons (show (dI .i64).R r14 [(.p (.int .i64 r14))] from rfl) RL.nil)) rfl rfl true
 refine .op (bldS (pC rfl (pC rfl pN)) (by kernel_rfl:_=some (vOf h19))) ?_
 refine .call (zc1 k ([r9,r14]) (h19.h H5)) fun r20 cs21 H22 h23 q24=>?_
 cases q24
 refine .ci ?_
 exact .fin (S7.finN (lC (sI _ _).lv lN)) rfl
def z17 {β:Type} (k:Nat) (kE0:z7→z7→Option β) (x0:(List z7)) (x6:Int) (yg4:z7) (yg14:z7):Option β:=match k with
| 0=>none
| k+1 =>
bif decide (x6<((x0.length:Int))) then (
(ix x0 x6).bind fun a27 =>
(za8 k a27 yg14).bind fun r32 =>
bif decide (r32<0) then (
(ix x0 x6).bind fun a38 =>
z17 k kE0 x0 (IntKind.wrap .i64 (x6+1)) yg4 a38)
else (
z17 k kE0 x0 (IntKind.wrap .i64 (x6+1)) yg4 yg14))
else (
kE0 yg4 yg14)
def z22 (k:Nat) (x0:(List z7)):Option (z7) :=
bif decide (((x0.length:Int))<1) then (
none)
else (
(ix x0 0).bind fun a6 =>
z17 k (fun yg23 yg25 =>
some (yg25)) x0 1 ((⟨0,0,0⟩:z7)) a6)
theorem z79 {h:H}  {kE0:z7→z7→Option β} (hE0:∀ (yg23:z7) (yg25:z7) (s48:Stamp) (s50:Stamp) (H46:Go.Ev.H) (_:Fm 33 h [] [(4,s48,List.map C.v [(.p (.int .u32 yg23.Owner)),(.p (.int .u64 yg23.Rate)),(.p (.int .i64 yg23.Over))]),(5,s50,List.map C.v [(.p (.int .u32 yg25.Owner)),(.p (.int .u64 yg25.Rate)),(.p (.int .i64 yg25.Over))])] [] H46),Sim (kE0 yg23 yg25) (K ((.exit 0),(envL [(4,(.ref ⟨h.length,4,0,s48,[]⟩ 0)),(5,(.ref ⟨h.length,5,0,s50,[]⟩ 0))]),H46)) Q) (k:Nat):∀ (x0:(List z7)) (x6:Int) (yg4:z7) (yg14:z7) (v20:V) (h21:SlH h z6 x0 v20) (s22:Stamp) (s24:Stamp) (H18:Go.Ev.H) (_:Fm 33 h [] [(4,s22,List.map C.v [(.p (.int .u32 yg4.Owner)),(.p (.int .u64 yg4.Rate)),(.p (.int .i64 yg4.Over))]),(5,s24,List.map C.v [(.p (.int .u32 yg14.Owner)),(.p (.int .u64 yg14.Rate)),(.p (.int .i64 yg14.Over))])] [] H18) {σ:Stamp},Sim (z17 k kE0 x0 x6 yg4 yg14) ((cvL G X0 z2a z29 σ (envL [(0,v20),(1,(.clo 123 [])),(4,(.ref ⟨h.length,4,0,s22,[]⟩ 0)),(5,(.ref ⟨h.length,5,0,s24,[]⟩ 0)),(6,(.p (.int .i64 x6)))]) H18).bind K) Q:=by
 induction k with
 | zero=>intros;exact .no
 | succ k ih =>
  intro x0 x6 yg4 yg14 v20 h21 s22 s24 H18 S19 σ
  rw [z17]
  refine .round (Sim.ext (z6b _ _ _ _ _ _ _ _ _) ?_)
  refine .op ((S19.low h21).len) ?_
  refine .ci ?_
  refine .cq ?_ ?_
  ·refine .bd fun a27 h28=>?_
   refine .op ((S19.low h21).iS h28 rfl) ?_
   obtain ⟨w30,h31,hE29⟩:=(S19.low h21).el h28 rfl
   obtain rfl:=z6.inv h31
   refine .op (hE29.all (by simp)) ?_
   refine .op ((S19.atG (i:=1) rfl).ldVs (j:=0) (xs:=[.p (.int .u32 yg14.Owner),.p (.int .u64 yg14.Rate),.p (.int .i64 yg14.Over)]) rfl rfl (by decide)) ?_
   refine .clo ?_
   refine .call (zn9 k a27 (show z6.R a27 [.p (.int .u32 a27.Owner),.p (.int .u64 a27.Rate),.p (.int .i64 a27.Over)] from (z6.mk)) yg14 (show z6.R yg14 [.p (.int .u32 yg14.Owner),.p (.int .u64 yg14.Rate),.p (.int .i64 yg14.Over)] from (z6.mk))) fun r32 cs33 H34 h35 q36=>?_
   cases q36
   refine .ci ?_
   refine .cq ?_ ?_
   ·refine .bd fun a38 h39=>?_
    refine .op ((S19.low h21).iS h39 rfl) ?_
    obtain ⟨w41,h42,hE40⟩:=(S19.low h21).el h39 rfl
    obtain rfl:=z6.inv h42
    refine .op (hE40.all (by simp)) ?_
    obtain ⟨H43,e44,S45⟩:=S19.stGv (i:=1) (j:=0) (own:=false) (σ:=(4::1::0::1::0::σ)) (xs:=[.p (.int .u32 a38.Owner),.p (.int .u64 a38.Rate),.p (.int .i64 a38.Over)]) rfl rfl (sC (sI _ _) (sC (sI _ _) (sC (sI _ _) sN))) rfl rfl
    refine .op (sM e44) ?_
    exact ih x0 (IntKind.wrap .i64 (x6+1)) yg4 a38 v20 h21 s22 s24 H43 (S45.wk2 (aC (aM 0 rfl) (aC (aM 1 rfl) aN)) aN)
   exact ih x0 (IntKind.wrap .i64 (x6+1)) yg4 yg14 v20 h21 s22 s24 H18 (S19.wk2 (aC (aM 0 rfl) (aC (aM 1 rfl) aN)) aN)
  exact hE0 yg4 yg14 s22 s24 H18 (S19.wk2 (aC (aM 0 rfl) (aC (aM 1 rfl) aN)) aN)
theorem z7r (k:Nat) {h:H} {σ:Stamp} (x0:List z7) {u0:V} (hu0:SlH h z6 x0 u0):Sim (z22 k x0) (ev G X0 122 σ [u0,(.clo 123 [])] h) (fun r s=>∃ (w0:List V),z6.R r w0∧s=([.v (.agg w0)],h)):=by
 refine .ev rfl (Sim.ext (z5e _ _ _ _ _ _) ?_)
 rw [z22]
 have S0:Fm 33 h [] [] [] (List.replicate 33 []::h):=Fm.start0
 obtain ⟨H1,e2,S3⟩:=S0.al (d:=4) (s:=(0::0::0::σ)) (z:=[(.p (.int .u32 0)),(.p (.int .u64 0)),(.p (.int .i64 0))]) (by decide) rfl
 refine .op (congrArg some e2) ?_
 refine .op ((S3.low hu0).len) ?_
 refine .ci ?_
 refine .cq ?_ ?_
 ·exact .no
 refine .bd fun a6 h7=>?_
 refine .op ((S3.low hu0).iS h7 rfl) ?_
 obtain ⟨w9,h10,hE8⟩:=(S3.low hu0).el h7 rfl
 obtain rfl:=z6.inv h10
 refine .op (hE8.all (by simp)) ?_
 obtain ⟨H11,e12,S13⟩:=S3.al (d:=5) (s:=(3::0::1::1::0::σ)) (z:=[(.p (.int .u32 0)),(.p (.int .u64 0)),(.p (.int .i64 0))]) (by decide) rfl
 refine .op (congrArg some e12) ?_
 obtain ⟨H15,e16,S17⟩:=S13.stGv (i:=0) (j:=0) (own:=false) (σ:=(4::0::1::1::0::σ)) (xs:=[.p (.int .u32 a6.Owner),.p (.int .u64 a6.Rate),.p (.int .i64 a6.Over)]) rfl rfl (sC (sI _ _) (sC (sI _ _) (sC (sI _ _) sN))) rfl rfl
 refine .op (sM e16) ?_
 refine .as (z79 ?_ k x0 1 ((⟨0,0,0⟩:z7)) a6 u0 hu0 (0::0::0::σ) (3::0::1::1::0::σ) H15 (S17.wk2 (aC (aM 1 rfl) (aC (aM 0 rfl) aN)) aN))
 ·intro yg23 yg25 s55 s57 H53 S54
  refine .ext (z5u _ _ _ _ _ _) ?_
  refine .op ((S54.atG (i:=1) rfl).ldVs (j:=0) (xs:=[.p (.int .u32 yg25.Owner),.p (.int .u64 yg25.Rate),.p (.int .i64 yg25.Over)]) rfl rfl (by decide)) ?_
  obtain ⟨H59,e60,S61⟩:=S54.stGv (i:=0) (j:=0) (own:=false) (σ:=(1::0::1::1::1::1::0::σ)) (xs:=[.p (.int .u32 yg25.Owner),.p (.int .u64 yg25.Rate),.p (.int .i64 yg25.Over)]) rfl rfl (sC (sI _ _) (sC (sI _ _) (sC (sI _ _) sN))) rfl rfl
  refine .op (sM e60) ?_
  have e62:ldO true 3 H59 (.ref ⟨h.length,4,0,s55,[]⟩ 0)=some (.agg [.p (.int .u32 yg25.Owner),.p (.int .u64 yg25.Rate),.p (.int .i64 yg25.Over)]):=(S61.atG (i:=0) rfl).ldVs (j:=0) rfl rfl (by decide)
  refine .op (congrArg (Option.bind · _) e62) ?_
  exact .fin (S61.finN (lC (Stills.lv (z6.still (z6.mk))) lN)) ⟨_,(z6.mk),rfl⟩
def z6n {β:Type} (k:Nat) (kE0:(List z7)→Option β) (x3:(List z7)) (x5:(List z7)) (x6:Bool) (yg19:z7):Option β:=match k with
| 0=>none
| k+1 =>
bif x6 then (
(ap 24 x5 ([yg19])).bind fun a35 =>
(zb3 k x3 yg19).bind fun r41 =>
z6n k kE0 x3 a35 r41.2 r41.1)
else (
kE0 x5)
def zbx (k:Nat) (x0:(List z7)):Option ((List z7)) :=
(zbv k x0).bind fun r1 =>
bif ((r1.length:Int))==0 then (
some ((([]:List z7))))
else (
(z22 k r1).bind fun r9 =>
z6n k (fun r57_5 =>
some (r57_5)) r1 (([]:List z7)) true r9)
theorem zle {h:H}  {kE0:(List z7)→Option β} (hE0:∀ (q5:(List z7)) (v53:V) (H51:Go.Ev.H) (_:Fm 27 h [] [] [⟨[24],v53,z6,q5⟩] H51),Sim (kE0 q5) (K ((.exit 0),(envL [(5,v53)]),H51)) Q) (k:Nat):∀ (x3:(List z7)) (x5:(List z7)) (x6:Bool) (yg19:z7) (v27:V) (h28:SlF z6 x3 v27) (v29:V) (s31:Stamp) (H25:Go.Ev.H) (_:Fm 27 h [] [(4,s31,List.map C.v [(.p (.int .u32 yg19.Owner)),(.p (.int .u64 yg19.Rate)),(.p (.int .i64 yg19.Over))])] [⟨[24],v29,z6,x5⟩] H25) {σ:Stamp},Sim (z6n k kE0 x3 x5 x6 yg19) ((cvL G X0 zcs zcr σ (envL [(3,v27),(4,(.ref ⟨h.length,4,0,s31,[]⟩ 0)),(5,v29),(6,(.p (.bool x6)))]) H25).bind K) Q:=by
 induction k with
 | zero=>intros;exact .no
 | succ k ih =>
  intro x3 x5 x6 yg19 v27 h28 v29 s31 H25 S26 σ
  rw [z6n]
  refine .round (Sim.ext (zow _ _ _ _ _ _ _ _) ?_)
  refine .cq ?_ ?_
  ·refine .op ((S26.atG (i:=0) rfl).ldVs (j:=0) (xs:=[.p (.int .u32 yg19.Owner),.p (.int .u64 yg19.Rate),.p (.int .i64 yg19.Over)]) rfl rfl (by decide)) ?_
   have h34:SlF z6 [yg19] (.fz [(.p (.int .u32 yg19.Owner)),(.p (.int .u64 yg19.Rate)),(.p (.int .i64 yg19.Over))] 1 3 true):=SlF.lit (cs:=[(.p (.int .u32 yg19.Owner)),(.p (.int .u64 yg19.Rate)),(.p (.int .i64 yg19.Over))]) (RL.cons (show z6.R yg19 [.p (.int .u32 yg19.Owner),.p (.int .u64 yg19.Rate),.p (.int .i64 yg19.Over)] from (z6.mk)) RL.nil) rfl rfl true
   refine .op (bldS (pC (c:=[.p (.int .u32 yg19.Owner),.p (.int .u64 yg19.Rate),.p (.int .i64 yg19.Over)]) rfl pN) (by kernel_rfl:_=some (vOf h34))) ?_
   refine .bd fun a35 h36=>?_
   obtain ⟨v37,H38,e39,S40⟩:=S26.app (i:=0) (d:=24) (e:=3) (own:=false) (σ:=(3::0::1::0::σ)) rfl (h34.h H25).y h36 rfl (by decide) (by decide) rfl
   refine .op (e39) ?_
   refine .op ((S40.atG (i:=0) rfl).ldVs (j:=0) (xs:=[.p (.int .u32 yg19.Owner),.p (.int .u64 yg19.Rate),.p (.int .i64 yg19.Over)]) rfl rfl (by decide)) ?_
   refine .call (zoe k x3 (h28.h H38) yg19 (show z6.R yg19 [.p (.int .u32 yg19.Owner),.p (.int .u64 yg19.Rate),.p (.int .i64 yg19.Over)] from (z6.mk))) fun r41 cs42 H43 h44 q45=>?_
   obtain ⟨w46,h47,q45⟩:=q45
   cases q45
   obtain rfl:=z6.inv h47
   refine .or ?_
   refine .or ?_
   refine .ab ?_
   obtain ⟨H48,e49,S50⟩:=S40.stGv (i:=0) (j:=0) (own:=false) (σ:=(6::1::1::0::σ)) (xs:=[(.p (.int .u32 r41.1.Owner)),(.p (.int .u64 r41.1.Rate)),(.p (.int .i64 r41.1.Over))]) rfl rfl (sC (sI _ _) (sC (sI _ _) (sC (sI _ _) sN))) rfl rfl
   refine .op (sM e49) ?_
   exact ih x3 a35 r41.2 r41.1 v27 h28 v37 s31 H48 (S50.wk2 (aC (aM 0 rfl) aN) (aC ⟨[24,24],by simp,aM 0 rfl⟩ aN))
  exact hE0 x5 v29 H25 (S26.wk2 aN (aC ⟨[24],by simp,aM 0 rfl⟩ aN))
theorem zpr (k:Nat) {h:H} {σ:Stamp} (x0:List z7) {u0:V} (hu0:SlH h z6 x0 u0):Sim (zbx k x0) (ev G X0 83 σ [u0] h) (fun r s=>∃ (v0:V),SlF z6 r v0∧s=([.v v0],h)):=by
 refine .ev rfl (Sim.ext (zlf _ _ _ _ _) ?_)
 rw [zbx]
 have S0:Fm 27 h [] [] [] (List.replicate 27 []::h):=Fm.start0
 refine .call (zov k x0 (S0.low hu0)) fun r1 cs2 H3 h4 q5=>?_
 obtain ⟨v6,h7,q5⟩:=q5
 cases q5
 refine .op ((h7.h (List.replicate 27 []::h)).len) ?_
 refine .ci ?_
 refine .cq ?_ ?_
 ·exact .fin (S0.finN (lC (SlF.nil z6).still.lv lN)) ⟨(.p (.slice none 0 0)),(SlF.nil z6),rfl⟩
 refine .call (z7r k r1 (h7.h (List.replicate 27 []::h))) fun r9 cs10 H11 h12 q13=>?_
 obtain ⟨w14,h15,q13⟩:=q13
 cases q13
 obtain rfl:=z6.inv h15
 obtain ⟨H16,e17,S18⟩:=S0.al (d:=4) (s:=(2::0::1::1::1::0::σ)) (z:=[(.p (.int .u32 0)),(.p (.int .u64 0)),(.p (.int .i64 0))]) (by decide) rfl
 refine .op (congrArg some e17) ?_
 obtain ⟨H20,e21,S22⟩:=S18.stGv (i:=0) (j:=0) (own:=false) (σ:=(3::0::1::1::1::0::σ)) (xs:=[(.p (.int .u32 r9.Owner)),(.p (.int .u64 r9.Rate)),(.p (.int .i64 r9.Over))]) rfl rfl (sC (sI _ _) (sC (sI _ _) (sC (sI _ _) sN))) rfl rfl
 refine .op (sM e21) ?_
 have S56:=S22.nil z6 []
 refine .as (zle ?_ k r1 (([]:List z7)) true r9 v6 h7 (.p (.slice none 0 0)) (2::0::1::1::1::0::σ) H20 (S56.wk2 (aC (aM 0 rfl) aN) (aC ⟨[],by simp,aM 0 rfl⟩ aN)))
 ·intro r57_5 v60 H58 S59
  refine .ext (znb _ _ _ _ _) ?_
  obtain ⟨v62,e63,S64⟩:=clip_D (G:=G) (X:=X0) (i:=0) (f:=81) (fun x h=>z6e _ _ _ x h) S59 rfl rfl rfl
  refine .op (e63) ?_
  obtain ⟨v70,H65,e66,h68,S67⟩:=S64.expFrz (i:=0) (τ:=0::1::σ) rfl rfl
  exact .fin (S67.finE (Ex.st e66 Ex.nil)) ⟨v70,h68,rfl⟩
end
end Go.Ev
namespace Go.Ev
namespace Lim
open Srt Alm
def sg (a b:Int):Int:=if a<b then -1 else if b<a then 1 else 0
def orI (a b:Int):Int:=if a=0 then b else a
def tiesI (a b:Tu):Int:=orI (sg b.Over a.Over) (sg a.Owner b.Owner)
def cS (a b:Tu):Int:=orI (sg a.Rate b.Rate) (tiesI a b)
def cN (l a b:Tu):Int:=orI (sg (IntKind.wrap .u64 (IntKind.wrap .u64 (a.Rate-l.Rate)*IntKind.wrap .u64 (IntKind.wrap .i64 (b.Over-l.Over)))) (IntKind.wrap .u64 (IntKind.wrap .u64 (b.Rate-l.Rate)*IntKind.wrap .u64 (IntKind.wrap .i64 (a.Over-l.Over))))) (tiesI a b)
theorem cmpi (a b:Int):z7o a b=some (sg a b):=by
 unfold z7o z8j sg
 by_cases h1:a<b
 ·simp [h1]
 ·by_cases h2:b<a
  ·simp [h1,h2]
  ·simp [h1,h2]
theorem zrb {a b:Tu} {k:Nat} (hk:3≤k):z9g k a b=some (tiesI a b):=by
 unfold z9g tiesI
 rw [cmpi,Option.bind_some,cmp32,Option.bind_some,or2 hk];rfl
theorem cS_ok {a b:Tu} {k:Nat} (hk:3≤k):za8 k a b=some (cS a b):=by
 unfold za8 cS
 rw [cmpu,Option.bind_some,zrb hk,Option.bind_some,or2 hk];rfl
theorem cN_ok {a b l:Tu} {k:Nat} (hk:3≤k):z9l k a b l=some (cN l a b):=by
 unfold z9l cN
 rw [cmpu,Option.bind_some,zrb hk,Option.bind_some,or2 hk];rfl
def pick (c:Tu→Tu→Int) (b a:Tu):Tu:=if c a b<0 then a else b
theorem zu5 {l:List Tu} (h1000:l.length≤1000) (kE:Tu→Tu→Option Tu) (y:Tu):∀ m i k:Nat,∀ b:Tu,i+m=l.length→m+5≤k →
  z17 k kE l (i:Int) y b=kE y ((l.drop i).foldl (pick cS) b):=by
 intro m
 induction m with
 | zero =>
  intro i k b hi hk
  obtain ⟨k,rfl⟩:∃ j,k=j+1:=⟨k-1,by omega⟩
  rw [z17,decide_eq_false (by omega),cond_false,List.drop_of_length_le (by omega)];rfl
 | succ m ih =>
  intro i k b hi hk
  obtain ⟨k,rfl⟩:∃ j,k=j+1:=⟨k-1,by omega⟩
  rw [z17,decide_eq_true (by omega),cond_true,tix (by omega),Option.bind_some,cS_ok (by omega),Option.bind_some,List.drop_eq_getElem_cons (by omega:i<l.length),List.foldl_cons,tget (by omega),show IntKind.wrap .i64 ((i:Int)+1)=((i+1:Nat):Int) from wrap_i64 (by omega) (by omega)]
  unfold pick
  by_cases h:cS l[i] b<0
  ·rw [decide_eq_true h,cond_true,if_pos h]
   exact ih (i+1) k _ (by omega) (by omega)
  ·rw [decide_eq_false h,cond_false,if_neg h]
   exact ih (i+1) k _ (by omega) (by omega)
theorem zus {x:Tu} {xs:List Tu} (h1000:xs.length<1000) {k:Nat} (hk:1100≤k):z22 k (x::xs)=some (xs.foldl (pick cS) x):=by
 unfold z22
 rw [decide_eq_false (by simp only [List.length_cons];omega),cond_false,show ix (x::xs) 0=some x from rfl,Option.bind_some]
 have:=zu5 (l:=x::xs) (by simp only [List.length_cons];omega) (fun yg23 yg25=>some (yg25)) ⟨0,0,0⟩ xs.length 1 k x (by simp only [List.length_cons];omega) (by omega)
 exact this
theorem zvd {l:List Tu} {la:Tu} (h1000:l.length≤1000) (kE:Tu→Tu→Option Tu) (y:Tu):∀ m i k:Nat,∀ b:Tu,i+m=l.length→m+5≤k →
  z14 k kE l la (i:Int) y b=kE y ((l.drop i).foldl (pick (cN la)) b):=by
 intro m
 induction m with
 | zero =>
  intro i k b hi hk
  obtain ⟨k,rfl⟩:∃ j,k=j+1:=⟨k-1,by omega⟩
  rw [z14,decide_eq_false (by omega),cond_false,List.drop_of_length_le (by omega)];rfl
 | succ m ih =>
  intro i k b hi hk
  obtain ⟨k,rfl⟩:∃ j,k=j+1:=⟨k-1,by omega⟩
  rw [z14,decide_eq_true (by omega),cond_true,tix (by omega),Option.bind_some,cN_ok (by omega),Option.bind_some,List.drop_eq_getElem_cons (by omega:i<l.length),List.foldl_cons,tget (by omega),show IntKind.wrap .i64 ((i:Int)+1)=((i+1:Nat):Int) from wrap_i64 (by omega) (by omega)]
  unfold pick
  by_cases h:cN la l[i] b<0
  ·rw [decide_eq_true h,cond_true,if_pos h]
   exact ih (i+1) k _ (by omega) (by omega)
  ·rw [decide_eq_false h,cond_false,if_neg h]
   exact ih (i+1) k _ (by omega) (by omega)
theorem zu7 {x la:Tu} {xs:List Tu} (h1000:xs.length<1000) {k:Nat} (hk:1100≤k):z21 k (x::xs) la=some (xs.foldl (pick (cN la)) x):=by
 unfold z21
 rw [decide_eq_false (by simp only [List.length_cons];omega),cond_false,show ix (x::xs) 0=some x from rfl,Option.bind_some]
 have:=zvd (l:=x::xs) (la:=la) (by simp only [List.length_cons];omega) (fun yg27 yg29=>some (yg29)) ⟨0,0,0⟩ xs.length 1 k x (by simp only [List.length_cons];omega) (by omega)
 exact this
theorem zpq {c:Tu→Tu→Int}:∀ (xs:List Tu) (x:Tu),xs.foldl (pick c) x=x∨xs.foldl (pick c) x∈xs
 | [],_=>.inl rfl
 | a::xs,x=>by
  rw [List.foldl_cons]
  rcases zpq xs (pick c x a) with h | h
  ·rw [h];unfold pick;split
   ·exact .inr (List.mem_cons_self ..)
   ·exact .inl rfl
  ·exact .inr (List.mem_cons_of_mem _ h)
theorem zo3 {c:Tu→Tu→Int} {xs:List Tu} {x:Tu}:xs.foldl (pick c) x∈x::xs:=by
 rcases zpq (c:=c) xs x with h | h
 ·rw [h];exact List.mem_cons_self ..
 ·exact List.mem_cons_of_mem _ h
def heldT (t:Tu):Tu:=⟨t.Owner,if 1099511627776<t.Rate then 1099511627776 else t.Rate,if (if 511<t.Over then 511 else t.Over)>0 then (if 511<t.Over then 511 else t.Over) else 0⟩
theorem all_l0 {l:List Tu} (h1000:l.length≤1000) (kE:List Tu→Option (List Tu)):∀ m i k:Nat,∀ o:List Tu,i+m=l.length→m+5≤k→o.length=i →
  z6k k kE o l (l.length:Int) (i:Int)=kE (o++(l.drop i).map heldT):=by
 intro m
 induction m with
 | zero =>
  intro i k o hi hk ho
  obtain ⟨k,rfl⟩:∃ j,k=j+1:=⟨k-1,by omega⟩
  rw [z6k,decide_eq_false (by omega),cond_false,List.drop_of_length_le (by omega),List.map_nil,List.append_nil]
 | succ m ih =>
  intro i k o hi hk ho
  obtain ⟨k,rfl⟩:∃ j,k=j+1:=⟨k-1,by omega⟩
  rw [z6k,decide_eq_true (by omega),cond_true,tix (by omega),Option.bind_some,List.drop_eq_getElem_cons (by omega:i<l.length),tget (by omega),show IntKind.wrap .i64 ((i:Int)+1)=((i+1:Nat):Int) from wrap_i64 (by omega) (by omega)]
  have hh:zcq l[i]=some (heldT l[i]):=rfl
  rw [hh,Option.bind_some,ap_eq (by omega) (by simp only [List.length_cons,List.length_nil];omega),Option.bind_some,ih (i+1) k _ (by omega) (by omega) (by rw [List.length_append,ho];rfl),List.map_cons,List.append_assoc]
  rfl
theorem all_ok {l:List Tu} (h1000:l.length≤1000) {k:Nat} (hk:1100≤k):zbv k l=some (l.map heldT):=by
 unfold zbv
 have:=all_l0 h1000 (fun r42_3=>some (r42_3)) l.length 0 k [] (by omega) (by omega) rfl
 rw [List.drop_zero,List.nil_append] at this
 exact this
def above (l:List Tu) (o:Int):List Tu:=l.filter fun t=>decide (t.Over>o)
theorem zux {l:List Tu} {la:Tu} (h1000:l.length≤1000) (kE:List Tu→Tu→Tu→Option (Tu×Bool)) (y:Tu):∀ m i k:Nat,∀ o:List Tu,i+m=l.length→m+5≤k→o.length≤i →
  z4z k kE o l (l.length:Int) (i:Int) la y=kE (o++above (l.drop i) la.Over) la y:=by
 intro m
 induction m with
 | zero =>
  intro i k o hi hk ho
  obtain ⟨k,rfl⟩:∃ j,k=j+1:=⟨k-1,by omega⟩
  rw [z4z,decide_eq_false (by omega),cond_false,List.drop_of_length_le (by omega)]
  unfold above
  rw [List.filter_nil,List.append_nil]
 | succ m ih =>
  intro i k o hi hk ho
  obtain ⟨k,rfl⟩:∃ j,k=j+1:=⟨k-1,by omega⟩
  rw [z4z,decide_eq_true (by omega),cond_true,tix (by omega),Option.bind_some,List.drop_eq_getElem_cons (by omega:i<l.length),tget (by omega),show IntKind.wrap .i64 ((i:Int)+1)=((i+1:Nat):Int) from wrap_i64 (by omega) (by omega)]
  by_cases h:l[i].Over>la.Over
  ·have:above (l[i]::l.drop (i+1)) la.Over=l[i]::above (l.drop (i+1)) la.Over:=by
    unfold above;rw [List.filter_cons,decide_eq_true h];rfl
   rw [this,decide_eq_true h,cond_true,ap_eq (by omega) (by simp only [List.length_cons,List.length_nil];omega),Option.bind_some,ih (i+1) k _ (by omega) (by omega) (by rw [List.length_append];simp only [List.length_cons,List.length_nil];omega),List.append_assoc]
   rfl
  ·have:above (l[i]::l.drop (i+1)) la.Over=above (l.drop (i+1)) la.Over:=by
    unfold above;rw [List.filter_cons,decide_eq_false h];rfl
   rw [this,decide_eq_false h,cond_false,ih (i+1) k _ (by omega) (by omega) (by omega)]
def nextT (l:List Tu) (la:Tu):Tu×Bool:=match above l la.Over with
 | []=>(⟨0,0,0⟩,false)
 | x::xs=>let b:=xs.foldl (pick (cN la)) x
  (b,decide (IntKind.wrap .u64 (la.Rate*IntKind.wrap .u64 (IntKind.wrap .i64 (b.Over-la.Over)))>IntKind.wrap .u64 (IntKind.wrap .u64 la.Over*IntKind.wrap .u64 (b.Rate-la.Rate))))
theorem zv8 {l:List Tu} {la:Tu} (h1000:l.length≤1000) {k:Nat} (hk:1100≤k):zb3 k l la=some (nextT l la):=by
 unfold zb3
 generalize hK:(fun (r52_6:List z7) (yg18 yg20:z7)=>_)=K
 have e:=zux (la:=la) h1000 K ⟨0,0,0⟩ l.length 0 k [] (by omega) (by omega) (Nat.le_refl _)
 rw [List.drop_zero,List.nil_append] at e
 refine Eq.trans e ?_
 rw [← hK]
 unfold nextT
 have hla:(above l la.Over).length≤l.length:=List.length_filter_le ..
 cases ha:above l la.Over with
 | nil=>rfl
 | cons x xs =>
  rw [ha] at hla
  simp only [List.length_cons] at hla
  have:(((x::xs).length:Int)==0)=false:=beq_eq_false_iff_ne.2 (by simp only [List.length_cons];omega)
  simp only
  rw [this,cond_false,zu7 (by omega) hk,Option.bind_some]
theorem zo1 {l:List Tu} {la:Tu} (h:(nextT l la).2=true):(nextT l la).1∈above l la.Over:=by
 unfold nextT at h ⊢
 cases ha:above l la.Over with
 | nil=>rw [ha] at h;cases h
 | cons x xs=>exact zo3
theorem zp1 {l:List Tu} {a b:Tu} (h:b∈above l a.Over):(above l b.Over).length<(above l a.Over).length:=by
 obtain ⟨h1,h2⟩:=List.mem_filter.1 h
 have h2:b.Over>a.Over:=of_decide_eq_true h2
 have e:above l b.Over=above (above l a.Over) b.Over:=by
  unfold above
  rw [List.filter_filter]
  refine List.filter_congr fun t _=>?_
  rw [Bool.eq_iff_iff]
  simp only [Bool.and_eq_true,decide_eq_true_eq]
  omega
 rw [e]
 refine Nat.lt_of_le_of_ne (List.length_filter_le ..) fun e2=>?_
 have:=List.length_filter_eq_length_iff.1 e2 b h
 simp at this
def setL (l:List Tu):Nat→Tu→List Tu
 | 0,_=>[]
 | n+1,la=>la::(if (nextT l la).2=true then setL l n (nextT l la).1 else [])
theorem set_l0 {l:List Tu} (h1000:l.length≤1000) (kE:List Tu→Option (List Tu)):∀ n k:Nat,∀ (o:List Tu) (la:Tu),(above l la.Over).length<n→n≤1001→n+1110≤k→o.length+n≤2000 →
  z6n k kE l o true la=kE (o++setL l n la):=by
 intro n
 induction n with
 | zero=>intro k o la h;omega
 | succ n ih =>
  intro k o la h hn hk ho
  obtain ⟨k,rfl⟩:∃ j,k=j+1+1:=⟨k-2,by omega⟩
  rw [z6n,cond_true,ap_eq (by omega) (by simp only [List.length_cons,List.length_nil];omega),Option.bind_some,zv8 h1000 (by omega),Option.bind_some]
  unfold setL
  cases hb:(nextT l la).2 with
  | true =>
   have hm:=zo1 hb
   have:=zp1 hm
   rw [ih (k+1) _ _ (by omega) (by omega) (by omega) (by rw [List.length_append];simp only [List.length_cons,List.length_nil];omega),if_pos rfl,List.append_assoc]
   rfl
  | false =>
   rw [z6n,cond_false,if_neg (by simp)]
def boundS (l:List Tu):List Tu:=match l.map heldT with
 | []=>[]
 | x::xs=>setL (x::xs) 1001 (xs.foldl (pick cS) x)
theorem ztt {l:List Tu} (h1000:l.length<1000) {k:Nat} (hk:4000≤k):zbx k l=some (boundS l):=by
 unfold zbx
 rw [all_ok (by omega) (by omega),Option.bind_some]
 unfold boundS
 have hlen:(l.map heldT).length=l.length:=List.length_map ..
 cases hm:l.map heldT with
 | nil=>rfl
 | cons x xs =>
  rw [hm] at hlen
  simp only [List.length_cons] at hlen
  have:(((x::xs).length:Int)==0)=false:=beq_eq_false_iff_ne.2 (by simp only [List.length_cons];omega)
  rw [this,cond_false,zus (by omega) (by omega),Option.bind_some]
  have hab:(above (x::xs) (xs.foldl (pick cS) x).Over).length≤(x::xs).length:=List.length_filter_le ..
  simp only [List.length_cons] at hab
  have:=set_l0 (l:=x::xs) (by simp only [List.length_cons];omega) (fun r57_5=>some (r57_5)) 1001 k [] (xs.foldl (pick cS) x) (by omega) (by omega) (by omega) (by simp)
  rw [List.nil_append] at this
  exact this
end Lim
end Go.Ev
namespace Go.Ev
open Go.Proofs
set_option linter.unusedVariables false
set_option linter.unusedSimpArgs false
set_option maxRecDepth 100000
noncomputable section
abbrev KT28:=Exit→Env→H→Option (List C × H)
variable (rec : CallF) (loop : LoopV) (σ : Stamp)
def zbt:Code:=(codeAt (bodyOf Try.f68) [1,1,1,1,0,1,0,0])
def zbp:Lv:=⟨9,4,[(0,9)]⟩
def zjr:KT28:=(kBlock 0 (kSeq G rec loop (codeAt (bodyOf Try.f68) [1,1,1,1,1]) ⟨4,4,[]⟩ (1::1::1::1::0::σ) (finC G true Try.f68 (1::σ))))
def zde:Code:=(codeAt (bodyOf Try.f68) [1,1,1,1,1,1,0,0])
def zdd:Lv:=⟨4,4,[(2,4)]⟩
def zjv (rec:CallF) (loop:LoopV) (σ:Stamp):KT28:=(kBlock 2 (finC G true Try.f68 (1::σ)))
theorem zmh (x0:V) (h:H):cvBody G rec loop 68 σ [x0] h =
(callO rec 107 (1::0::1::0::σ) [x0] (List.replicate 74 []::h) (some 10)).bind fun q1 =>
(lenO q1.1).bind fun t2 =>
(castI .i64 t2).bind fun n3 =>
bif n3==0 then (
fin true σ q1.2 [(.p (.slice .none 0 0))])
else (
(iS 3 q1.1 0).bind fun t4 =>
(ldO true 3 q1.2 t4).bind fun t5 =>
(some (alO [.p (.int .u32 0),.p (.int .u64 0),.p (.int .i64 0)] (3::0::1::1::1::0::σ) 3 q1.2)).bind fun q6 =>
((stO false 3 (4::0::1::1::1::0::σ) q6.2 q6.1 t5).map fun h=>(udf,h)).bind fun q7 =>
(lenO q1.1).bind fun t8 =>
(castI .i64 t8).bind fun n9 =>
(loop zbt zbp (1::0::1::1::1::1::0::σ) (envL [(0,q1.1),(3,q6.1),(17,q1.1),(18,(.p (.int .i64 n9))),(19,(.p (.int .i64 0)))]) q7.2).bind fun r10=>zjr rec loop σ r10.1 r10.2.1 r10.2.2):=by kernel_rfl
theorem zql (x0:V) (x3:V) (x17:V) (x18:Int) (x19:Int) (h:H):z1n G rec loop zbt zbp σ (envL [(0,x0),(3,x3),(17,x17),(18,(.p (.int .i64 x18))),(19,(.p (.int .i64 x19)))]) h =
bif decide (x19<x18) then (
(iS 3 x17 x19).bind fun t11 =>
(ldO true 3 h t11).bind fun t12 =>
(some (alO [.p (.int .u32 0),.p (.int .u64 0),.p (.int .i64 0)] (2::0::0::1::1::0::σ) 5 h)).bind fun q13 =>
((stO false 3 (3::0::0::1::1::0::σ) q13.2 q13.1 t12).map fun h=>(udf,h)).bind fun q14 =>
(fA q13.1 1).bind fun t15 =>
(ldO false 1 q14.2 t15).bind fun t16 =>
(castI .u64 t16).bind fun n17 =>
(fA x3 1).bind fun t18 =>
(ldO false 1 q14.2 t18).bind fun t19 =>
(castI .u64 t19).bind fun n20 =>
(bif decide (n17<n20) then (some true) else ((fA q13.1 1).bind fun t21 =>
(ldO false 1 q14.2 t21).bind fun t22 =>
(castI .u64 t22).bind fun n23 =>
(fA x3 1).bind fun t24 =>
(ldO false 1 q14.2 t24).bind fun t25 =>
(castI .u64 t25).bind fun n26 =>
(bif n23==n26 then ((fA q13.1 2).bind fun t27 =>
(ldO false 1 q14.2 t27).bind fun t28 =>
(castI .i64 t28).bind fun n29 =>
(fA x3 2).bind fun t30 =>
(ldO false 1 q14.2 t30).bind fun t31 =>
(castI .i64 t31).bind fun n32 =>
(bif decide (n29>n32) then (some true) else ((fA q13.1 2).bind fun t33 =>
(ldO false 1 q14.2 t33).bind fun t34 =>
(castI .i64 t34).bind fun n35 =>
(fA x3 2).bind fun t36 =>
(ldO false 1 q14.2 t36).bind fun t37 =>
(castI .i64 t37).bind fun n38 =>
(bif n35==n38 then ((fA q13.1 0).bind fun t39 =>
(ldO false 1 q14.2 t39).bind fun t40 =>
(castI .u32 t40).bind fun n41 =>
(fA x3 0).bind fun t42 =>
(ldO false 1 q14.2 t42).bind fun t43 =>
(castI .u32 t43).bind fun n44 =>
some (decide (n41<n44))) else (some false)).bind fun b45 =>
some b45)).bind fun b46 =>
some b46) else (some false)).bind fun b47 =>
some b47)).bind fun b48 =>
bif b48 then (
(ldO true 3 q14.2 q13.1).bind fun t49 =>
((stO false 3 (1::1::1::0::1::1::0::σ) q14.2 x3 t49).map fun h=>(udf,h)).bind fun q50 =>
loop zbt zbp (1::σ) (envL [(0,x0),(3,x3),(17,x17),(18,(.p (.int .i64 x18))),(19,(.p (.int .i64 (IntKind.wrap .i64 (x19+1)))))]) q50.2)
else (
loop zbt zbp (1::σ) (envL [(0,x0),(3,x3),(17,x17),(18,(.p (.int .i64 x18))),(19,(.p (.int .i64 (IntKind.wrap .i64 (x19+1)))))]) q14.2))
else (
some ((.exit 0),(envL [(0,x0),(3,x3)]),h)):=by kernel_rfl
theorem zoi (x0:V) (x3:V) (h:H):zjr rec loop σ (.exit 0) (envL [(0,x0),(3,x3)]) h =
(ldO true 3 h x3).bind fun t51 =>
(bSV Try.prog 28 1 [(0,t51)]).bind fun t52 =>
(loop zde zdd (1::1::1::1::1::1::0::σ) (envL [(0,x0),(3,x3),(6,t52)]) h).bind fun r53=>zjv rec loop σ r53.1 r53.2.1 r53.2.2:=by kernel_rfl
theorem zqh (x0:V) (x3:V) (x6:V) (h:H):z1n G rec loop zde zdd σ (envL [(0,x0),(3,x3),(6,x6)]) h =
(ldO true 3 h x3).bind fun t54 =>
(callO rec 108 (2::0::0::σ) [x0,t54] h (some 63)).bind fun q55 =>
(extV q55.1 0).bind fun t56 =>
(extV q55.1 1).bind fun t57 =>
(asB t57).bind fun b58 =>
(some (alO [.p (.int .u32 0),.p (.int .u64 0),.p (.int .i64 0)] (6::0::0::σ) 7 q55.2)).bind fun q59 =>
((stO false 3 (7::0::0::σ) q59.2 q59.1 t56).map fun h=>(udf,h)).bind fun q60 =>
bif !b58 then (
some (.ret,(envL [(2,x6)]),q60.2))
else (
(ldO true 3 q60.2 q59.1).bind fun t61 =>
(bSV Try.prog 28 1 [(0,t61)]).bind fun t62 =>
(apO false 3 24 (3::0::1::1::0::σ) 72 q60.2 x6 t62).bind fun q63 =>
(ldO true 3 q63.2 q59.1).bind fun t64 =>
((stO false 3 (1::1::1::1::0::σ) q63.2 x3 t64).map fun h=>(udf,h)).bind fun q65 =>
loop zde zdd (1::σ) (envL [(0,x0),(3,x3),(6,q63.1)]) q65.2):=by kernel_rfl
theorem zm5 (x2:V) (h:H):zjv rec loop σ .ret (envL [(2,x2)]) h =
fin true σ h [x2]:=by kernel_rfl
def zda:Code:=(codeAt (bodyOf Try.f107) [1,1,0,1,0,0])
def zdi:Lv:=⟨8,4,[(0,8)]⟩
def zjq:KT28:=(kBlock 0 (kSeq G rec loop (codeAt (bodyOf Try.f107) [1,1,1]) ⟨4,4,[]⟩ (1::1::0::σ) (finC G true Try.f107 (1::σ))))
theorem zmj (x0:V) (h:H):cvBody G rec loop 107 σ [x0] h =
(lenO x0).bind fun t1 =>
(castI .i64 t1).bind fun n2 =>
(loop zda zdi (1::0::1::1::0::σ) (envL [(3,(.p (.slice .none 0 0))),(6,x0),(7,(.p (.int .i64 n2))),(8,(.p (.int .i64 0)))]) (List.replicate 19 []::h)).bind fun r3=>zjq rec loop σ r3.1 r3.2.1 r3.2.2:=by kernel_rfl
theorem zqa (x3:V) (x6:V) (x7:Int) (x8:Int) (h:H):z1n G rec loop zda zdi σ (envL [(3,x3),(6,x6),(7,(.p (.int .i64 x7))),(8,(.p (.int .i64 x8)))]) h =
bif decide (x8<x7) then (
(iS 3 x6 x8).bind fun t4 =>
(ldO true 3 h t4).bind fun t5 =>
(some (alO [.p (.int .u32 0),.p (.int .u64 0),.p (.int .i64 0)] (2::0::0::1::1::0::σ) 5 h)).bind fun q6 =>
((stO false 3 (3::0::0::1::1::0::σ) q6.2 q6.1 t5).map fun h=>(udf,h)).bind fun q7 =>
(ldO true 3 q7.2 q6.1).bind fun t8 =>
(callO rec 137 (2::1::0::1::1::0::σ) [t8] q7.2 (some 14)).bind fun q9 =>
(bSV Try.prog 28 1 [(0,q9.1)]).bind fun t10 =>
(apO false 3 24 (4::1::0::1::1::0::σ) 16 q9.2 x3 t10).bind fun q11 =>
loop zda zdi (1::σ) (envL [(3,q11.1),(6,x6),(7,(.p (.int .i64 x7))),(8,(.p (.int .i64 (IntKind.wrap .i64 (x8+1)))))]) q11.2)
else (
some ((.exit 0),(envL [(3,x3)]),h)):=by kernel_rfl
theorem zol (x3:V) (h:H):zjq rec loop σ (.exit 0) (envL [(3,x3)]) h =
fin true σ h [x3]:=by kernel_rfl
theorem zld (x0:V) (h:H):cvBody G rec loop 137 σ [x0] h =
(boxO false (0::0::0::σ) 1 (List.replicate 13 []::h) x0).bind fun q1 =>
(some (alO [.p (.int .u32 0),.p (.int .u64 0),.p (.int .i64 0)] (1::0::0::σ) 2 q1.2)).bind fun q2 =>
(fA q1.1 1).bind fun t3 =>
(ldO false 1 q2.2 t3).bind fun t4 =>
(castI .u64 t4).bind fun n5 =>
(fA q1.1 2).bind fun t6 =>
(ldO false 1 q2.2 t6).bind fun t7 =>
(castI .i64 t7).bind fun n8 =>
(fA q1.1 1).bind fun t9 =>
((stO true 1 (8::0::1::0::σ) q2.2 t9 (.p (.int .u64 ((if 1099511627776<n5 then 1099511627776 else n5))))).map fun h=>(udf,h)).bind fun q10 =>
(fA q1.1 2).bind fun t11 =>
((stO true 1 (10::0::1::0::σ) q10.2 t11 (.p (.int .i64 ((if 0>((if 511<n8 then 511 else n8)) then 0 else ((if 511<n8 then 511 else n8))))))).map fun h=>(udf,h)).bind fun q12 =>
(ldO true 3 q12.2 q1.1).bind fun t13 =>
((stO false 3 (1::0::1::1::0::σ) q12.2 q2.1 t13).map fun h=>(udf,h)).bind fun q14 =>
((ldO true 3 q14.2 q2.1).bind fun t15=>(some []).map (t15::·)).bind fun t16=>fin false σ q14.2 t16:=by kernel_rfl
end
end Go.Ev
namespace Go.Ev
open Go.Proofs
set_option linter.unusedVariables false
set_option linter.unusedSimpArgs false
set_option maxRecDepth 100000
section
variable {β α : Type} {Q : β→α→Prop} {K : Exit × Env × H→Option α}
def zbw (x0:z7):Option (z7) :=
some (((⟨x0.Owner,((if 1099511627776<x0.Rate then 1099511627776 else x0.Rate)),((if 0>((if 511<x0.Over then 511 else x0.Over)) then 0 else ((if 511<x0.Over then 511 else x0.Over))))⟩:z7)))
theorem zpa {h:H} {σ:Stamp} (x0:z7) {u0:List V} (hu0:z6.R x0 u0):Sim (zbw x0) (ev G X0 137 σ [(.agg u0)] h) (fun r s=>∃ (w0:List V),z6.R r w0∧s=([.v (.agg w0)],h)):=by
 refine .ev rfl (Sim.ext (zld _ _ _ _ _) ?_)
 rw [zbw]
 obtain rfl:=z6.inv hu0
 have S0:Fm 13 h [] [] [] (List.replicate 13 []::h):=Fm.start0
 obtain ⟨H1,e2,S3⟩:=S0.box (own:=false) (d:=1) (s:=(0::0::0::σ)) (xs:=[(.p (.int .u32 x0.Owner)),(.p (.int .u64 x0.Rate)),(.p (.int .i64 x0.Over))]) (sC (sI _ _) (sC (sI _ _) (sC (sI _ _) sN))) (by decide) rfl
 refine .op (e2) ?_
 obtain ⟨H5,e6,S7⟩:=S3.al (d:=2) (s:=(1::0::0::σ)) (z:=[(.p (.int .u32 0)),(.p (.int .u64 0)),(.p (.int .i64 0))]) (by decide) rfl
 refine .op (congrArg some e6) ?_
 refine .fa ?_
 refine .op ((S7.atG (i:=1) rfl).ld (j:=1) rfl) ?_
 refine .ci ?_
 refine .fa ?_
 refine .op ((S7.atG (i:=1) rfl).ld (j:=2) rfl) ?_
 refine .ci ?_
 refine .fa ?_
 obtain ⟨H9,e10,S11⟩:=S7.stG (i:=1) (j:=1) (own:=true) (σ:=(8::0::1::0::σ)) (x:=(.p (.int .u64 ((if 1099511627776<x0.Rate then 1099511627776 else x0.Rate))))) rfl rfl (sI _ _) rfl
 refine .op (sM e10) ?_
 refine .fa ?_
 obtain ⟨H12,e13,S14⟩:=S11.stG (i:=1) (j:=2) (own:=true) (σ:=(10::0::1::0::σ)) (x:=(.p (.int .i64 ((if 0>((if 511<x0.Over then 511 else x0.Over)) then 0 else ((if 511<x0.Over then 511 else x0.Over))))))) rfl rfl (sI _ _) rfl
 refine .op (sM e13) ?_
 refine .op ((S14.atG (i:=1) rfl).ldVs (j:=0) (xs:=[.p (.int .u32 x0.Owner),.p (.int .u64 ((if 1099511627776<x0.Rate then 1099511627776 else x0.Rate))),.p (.int .i64 ((if 0>((if 511<x0.Over then 511 else x0.Over)) then 0 else ((if 511<x0.Over then 511 else x0.Over)))))]) rfl rfl (by decide)) ?_
 obtain ⟨H15,e16,S17⟩:=S14.stGv (i:=0) (j:=0) (own:=false) (σ:=(1::0::1::1::0::σ)) (xs:=[.p (.int .u32 x0.Owner),.p (.int .u64 ((if 1099511627776<x0.Rate then 1099511627776 else x0.Rate))),.p (.int .i64 ((if 0>((if 511<x0.Over then 511 else x0.Over)) then 0 else ((if 511<x0.Over then 511 else x0.Over)))))]) rfl rfl (sC (sI _ _) (sC (sI _ _) (sC (sI _ _) sN))) rfl rfl
 refine .op (sM e16) ?_
 have e18:ldO true 3 H15 (.ref ⟨h.length,2,0,(1::0::0::σ),[]⟩ 0)=some (.agg [.p (.int .u32 x0.Owner),.p (.int .u64 ((if 1099511627776<x0.Rate then 1099511627776 else x0.Rate))),.p (.int .i64 ((if 0>((if 511<x0.Over then 511 else x0.Over)) then 0 else ((if 511<x0.Over then 511 else x0.Over)))))]):=(S17.atG (i:=0) rfl).ldVs (j:=0) rfl rfl (by decide)
 refine .op (congrArg (Option.bind · _) e18) ?_
 exact .fin (S17.finN (lC (Stills.lv (z6.still (z6.mk))) lN)) ⟨_,(z6.mk),rfl⟩
def z7h {β:Type} (k:Nat) (kE0:(List z7)→Option β) (x3:(List z7)) (x6:(List z7)) (x7:Int) (x8:Int):Option β:=match k with
| 0=>none
| k+1 =>
bif decide (x8<x7) then (
(ix x6 x8).bind fun a10 =>
(zbw a10).bind fun r22 =>
(ap 24 x3 ([r22])).bind fun a30 =>
z7h k kE0 a30 x6 x7 (IntKind.wrap .i64 (x8+1)))
else (
kE0 x3)
def zbb (k:Nat) (x0:(List z7)):Option ((List z7)) :=
z7h k (fun r42_3 =>
some (r42_3)) (([]:List z7)) x0 ((x0.length:Int)) 0
theorem zmz {h:H}  {kE0:(List z7)→Option β} (hE0:∀ (q3:(List z7)) (v38:V) (H36:Go.Ev.H) (_:Fm 19 h [] [] [⟨[16],v38,z6,q3⟩] H36),Sim (kE0 q3) (K ((.exit 0),(envL [(3,v38)]),H36)) Q) (k:Nat):∀ (x3:(List z7)) (x6:(List z7)) (x7:Int) (x8:Int) (v5:V) (v7:V) (h8:SlH h z6 x6 v7) (H3:Go.Ev.H) (_:Fm 19 h [] [] [⟨[16],v5,z6,x3⟩] H3) {σ:Stamp},Sim (z7h k kE0 x3 x6 x7 x8) ((cvL G X0 zda zdi σ (envL [(3,v5),(6,v7),(7,(.p (.int .i64 x7))),(8,(.p (.int .i64 x8)))]) H3).bind K) Q:=by
 induction k with
 | zero=>intros;exact .no
 | succ k ih =>
  intro x3 x6 x7 x8 v5 v7 h8 H3 S4 σ
  rw [z7h]
  refine .round (Sim.ext (zqa _ _ _ _ _ _ _ _) ?_)
  refine .cq ?_ ?_
  ·refine .bd fun a10 h11=>?_
   refine .op ((S4.low h8).iS h11 rfl) ?_
   obtain ⟨w13,h14,hE12⟩:=(S4.low h8).el h11 rfl
   obtain rfl:=z6.inv h14
   refine .op (hE12.all (by simp)) ?_
   obtain ⟨H15,e16,S17⟩:=S4.al (d:=5) (s:=(2::0::0::1::1::0::σ)) (z:=[(.p (.int .u32 0)),(.p (.int .u64 0)),(.p (.int .i64 0))]) (by decide) rfl
   refine .op (congrArg some e16) ?_
   obtain ⟨H19,e20,S21⟩:=S17.stGv (i:=0) (j:=0) (own:=false) (σ:=(3::0::0::1::1::0::σ)) (xs:=[.p (.int .u32 a10.Owner),.p (.int .u64 a10.Rate),.p (.int .i64 a10.Over)]) rfl rfl (sC (sI _ _) (sC (sI _ _) (sC (sI _ _) sN))) rfl rfl
   refine .op (sM e20) ?_
   refine .op ((S21.atG (i:=0) rfl).ldVs (j:=0) (xs:=[.p (.int .u32 a10.Owner),.p (.int .u64 a10.Rate),.p (.int .i64 a10.Over)]) rfl rfl (by decide)) ?_
   refine .call (zpa a10 (show z6.R a10 [.p (.int .u32 a10.Owner),.p (.int .u64 a10.Rate),.p (.int .i64 a10.Over)] from (z6.mk))) fun r22 cs23 H24 h25 q26=>?_
   obtain ⟨w27,h28,q26⟩:=q26
   cases q26
   obtain rfl:=z6.inv h28
   have h29:SlF z6 [r22] (.fz [(.p (.int .u32 r22.Owner)),(.p (.int .u64 r22.Rate)),(.p (.int .i64 r22.Over))] 1 3 true):=SlF.lit (cs:=[(.p (.int .u32 r22.Owner)),(.p (.int .u64 r22.Rate)),(.p (.int .i64 r22.Over))]) (RL.cons h28 RL.nil) rfl rfl true
   refine .op (bldS (pC (c:=[(.p (.int .u32 r22.Owner)),(.p (.int .u64 r22.Rate)),(.p (.int .i64 r22.Over))]) rfl pN) (by kernel_rfl:_=some (vOf h29))) ?_
   refine .bd fun a30 h31=>?_
   obtain ⟨v32,H33,e34,S35⟩:=S21.app (i:=0) (d:=16) (e:=3) (own:=false) (σ:=(4::1::0::1::1::0::σ)) rfl (h29.h H19).y h31 rfl (by decide) (by decide) rfl
   refine .op (e34) ?_
   exact ih a30 x6 x7 (IntKind.wrap .i64 (x8+1)) v32 v7 h8 H33 (S35.wk2 aN (aC ⟨[16,16],by simp,aM 0 rfl⟩ aN))
  exact hE0 x3 v5 H3 (S4.wk2 aN (aC ⟨[16],by simp,aM 0 rfl⟩ aN))
theorem zjy (k:Nat) {h:H} {σ:Stamp} (x0:List z7) {u0:V} (hu0:SlH h z6 x0 u0):Sim (zbb k x0) (ev G X0 107 σ [u0] h) (fun r s=>∃ (v0:V),SlF z6 r v0∧s=([.v v0],h)):=by
 refine .ev rfl (Sim.ext (zmj _ _ _ _ _) ?_)
 rw [zbb]
 have S0:Fm 19 h [] [] [] (List.replicate 19 []::h):=Fm.start0
 refine .op ((S0.low hu0).len) ?_
 refine .ci ?_
 have S41:=S0.nil z6 []
 refine .as (zmz ?_ k (([]:List z7)) x0 ((x0.length:Int)) 0 (.p (.slice none 0 0)) u0 hu0 (List.replicate 19 []::h) (S41.wk2 aN (aC ⟨[],by simp,aM 0 rfl⟩ aN)))
 ·intro r42_3 v45 H43 S44
  refine .ext (zol _ _ _ _ _) ?_
  obtain ⟨v52,H47,e48,h50,S49⟩:=S44.expFrz (i:=0) (τ:=0::1::σ) rfl rfl
  exact .fin (S49.finE (Ex.st e48 Ex.nil)) ⟨v52,h50,rfl⟩
end
end Go.Ev
namespace Go.Ev
open Go.Proofs
set_option linter.unusedVariables false
set_option linter.unusedSimpArgs false
set_option maxRecDepth 100000
noncomputable section
abbrev KT29:=Exit→Env→H→Option (List C × H)
variable (rec : CallF) (loop : LoopV) (σ : Stamp)
def z7g:Code:=(codeAt (bodyOf Try.f108) [1,1,1,0,1,0,0])
def z7f:Lv:=⟨216,48,[(0,216)]⟩
def zhm:KT29:=(kBlock 0 (kSeq G rec loop (codeAt (bodyOf Try.f108) [1,1,1,1]) ⟨48,48,[]⟩ (1::1::1::0::σ) (finC G false Try.f108 (1::σ))))
theorem zkn (x0:V) (x1:V) (h:H):cvBody G rec loop 108 σ [x0,x1] h =
(boxO false (0::0::0::σ) 3 (List.replicate 117 []::h) x1).bind fun q1 =>
(some (alO [.p (.int .u32 0),.p (.int .u64 0),.p (.int .i64 0)] (1::0::0::σ) 4 q1.2)).bind fun q2 =>
(some (alO [.p (.int .u32 0),.p (.int .u64 0),.p (.int .i64 0)] (0::0::1::0::σ) 6 q2.2)).bind fun q3 =>
(lenO x0).bind fun t4 =>
(castI .i64 t4).bind fun n5 =>
(loop z7g z7f (1::0::1::1::1::0::σ) (envL [(3,q1.1),(4,q2.1),(6,q3.1),(7,(.p (.bool false))),(14,x0),(15,(.p (.int .i64 n5))),(16,(.p (.int .i64 0)))]) q3.2).bind fun r6=>zhm rec loop σ r6.1 r6.2.1 r6.2.2:=by kernel_rfl
theorem zof (x3:V) (x4:V) (x6:V) (x7:Bool) (x14:V) (x15:Int) (x16:Int) (h:H):z1n G rec loop z7g z7f σ (envL [(3,x3),(4,x4),(6,x6),(7,(.p (.bool x7))),(14,x14),(15,(.p (.int .i64 x15))),(16,(.p (.int .i64 x16)))]) h =
bif decide (x16<x15) then (
(iS 3 x14 x16).bind fun t7 =>
(ldO true 3 h t7).bind fun t8 =>
(some (alO [.p (.int .u32 0),.p (.int .u64 0),.p (.int .i64 0)] (2::0::0::1::1::0::σ) 9 h)).bind fun q9 =>
((stO false 3 (3::0::0::1::1::0::σ) q9.2 q9.1 t8).map fun h=>(udf,h)).bind fun q10 =>
(fA q9.1 2).bind fun t11 =>
(ldO false 1 q10.2 t11).bind fun t12 =>
(castI .i64 t12).bind fun n13 =>
(fA x3 2).bind fun t14 =>
(ldO false 1 q10.2 t14).bind fun t15 =>
(castI .i64 t15).bind fun n16 =>
(bif decide (n13≤n16) then (some true) else ((fA q9.1 1).bind fun t17 =>
(ldO false 1 q10.2 t17).bind fun t18 =>
(castI .u64 t18).bind fun n19 =>
(fA x3 1).bind fun t20 =>
(ldO false 1 q10.2 t20).bind fun t21 =>
(castI .u64 t21).bind fun n22 =>
some (decide (n19<n22)))).bind fun b23 =>
bif b23 then (
loop z7g z7f (1::σ) (envL [(3,x3),(4,x4),(6,x6),(7,(.p (.bool x7))),(14,x14),(15,(.p (.int .i64 x15))),(16,(.p (.int .i64 (IntKind.wrap .i64 (x16+1)))))]) q10.2)
else (
bif !x7 then (
(ldO true 3 q10.2 q9.1).bind fun t24 =>
((stO false 3 (1::0::1::0::1::1::0::1::1::0::σ) q10.2 x6 t24).map fun h=>(udf,h)).bind fun q25 =>
loop z7g z7f (1::σ) (envL [(3,x3),(4,x4),(6,x6),(7,(.p (.bool true))),(14,x14),(15,(.p (.int .i64 x15))),(16,(.p (.int .i64 (IntKind.wrap .i64 (x16+1)))))]) q25.2)
else (
(fA q9.1 1).bind fun t26 =>
(ldO false 1 q10.2 t26).bind fun t27 =>
(castI .u64 t27).bind fun n28 =>
(fA x3 1).bind fun t29 =>
(ldO false 1 q10.2 t29).bind fun t30 =>
(castI .u64 t30).bind fun n31 =>
(fA x6 2).bind fun t32 =>
(ldO false 1 q10.2 t32).bind fun t33 =>
(castI .i64 t33).bind fun n34 =>
(fA x3 2).bind fun t35 =>
(ldO false 1 q10.2 t35).bind fun t36 =>
(castI .i64 t36).bind fun n37 =>
(fA x6 1).bind fun t38 =>
(ldO false 1 q10.2 t38).bind fun t39 =>
(castI .u64 t39).bind fun n40 =>
(fA x3 1).bind fun t41 =>
(ldO false 1 q10.2 t41).bind fun t42 =>
(castI .u64 t42).bind fun n43 =>
(fA q9.1 2).bind fun t44 =>
(ldO false 1 q10.2 t44).bind fun t45 =>
(castI .i64 t45).bind fun n46 =>
(fA x3 2).bind fun t47 =>
(ldO false 1 q10.2 t47).bind fun t48 =>
(castI .i64 t48).bind fun n49 =>
(callO rec 138 (4::0::1::1::1::1::1::0::1::1::0::σ) [(.p (.int .i64 (IntKind.wrap .i64 (IntKind.wrap .u64 (n28-n31))))),(.p (.int .i64 (IntKind.wrap .i64 (n34-n37)))),(.p (.int .i64 (IntKind.wrap .i64 (IntKind.wrap .u64 (n40-n43))))),(.p (.int .i64 (IntKind.wrap .i64 (n46-n49))))] q10.2 (some 61)).bind fun q50 =>
(asB q50.1).bind fun b51 =>
(bif b51 then (some ((.p (.bool true)),q50.2)) else ((callO rec 138 (10::0::1::1::1::1::1::0::1::1::0::σ) [(.p (.int .i64 (IntKind.wrap .i64 (IntKind.wrap .u64 (n40-n43))))),(.p (.int .i64 (IntKind.wrap .i64 (n46-n49)))),(.p (.int .i64 (IntKind.wrap .i64 (IntKind.wrap .u64 (n28-n31))))),(.p (.int .i64 (IntKind.wrap .i64 (n34-n37))))] q50.2 (some 67)).bind fun q52 =>
(asB q52.1).bind fun b53 =>
(bif !b53 then ((fA q9.1 2).bind fun t54 =>
(ldO false 1 q52.2 t54).bind fun t55 =>
(castI .i64 t55).bind fun n56 =>
(fA x6 2).bind fun t57 =>
(ldO false 1 q52.2 t57).bind fun t58 =>
(castI .i64 t58).bind fun n59 =>
(bif decide (n56>n59) then (some true) else ((fA q9.1 2).bind fun t60 =>
(ldO false 1 q52.2 t60).bind fun t61 =>
(castI .i64 t61).bind fun n62 =>
(fA x6 2).bind fun t63 =>
(ldO false 1 q52.2 t63).bind fun t64 =>
(castI .i64 t64).bind fun n65 =>
(bif n62==n65 then ((fA q9.1 0).bind fun t66 =>
(ldO false 1 q52.2 t66).bind fun t67 =>
(castI .u32 t67).bind fun n68 =>
(fA x6 0).bind fun t69 =>
(ldO false 1 q52.2 t69).bind fun t70 =>
(castI .u32 t70).bind fun n71 =>
some (decide (n68<n71))) else (some false)).bind fun b72 =>
some b72)).bind fun b73 =>
some b73) else (some false)).bind fun b74 =>
some ((.p (.bool b74)),q52.2))).bind fun q75 =>
(asB q75.1).bind fun b76 =>
bif b76 then (
(ldO true 3 q75.2 q9.1).bind fun t77 =>
((stO false 3 (1::1::1::1::1::1::1::0::1::1::0::σ) q75.2 x6 t77).map fun h=>(udf,h)).bind fun q78 =>
loop z7g z7f (1::σ) (envL [(3,x3),(4,x4),(6,x6),(7,(.p (.bool x7))),(14,x14),(15,(.p (.int .i64 x15))),(16,(.p (.int .i64 (IntKind.wrap .i64 (x16+1)))))]) q78.2)
else (
loop z7g z7f (1::σ) (envL [(3,x3),(4,x4),(6,x6),(7,(.p (.bool x7))),(14,x14),(15,(.p (.int .i64 x15))),(16,(.p (.int .i64 (IntKind.wrap .i64 (x16+1)))))]) q75.2))))
else (
some ((.exit 0),(envL [(3,x3),(4,x4),(6,x6),(7,(.p (.bool x7)))]),h)):=by kernel_rfl
theorem zlm (x3:V) (x4:V) (x6:V) (x7:Bool) (h:H):zhm rec loop σ (.exit 0) (envL [(3,x3),(4,x4),(6,x6),(7,(.p (.bool x7)))]) h =
(bif !x7 then (some ((.p (.bool true)),h)) else ((fA x3 2).bind fun t79 =>
(ldO false 1 h t79).bind fun t80 =>
(castI .i64 t80).bind fun n81 =>
(fA x6 1).bind fun t82 =>
(ldO false 1 h t82).bind fun t83 =>
(castI .u64 t83).bind fun n84 =>
(fA x3 1).bind fun t85 =>
(ldO false 1 h t85).bind fun t86 =>
(castI .u64 t86).bind fun n87 =>
(fA x3 1).bind fun t88 =>
(ldO false 1 h t88).bind fun t89 =>
(castI .u64 t89).bind fun n90 =>
(fA x6 2).bind fun t91 =>
(ldO false 1 h t91).bind fun t92 =>
(castI .i64 t92).bind fun n93 =>
(fA x3 2).bind fun t94 =>
(ldO false 1 h t94).bind fun t95 =>
(castI .i64 t95).bind fun n96 =>
(callO rec 138 (19::0::0::1::1::1::1::0::σ) [(.p (.int .i64 n81)),(.p (.int .i64 (IntKind.wrap .i64 (IntKind.wrap .u64 (n84-n87))))),(.p (.int .i64 (IntKind.wrap .i64 n90))),(.p (.int .i64 (IntKind.wrap .i64 (n93-n96))))] h (some 112)).bind fun q97 =>
(asB q97.1).bind fun b98 =>
some ((.p (.bool (!b98))),q97.2))).bind fun q99 =>
(asB q99.1).bind fun b100 =>
bif b100 then (
(buildV Try.prog 57 []).bind fun t101 =>
((stO false 3 (1::0::1::0::1::1::1::1::0::σ) q99.2 x4 t101).map fun h=>(udf,h)).bind fun q102 =>
((ldO true 3 q102.2 x4).bind fun t103=>((some []).map ((.p (.bool false))::·)).map (t103::·)).bind fun t104=>fin false σ q102.2 t104)
else (
(ldO true 3 q99.2 x6).bind fun t105 =>
((stO false 3 (1::0::1::1::1::1::1::0::σ) q99.2 x4 t105).map fun h=>(udf,h)).bind fun q106 =>
((ldO true 3 q106.2 x4).bind fun t107=>((some []).map ((.p (.bool true))::·)).map (t107::·)).bind fun t108=>fin false σ q106.2 t108):=by kernel_rfl
theorem zmr (x0:Int) (x1:Int) (x2:Int) (x3:Int) (h:H):cvBody G rec loop 138 σ [(.p (.int .i64 x0)),(.p (.int .i64 x1)),(.p (.int .i64 x2)),(.p (.int .i64 x3))] h =
(callO rec 152 (6::0::1::0::σ) [(.p (.int .u64 (IntKind.wrap .u64 ((if 0>x0 then 0 else x0))))),(.p (.int .u64 (IntKind.wrap .u64 ((if 0>x1 then 0 else x1)))))] (List.replicate 46 []::h) (some 20)).bind fun q1 =>
(extV q1.1 0).bind fun t2 =>
(castI .u64 t2).bind fun n3 =>
(extV q1.1 1).bind fun t4 =>
(castI .u64 t4).bind fun n5 =>
(callO rec 152 (6::0::1::1::0::σ) [(.p (.int .u64 (IntKind.wrap .u64 ((if 0>x2 then 0 else x2))))),(.p (.int .u64 (IntKind.wrap .u64 ((if 0>x3 then 0 else x3)))))] q1.2 (some 30)).bind fun q6 =>
(extV q6.1 0).bind fun t7 =>
(castI .u64 t7).bind fun n8 =>
(extV q6.1 1).bind fun t9 =>
(castI .u64 t9).bind fun n10 =>
(bif decide (n3<n8) then (some true) else ((bif n3==n8 then (some (decide (n5<n10))) else (some false)).bind fun b11 =>
some b11)).bind fun b12 =>
fin false σ q6.2 [(.p (.bool b12))]:=by kernel_rfl
theorem zn4 (x0:Int) (x1:Int) (h:H):cvBody G rec loop 152 σ [(.p (.int .u64 x0)),(.p (.int .u64 x1))] h =
fin false σ (List.replicate 52 []::h) [(.p (.int .u64 (IntKind.wrap .u64 ((IntKind.wrap .u64 ((IntKind.wrap .u64 ((IntKind.wrap .u64 ((Int.fdiv x0 (2^32))*(Int.fdiv x1 (2^32))))+(Int.fdiv (IntKind.wrap .u64 ((Int.fdiv x0 (2^32))*(intBits .and .u64 x1 4294967295))) (2^32))))+(Int.fdiv (IntKind.wrap .u64 ((intBits .and .u64 x0 4294967295)*(Int.fdiv x1 (2^32)))) (2^32))))+(Int.fdiv (IntKind.wrap .u64 ((IntKind.wrap .u64 ((Int.fdiv (IntKind.wrap .u64 ((intBits .and .u64 x0 4294967295)*(intBits .and .u64 x1 4294967295))) (2^32))+(intBits .and .u64 (IntKind.wrap .u64 ((Int.fdiv x0 (2^32))*(intBits .and .u64 x1 4294967295))) 4294967295)))+(intBits .and .u64 (IntKind.wrap .u64 ((intBits .and .u64 x0 4294967295)*(Int.fdiv x1 (2^32)))) 4294967295))) (2^32)))))),(.p (.int .u64 (IntKind.wrap .u64 (x0*x1))))]:=by kernel_rfl
end
end Go.Ev
namespace Go.Ev
open Go.Proofs
set_option linter.unusedVariables false
set_option linter.unusedSimpArgs false
set_option maxRecDepth 100000
section
variable {β α : Type} {Q : β→α→Prop} {K : Exit × Env × H→Option α}
def za5 (x0:Int) (x1:Int):Option (Int×Int) :=
some ((IntKind.wrap .u64 ((IntKind.wrap .u64 ((IntKind.wrap .u64 ((IntKind.wrap .u64 ((Int.fdiv x0 (2^32))*(Int.fdiv x1 (2^32))))+(Int.fdiv (IntKind.wrap .u64 ((Int.fdiv x0 (2^32))*(intBits .and .u64 x1 4294967295))) (2^32))))+(Int.fdiv (IntKind.wrap .u64 ((intBits .and .u64 x0 4294967295)*(Int.fdiv x1 (2^32)))) (2^32))))+(Int.fdiv (IntKind.wrap .u64 ((IntKind.wrap .u64 ((Int.fdiv (IntKind.wrap .u64 ((intBits .and .u64 x0 4294967295)*(intBits .and .u64 x1 4294967295))) (2^32))+(intBits .and .u64 (IntKind.wrap .u64 ((Int.fdiv x0 (2^32))*(intBits .and .u64 x1 4294967295))) 4294967295)))+(intBits .and .u64 (IntKind.wrap .u64 ((intBits .and .u64 x0 4294967295)*(Int.fdiv x1 (2^32)))) 4294967295))) (2^32)))),(IntKind.wrap .u64 (x0*x1)))
theorem zk7 {h:H} {σ:Stamp} (x0:Int) (x1:Int):Sim (za5 x0 x1) (ev G X0 152 σ [(.p (.int .u64 x0)),(.p (.int .u64 x1))] h) (fun r s=>s=([.v (.p (.int .u64 r.1)),.v (.p (.int .u64 r.2))],h)):=by
 refine .ev rfl (Sim.ext (zn4 _ _ _ _ _ _) ?_)
 rw [za5]
 have S0:Fm 52 h [] [] [] (List.replicate 52 []::h):=Fm.start0
 exact .fin (S0.finN (lC (sI _ _).lv (lC (sI _ _).lv lN))) rfl
def za1 (x0:Int) (x1:Int) (x2:Int) (x3:Int):Option (Bool) :=
(za5 (IntKind.wrap .u64 ((if 0>x0 then 0 else x0))) (IntKind.wrap .u64 ((if 0>x1 then 0 else x1)))).bind fun r1 =>
(za5 (IntKind.wrap .u64 ((if 0>x2 then 0 else x2))) (IntKind.wrap .u64 ((if 0>x3 then 0 else x3)))).bind fun r6 =>
(bif decide (r1.1<r6.1) then (some true) else ((bif r1.1==r6.1 then (some (decide (r1.2<r6.2))) else (some false)).bind fun b11 =>
some b11)).bind fun b15 =>
some (b15)
theorem zfq {h:H} {σ:Stamp} (x0:Int) (x1:Int) (x2:Int) (x3:Int):Sim (za1 x0 x1 x2 x3) (ev G X0 138 σ [(.p (.int .i64 x0)),(.p (.int .i64 x1)),(.p (.int .i64 x2)),(.p (.int .i64 x3))] h) (fun r s=>s=([.v (.p (.bool r))],h)):=by
 refine .ev rfl (Sim.ext (zmr _ _ _ _ _ _ _ _) ?_)
 rw [za1]
 have S0:Fm 46 h [] [] [] (List.replicate 46 []::h):=Fm.start0
 refine .call (zk7 (IntKind.wrap .u64 ((if 0>x0 then 0 else x0))) (IntKind.wrap .u64 ((if 0>x1 then 0 else x1)))) fun r1 cs2 H3 h4 q5=>?_
 cases q5
 refine .or ?_
 refine .ci ?_
 refine .or ?_
 refine .ci ?_
 refine .call (zk7 (IntKind.wrap .u64 ((if 0>x2 then 0 else x2))) (IntKind.wrap .u64 ((if 0>x3 then 0 else x3)))) fun r6 cs7 H8 h9 q10=>?_
 cases q10
 refine .or ?_
 refine .ci ?_
 refine .or ?_
 refine .ci ?_
 refine .ch (P:=fun r y=>r=y) ?_ (fun b15 y16 h17 h18=>?_)
 ·refine .cq ?_ ?_
  ·exact .ret rfl rfl
  ·refine .ch (P:=fun r y=>r=y) ?_ (fun b11 y12 h13 h14=>?_)
   ·refine .cq ?_ ?_
    ·exact .ret rfl rfl
    ·exact .ret rfl rfl
   subst h14
   exact .ret rfl rfl
 subst h18
 exact .fin (S0.finN (lC (sB _).lv lN)) rfl
def z3o {β:Type} (k:Nat) (kE0:Bool→z7→z7→z7→Option β) (x7:Bool) (x14:(List z7)) (x15:Int) (x16:Int) (yg4:z7) (yg8:z7) (yg12:z7):Option β:=match k with
| 0=>none
| k+1 =>
bif decide (x16<x15) then (
(ix x14 x16).bind fun a24 =>
(bif decide (a24.Over≤yg4.Over) then (some true) else (some (decide (a24.Rate<yg4.Rate)))).bind fun b36 =>
bif b36 then (
z3o k kE0 x7 x14 x15 (IntKind.wrap .i64 (x16+1)) yg4 yg8 yg12)
else (
bif !x7 then (
z3o k kE0 true x14 x15 (IntKind.wrap .i64 (x16+1)) yg4 yg8 a24)
else (
(za1 (IntKind.wrap .i64 (IntKind.wrap .u64 (a24.Rate-yg4.Rate))) (IntKind.wrap .i64 (yg12.Over-yg4.Over)) (IntKind.wrap .i64 (IntKind.wrap .u64 (yg12.Rate-yg4.Rate))) (IntKind.wrap .i64 (a24.Over-yg4.Over))).bind fun r45 =>
(bif r45 then (some true) else ((za1 (IntKind.wrap .i64 (IntKind.wrap .u64 (yg12.Rate-yg4.Rate))) (IntKind.wrap .i64 (a24.Over-yg4.Over)) (IntKind.wrap .i64 (IntKind.wrap .u64 (a24.Rate-yg4.Rate))) (IntKind.wrap .i64 (yg12.Over-yg4.Over))).bind fun r50 =>
(bif !r50 then ((bif decide (a24.Over>yg12.Over) then (some true) else ((bif a24.Over==yg12.Over then (some (decide (a24.Owner<yg12.Owner))) else (some false)).bind fun b55 =>
some b55)).bind fun b59 =>
some b59) else (some false)).bind fun b63 =>
some b63)).bind fun b67 =>
bif b67 then (
z3o k kE0 x7 x14 x15 (IntKind.wrap .i64 (x16+1)) yg4 yg8 a24)
else (
z3o k kE0 x7 x14 x15 (IntKind.wrap .i64 (x16+1)) yg4 yg8 yg12))))
else (
kE0 x7 yg4 yg8 yg12)
def zb8 (k:Nat) (x0:(List z7)) (x1:z7):Option (z7×Bool) :=
z3o k (fun r83_7 yg18 yg20 yg22 =>
(bif !r83_7 then (some true) else ((za1 yg18.Over (IntKind.wrap .i64 (IntKind.wrap .u64 (yg22.Rate-yg18.Rate))) (IntKind.wrap .i64 yg18.Rate) (IntKind.wrap .i64 (yg22.Over-yg18.Over))).bind fun r92 =>
some (!r92))).bind fun b97 =>
bif b97 then (
some (((⟨0,0,0⟩:z7)),false))
else (
some (yg22,true))) false x0 ((x0.length:Int)) 0 x1 ((⟨0,0,0⟩:z7)) ((⟨0,0,0⟩:z7))
theorem zkr {h:H}  {kE0:Bool→z7→z7→z7→Option β} (hE0:∀ (q7:Bool) (yg18:z7) (yg20:z7) (yg22:z7) (s77:Stamp) (s79:Stamp) (s81:Stamp) (H75:Go.Ev.H) (_:Fm 117 h [] [(3,s77,List.map C.v [(.p (.int .u32 yg18.Owner)),(.p (.int .u64 yg18.Rate)),(.p (.int .i64 yg18.Over))]),(4,s79,List.map C.v [(.p (.int .u32 yg20.Owner)),(.p (.int .u64 yg20.Rate)),(.p (.int .i64 yg20.Over))]),(6,s81,List.map C.v [(.p (.int .u32 yg22.Owner)),(.p (.int .u64 yg22.Rate)),(.p (.int .i64 yg22.Over))])] [] H75),Sim (kE0 q7 yg18 yg20 yg22) (K ((.exit 0),(envL [(3,(.ref ⟨h.length,3,0,s77,[]⟩ 0)),(4,(.ref ⟨h.length,4,0,s79,[]⟩ 0)),(6,(.ref ⟨h.length,6,0,s81,[]⟩ 0)),(7,(.p (.bool q7)))]),H75)) Q) (k:Nat):∀ (x7:Bool) (x14:(List z7)) (x15:Int) (x16:Int) (yg4:z7) (yg8:z7) (yg12:z7) (v15:V) (h16:SlH h z6 x14 v15) (s17:Stamp) (s19:Stamp) (s21:Stamp) (H13:Go.Ev.H) (_:Fm 117 h [] [(3,s17,List.map C.v [(.p (.int .u32 yg4.Owner)),(.p (.int .u64 yg4.Rate)),(.p (.int .i64 yg4.Over))]),(4,s19,List.map C.v [(.p (.int .u32 yg8.Owner)),(.p (.int .u64 yg8.Rate)),(.p (.int .i64 yg8.Over))]),(6,s21,List.map C.v [(.p (.int .u32 yg12.Owner)),(.p (.int .u64 yg12.Rate)),(.p (.int .i64 yg12.Over))])] [] H13) {σ:Stamp},Sim (z3o k kE0 x7 x14 x15 x16 yg4 yg8 yg12) ((cvL G X0 z7g z7f σ (envL [(3,(.ref ⟨h.length,3,0,s17,[]⟩ 0)),(4,(.ref ⟨h.length,4,0,s19,[]⟩ 0)),(6,(.ref ⟨h.length,6,0,s21,[]⟩ 0)),(7,(.p (.bool x7))),(14,v15),(15,(.p (.int .i64 x15))),(16,(.p (.int .i64 x16)))]) H13).bind K) Q:=by
 induction k with
 | zero=>intros;exact .no
 | succ k ih =>
  intro x7 x14 x15 x16 yg4 yg8 yg12 v15 h16 s17 s19 s21 H13 S14 σ
  rw [z3o]
  refine .round (Sim.ext (zof _ _ _ _ _ _ _ _ _ _ _) ?_)
  refine .cq ?_ ?_
  ·refine .bd fun a24 h25=>?_
   refine .op ((S14.low h16).iS h25 rfl) ?_
   obtain ⟨w27,h28,hE26⟩:=(S14.low h16).el h25 rfl
   obtain rfl:=z6.inv h28
   refine .op (hE26.all (by simp)) ?_
   obtain ⟨H29,e30,S31⟩:=S14.al (d:=9) (s:=(2::0::0::1::1::0::σ)) (z:=[(.p (.int .u32 0)),(.p (.int .u64 0)),(.p (.int .i64 0))]) (by decide) rfl
   refine .op (congrArg some e30) ?_
   obtain ⟨H33,e34,S35⟩:=S31.stGv (i:=0) (j:=0) (own:=false) (σ:=(3::0::0::1::1::0::σ)) (xs:=[.p (.int .u32 a24.Owner),.p (.int .u64 a24.Rate),.p (.int .i64 a24.Over)]) rfl rfl (sC (sI _ _) (sC (sI _ _) (sC (sI _ _) sN))) rfl rfl
   refine .op (sM e34) ?_
   refine .fa ?_
   refine .op ((S35.atG (i:=0) rfl).ld (j:=2) rfl) ?_
   refine .ci ?_
   refine .fa ?_
   refine .op ((S35.atG (i:=1) rfl).ld (j:=2) rfl) ?_
   refine .ci ?_
   refine .ch (P:=fun r y=>r=y) ?_ (fun b36 y37 h38 h39=>?_)
   ·refine .cq ?_ ?_
    ·exact .ret rfl rfl
    ·refine .fa ?_
     refine .op ((S35.atG (i:=0) rfl).ld (j:=1) rfl) ?_
     refine .ci ?_
     refine .fa ?_
     refine .op ((S35.atG (i:=1) rfl).ld (j:=1) rfl) ?_
     refine .ci ?_
     exact .ret rfl rfl
   subst h39
   refine .cq ?_ ?_
   ·exact ih x7 x14 x15 (IntKind.wrap .i64 (x16+1)) yg4 yg8 yg12 v15 h16 s17 s19 s21 H33 (S35.wk2 (aC (aM 1 rfl) (aC (aM 2 rfl) (aC (aM 3 rfl) aN))) aN)
   refine .cq ?_ ?_
   ·refine .op ((S35.atG (i:=0) rfl).ldVs (j:=0) (xs:=[.p (.int .u32 a24.Owner),.p (.int .u64 a24.Rate),.p (.int .i64 a24.Over)]) rfl rfl (by decide)) ?_
    obtain ⟨H42,e43,S44⟩:=S35.stGv (i:=3) (j:=0) (own:=false) (σ:=(1::0::1::0::1::1::0::1::1::0::σ)) (xs:=[.p (.int .u32 a24.Owner),.p (.int .u64 a24.Rate),.p (.int .i64 a24.Over)]) rfl rfl (sC (sI _ _) (sC (sI _ _) (sC (sI _ _) sN))) rfl rfl
    refine .op (sM e43) ?_
    exact ih true x14 x15 (IntKind.wrap .i64 (x16+1)) yg4 yg8 a24 v15 h16 s17 s19 s21 H42 (S44.wk2 (aC (aM 1 rfl) (aC (aM 2 rfl) (aC (aM 3 rfl) aN))) aN)
   refine .fa ?_
   refine .op ((S35.atG (i:=0) rfl).ld (j:=1) rfl) ?_
   refine .ci ?_
   refine .fa ?_
   refine .op ((S35.atG (i:=1) rfl).ld (j:=1) rfl) ?_
   refine .ci ?_
   refine .fa ?_
   refine .op ((S35.atG (i:=3) rfl).ld (j:=2) rfl) ?_
   refine .ci ?_
   refine .fa ?_
   refine .op ((S35.atG (i:=1) rfl).ld (j:=2) rfl) ?_
   refine .ci ?_
   refine .fa ?_
   refine .op ((S35.atG (i:=3) rfl).ld (j:=1) rfl) ?_
   refine .ci ?_
   refine .fa ?_
   refine .op ((S35.atG (i:=1) rfl).ld (j:=1) rfl) ?_
   refine .ci ?_
   refine .fa ?_
   refine .op ((S35.atG (i:=0) rfl).ld (j:=2) rfl) ?_
   refine .ci ?_
   refine .fa ?_
   refine .op ((S35.atG (i:=1) rfl).ld (j:=2) rfl) ?_
   refine .ci ?_
   refine .call (zfq (IntKind.wrap .i64 (IntKind.wrap .u64 (a24.Rate-yg4.Rate))) (IntKind.wrap .i64 (yg12.Over-yg4.Over)) (IntKind.wrap .i64 (IntKind.wrap .u64 (yg12.Rate-yg4.Rate))) (IntKind.wrap .i64 (a24.Over-yg4.Over))) fun r45 cs46 H47 h48 q49=>?_
   cases q49
   refine .ab ?_
   refine .ch (P:=fun r y=>(.p (.bool r),H33)=y) ?_ (fun b67 y68 h69 h70=>?_)
   ·refine .cq ?_ ?_
    ·exact .ret rfl rfl
    ·refine .call (zfq (IntKind.wrap .i64 (IntKind.wrap .u64 (yg12.Rate-yg4.Rate))) (IntKind.wrap .i64 (a24.Over-yg4.Over)) (IntKind.wrap .i64 (IntKind.wrap .u64 (a24.Rate-yg4.Rate))) (IntKind.wrap .i64 (yg12.Over-yg4.Over))) fun r50 cs51 H52 h53 q54=>?_
     cases q54
     refine .ab ?_
     refine .ch (P:=fun r y=>r=y) ?_ (fun b63 y64 h65 h66=>?_)
     ·refine .cq ?_ ?_
      ·refine .fa ?_
       refine .op ((S35.atG (i:=0) rfl).ld (j:=2) rfl) ?_
       refine .ci ?_
       refine .fa ?_
       refine .op ((S35.atG (i:=3) rfl).ld (j:=2) rfl) ?_
       refine .ci ?_
       refine .ch (P:=fun r y=>r=y) ?_ (fun b59 y60 h61 h62=>?_)
       ·refine .cq ?_ ?_
        ·exact .ret rfl rfl
        ·refine .fa ?_
         refine .op ((S35.atG (i:=0) rfl).ld (j:=2) rfl) ?_
         refine .ci ?_
         refine .fa ?_
         refine .op ((S35.atG (i:=3) rfl).ld (j:=2) rfl) ?_
         refine .ci ?_
         refine .ch (P:=fun r y=>r=y) ?_ (fun b55 y56 h57 h58=>?_)
         ·refine .cq ?_ ?_
          ·refine .fa ?_
           refine .op ((S35.atG (i:=0) rfl).ld (j:=0) rfl) ?_
           refine .ci ?_
           refine .fa ?_
           refine .op ((S35.atG (i:=3) rfl).ld (j:=0) rfl) ?_
           refine .ci ?_
           exact .ret rfl rfl
          ·exact .ret rfl rfl
         subst h58
         exact .ret rfl rfl
       subst h62
       exact .ret rfl rfl
      ·exact .ret rfl rfl
     subst h66
     exact .ret rfl rfl
   subst h70
   refine .ab ?_
   refine .cq ?_ ?_
   ·refine .op ((S35.atG (i:=0) rfl).ldVs (j:=0) (xs:=[.p (.int .u32 a24.Owner),.p (.int .u64 a24.Rate),.p (.int .i64 a24.Over)]) rfl rfl (by decide)) ?_
    obtain ⟨H72,e73,S74⟩:=S35.stGv (i:=3) (j:=0) (own:=false) (σ:=(1::1::1::1::1::1::1::0::1::1::0::σ)) (xs:=[.p (.int .u32 a24.Owner),.p (.int .u64 a24.Rate),.p (.int .i64 a24.Over)]) rfl rfl (sC (sI _ _) (sC (sI _ _) (sC (sI _ _) sN))) rfl rfl
    refine .op (sM e73) ?_
    exact ih x7 x14 x15 (IntKind.wrap .i64 (x16+1)) yg4 yg8 a24 v15 h16 s17 s19 s21 H72 (S74.wk2 (aC (aM 1 rfl) (aC (aM 2 rfl) (aC (aM 3 rfl) aN))) aN)
   exact ih x7 x14 x15 (IntKind.wrap .i64 (x16+1)) yg4 yg8 yg12 v15 h16 s17 s19 s21 H33 (S35.wk2 (aC (aM 1 rfl) (aC (aM 2 rfl) (aC (aM 3 rfl) aN))) aN)
  exact hE0 x7 yg4 yg8 yg12 s17 s19 s21 H13 (S14.wk2 (aC (aM 0 rfl) (aC (aM 1 rfl) (aC (aM 2 rfl) aN))) aN)
theorem zoj (k:Nat) {h:H} {σ:Stamp} (x0:List z7) {u0:V} (hu0:SlH h z6 x0 u0) (x1:z7) {u1:List V} (hu1:z6.R x1 u1):Sim (zb8 k x0 x1) (ev G X0 108 σ [u0,(.agg u1)] h) (fun r s=>∃ (w0:List V),z6.R r.1 w0∧s=([.v (.agg w0),.v (.p (.bool r.2))],h)):=by
 refine .ev rfl (Sim.ext (zkn _ _ _ _ _ _) ?_)
 rw [zb8]
 obtain rfl:=z6.inv hu1
 have S0:Fm 117 h [] [] [] (List.replicate 117 []::h):=Fm.start0
 obtain ⟨H1,e2,S3⟩:=S0.box (own:=false) (d:=3) (s:=(0::0::0::σ)) (xs:=[(.p (.int .u32 x1.Owner)),(.p (.int .u64 x1.Rate)),(.p (.int .i64 x1.Over))]) (sC (sI _ _) (sC (sI _ _) (sC (sI _ _) sN))) (by decide) rfl
 refine .op (e2) ?_
 obtain ⟨H5,e6,S7⟩:=S3.al (d:=4) (s:=(1::0::0::σ)) (z:=[(.p (.int .u32 0)),(.p (.int .u64 0)),(.p (.int .i64 0))]) (by decide) rfl
 refine .op (congrArg some e6) ?_
 obtain ⟨H9,e10,S11⟩:=S7.al (d:=6) (s:=(0::0::1::0::σ)) (z:=[(.p (.int .u32 0)),(.p (.int .u64 0)),(.p (.int .i64 0))]) (by decide) rfl
 refine .op (congrArg some e10) ?_
 refine .op ((S11.low hu0).len) ?_
 refine .ci ?_
 refine .as (zkr ?_ k false x0 ((x0.length:Int)) 0 x1 ((⟨0,0,0⟩:z7)) ((⟨0,0,0⟩:z7)) u0 hu0 (0::0::0::σ) (1::0::0::σ) (0::0::1::0::σ) H9 (S11.wk2 (aC (aM 2 rfl) (aC (aM 1 rfl) (aC (aM 0 rfl) aN))) aN))
 ·intro r83_7 yg18 yg20 yg22 s86 s88 s90 H84 S85
  refine .ext (zlm _ _ _ _ _ _ _ _) ?_
  refine .ch (P:=fun r y=>(.p (.bool r),H84)=y) ?_ (fun b97 y98 h99 h100=>?_)
  ·refine .cq ?_ ?_
   ·exact .ret rfl rfl
   ·refine .fa ?_
    refine .op ((S85.atG (i:=0) rfl).ld (j:=2) rfl) ?_
    refine .ci ?_
    refine .fa ?_
    refine .op ((S85.atG (i:=2) rfl).ld (j:=1) rfl) ?_
    refine .ci ?_
    refine .fa ?_
    refine .op ((S85.atG (i:=0) rfl).ld (j:=1) rfl) ?_
    refine .ci ?_
    refine .fa ?_
    refine .op ((S85.atG (i:=0) rfl).ld (j:=1) rfl) ?_
    refine .ci ?_
    refine .fa ?_
    refine .op ((S85.atG (i:=2) rfl).ld (j:=2) rfl) ?_
    refine .ci ?_
    refine .fa ?_
    refine .op ((S85.atG (i:=0) rfl).ld (j:=2) rfl) ?_
    refine .ci ?_
    refine .call (zfq yg18.Over (IntKind.wrap .i64 (IntKind.wrap .u64 (yg22.Rate-yg18.Rate))) (IntKind.wrap .i64 yg18.Rate) (IntKind.wrap .i64 (yg22.Over-yg18.Over))) fun r92 cs93 H94 h95 q96=>?_
    cases q96
    refine .ab ?_
    exact .ret rfl rfl
  subst h100
  refine .ab ?_
  refine .cq ?_ ?_
  ·refine .op (bldV pN (by kernel_rfl:_=some (.agg [.p (.int .u32 0),.p (.int .u64 0),.p (.int .i64 0)]))) ?_
   obtain ⟨H102,e103,S104⟩:=S85.stGv (i:=1) (j:=0) (own:=false) (σ:=(1::0::1::0::1::1::1::1::0::σ)) (xs:=[.p (.int .u32 0),.p (.int .u64 0),.p (.int .i64 0)]) rfl rfl (sC (sI _ _) (sC (sI _ _) (sC (sI _ _) sN))) rfl rfl
   refine .op (sM e103) ?_
   have e105:ldO true 3 H102 (.ref ⟨h.length,4,0,s88,[]⟩ 0)=some (.agg [.p (.int .u32 0),.p (.int .u64 0),.p (.int .i64 0)]):=(S104.atG (i:=1) rfl).ldVs (j:=0) rfl rfl (by decide)
   refine .op (congrArg (Option.bind · _) e105) ?_
   exact .fin (S104.finN (lC (Stills.lv (z6.still (z6.mk))) (lC (sB _).lv lN))) ⟨_,(z6.mk),rfl⟩
  refine .op ((S85.atG (i:=2) rfl).ldVs (j:=0) (xs:=[.p (.int .u32 yg22.Owner),.p (.int .u64 yg22.Rate),.p (.int .i64 yg22.Over)]) rfl rfl (by decide)) ?_
  obtain ⟨H106,e107,S108⟩:=S85.stGv (i:=1) (j:=0) (own:=false) (σ:=(1::0::1::1::1::1::1::0::σ)) (xs:=[.p (.int .u32 yg22.Owner),.p (.int .u64 yg22.Rate),.p (.int .i64 yg22.Over)]) rfl rfl (sC (sI _ _) (sC (sI _ _) (sC (sI _ _) sN))) rfl rfl
  refine .op (sM e107) ?_
  have e109:ldO true 3 H106 (.ref ⟨h.length,4,0,s88,[]⟩ 0)=some (.agg [.p (.int .u32 yg22.Owner),.p (.int .u64 yg22.Rate),.p (.int .i64 yg22.Over)]):=(S108.atG (i:=1) rfl).ldVs (j:=0) rfl rfl (by decide)
  refine .op (congrArg (Option.bind · _) e109) ?_
  exact .fin (S108.finN (lC (Stills.lv (z6.still (z6.mk))) (lC (sB _).lv lN))) ⟨_,(z6.mk),rfl⟩
def z51 {β:Type} (k:Nat) (kE0:(List z7)→z7→Option β) (x0:(List z7)) (x17:(List z7)) (x18:Int) (x19:Int) (yg17:z7):Option β:=match k with
| 0=>none
| k+1 =>
bif decide (x19<x18) then (
(ix x17 x19).bind fun a30 =>
(bif decide (a30.Rate<yg17.Rate) then (some true) else ((bif a30.Rate==yg17.Rate then ((bif decide (a30.Over>yg17.Over) then (some true) else ((bif a30.Over==yg17.Over then (some (decide (a30.Owner<yg17.Owner))) else (some false)).bind fun b42 =>
some b42)).bind fun b46 =>
some b46) else (some false)).bind fun b50 =>
some b50)).bind fun b54 =>
bif b54 then (
z51 k kE0 x0 x17 x18 (IntKind.wrap .i64 (x19+1)) a30)
else (
z51 k kE0 x0 x17 x18 (IntKind.wrap .i64 (x19+1)) yg17))
else (
kE0 x0 yg17)
def z8c {β:Type} (k:Nat) (kE0:(List z7)→Option β) (x0:(List z7)) (x6:(List z7)) (yg74:z7):Option β:=match k with
| 0=>none
| k+1 =>
(zb8 k x0 yg74).bind fun r86 =>
bif !r86.2 then (
kE0 x6)
else (
(ap 24 x6 ([r86.1])).bind fun a102 =>
z8c k kE0 x0 a102 r86.1)
def z5y (k:Nat) (x0:(List z7)):Option ((List z7)) :=
(zbb k x0).bind fun r1 =>
bif ((r1.length:Int))==0 then (
some ((([]:List z7))))
else (
(ix r1 0).bind fun a9 =>
z51 k (fun r68_0 yg28 =>
z8c k (fun r117_2 =>
some (r117_2)) r68_0 ([yg28]) yg28) r1 r1 ((r1.length:Int)) 0 a9)
theorem zmm {h:H}  {kE0:(List z7)→z7→Option β} (hE0:∀ (q0:(List z7)) (yg28:z7) (v64:V) (h65:SlF z6 q0 v64) (s66:Stamp) (H62:Go.Ev.H) (_:Fm 74 h [] [(3,s66,List.map C.v [(.p (.int .u32 yg28.Owner)),(.p (.int .u64 yg28.Rate)),(.p (.int .i64 yg28.Over))])] [] H62),Sim (kE0 q0 yg28) (K ((.exit 0),(envL [(0,v64),(3,(.ref ⟨h.length,3,0,s66,[]⟩ 0))]),H62)) Q) (k:Nat):∀ (x0:(List z7)) (x17:(List z7)) (x18:Int) (x19:Int) (yg17:z7) (v23:V) (h24:SlF z6 x0 v23) (v25:V) (h26:SlF z6 x17 v25) (s27:Stamp) (H21:Go.Ev.H) (_:Fm 74 h [] [(3,s27,List.map C.v [(.p (.int .u32 yg17.Owner)),(.p (.int .u64 yg17.Rate)),(.p (.int .i64 yg17.Over))])] [] H21) {σ:Stamp},Sim (z51 k kE0 x0 x17 x18 x19 yg17) ((cvL G X0 zbt zbp σ (envL [(0,v23),(3,(.ref ⟨h.length,3,0,s27,[]⟩ 0)),(17,v25),(18,(.p (.int .i64 x18))),(19,(.p (.int .i64 x19)))]) H21).bind K) Q:=by
 induction k with
 | zero=>intros;exact .no
 | succ k ih =>
  intro x0 x17 x18 x19 yg17 v23 h24 v25 h26 s27 H21 S22 σ
  rw [z51]
  refine .round (Sim.ext (zql _ _ _ _ _ _ _ _ _) ?_)
  refine .cq ?_ ?_
  ·refine .bd fun a30 h31=>?_
   refine .op ((h26.h H21).iS h31 rfl) ?_
   obtain ⟨w33,h34,hE32⟩:=(h26.h H21).el h31 rfl
   obtain rfl:=z6.inv h34
   refine .op (hE32.all (by simp)) ?_
   obtain ⟨H35,e36,S37⟩:=S22.al (d:=5) (s:=(2::0::0::1::1::0::σ)) (z:=[(.p (.int .u32 0)),(.p (.int .u64 0)),(.p (.int .i64 0))]) (by decide) rfl
   refine .op (congrArg some e36) ?_
   obtain ⟨H39,e40,S41⟩:=S37.stGv (i:=0) (j:=0) (own:=false) (σ:=(3::0::0::1::1::0::σ)) (xs:=[.p (.int .u32 a30.Owner),.p (.int .u64 a30.Rate),.p (.int .i64 a30.Over)]) rfl rfl (sC (sI _ _) (sC (sI _ _) (sC (sI _ _) sN))) rfl rfl
   refine .op (sM e40) ?_
   refine .fa ?_
   refine .op ((S41.atG (i:=0) rfl).ld (j:=1) rfl) ?_
   refine .ci ?_
   refine .fa ?_
   refine .op ((S41.atG (i:=1) rfl).ld (j:=1) rfl) ?_
   refine .ci ?_
   refine .ch (P:=fun r y=>r=y) ?_ (fun b54 y55 h56 h57=>?_)
   ·refine .cq ?_ ?_
    ·exact .ret rfl rfl
    ·refine .fa ?_
     refine .op ((S41.atG (i:=0) rfl).ld (j:=1) rfl) ?_
     refine .ci ?_
     refine .fa ?_
     refine .op ((S41.atG (i:=1) rfl).ld (j:=1) rfl) ?_
     refine .ci ?_
     refine .ch (P:=fun r y=>r=y) ?_ (fun b50 y51 h52 h53=>?_)
     ·refine .cq ?_ ?_
      ·refine .fa ?_
       refine .op ((S41.atG (i:=0) rfl).ld (j:=2) rfl) ?_
       refine .ci ?_
       refine .fa ?_
       refine .op ((S41.atG (i:=1) rfl).ld (j:=2) rfl) ?_
       refine .ci ?_
       refine .ch (P:=fun r y=>r=y) ?_ (fun b46 y47 h48 h49=>?_)
       ·refine .cq ?_ ?_
        ·exact .ret rfl rfl
        ·refine .fa ?_
         refine .op ((S41.atG (i:=0) rfl).ld (j:=2) rfl) ?_
         refine .ci ?_
         refine .fa ?_
         refine .op ((S41.atG (i:=1) rfl).ld (j:=2) rfl) ?_
         refine .ci ?_
         refine .ch (P:=fun r y=>r=y) ?_ (fun b42 y43 h44 h45=>?_)
         ·refine .cq ?_ ?_
          ·refine .fa ?_
           refine .op ((S41.atG (i:=0) rfl).ld (j:=0) rfl) ?_
           refine .ci ?_
           refine .fa ?_
           refine .op ((S41.atG (i:=1) rfl).ld (j:=0) rfl) ?_
           refine .ci ?_
           exact .ret rfl rfl
          ·exact .ret rfl rfl
         subst h45
         exact .ret rfl rfl
       subst h49
       exact .ret rfl rfl
      ·exact .ret rfl rfl
     subst h53
     exact .ret rfl rfl
   subst h57
   refine .cq ?_ ?_
   ·refine .op ((S41.atG (i:=0) rfl).ldVs (j:=0) (xs:=[.p (.int .u32 a30.Owner),.p (.int .u64 a30.Rate),.p (.int .i64 a30.Over)]) rfl rfl (by decide)) ?_
    obtain ⟨H59,e60,S61⟩:=S41.stGv (i:=1) (j:=0) (own:=false) (σ:=(1::1::1::0::1::1::0::σ)) (xs:=[.p (.int .u32 a30.Owner),.p (.int .u64 a30.Rate),.p (.int .i64 a30.Over)]) rfl rfl (sC (sI _ _) (sC (sI _ _) (sC (sI _ _) sN))) rfl rfl
    refine .op (sM e60) ?_
    exact ih x0 x17 x18 (IntKind.wrap .i64 (x19+1)) a30 v23 h24 v25 h26 s27 H59 (S61.wk2 (aC (aM 1 rfl) aN) aN)
   exact ih x0 x17 x18 (IntKind.wrap .i64 (x19+1)) yg17 v23 h24 v25 h26 s27 H39 (S41.wk2 (aC (aM 1 rfl) aN) aN)
  exact hE0 x0 yg17 v23 h24 s27 H21 (S22.wk2 (aC (aM 0 rfl) aN) aN)
theorem zmu {h:H}  {kE0:(List z7)→Option β} (hE0:∀ (q2:(List z7)) (v113:V) (H111:Go.Ev.H) (_:Fm 74 h [] [] [⟨[72,1000001,1000002],v113,z6,q2⟩] H111),Sim (kE0 q2) (K (.ret,(envL [(2,v113)]),H111)) Q) (k:Nat):∀ (x0:(List z7)) (x6:(List z7)) (yg74:z7) (v80:V) (h81:SlF z6 x0 v80) (v82:V) (s84:Stamp) (H78:Go.Ev.H) (_:Fm 74 h [] [(3,s84,List.map C.v [(.p (.int .u32 yg74.Owner)),(.p (.int .u64 yg74.Rate)),(.p (.int .i64 yg74.Over))])] [⟨[72,1000001,1000002],v82,z6,x6⟩] H78) {σ:Stamp},Sim (z8c k kE0 x0 x6 yg74) ((cvL G X0 zde zdd σ (envL [(0,v80),(3,(.ref ⟨h.length,3,0,s84,[]⟩ 0)),(6,v82)]) H78).bind K) Q:=by
 induction k with
 | zero=>intros;exact .no
 | succ k ih =>
  intro x0 x6 yg74 v80 h81 v82 s84 H78 S79 σ
  rw [z8c]
  refine .round (Sim.ext (zqh _ _ _ _ _ _ _) ?_)
  refine .op ((S79.atG (i:=0) rfl).ldVs (j:=0) (xs:=[.p (.int .u32 yg74.Owner),.p (.int .u64 yg74.Rate),.p (.int .i64 yg74.Over)]) rfl rfl (by decide)) ?_
  refine .call (zoj k x0 (h81.h H78) yg74 (show z6.R yg74 [.p (.int .u32 yg74.Owner),.p (.int .u64 yg74.Rate),.p (.int .i64 yg74.Over)] from (z6.mk))) fun r86 cs87 H88 h89 q90=>?_
  obtain ⟨w91,h92,q90⟩:=q90
  cases q90
  obtain rfl:=z6.inv h92
  refine .or ?_
  refine .or ?_
  refine .ab ?_
  obtain ⟨H93,e94,S95⟩:=S79.al (d:=7) (s:=(6::0::0::σ)) (z:=[(.p (.int .u32 0)),(.p (.int .u64 0)),(.p (.int .i64 0))]) (by decide) rfl
  refine .op (congrArg some e94) ?_
  obtain ⟨H97,e98,S99⟩:=S95.stGv (i:=0) (j:=0) (own:=false) (σ:=(7::0::0::σ)) (xs:=[(.p (.int .u32 r86.1.Owner)),(.p (.int .u64 r86.1.Rate)),(.p (.int .i64 r86.1.Over))]) rfl rfl (sC (sI _ _) (sC (sI _ _) (sC (sI _ _) sN))) rfl rfl
  refine .op (sM e98) ?_
  refine .cq ?_ ?_
  ·exact hE0 x6 v82 H97 (S99.wk2 aN (aC ⟨[72,1000001,1000002],by simp,aM 0 rfl⟩ aN))
  refine .op ((S99.atG (i:=0) rfl).ldVs (j:=0) (xs:=[(.p (.int .u32 r86.1.Owner)),(.p (.int .u64 r86.1.Rate)),(.p (.int .i64 r86.1.Over))]) rfl rfl (by decide)) ?_
  have h101:SlF z6 [r86.1] (.fz [(.p (.int .u32 r86.1.Owner)),(.p (.int .u64 r86.1.Rate)),(.p (.int .i64 r86.1.Over))] 1 3 true):=SlF.lit (cs:=[(.p (.int .u32 r86.1.Owner)),(.p (.int .u64 r86.1.Rate)),(.p (.int .i64 r86.1.Over))]) (RL.cons h92 RL.nil) rfl rfl true
  refine .op (bldS (pC (c:=[(.p (.int .u32 r86.1.Owner)),(.p (.int .u64 r86.1.Rate)),(.p (.int .i64 r86.1.Over))]) rfl pN) (by kernel_rfl:_=some (vOf h101))) ?_
  refine .bd fun a102 h103=>?_
  obtain ⟨v104,H105,e106,S107⟩:=S99.app (i:=0) (d:=72) (e:=3) (own:=false) (σ:=(3::0::1::1::0::σ)) rfl (h101.h H97).y h103 rfl (by decide) (by decide) rfl
  refine .op (e106) ?_
  refine .op ((S107.atG (i:=0) rfl).ldVs (j:=0) (xs:=[(.p (.int .u32 r86.1.Owner)),(.p (.int .u64 r86.1.Rate)),(.p (.int .i64 r86.1.Over))]) rfl rfl (by decide)) ?_
  obtain ⟨H108,e109,S110⟩:=S107.stGv (i:=1) (j:=0) (own:=false) (σ:=(1::1::1::1::0::σ)) (xs:=[(.p (.int .u32 r86.1.Owner)),(.p (.int .u64 r86.1.Rate)),(.p (.int .i64 r86.1.Over))]) rfl rfl (sC (sI _ _) (sC (sI _ _) (sC (sI _ _) sN))) rfl rfl
  refine .op (sM e109) ?_
  exact ih x0 a102 r86.1 v80 h81 v104 s84 H108 (S110.wk2 (aC (aM 1 rfl) aN) (aC ⟨[72,72,1000001,1000002],by simp,aM 0 rfl⟩ aN))
theorem zdf (k:Nat) {h:H} {σ:Stamp} (x0:List z7) {u0:V} (hu0:SlH h z6 x0 u0):Sim (z5y k x0) (ev G X0 68 σ [u0] h) (fun r s=>∃ (v0:V),SlF z6 r v0∧s=([.v v0],h)):=by
 refine .ev rfl (Sim.ext (zmh _ _ _ _ _) ?_)
 rw [z5y]
 have S0:Fm 74 h [] [] [] (List.replicate 74 []::h):=Fm.start0
 refine .call (zjy k x0 (S0.low hu0)) fun r1 cs2 H3 h4 q5=>?_
 obtain ⟨v6,h7,q5⟩:=q5
 cases q5
 refine .op ((h7.h (List.replicate 74 []::h)).len) ?_
 refine .ci ?_
 refine .cq ?_ ?_
 ·exact .fin (S0.finN (lC (SlF.nil z6).still.lv lN)) ⟨(.p (.slice none 0 0)),(SlF.nil z6),rfl⟩
 refine .bd fun a9 h10=>?_
 refine .op ((h7.h (List.replicate 74 []::h)).iS h10 rfl) ?_
 obtain ⟨w12,h13,hE11⟩:=(h7.h (List.replicate 74 []::h)).el h10 rfl
 obtain rfl:=z6.inv h13
 refine .op (hE11.all (by simp)) ?_
 obtain ⟨H14,e15,S16⟩:=S0.al (d:=3) (s:=(3::0::1::1::1::0::σ)) (z:=[(.p (.int .u32 0)),(.p (.int .u64 0)),(.p (.int .i64 0))]) (by decide) rfl
 refine .op (congrArg some e15) ?_
 obtain ⟨H18,e19,S20⟩:=S16.stGv (i:=0) (j:=0) (own:=false) (σ:=(4::0::1::1::1::0::σ)) (xs:=[.p (.int .u32 a9.Owner),.p (.int .u64 a9.Rate),.p (.int .i64 a9.Over)]) rfl rfl (sC (sI _ _) (sC (sI _ _) (sC (sI _ _) sN))) rfl rfl
 refine .op (sM e19) ?_
 refine .op ((h7.h H18).len) ?_
 refine .ci ?_
 refine .as (zmm ?_ k r1 r1 ((r1.length:Int)) 0 a9 v6 h7 v6 h7 (3::0::1::1::1::0::σ) H18 (S20.wk2 (aC (aM 0 rfl) aN) aN))
 ·intro r68_0 yg28 v71 h72 s73 H69 S70
  refine .ext (zoi _ _ _ _ _ _) ?_
  refine .op ((S70.atG (i:=0) rfl).ldVs (j:=0) (xs:=[.p (.int .u32 yg28.Owner),.p (.int .u64 yg28.Rate),.p (.int .i64 yg28.Over)]) rfl rfl (by decide)) ?_
  have h75:SlF z6 [yg28] (.fz [(.p (.int .u32 yg28.Owner)),(.p (.int .u64 yg28.Rate)),(.p (.int .i64 yg28.Over))] 1 3 true):=SlF.lit (cs:=[(.p (.int .u32 yg28.Owner)),(.p (.int .u64 yg28.Rate)),(.p (.int .i64 yg28.Over))]) (RL.cons (show z6.R yg28 [.p (.int .u32 yg28.Owner),.p (.int .u64 yg28.Rate),.p (.int .i64 yg28.Over)] from (z6.mk)) RL.nil) rfl rfl true
  refine .op (bldS (pC (c:=[.p (.int .u32 yg28.Owner),.p (.int .u64 yg28.Rate),.p (.int .i64 yg28.Over)]) rfl pN) (by kernel_rfl:_=some (vOf h75))) ?_
  have S116:=S70.lit (d:=z6) (xs:=[yg28]) (cs:=[(.p (.int .u32 yg28.Owner)),(.p (.int .u64 yg28.Rate)),(.p (.int .i64 yg28.Over))]) (n:=1) (e:=3) (m:=1000002) (RL.cons (show z6.R yg28 [.p (.int .u32 yg28.Owner),.p (.int .u64 yg28.Rate),.p (.int .i64 yg28.Over)] from (z6.mk)) RL.nil) rfl rfl (by decide)
  refine .as (zmu ?_ k r68_0 ([yg28]) yg28 v71 h72 (.fz [(.p (.int .u32 yg28.Owner)),(.p (.int .u64 yg28.Rate)),(.p (.int .i64 yg28.Over))] 1 3 true) s73 H69 (S116.wk2 (aC (aM 0 rfl) aN) (aC ⟨[1000002],by simp,aM 0 rfl⟩ aN)))
  ·intro r117_2 v120 H118 S119
   refine .ext (zm5 _ _ _ _ _) ?_
   obtain ⟨v127,H122,e123,h125,S124⟩:=S119.expFrz (i:=0) (τ:=0::1::σ) rfl rfl
   exact .fin (S124.finE (Ex.st e123 Ex.nil)) ⟨v127,h125,rfl⟩
end
end Go.Ev
namespace Go.Ev
namespace Lim
open Srt Alm
theorem wide_p {a b p2 p3 p4:Int} (ha:0≤a) (hb:0≤b) (hab:a*b<9223372036854775808) (e1:(a / 4294967296)*(b / 4294967296)=0) (e2:(a / 4294967296)*(b % 4294967296)=p2) (e3:(a % 4294967296)*(b / 4294967296)=p3) (e4:(a % 4294967296)*(b % 4294967296)=p4)
  (h2:0≤p2∧p2<1048576) (h3:0≤p3∧p3<1048576) (h4:0≤p4∧p4<4398046511104):za5 a b=some (0,a*b):=by
 have hm:∀ n:Int,intBits .and .u64 n 4294967295=n % 4294967296:=fun n=>zhe (k:=.u64) (n:=32) (m:=4294967295) _ rfl (by decide)
 have hd:∀ n:Int,Int.fdiv n (2^32)=n / 4294967296:=fun n=>Int.fdiv_eq_ediv_of_nonneg _ (by decide)
 have hp:0≤a*b:=Int.mul_nonneg ha hb
 unfold za5
 simp only [hm,hd,e1,e2,e3,e4]
 rw [wU (n:=a*b) hp (by omega),wU (n:=p2) (by omega) (by omega),wU (n:=p3) (by omega) (by omega),wU (n:=p4) (by omega) (by omega),wU (n:=0) (by omega) (by omega)]
 have z2:p2 / 4294967296=0:=by omega
 have z3:p3 / 4294967296=0:=by omega
 have m2:p2 % 4294967296=p2:=by omega
 have m3:p3 % 4294967296=p3:=by omega
 rw [z2,z3,m2,m3,wU (n:=p4 / 4294967296+p2) (by omega) (by omega),wU (n:=p4 / 4294967296+p2+p3) (by omega) (by omega)]
 have z4:(p4 / 4294967296+p2+p3) / 4294967296=0:=by omega
 rw [z4];rfl
theorem zr2 {a b:Int} (ha:0≤a∧a<2199023255552) (hb:0≤b∧b<2199023255552) (hs:a<512∨b<512):za5 a b=some (0,a*b):=by
 have bd:∀ {x y X Y:Int},0≤x→x≤X→0≤y→y≤Y→0≤x*y∧x*y≤X*Y:=fun h1 h2 h3 h4=>⟨Int.mul_nonneg h1 h3,Int.mul_le_mul h2 h4 h3 (Int.le_trans h1 h2)⟩
 rcases hs with h | h
 ·have q1:=bd (x:=a) (y:=b) (X:=511) (Y:=2199023255552) ha.1 (by omega) hb.1 (by omega)
  have q2:=bd (x:=a % 4294967296) (y:=b / 4294967296) (X:=511) (Y:=511) (by omega) (by omega) (by omega) (by omega)
  have q3:=bd (x:=a % 4294967296) (y:=b % 4294967296) (X:=511) (Y:=4294967296) (by omega) (by omega) (by omega) (by omega)
  have z:a / 4294967296=0:=by omega
  exact wide_p ha.1 hb.1 (by omega) (by rw [z,Int.zero_mul]) (p2:=0) (by rw [z,Int.zero_mul]) rfl rfl ⟨by omega,by omega⟩ ⟨q2.1,by omega⟩ ⟨q3.1,by omega⟩
 ·have q1:=bd (x:=a) (y:=b) (X:=2199023255552) (Y:=511) ha.1 (by omega) hb.1 (by omega)
  have q2:=bd (x:=a / 4294967296) (y:=b % 4294967296) (X:=511) (Y:=511) (by omega) (by omega) (by omega) (by omega)
  have q3:=bd (x:=a % 4294967296) (y:=b % 4294967296) (X:=4294967296) (Y:=511) (by omega) (by omega) (by omega) (by omega)
  have z:b / 4294967296=0:=by omega
  exact wide_p ha.1 hb.1 (by omega) (by rw [z,Int.mul_zero]) (p3:=0) rfl (by rw [z,Int.mul_zero]) rfl ⟨q2.1,by omega⟩ ⟨by omega,by omega⟩ ⟨q3.1,by omega⟩
theorem zmf {a b c d:Int} (ha:0≤a∧a<2199023255552) (hb:0≤b∧b<2199023255552) (hs:a<512∨b<512) (hc:0≤c∧c<2199023255552) (hd:0≤d∧d<2199023255552) (ht:c<512∨d<512):za1 a b c d=some (decide (a*b<c*d)):=by
 have pos:∀ {n:Int},0≤n→(if 0>n then 0 else n)=n:=fun h=>if_neg (by omega)
 unfold za1
 rw [pos ha.1,pos hb.1,pos hc.1,pos hd.1,wU ha.1 (by omega),wU hb.1 (by omega),wU hc.1 (by omega),wU hd.1 (by omega),zr2 ha hb hs,Option.bind_some,zr2 hc hd ht,Option.bind_some]
 simp
structure Hd (t:Tu):Prop where
 r0:0≤t.Rate
 r1:t.Rate≤1099511627776
 o0:0≤t.Over
 o1:t.Over≤511
theorem ztj {t:Tu} (h:0≤t.Rate):Hd (heldT t):=by
 unfold heldT
 exact ⟨by simp only;split<;>omega,by simp only;split<;>omega,by simp only;split<;>(try split)<;>omega,by simp only;split<;>(try split)<;>omega⟩
theorem sg_neg {x y:Int}:sg x y<0↔x<y:=by
 unfold sg;split
 ·simp [*]
 ·split<;>simp<;>omega
theorem zr6 {x y:Int}:sg x y=0↔x=y:=by
 unfold sg;split
 ·simp;omega
 ·split<;>simp<;>omega
theorem zd7 {x y z:Int}:orI (sg x y) z<0↔x<y∨(x=y∧z<0):=by
 unfold orI
 split
 ·rename_i h
  have:=zr6.1 h
  constructor
  ·intro h2;exact .inr ⟨this,h2⟩
  ·rintro (h2 | ⟨_,h2⟩)
   ·omega
   ·exact h2
 ·rename_i h
  have hne:¬ x=y:=fun e=>h (zr6.2 e)
  rw [sg_neg]
  constructor
  ·exact .inl
  ·rintro (h2 | ⟨h2,_⟩)
   ·exact h2
   ·exact absurd h2 hne
theorem zcb {a b:Tu}:tiesI a b<0↔b.Over<a.Over∨(b.Over=a.Over∧a.Owner<b.Owner):=by
 unfold tiesI
 rw [zd7,sg_neg]
theorem cS_neg {a b:Tu}:cS a b<0↔a.Rate<b.Rate∨(a.Rate=b.Rate∧tiesI a b<0):=zd7
def num (la a b:Tu):Int:=(a.Rate-la.Rate)*(b.Over-la.Over)
structure Up (la t:Tu):Prop where
 hd:Hd t
 rate:la.Rate≤t.Rate
 over:la.Over<t.Over
theorem num_bd {la a b:Tu} (hl:Hd la) (ha:Up la a) (hb:Up la b):0≤num la a b∧num la a b≤1099511627776*511:=by
 obtain ⟨h1,h2,h3,h4⟩:=hl
 obtain ⟨⟨a1,a2,a3,a4⟩,a5,a6⟩:=ha
 obtain ⟨⟨b1,b2,b3,b4⟩,b5,b6⟩:=hb
 unfold num
 exact ⟨Int.mul_nonneg (by omega) (by omega),Int.mul_le_mul (by omega) (by omega) (by omega) (by omega)⟩
theorem cN_eq {la a b:Tu} (hl:Hd la) (ha:Up la a) (hb:Up la b):cN la a b=orI (sg (num la a b) (num la b a)) (tiesI a b):=by
 have n1:=num_bd hl ha hb
 have n2:=num_bd hl hb ha
 obtain ⟨h1,h2,h3,h4⟩:=hl
 obtain ⟨⟨a1,a2,a3,a4⟩,a5,a6⟩:=ha
 obtain ⟨⟨b1,b2,b3,b4⟩,b5,b6⟩:=hb
 unfold cN
 rw [wU (n:=a.Rate-la.Rate) (by omega) (by omega),wU (n:=b.Rate-la.Rate) (by omega) (by omega),wrap_i64 (n:=b.Over-la.Over) (by omega) (by omega),wrap_i64 (n:=a.Over-la.Over) (by omega) (by omega),wU (n:=b.Over-la.Over) (by omega) (by omega),wU (n:=a.Over-la.Over) (by omega) (by omega)]
 have m1:(a.Rate-la.Rate)*(b.Over-la.Over)=num la a b:=rfl
 have m2:(b.Rate-la.Rate)*(a.Over-la.Over)=num la b a:=rfl
 rw [m1,m2,wU n1.1 (by omega),wU n2.1 (by omega)]
structure Gd (l:List Tu) (la:Tu):Prop where
 hd:∀ t∈l,Hd t
 hla:Hd la
 up:∀ t∈l,la.Over<t.Over→la.Rate≤t.Rate
theorem Gd.up_ {l:List Tu} {la t:Tu} (h:Gd l la) (ht:t∈l) (ho:la.Over<t.Over):Up la t:=⟨h.hd t ht,h.up t ht ho,ho⟩
def stepM (la:Tu) (st:Option Tu) (t:Tu):Option Tu:=if t.Over>la.Over then (match st with | none=>some t | some b=>some (pick (cN la) b t)) else st
theorem zhf (la:Tu):∀ (l:List Tu) (b:Tu),l.foldl (stepM la) (some b)=some ((above l la.Over).foldl (pick (cN la)) b)
 | [],_=>rfl
 | t::l,b=>by
  rw [List.foldl_cons]
  unfold stepM above
  rw [List.filter_cons]
  by_cases h:t.Over>la.Over
  ·rw [if_pos h,if_pos (decide_eq_true h),List.foldl_cons]
   exact zhf la l _
  ·rw [if_neg h,if_neg (by simpa using h)]
   exact zhf la l b
theorem zmc (la:Tu):∀ (l:List Tu),l.foldl (stepM la) none=match above l la.Over with | []=>none | x::xs=>some (xs.foldl (pick (cN la)) x)
 | []=>rfl
 | t::l=>by
  rw [List.foldl_cons]
  by_cases h:t.Over>la.Over
  ·have e1:stepM la none t=some t:=by unfold stepM;rw [if_pos h]
   have e2:above (t::l) la.Over=t::above l la.Over:=by unfold above;rw [List.filter_cons,if_pos (decide_eq_true h)]
   rw [e1,e2,zhf]
  ·have e1:stepM la none t=none:=by unfold stepM;rw [if_neg h]
   have e2:above (t::l) la.Over=above l la.Over:=by unfold above;rw [List.filter_cons,if_neg (by simpa using h)]
   rw [e1,e2]
   exact zmc la l
theorem zoy {la:Tu}:∀ (l:List Tu) (st:Option Tu),(∀ b,st=some b→Up la b)→(∀ t∈l,la.Over<t.Over→Up la t)→∀ b,l.foldl (stepM la) st=some b→Up la b
 | [],st,h,_,b,hb=>h b hb
 | t::l,st,h,hl,b,hb=>by
  rw [List.foldl_cons] at hb
  refine zoy l (stepM la st t) (fun c hc=>?_) (fun x hx=>hl x (List.mem_cons_of_mem _ hx)) b hb
  unfold stepM at hc
  split at hc
  ·rename_i ho
   have hu:=hl t (List.mem_cons_self ..) ho
   cases st with
   | none=>simp only [Option.some.injEq] at hc;subst hc;exact hu
   | some d =>
    simp only [Option.some.injEq] at hc;subst hc
    unfold pick;split
    ·exact hu
    ·exact h d rfl
  ·exact h c hc
theorem ztb {l:List Tu} {la:Tu} (hg:Gd l la) (h1000:l.length≤1000) (kE:Bool→Tu→Tu→Tu→Option (Tu×Bool)) (y:Tu):∀ m i k:Nat,∀ st:Option Tu,i+m=l.length→m+5≤k→(∀ b,st=some b→Up la b) →
  z3o k kE st.isSome l (l.length:Int) (i:Int) la y (st.getD ⟨0,0,0⟩)=kE ((l.drop i).foldl (stepM la) st).isSome la y (((l.drop i).foldl (stepM la) st).getD ⟨0,0,0⟩):=by
 intro m
 induction m with
 | zero =>
  intro i k st hi hk hst
  obtain ⟨k,rfl⟩:∃ j,k=j+1:=⟨k-1,by omega⟩
  rw [z3o,decide_eq_false (by omega),cond_false,List.drop_of_length_le (by omega)];rfl
 | succ m ih =>
  intro i k st hi hk hst
  obtain ⟨k,rfl⟩:∃ j,k=j+1:=⟨k-1,by omega⟩
  have hil:i<l.length:=by omega
  have hm:l[i]∈l:=List.getElem_mem hil
  rw [z3o,decide_eq_true (by omega),cond_true,tix hil,Option.bind_some,tget hil,List.drop_eq_getElem_cons hil,List.foldl_cons,show IntKind.wrap .i64 ((i:Int)+1)=((i+1:Nat):Int) from wrap_i64 (by omega) (by omega)]
  obtain ⟨t,ht⟩:∃ t,t=l[i]:=⟨_,rfl⟩
  rw [← ht] at hm ⊢
  by_cases ho:t.Over>la.Over
  ·have hu:=hg.up_ hm ho
   have hur:=hu.rate
   rw [decide_eq_false (by omega),cond_false,decide_eq_false (by omega),Option.bind_some,cond_false]
   cases hs:st with
   | none =>
    have e1:stepM la none t=some t:=by unfold stepM;rw [if_pos ho]
    rw [e1]
    simp only [Option.isSome_none,Bool.not_false,cond_true]
    exact ih (i+1) k (some t) (by omega) (by omega) (fun b hb=>by cases hb;exact hu)
   | some b =>
    have hb:=hst b hs
    have e1:stepM la (some b) t=some (pick (cN la) b t):=by unfold stepM;rw [if_pos ho]
    rw [e1]
    simp only [Option.isSome_some,Bool.not_true,cond_false,Option.getD_some]
    have hl:=hg.hla
    obtain ⟨l1,l2,l3,l4⟩:=hl
    obtain ⟨⟨t1,t2,t3,t4⟩,t5,t6⟩:=hu
    obtain ⟨⟨b1,b2,b3,b4⟩,b5,b6⟩:=hb
    have w1:IntKind.wrap .i64 (IntKind.wrap .u64 (t.Rate-la.Rate))=t.Rate-la.Rate:=by rw [wU (by omega) (by omega)];exact wrap_i64 (by omega) (by omega)
    have w2:IntKind.wrap .i64 (b.Over-la.Over)=b.Over-la.Over:=wrap_i64 (by omega) (by omega)
    have w3:IntKind.wrap .i64 (IntKind.wrap .u64 (b.Rate-la.Rate))=b.Rate-la.Rate:=by rw [wU (by omega) (by omega)];exact wrap_i64 (by omega) (by omega)
    have w4:IntKind.wrap .i64 (t.Over-la.Over)=t.Over-la.Over:=wrap_i64 (by omega) (by omega)
    rw [w1,w2,w3,w4,zmf ⟨by omega,by omega⟩ ⟨by omega,by omega⟩ (.inr (by omega)) ⟨by omega,by omega⟩ ⟨by omega,by omega⟩ (.inr (by omega)),Option.bind_some,zmf ⟨by omega,by omega⟩ ⟨by omega,by omega⟩ (.inr (by omega)) ⟨by omega,by omega⟩ ⟨by omega,by omega⟩ (.inr (by omega))]
    have hcn:=cN_eq hg.hla ⟨⟨t1,t2,t3,t4⟩,t5,t6⟩ ⟨⟨b1,b2,b3,b4⟩,b5,b6⟩
    have m1:(t.Rate-la.Rate)*(b.Over-la.Over)=num la t b:=rfl
    have m2:(b.Rate-la.Rate)*(t.Over-la.Over)=num la b t:=rfl
    rw [m1,m2]
    have key:(bif decide (num la t b<num la b t) then some true else ((some (decide (num la b t<num la t b))).bind fun r50=>(bif !r50 then ((bif decide (t.Over>b.Over) then (some true) else ((bif t.Over==b.Over then (some (decide (t.Owner<b.Owner))) else (some false)).bind fun b55=>some b55)).bind fun b59=>some b59) else (some false)).bind fun b63=>some b63))=some (decide (cN la t b<0)):=by
     rw [hcn]
     by_cases c1:num la t b<num la b t
     ·rw [decide_eq_true c1,cond_true,decide_eq_true (zd7.2 (.inl c1))]
     ·rw [decide_eq_false c1,cond_false,Option.bind_some]
      by_cases c2:num la b t<num la t b
      ·rw [decide_eq_true c2,Bool.not_true,cond_false,Option.bind_some,decide_eq_false fun h=>by rcases zd7.1 h with h | ⟨h,_⟩<;>omega]
      ·have ce:num la t b=num la b t:=by omega
       have hq:decide (orI (sg (num la t b) (num la b t)) (tiesI t b)<0)=decide (tiesI t b<0):=by
        rw [Bool.eq_iff_iff,decide_eq_true_eq,decide_eq_true_eq,zd7]
        exact ⟨fun h=>h.elim (fun h=>absurd h c1) (·.2),fun h=>.inr ⟨ce,h⟩⟩
       rw [decide_eq_false c2,Bool.not_false,cond_true,hq]
       by_cases c3:t.Over>b.Over
       ·rw [decide_eq_true c3,cond_true,decide_eq_true (zcb.2 (.inl c3))];rfl
       ·rw [decide_eq_false c3,cond_false]
        by_cases c4:t.Over=b.Over
        ·rw [beq_iff_eq.2 c4,cond_true]
         have:decide (tiesI t b<0)=decide (t.Owner<b.Owner):=by
          rw [Bool.eq_iff_iff,decide_eq_true_eq,decide_eq_true_eq,zcb]
          exact ⟨fun h=>h.elim (fun h=>absurd h c3) (·.2),fun h=>.inr ⟨c4.symm,h⟩⟩
         rw [this];rfl
        ·rw [beq_eq_false_iff_ne.2 c4,cond_false,decide_eq_false fun h=>by rcases zcb.1 h with h | ⟨h,_⟩<;>omega];rfl
    rw [key,Option.bind_some]
    have hp:pick (cN la) b t=if cN la t b<0 then t else b:=rfl
    rw [hp]
    have hb:=hst b hs
    have hu:=hg.up_ hm ho
    by_cases hc:cN la t b<0
    ·rw [decide_eq_true hc,cond_true,if_pos hc]
     exact ih (i+1) k (some t) (by omega) (by omega) (fun c hc=>by cases hc;exact hu)
    ·rw [decide_eq_false hc,cond_false,if_neg hc]
     exact ih (i+1) k (some b) (by omega) (by omega) (fun c hc=>by cases hc;exact hb)
  ·have e1:stepM la st t=st:=by unfold stepM;rw [if_neg ho]
   rw [decide_eq_true (by omega),cond_true,Option.bind_some,cond_true,e1]
   exact ih (i+1) k st (by omega) (by omega) hst
theorem zo6 {l:List Tu} {la:Tu} (h:above l la.Over=[]):nextT l la=(⟨0,0,0⟩,false):=by unfold nextT;rw [h]
theorem zqz {x y:Int} (hx:0≤x∧x≤1099511627776) (hy:0≤y∧y≤511):0≤x*y∧x*y≤1099511627776*511:=⟨Int.mul_nonneg hx.1 hy.1,Int.mul_le_mul hx.2 hy.2 hy.1 (by omega)⟩
theorem zla {l xs:List Tu} {la x:Tu} (hg:Hd la) (h:above l la.Over=x::xs) (hu:Up la (xs.foldl (pick (cN la)) x)):nextT l la=(xs.foldl (pick (cN la)) x,decide (la.Over*((xs.foldl (pick (cN la)) x).Rate-la.Rate)<la.Rate*((xs.foldl (pick (cN la)) x).Over-la.Over))):=by
 unfold nextT
 rw [h]
 simp only
 obtain ⟨b,hb⟩:∃ b,b=xs.foldl (pick (cN la)) x:=⟨_,rfl⟩
 rw [← hb] at hu ⊢
 obtain ⟨l1,l2,l3,l4⟩:=hg
 obtain ⟨⟨b1,b2,b3,b4⟩,b5,b6⟩:=hu
 have p1:=zqz (x:=la.Rate) (y:=b.Over-la.Over) ⟨l1,l2⟩ ⟨by omega,by omega⟩
 have p2:=zqz (x:=b.Rate-la.Rate) (y:=la.Over) ⟨by omega,by omega⟩ ⟨l3,l4⟩
 rw [Int.mul_comm] at p2
 rw [wrap_i64 (n:=b.Over-la.Over) (by omega) (by omega),wU (n:=b.Over-la.Over) (by omega) (by omega),wU (n:=b.Rate-la.Rate) (by omega) (by omega),wU (n:=la.Over) l3 (by omega),wU (n:=la.Rate*(b.Over-la.Over)) p1.1 (by omega),wU (n:=la.Over*(b.Rate-la.Rate)) p2.1 (by omega)]
theorem zt5 {l:List Tu} {la:Tu} (hg:Gd l la) (h1000:l.length≤1000) {k:Nat} (hk:1100≤k):∃ r,zb8 k l la=some r∧r.2=(nextT l la).2∧(r.2=true→r.1=(nextT l la).1):=by
 unfold zb8
 generalize hK:(fun (r83_7:Bool) (yg18 yg20 yg22:z7)=>_)=K
 have e:=ztb hg h1000 K ⟨0,0,0⟩ l.length 0 k none (by omega) (by omega) (fun b hb=>by cases hb)
 have e':z3o k K false l (l.length:Int) 0 la ⟨0,0,0⟩ ⟨0,0,0⟩=_:=e
 rw [e',List.drop_zero]
 have hup:=zoy (la:=la) l none (fun b hb=>by cases hb) (fun t ht ho=>hg.up_ ht ho)
 have hf:=zmc la l
 cases ha:above l la.Over with
 | nil =>
  rw [ha] at hf
  rw [hf,zo6 ha,← hK]
  exact ⟨_,rfl,rfl,fun h=>by cases h⟩
 | cons x xs =>
  rw [ha] at hf
  simp only at hf
  have hu:=hup _ hf
  rw [hf,zla hg.hla ha hu,← hK]
  obtain ⟨b,hb⟩:∃ b,b=xs.foldl (pick (cN la)) x:=⟨_,rfl⟩
  rw [← hb] at hu ⊢
  simp only [Option.isSome_some,Option.getD_some,Bool.not_true,cond_false]
  obtain ⟨l1,l2,l3,l4⟩:=hg.hla
  obtain ⟨⟨b1,b2,b3,b4⟩,b5,b6⟩:=hu
  have w1:IntKind.wrap .i64 (IntKind.wrap .u64 (b.Rate-la.Rate))=b.Rate-la.Rate:=by rw [wU (by omega) (by omega)];exact wrap_i64 (by omega) (by omega)
  rw [w1,wrap_i64 (n:=la.Rate) (by omega) (by omega),wrap_i64 (n:=b.Over-la.Over) (by omega) (by omega),zmf ⟨by omega,by omega⟩ ⟨by omega,by omega⟩ (.inl (by omega)) ⟨by omega,by omega⟩ ⟨by omega,by omega⟩ (.inr (by omega)),Option.bind_some,Option.bind_some]
  by_cases hc:la.Over*(b.Rate-la.Rate)<la.Rate*(b.Over-la.Over)
  ·rw [decide_eq_true hc,Bool.not_true,cond_false]
   exact ⟨_,rfl,rfl,fun _=>rfl⟩
  ·rw [decide_eq_false hc,Bool.not_false,cond_true]
   exact ⟨_,rfl,rfl,fun h=>by cases h⟩
def Fl (la a b:Tu):Prop:=num la a b≤num la b a
theorem Fl.trans {la a b c:Tu} (ha:Up la a) (hb:Up la b) (hc:Up la c) (h1:Fl la a b) (h2:Fl la b c):Fl la a c:=by
 have o1:=ha.over;have o2:=hb.over;have o3:=hc.over
 unfold Fl num at *
 refine Int.le_of_mul_le_mul_right (a:=b.Over-la.Over) ?_ (by omega)
 calc (a.Rate-la.Rate)*(c.Over-la.Over)*(b.Over-la.Over)=(a.Rate-la.Rate)*(b.Over-la.Over)*(c.Over-la.Over):=Int.mul_right_comm ..
  _≤(b.Rate-la.Rate)*(a.Over-la.Over)*(c.Over-la.Over):=Int.mul_le_mul_of_nonneg_right h1 (by omega)
  _=(b.Rate-la.Rate)*(c.Over-la.Over)*(a.Over-la.Over):=Int.mul_right_comm ..
  _≤(c.Rate-la.Rate)*(b.Over-la.Over)*(a.Over-la.Over):=Int.mul_le_mul_of_nonneg_right h2 (by omega)
  _=(c.Rate-la.Rate)*(a.Over-la.Over)*(b.Over-la.Over):=Int.mul_right_comm ..
theorem zre {la:Tu} (hl:Hd la):∀ (xs:List Tu) (x:Tu),Up la x→(∀ t∈xs,Up la t)→Up la (xs.foldl (pick (cN la)) x)∧∀ t∈x::xs,Fl la (xs.foldl (pick (cN la)) x) t
 | [],x,hx,_=>⟨hx,fun t ht=>by rw [List.mem_singleton.1 ht];exact Int.le_refl _⟩
 | y::xs,x,hx,hxs=>by
  have hy:=hxs y (List.mem_cons_self ..)
  rw [List.foldl_cons]
  have hp:Up la (pick (cN la) x y)∧Fl la (pick (cN la) x y) x∧Fl la (pick (cN la) x y) y:=by
   have hc:=cN_eq hl hy hx
   unfold pick
   split
   ·rename_i h
    rw [hc,zd7] at h
    refine ⟨hy,?_,Int.le_refl _⟩
    unfold Fl
    omega
   ·rename_i h
    rw [hc,zd7] at h
    refine ⟨hx,Int.le_refl _,?_⟩
    unfold Fl
    omega
  obtain ⟨u1,u2⟩:=zre hl xs (pick (cN la) x y) hp.1 (fun t ht=>hxs t (List.mem_cons_of_mem _ ht))
  refine ⟨u1,fun t ht=>?_⟩
  have hb:=u2 _ (List.mem_cons_self ..)
  rcases List.mem_cons.1 ht with rfl | ht
  ·exact Fl.trans u1 hp.1 hx hb hp.2.1
  ·rcases List.mem_cons.1 ht with rfl | ht
   ·exact Fl.trans u1 hp.1 hy hb hp.2.2
   ·exact u2 t (List.mem_cons_of_mem _ ht)
theorem Gd.next {l:List Tu} {la:Tu} (hg:Gd l la) (h:(nextT l la).2=true):Gd l (nextT l la).1:=by
 have hmem:∀ t∈above l la.Over,Up la t:=fun t ht=>by
  obtain ⟨h1,h2⟩:=List.mem_filter.1 ht
  exact hg.up_ h1 (of_decide_eq_true h2)
 cases ha:above l la.Over with
 | nil=>rw [zo6 ha] at h;cases h
 | cons x xs =>
  rw [ha] at hmem
  obtain ⟨u1,u2⟩:=zre hg.hla xs x (hmem x (List.mem_cons_self ..)) (fun t ht=>hmem t (List.mem_cons_of_mem _ ht))
  rw [zla hg.hla ha u1]
  simp only
  refine ⟨hg.hd,u1.hd,fun t ht ho=>?_⟩
  have hto:la.Over<t.Over:=by have:=u1.over;omega
  have hta:t∈x::xs:=by rw [← ha];exact List.mem_filter.2 ⟨ht,decide_eq_true hto⟩
  have hf:=u2 t hta
  obtain ⟨b,hb⟩:∃ b,b=xs.foldl (pick (cN la)) x:=⟨_,rfl⟩
  rw [← hb] at hf ho u1 ⊢
  unfold Fl num at hf
  have q1:=u1.over
  have q2:=u1.rate
  by_cases hlt:t.Rate<b.Rate
  ·have a1:(t.Rate-la.Rate)*(b.Over-la.Over)<(b.Rate-la.Rate)*(b.Over-la.Over):=Int.mul_lt_mul_of_pos_right (by omega) (by omega)
   have a2:(b.Rate-la.Rate)*(b.Over-la.Over)≤(b.Rate-la.Rate)*(t.Over-la.Over):=Int.mul_le_mul_of_nonneg_left (by omega) (by omega)
   omega
  ·omega
theorem zsc {l:List Tu} (h1000:l.length≤1000) (kE:List Tu→Option (List Tu)):∀ n k:Nat,∀ (o:List Tu) (la:Tu),Gd l la→(above l la.Over).length<n→n≤1001→n+1110≤k→o.length+n≤2000 →
  z8c k kE l o la=kE (o++(setL l n la).tail):=by
 intro n
 induction n with
 | zero=>intro k o la _ h;omega
 | succ n ih =>
  intro k o la hg h hn hk ho
  obtain ⟨k,rfl⟩:∃ j,k=j+1:=⟨k-1,by omega⟩
  obtain ⟨r,e,r1,r2⟩:=zt5 hg h1000 (k:=k) (by omega)
  rw [z8c,e,Option.bind_some]
  unfold setL
  rw [List.tail_cons]
  cases hb:(nextT l la).2 with
  | true =>
   rw [hb] at r1
   have hlt:=zp1 (zo1 hb)
   rw [r1,Bool.not_true,cond_false,r2 r1,ap_eq (by omega) (by simp only [List.length_cons,List.length_nil];omega),Option.bind_some,ih k _ _ (hg.next hb) (by omega) (by omega) (by omega) (by rw [List.length_append];simp only [List.length_cons,List.length_nil];omega),if_pos rfl,List.append_assoc]
   congr 2
   cases n with
   | zero=>omega
   | succ n=>rfl
  | false =>
   rw [hb] at r1
   rw [r1,Bool.not_false,cond_true,if_neg (by simp),List.append_nil]
theorem zsi {l:List Tu} (h1000:l.length≤1000) (kE:List Tu→Tu→Option (List Tu)) (x0:List Tu):∀ m i k:Nat,∀ b:Tu,i+m=l.length→m+5≤k →
  z51 k kE x0 l (l.length:Int) (i:Int) b=kE x0 ((l.drop i).foldl (pick cS) b):=by
 intro m
 induction m with
 | zero =>
  intro i k b hi hk
  obtain ⟨k,rfl⟩:∃ j,k=j+1:=⟨k-1,by omega⟩
  rw [z51,decide_eq_false (by omega),cond_false,List.drop_of_length_le (by omega)];rfl
 | succ m ih =>
  intro i k b hi hk
  obtain ⟨k,rfl⟩:∃ j,k=j+1:=⟨k-1,by omega⟩
  rw [z51,decide_eq_true (by omega),cond_true,tix (by omega),Option.bind_some,List.drop_eq_getElem_cons (by omega:i<l.length),List.foldl_cons,tget (by omega),show IntKind.wrap .i64 ((i:Int)+1)=((i+1:Nat):Int) from wrap_i64 (by omega) (by omega)]
  obtain ⟨t,ht⟩:∃ t,t=l[i]:=⟨_,rfl⟩
  rw [← ht]
  have key:(bif decide (t.Rate<b.Rate) then (some true) else ((bif t.Rate==b.Rate then ((bif decide (t.Over>b.Over) then (some true) else ((bif t.Over==b.Over then (some (decide (t.Owner<b.Owner))) else (some false)).bind fun b42=>some b42)).bind fun b46=>some b46) else (some false)).bind fun b50=>some b50))=some (decide (cS t b<0)):=by
   by_cases c1:t.Rate<b.Rate
   ·rw [decide_eq_true c1,cond_true,decide_eq_true (cS_neg.2 (.inl c1))]
   ·rw [decide_eq_false c1,cond_false]
    by_cases c2:t.Rate=b.Rate
    ·have hq:decide (cS t b<0)=decide (tiesI t b<0):=by
      rw [Bool.eq_iff_iff,decide_eq_true_eq,decide_eq_true_eq,cS_neg]
      exact ⟨fun h=>h.elim (fun h=>absurd h c1) (·.2),fun h=>.inr ⟨c2,h⟩⟩
     rw [beq_iff_eq.2 c2,cond_true,hq]
     by_cases c3:t.Over>b.Over
     ·rw [decide_eq_true c3,cond_true,decide_eq_true (zcb.2 (.inl c3))];rfl
     ·rw [decide_eq_false c3,cond_false]
      by_cases c4:t.Over=b.Over
      ·rw [beq_iff_eq.2 c4,cond_true]
       have:decide (tiesI t b<0)=decide (t.Owner<b.Owner):=by
        rw [Bool.eq_iff_iff,decide_eq_true_eq,decide_eq_true_eq,zcb]
        exact ⟨fun h=>h.elim (fun h=>absurd h c3) (·.2),fun h=>.inr ⟨c4.symm,h⟩⟩
       rw [this];rfl
      ·rw [beq_eq_false_iff_ne.2 c4,cond_false,decide_eq_false fun h=>by rcases zcb.1 h with h | ⟨h,_⟩<;>omega];rfl
    ·rw [beq_eq_false_iff_ne.2 c2,cond_false,decide_eq_false fun h=>by rcases cS_neg.1 h with h | ⟨h,_⟩<;>omega];rfl
  rw [key,Option.bind_some]
  unfold pick
  by_cases h:cS t b<0
  ·rw [decide_eq_true h,cond_true,if_pos h]
   exact ih (i+1) k _ (by omega) (by omega)
  ·rw [decide_eq_false h,cond_false,if_neg h]
   exact ih (i+1) k _ (by omega) (by omega)
theorem zv5 (t:Tu):zbw t=some (heldT t):=by
 unfold zbw heldT
 congr 2
 split<;>split<;>(try split)<;>(try split)<;>first | rfl | omega
theorem zs4 {l:List Tu} (h1000:l.length≤1000) (kE:List Tu→Option (List Tu)):∀ m i k:Nat,∀ o:List Tu,i+m=l.length→m+5≤k→o.length=i →
  z7h k kE o l (l.length:Int) (i:Int)=kE (o++(l.drop i).map heldT):=by
 intro m
 induction m with
 | zero =>
  intro i k o hi hk ho
  obtain ⟨k,rfl⟩:∃ j,k=j+1:=⟨k-1,by omega⟩
  rw [z7h,decide_eq_false (by omega),cond_false,List.drop_of_length_le (by omega),List.map_nil,List.append_nil]
 | succ m ih =>
  intro i k o hi hk ho
  obtain ⟨k,rfl⟩:∃ j,k=j+1:=⟨k-1,by omega⟩
  rw [z7h,decide_eq_true (by omega),cond_true,tix (by omega),Option.bind_some,List.drop_eq_getElem_cons (by omega:i<l.length),tget (by omega),show IntKind.wrap .i64 ((i:Int)+1)=((i+1:Nat):Int) from wrap_i64 (by omega) (by omega)]
  rw [zv5,Option.bind_some,ap_eq (by omega) (by simp only [List.length_cons,List.length_nil];omega),Option.bind_some,ih (i+1) k _ (by omega) (by omega) (by rw [List.length_append,ho];rfl),List.map_cons,List.append_assoc]
  rfl
theorem znf {l:List Tu} (h1000:l.length≤1000) {k:Nat} (hk:1100≤k):zbb k l=some (l.map heldT):=by
 unfold zbb
 have:=zs4 h1000 (fun r42_3=>some (r42_3)) l.length 0 k [] (by omega) (by omega) rfl
 rw [List.drop_zero,List.nil_append] at this
 exact this
theorem zo7:∀ (xs:List Tu) (x:Tu),∀ t∈x::xs,(xs.foldl (pick cS) x).Rate≤t.Rate
 | [],x,t,ht=>by rw [List.mem_singleton.1 ht];exact Int.le_refl _
 | y::xs,x,t,ht=>by
  rw [List.foldl_cons]
  have h:=zo7 xs (pick cS x y)
  have hp:(pick cS x y).Rate≤x.Rate∧(pick cS x y).Rate≤y.Rate:=by
   unfold pick
   split
   ·rename_i h
    rcases cS_neg.1 h with h | ⟨h,_⟩<;>omega
   ·rename_i h
    have:¬ y.Rate<x.Rate:=fun e=>h (cS_neg.2 (.inl e))
    omega
  have h0:=h _ (List.mem_cons_self ..)
  rcases List.mem_cons.1 ht with rfl | ht
  ·omega
  ·rcases List.mem_cons.1 ht with rfl | ht
   ·omega
   ·exact h t (List.mem_cons_of_mem _ ht)
theorem zsa {l:List Tu} (h0:∀ t∈l,0≤t.Rate) (h1000:l.length<1000) {k:Nat} (hk:4000≤k):z5y k l=some (boundS l):=by
 unfold z5y
 rw [znf (by omega) (by omega),Option.bind_some]
 unfold boundS
 have hlen:(l.map heldT).length=l.length:=List.length_map ..
 have hh:∀ t∈l.map heldT,Hd t:=fun t ht=>by
  obtain ⟨s,hs,rfl⟩:=List.mem_map.1 ht
  exact ztj (h0 s hs)
 cases hm:l.map heldT with
 | nil=>rfl
 | cons x xs =>
  rw [hm] at hlen hh
  have hl2:=hlen
  simp only [List.length_cons] at hl2
  have:(((x::xs).length:Int)==0)=false:=beq_eq_false_iff_ne.2 (by simp only [List.length_cons];omega)
  rw [this,cond_false,show ix (x::xs) 0=some x from rfl,Option.bind_some]
  generalize hK:(fun (r68_0:List z7) (yg28:z7)=>_)=K
  have e:=zsi (l:=x::xs) (by omega) K (x::xs) (x::xs).length 0 k x (by omega) (by omega)
  have e':z51 k K (x::xs) (x::xs) ((x::xs).length:Int) 0 x=_:=e
  rw [e',List.drop_zero,List.foldl_cons]
  have hxx:pick cS x x=x:=by unfold pick;split<;>rfl
  rw [hxx,← hK]
  simp only
  obtain ⟨b,hb⟩:∃ b,b=xs.foldl (pick cS) x:=⟨_,rfl⟩
  have hbm:b∈x::xs:=by rw [hb];exact zo3
  have hbr:=zo7 xs x
  rw [← hb] at hbr ⊢
  have hab:(above (x::xs) b.Over).length≤(x::xs).length:=List.length_filter_le ..
  rw [zsc (l:=x::xs) (by omega) _ 1001 k [b] b ⟨hh,hh b hbm,fun t ht _=>hbr t ht⟩ (by omega) (by omega) (by omega) (by simp)]
  rfl
end Lim
end Go.Ev
namespace Go.Ev
open Go.Proofs
set_option linter.unusedVariables false
set_option linter.unusedSimpArgs false
set_option maxRecDepth 100000
noncomputable section
abbrev KT30:=Exit→Env→H→Option (List C × H)
variable (rec : CallF) (loop : LoopV) (σ : Stamp)
def z8l:Code:=(codeAt (bodyOf Try.f10) [1,1,1,0,1,0,0])
def z8g:Lv:=⟨35,16,[(0,35)]⟩
def zdu:KT30:=(kBlock 0 (kSeq G rec loop (codeAt (bodyOf Try.f10) [1,1,1,1]) ⟨16,16,[]⟩ (1::1::1::0::σ) (finC G false Try.f10 (1::σ))))
def z8o:Code:=(codeAt (bodyOf Try.f10) [1,1,1,1,0,1,0,0])
def z8m:Lv:=⟨35,16,[(2,35)]⟩
def zb7:KT30:=(kBlock 2 (kSeq G rec loop (codeAt (bodyOf Try.f10) [1,1,1,1,1]) ⟨16,16,[]⟩ (1::1::1::1::0::σ) (finC G false Try.f10 (1::σ))))
theorem zfz (x0:Int) (x1:V) (h:H):cvBody G rec loop 10 σ [(.p (.int .i64 x0)),x1] h =
(lenO x1).bind fun t1 =>
(castI .i64 t1).bind fun n2 =>
(loop z8l z8g (1::0::1::1::1::0::σ) (envL [(0,(.p (.int .i64 x0))),(1,x1),(5,(.p (.slice .none 0 0))),(6,(.p (.int .i64 0))),(11,(.p (.int .i64 n2))),(12,(.p (.int .i64 0)))]) (List.replicate 90 []::h)).bind fun r3=>zdu rec loop σ r3.1 r3.2.1 r3.2.2:=by kernel_rfl
theorem zin (x0:Int) (x1:V) (x5:V) (x6:Int) (x11:Int) (x12:Int) (h:H):z1n G rec loop z8l z8g σ (envL [(0,(.p (.int .i64 x0))),(1,x1),(5,x5),(6,(.p (.int .i64 x6))),(11,(.p (.int .i64 x11))),(12,(.p (.int .i64 x12)))]) h =
bif decide (x12<x11) then (
(iS 5 x1 x12).bind fun t4 =>
(ldO true 5 h t4).bind fun t5 =>
(some (alO [.p (.int .i64 0),.p (.int .u32 0),.p (.int .u64 0),.p (.int .i64 0),.p (.int .i64 0)] (4::0::1::0::1::1::0::σ) 8 h)).bind fun q6 =>
((stO false 5 (5::0::1::0::1::1::0::σ) q6.2 q6.1 t5).map fun h=>(udf,h)).bind fun q7 =>
(fA q6.1 0).bind fun t8 =>
(ldO false 1 q7.2 t8).bind fun t9 =>
(castI .i64 t9).bind fun n10 =>
(callO rec 21 (2::0::1::1::0::1::1::0::σ) [(.p (.int .i64 n10)),(.p (.int .i64 0)),(.p (.int .i64 5))] q7.2 (some 21)).bind fun q11 =>
(castI .i64 q11.1).bind fun n12 =>
(fA q6.1 0).bind fun t13 =>
((stO true 1 (4::0::1::1::0::1::1::0::σ) q11.2 t13 (.p (.int .i64 n12))).map fun h=>(udf,h)).bind fun q14 =>
(fA q6.1 4).bind fun t15 =>
(ldO false 1 q14.2 t15).bind fun t16 =>
(castI .i64 t16).bind fun n17 =>
(fA q6.1 1).bind fun t18 =>
(fA t18 0).bind fun t19 =>
(ldO false 1 q14.2 t19).bind fun t20 =>
(castI .u32 t20).bind fun n21 =>
(fA q6.1 1).bind fun t22 =>
(fA t22 1).bind fun t23 =>
(ldO false 1 q14.2 t23).bind fun t24 =>
(castI .u64 t24).bind fun n25 =>
(fA q6.1 1).bind fun t26 =>
(fA t26 2).bind fun t27 =>
(ldO false 1 q14.2 t27).bind fun t28 =>
(castI .i64 t28).bind fun n29 =>
(fA q6.1 1).bind fun t30 =>
(fA t30 0).bind fun t31 =>
((stO true 1 (15::0::1::1::1::1::0::1::1::0::σ) q14.2 t31 (.p (.int .u32 (intBits .and .u32 n21 15)))).map fun h=>(udf,h)).bind fun q32 =>
(fA q6.1 1).bind fun t33 =>
(fA t33 1).bind fun t34 =>
((stO true 1 (18::0::1::1::1::1::0::1::1::0::σ) q32.2 t34 (.p (.int .u64 (intBits .and .u64 n25 1048575)))).map fun h=>(udf,h)).bind fun q35 =>
(fA q6.1 1).bind fun t36 =>
(fA t36 2).bind fun t37 =>
((stO true 1 (21::0::1::1::1::1::0::1::1::0::σ) q35.2 t37 (.p (.int .i64 (intBits .and .i64 n29 127)))).map fun h=>(udf,h)).bind fun q38 =>
(fA q6.1 4).bind fun t39 =>
((stO true 1 (23::0::1::1::1::1::0::1::1::0::σ) q38.2 t39 (.p (.int .i64 (IntKind.wrap .i64 (x6+(intBits .and .i64 n17 262143)))))).map fun h=>(udf,h)).bind fun q40 =>
(ldO true 5 q40.2 q6.1).bind fun t41 =>
(bSV Try.prog 61 1 [(0,t41)]).bind fun t42 =>
(apO false 5 40 (3::1::1::1::1::1::0::1::1::0::σ) 51 q40.2 x5 t42).bind fun q43 =>
loop z8l z8g (1::σ) (envL [(0,(.p (.int .i64 x0))),(1,x1),(5,q43.1),(6,(.p (.int .i64 (IntKind.wrap .i64 (x6+(intBits .and .i64 n17 262143)))))),(11,(.p (.int .i64 x11))),(12,(.p (.int .i64 (IntKind.wrap .i64 (x12+1)))))]) q43.2)
else (
some ((.exit 0),(envL [(0,(.p (.int .i64 x0))),(1,x1),(5,x5)]),h)):=by kernel_rfl
theorem zgo (x0:Int) (x1:V) (x5:V) (h:H):zdu rec loop σ (.exit 0) (envL [(0,(.p (.int .i64 x0))),(1,x1),(5,x5)]) h =
(lenO x1).bind fun t44 =>
(castI .i64 t44).bind fun n45 =>
(loop z8o z8m (1::0::1::1::1::1::0::σ) (envL [(0,(.p (.int .i64 x0))),(1,x1),(5,x5),(54,(.p (.int .i64 n45))),(55,(.p (.int .i64 0)))]) h).bind fun r46=>zb7 rec loop σ r46.1 r46.2.1 r46.2.2:=by kernel_rfl
theorem zic (x0:Int) (x1:V) (x5:V) (x54:Int) (x55:Int) (h:H):z1n G rec loop z8o z8m σ (envL [(0,(.p (.int .i64 x0))),(1,x1),(5,x5),(54,(.p (.int .i64 x54))),(55,(.p (.int .i64 x55)))]) h =
bif decide (x55<x54) then (
(iS 5 x1 x55).bind fun t47 =>
(fA t47 4).bind fun t48 =>
(ldO false 1 h t48).bind fun t49 =>
(castI .i64 t49).bind fun n50 =>
(bif decide (n50>4611686018427387904) then (some true) else ((iS 5 x1 x55).bind fun t51 =>
(fA t51 4).bind fun t52 =>
(ldO false 1 h t52).bind fun t53 =>
(castI .i64 t53).bind fun n54 =>
some (decide (n54<(-4611686018427387904))))).bind fun b55 =>
bif b55 then (
(callO rec 33 (2::0::1::1::0::1::1::0::σ) [(.p (.int .i64 x0)),x5] h (some 74)).bind fun q56 =>
(asB q56.1).bind fun b57 =>
(bif b57 then ((callO rec 34 (4::0::1::1::0::1::1::0::σ) [] q56.2 (some 76)).bind fun q58 =>
(asB q58.1).bind fun b59 =>
some ((.p (.bool b59)),q58.2)) else (some ((.p (.bool false)),q56.2))).bind fun q60 =>
(asB q60.1).bind fun b61 =>
some (.ret,(envL [(4,(.p (.bool b61)))]),q60.2))
else (
loop z8o z8m (1::σ) (envL [(0,(.p (.int .i64 x0))),(1,x1),(5,x5),(54,(.p (.int .i64 x54))),(55,(.p (.int .i64 (IntKind.wrap .i64 (x55+1)))))]) h))
else (
some ((.exit 2),(envL [(0,(.p (.int .i64 x0))),(1,x1),(5,x5)]),h)):=by kernel_rfl
theorem zh7 (x0:Int) (x1:V) (x5:V) (h:H):zb7 rec loop σ (.exit 2) (envL [(0,(.p (.int .i64 x0))),(1,x1),(5,x5)]) h =
(callO rec 33 (2::0::1::1::1::1::1::0::σ) [(.p (.int .i64 x0)),x5] h (some 81)).bind fun q62 =>
(asB q62.1).bind fun b63 =>
(bif b63 then ((callO rec 33 (6::0::1::1::1::1::1::0::σ) [(.p (.int .i64 x0)),x1] q62.2 (some 85)).bind fun q64 =>
(asB q64.1).bind fun b65 =>
some ((.p (.bool b65)),q64.2)) else (some ((.p (.bool false)),q62.2))).bind fun q66 =>
(asB q66.1).bind fun b67 =>
(bif b67 then ((callO rec 34 (9::0::1::1::1::1::1::0::σ) [] q66.2 (some 88)).bind fun q68 =>
(asB q68.1).bind fun b69 =>
some ((.p (.bool b69)),q68.2)) else (some ((.p (.bool false)),q66.2))).bind fun q70 =>
(asB q70.1).bind fun b71 =>
fin false σ q70.2 [(.p (.bool b71))]:=by kernel_rfl
theorem zfv (x4:Bool) (h:H):zb7 rec loop σ .ret (envL [(4,(.p (.bool x4)))]) h =
fin false σ h [(.p (.bool x4))]:=by kernel_rfl
theorem zm6 (x0:Int) (x1:Int) (x2:Int) (h:H):cvBody G rec loop 21 σ [(.p (.int .i64 x0)),(.p (.int .i64 x1)),(.p (.int .i64 x2))] h =
(bif decide (x0≥x1) then (some (decide (x0≤x2))) else (some false)).bind fun b1 =>
bif b1 then (
fin false σ (List.replicate 33 []::h) [(.p (.int .i64 x0))])
else (
(remI .i64 x0 (IntKind.wrap .i64 ((IntKind.wrap .i64 (x2-x1))+1))).bind fun t2 =>
(castI .i64 t2).bind fun n3 =>
bif decide (n3<0) then (
fin false σ (List.replicate 33 []::h) [(.p (.int .i64 (IntKind.wrap .i64 (x1+(IntKind.wrap .i64 ((IntKind.wrap .i64 ((IntKind.wrap .i64 (n3+x2))-x1))+1))))))])
else (
fin false σ (List.replicate 33 []::h) [(.p (.int .i64 (IntKind.wrap .i64 (x1+n3))))])):=by kernel_rfl
end
end Go.Ev
namespace Go.Ev
open Go.Proofs
set_option linter.unusedVariables false
set_option linter.unusedSimpArgs false
set_option maxRecDepth 100000
section
variable {β α : Type} {Q : β→α→Prop} {K : Exit × Env × H→Option α}
def zbn (x0:Int) (x1:Int) (x2:Int):Option (Int) :=
(bif decide (x0≥x1) then (some (decide (x0≤x2))) else (some false)).bind fun b1 =>
bif b1 then (
some (x0))
else (
(remP x0 (IntKind.wrap .i64 ((IntKind.wrap .i64 (x2-x1))+1))).bind fun n6 =>
bif decide (n6<0) then (
some ((IntKind.wrap .i64 (x1+(IntKind.wrap .i64 ((IntKind.wrap .i64 ((IntKind.wrap .i64 (n6+x2))-x1))+1))))))
else (
some ((IntKind.wrap .i64 (x1+n6)))))
theorem zoq {h:H} {σ:Stamp} (x0:Int) (x1:Int) (x2:Int):Sim (zbn x0 x1 x2) (ev G X0 21 σ [(.p (.int .i64 x0)),(.p (.int .i64 x1)),(.p (.int .i64 x2))] h) (fun r s=>s=([.v (.p (.int .i64 r))],h)):=by
 refine .ev rfl (Sim.ext (zm6 _ _ _ _ _ _ _) ?_)
 rw [zbn]
 have S0:Fm 33 h [] [] [] (List.replicate 33 []::h):=Fm.start0
 refine .ch (P:=fun r y=>r=y) ?_ (fun b1 y2 h3 h4=>?_)
 ·refine .cq ?_ ?_
  ·exact .ret rfl rfl
  ·exact .ret rfl rfl
 subst h4
 refine .cq ?_ ?_
 ·exact .fin (S0.finN (lC (sI _ _).lv lN)) rfl
 refine .bd fun n6 h7=>?_
 refine .op (zul h7) ?_
 refine .ci ?_
 refine .cq ?_ ?_
 ·exact .fin (S0.finN (lC (sI _ _).lv lN)) rfl
 exact .fin (S0.finN (lC (sI _ _).lv lN)) rfl
end
end Go.Ev
namespace Go.Ev
open Go.Proofs
set_option linter.unusedVariables false
set_option linter.unusedSimpArgs false
set_option maxRecDepth 100000
noncomputable section
abbrev KT31:=Exit→Env→H→Option (List C × H)
variable (rec : CallF) (loop : LoopV) (σ : Stamp)
theorem zkc  (h:H):cvBody G rec loop 34 σ [] h =
(callO rec 35 (0::0::1::0::σ) [(.p (.int .i64 5000))] (List.replicate 64 []::h) (some 8)).bind fun q1 =>
(binV Try.prog q1.2 .eql 66 q1.1 (.p (.pointer .none))).bind fun t2 =>
(asB t2).bind fun b3 =>
bif b3 then (
fin false σ q1.2 [(.p (.bool false))])
else (
(callO rec 37 (1::0::1::1::1::0::σ) [q1.1] q1.2 (some 12)).bind fun q4 =>
(castI .i64 q4.1).bind fun n5 =>
(callO rec 38 (1::0::1::1::1::1::0::σ) [q1.1,(.p (.int .u64 80))] q4.2 (some 14)).bind fun q6 =>
(callO rec 37 (1::0::1::1::1::1::1::0::σ) [q1.1] q6.2 (some 16)).bind fun q7 =>
(castI .i64 q7.1).bind fun n8 =>
(buildV Try.prog 57 [(0,(.p (.int .u32 3))),(1,(.p (.int .u64 16))),(2,(.p (.int .i64 1)))]).bind fun t9 =>
(callO rec 36 (2::0::1::1::1::1::1::1::0::σ) [q1.1,t9,(.p (.int .i64 0))] q7.2 (some 19)).bind fun q10 =>
(asB q10.1).bind fun b11 =>
(callO rec 37 (1::0::1::1::1::1::1::1::1::0::σ) [q1.1] q10.2 (some 21)).bind fun q12 =>
(castI .i64 q12.1).bind fun n13 =>
(callO rec 39 (1::0::1::1::1::1::1::1::1::1::0::σ) [q1.1,(.p (.int .i64 999999))] q12.2 (some 23)).bind fun q14 =>
(castI .i64 q14.1).bind fun n15 =>
(callO rec 39 (1::0::1::1::1::1::1::1::1::1::1::0::σ) [q1.1,(.p (.int .i64 1000000))] q14.2 (some 25)).bind fun q16 =>
(castI .i64 q16.1).bind fun n17 =>
(bif n5==5000 then (some (n8==10)) else (some false)).bind fun b18 =>
(bif b18 then (some b11) else (some false)).bind fun b19 =>
(bif b19 then (some (n13==2)) else (some false)).bind fun b20 =>
(bif b20 then (some (n15==0)) else (some false)).bind fun b21 =>
(bif b21 then (some (n17==1)) else (some false)).bind fun b22 =>
(bif b22 then ((callO rec 37 (23::0::1::1::1::1::1::1::1::1::1::1::0::σ) [q1.1] q16.2 (some 49)).bind fun q23 =>
(castI .i64 q23.1).bind fun n24 =>
some ((.p (.bool (n24==10))),q23.2)) else (some ((.p (.bool false)),q16.2))).bind fun q25 =>
(asB q25.1).bind fun b26 =>
(bif b26 then ((callO rec 40 (28::0::1::1::1::1::1::1::1::1::1::1::0::σ) [q1.1] q25.2 (some 54)).bind fun q27 =>
(lenO q27.1).bind fun t28 =>
(castI .i64 t28).bind fun n29 =>
some ((.p (.bool (n29==0))),q27.2)) else (some ((.p (.bool false)),q25.2))).bind fun q30 =>
(asB q30.1).bind fun b31 =>
(bif b31 then ((callO rec 41 (34::0::1::1::1::1::1::1::1::1::1::1::0::σ) [q1.1] q30.2 (some 60)).bind fun q32 =>
(lenO q32.1).bind fun t33 =>
(castI .i64 t33).bind fun n34 =>
some ((.p (.bool (n34==0))),q32.2)) else (some ((.p (.bool false)),q30.2))).bind fun q35 =>
(asB q35.1).bind fun b36 =>
fin false σ q35.2 [(.p (.bool b36))]):=by kernel_rfl
theorem zg9 (x0:V) (h:H):cvBody G rec loop 41 σ [x0] h =
(nilChk x0).bind fun t1 =>
(fA t1 3).bind fun t2 =>
(ldO false 1 (List.replicate 8 []::h) t2).bind fun t3 =>
(callO rec 83 (4::0::1::0::σ) [t3] (List.replicate 8 []::h) (some 7)).bind fun q4 =>
fin true σ q4.2 [q4.1]:=by kernel_rfl
end
end Go.Ev
namespace Go.Ev
open Go.Proofs
set_option linter.unusedVariables false
set_option linter.unusedSimpArgs false
set_option maxRecDepth 100000
section
variable {β α : Type} {Q : β→α→Prop} {K : Exit × Env × H→Option α}
def z2t (k:Nat) (x0:z16):Option ((List z7)) :=
(zbx k x0.tuples).bind fun r1 =>
some (r1)
theorem z5l (k:Nat) {h:H} {σ:Stamp} (x0:z16) {c0_3:C} (hc0_3:SoC z6 x0.tuples c0_3) (hn0_3:Nn c0_3 3) {s0_4:Stamp} {c0_4_0:C} (hc0_4_0:SoC z5 x0.ends.l c0_4_0) (hn0_4_0:Nn c0_4_0 2) {l0:Loc} {o0:Nat} (ha0:AtC h l0 o0 ([.v (.p (.int .i64 x0.cap)),.v (.p (.int .u64 x0.remb)),.v (.p (.bool x0.told)),c0_3,.own s0_4 ([c0_4_0])])):Sim (z2t k x0) (ev G X0 41 σ [(.ref l0 o0)] h) (fun r s=>∃ (v0:V),SlF z6 r v0∧s=([.v v0],h)):=by
 refine .ev rfl (Sim.ext (zg9 _ _ _ _ _) ?_)
 rw [z2t]
 have S0:Fm 8 h [] [] [] (List.replicate 8 []::h):=Fm.start0
 refine .nc ?_
 refine .fa ?_
 refine .op (hc0_3.ld (S0.lowA ha0) (j:=3) rfl) ?_
 refine .call (zpr k x0.tuples (hc0_3.sl (S0.lowA ha0) (j:=3) rfl)) fun r1 cs2 H3 h4 q5=>?_
 obtain ⟨v6,h7,q5⟩:=q5
 cases q5
 exact .fin (S0.finN (lC h7.still.lv lN)) ⟨v6,h7,rfl⟩
def z7y (k:Nat) :Option (Bool) :=
(zbo 5000).bind fun r1 =>
(z1z k r1).bind fun r15 =>
(z5m r1 80).bind fun r20 =>
(z1z k r20).bind fun r30 =>
(z4k k r20 ((⟨3,16,1⟩:z7)) 0).bind fun r35 =>
(z1z k r35.2).bind fun r45 =>
(z3n k r35.2 999999).bind fun r50 =>
(z3n k r50.2 1000000).bind fun r60 =>
(bif r15==5000 then (some (r30==10)) else (some false)).bind fun b70 =>
(bif b70 then (some r35.1) else (some false)).bind fun b74 =>
(bif b74 then (some (r45==2)) else (some false)).bind fun b78 =>
(bif b78 then (some (r50.1==0)) else (some false)).bind fun b82 =>
(bif b82 then (some (r60.1==1)) else (some false)).bind fun b86 =>
(bif b86 then ((z1z k r60.2).bind fun r90 =>
some (r90==10)) else (some false)).bind fun b95 =>
(bif b95 then ((z2e r60.2).bind fun r99 =>
some (((r99.length:Int))==0)) else (some false)).bind fun b106 =>
(bif b106 then ((z2t k r60.2).bind fun r110 =>
some (((r110.length:Int))==0)) else (some false)).bind fun b117 =>
some (b117)
theorem zhj (k:Nat) {h:H} {σ:Stamp} :Sim (z7y k ) (ev G X0 34 σ [] h) (fun r s=>s=([.v (.p (.bool r))],h)):=by
 refine .ev rfl (Sim.ext (zkc _ _ _ _) ?_)
 rw [z7y]
 have S0:Fm 64 h [] [] [] (List.replicate 64 []::h):=Fm.start0
 refine .call (zis 5000) fun r1 cs2 H3 h4 q5=>?_
 obtain ⟨s6,c7,s9,c9_0,h8,h9,hc9_0,hn9_0,q5⟩:=q5
 cases q5
 obtain ⟨H11,e12,S13⟩:=S0.landG (d:=8) (s:=s6) (cs:=[.v (.p (.int .i64 r1.cap)),.v (.p (.int .u64 r1.remb)),.v (.p (.bool r1.told)),c7,.own s9 ([c9_0])]) (by decide) rfl
 erw [e12]
 refine .op ((by kernel_rfl:_=some (.p (.bool false)))) ?_
 refine .ab ?_
 refine .cdf rfl ?_
 refine .call (z2s k r1 h8 h9 hc9_0 hn9_0 (S13.atG (i:=0) rfl)) fun r15 cs16 H17 h18 q19=>?_
 cases q19
 refine .ci ?_
 refine .call (zch r1 h8 h9 hc9_0 hn9_0 (S13.atG (i:=0) rfl) 80) fun r20 cs21 H22 h23 q24=>?_
 obtain ⟨c25,s27,c27_0,h26,h27,hc27_0,hn27_0,q24⟩:=q24
 cases q24
 have S29:=S13.setG (i:=0) (cs':=[.v (.p (.int .i64 r20.cap)),.v (.p (.int .u64 r20.remb)),.v (.p (.bool r20.told)),c25,.own s27 ([c27_0])]) rfl rfl rfl
 refine .call (z2s k r20 h26 h27 hc27_0 hn27_0 (S29.atG (i:=0) rfl)) fun r30 cs31 H32 h33 q34=>?_
 cases q34
 refine .ci ?_
 refine .op (bldV (pC rfl (pC rfl (pC rfl pN))) (by kernel_rfl:_=some (.agg [.p (.int .u32 3),.p (.int .u64 16),.p (.int .i64 1)]))) ?_
 refine .call (zco k r20 h26 h27 hc27_0 hn27_0 (S29.atG (i:=0) rfl) ((⟨3,16,1⟩:z7)) (show z6.R ((⟨3,16,1⟩:z7)) [.p (.int .u32 3),.p (.int .u64 16),.p (.int .i64 1)] from (z6.mk)) 0) fun r35 cs36 H37 h38 q39=>?_
 obtain ⟨c40,s42,c42_0,h41,h42,hc42_0,hn42_0,q39⟩:=q39
 cases q39
 have S44:=S29.setG (i:=0) (cs':=[.v (.p (.int .i64 r35.2.cap)),.v (.p (.int .u64 r35.2.remb)),.v (.p (.bool r35.2.told)),c40,.own s42 ([c42_0])]) rfl rfl rfl
 refine .ab ?_
 refine .call (z2s k r35.2 h41 h42 hc42_0 hn42_0 (S44.atG (i:=0) rfl)) fun r45 cs46 H47 h48 q49=>?_
 cases q49
 refine .ci ?_
 refine .call (z82 k r35.2 h41 h42 hc42_0 hn42_0 (S44.atG (i:=0) rfl) 999999) fun r50 cs51 H52 h53 q54=>?_
 obtain ⟨c55,s57,c57_0,h56,h57,hc57_0,hn57_0,q54⟩:=q54
 cases q54
 have S59:=S44.setG (i:=0) (cs':=[.v (.p (.int .i64 r50.2.cap)),.v (.p (.int .u64 r50.2.remb)),.v (.p (.bool r50.2.told)),c55,.own s57 ([c57_0])]) rfl rfl rfl
 refine .ci ?_
 refine .call (z82 k r50.2 h56 h57 hc57_0 hn57_0 (S59.atG (i:=0) rfl) 1000000) fun r60 cs61 H62 h63 q64=>?_
 obtain ⟨c65,s67,c67_0,h66,h67,hc67_0,hn67_0,q64⟩:=q64
 cases q64
 have S69:=S59.setG (i:=0) (cs':=[.v (.p (.int .i64 r60.2.cap)),.v (.p (.int .u64 r60.2.remb)),.v (.p (.bool r60.2.told)),c65,.own s67 ([c67_0])]) rfl rfl rfl
 refine .ci ?_
 refine .ch (P:=fun r y=>r=y) ?_ (fun b70 y71 h72 h73=>?_)
 ·refine .cq ?_ ?_
  ·exact .ret rfl rfl
  ·exact .ret rfl rfl
 subst h73
 refine .ch (P:=fun r y=>r=y) ?_ (fun b74 y75 h76 h77=>?_)
 ·refine .cq ?_ ?_
  ·exact .ret rfl rfl
  ·exact .ret rfl rfl
 subst h77
 refine .ch (P:=fun r y=>r=y) ?_ (fun b78 y79 h80 h81=>?_)
 ·refine .cq ?_ ?_
  ·exact .ret rfl rfl
  ·exact .ret rfl rfl
 subst h81
 refine .ch (P:=fun r y=>r=y) ?_ (fun b82 y83 h84 h85=>?_)
 ·refine .cq ?_ ?_
  ·exact .ret rfl rfl
  ·exact .ret rfl rfl
 subst h85
 refine .ch (P:=fun r y=>r=y) ?_ (fun b86 y87 h88 h89=>?_)
 ·refine .cq ?_ ?_
  ·exact .ret rfl rfl
  ·exact .ret rfl rfl
 subst h89
 refine .ch (P:=fun r y=>(.p (.bool r),(ptC (ptC (ptC (ptC H11 ⟨h.length,8,0,s6,[]⟩ 0 ([.v (.p (.int .i64 r20.cap)),.v (.p (.int .u64 r20.remb)),.v (.p (.bool r20.told)),c25,.own s27 ([c27_0])])) ⟨h.length,8,0,s6,[]⟩ 0 ([.v (.p (.int .i64 r35.2.cap)),.v (.p (.int .u64 r35.2.remb)),.v (.p (.bool r35.2.told)),c40,.own s42 ([c42_0])])) ⟨h.length,8,0,s6,[]⟩ 0 ([.v (.p (.int .i64 r50.2.cap)),.v (.p (.int .u64 r50.2.remb)),.v (.p (.bool r50.2.told)),c55,.own s57 ([c57_0])])) ⟨h.length,8,0,s6,[]⟩ 0 ([.v (.p (.int .i64 r60.2.cap)),.v (.p (.int .u64 r60.2.remb)),.v (.p (.bool r60.2.told)),c65,.own s67 ([c67_0])])))=y) ?_ (fun b95 y96 h97 h98=>?_)
 ·refine .cq ?_ ?_
  ·refine .call (z2s k r60.2 h66 h67 hc67_0 hn67_0 (S69.atG (i:=0) rfl)) fun r90 cs91 H92 h93 q94=>?_
   cases q94
   refine .ci ?_
   exact .ret rfl rfl
  ·exact .ret rfl rfl
 subst h98
 refine .ab ?_
 refine .ch (P:=fun r y=>(.p (.bool r),(ptC (ptC (ptC (ptC H11 ⟨h.length,8,0,s6,[]⟩ 0 ([.v (.p (.int .i64 r20.cap)),.v (.p (.int .u64 r20.remb)),.v (.p (.bool r20.told)),c25,.own s27 ([c27_0])])) ⟨h.length,8,0,s6,[]⟩ 0 ([.v (.p (.int .i64 r35.2.cap)),.v (.p (.int .u64 r35.2.remb)),.v (.p (.bool r35.2.told)),c40,.own s42 ([c42_0])])) ⟨h.length,8,0,s6,[]⟩ 0 ([.v (.p (.int .i64 r50.2.cap)),.v (.p (.int .u64 r50.2.remb)),.v (.p (.bool r50.2.told)),c55,.own s57 ([c57_0])])) ⟨h.length,8,0,s6,[]⟩ 0 ([.v (.p (.int .i64 r60.2.cap)),.v (.p (.int .u64 r60.2.remb)),.v (.p (.bool r60.2.told)),c65,.own s67 ([c67_0])])))=y) ?_ (fun b106 y107 h108 h109=>?_)
 ·refine .cq ?_ ?_
  ·refine .call (z4s r60.2 h66 h67 hc67_0 hn67_0 (S69.atG (i:=0) rfl)) fun r99 cs100 H101 h102 q103=>?_
   obtain ⟨v104,h105,q103⟩:=q103
   cases q103
   refine .op ((h105.h (ptC (ptC (ptC (ptC H11 ⟨h.length,8,0,s6,[]⟩ 0 ([.v (.p (.int .i64 r20.cap)),.v (.p (.int .u64 r20.remb)),.v (.p (.bool r20.told)),c25,.own s27 ([c27_0])])) ⟨h.length,8,0,s6,[]⟩ 0 ([.v (.p (.int .i64 r35.2.cap)),.v (.p (.int .u64 r35.2.remb)),.v (.p (.bool r35.2.told)),c40,.own s42 ([c42_0])])) ⟨h.length,8,0,s6,[]⟩ 0 ([.v (.p (.int .i64 r50.2.cap)),.v (.p (.int .u64 r50.2.remb)),.v (.p (.bool r50.2.told)),c55,.own s57 ([c57_0])])) ⟨h.length,8,0,s6,[]⟩ 0 ([.v (.p (.int .i64 r60.2.cap)),.v (.p (.int .u64 r60.2.remb)),.v (.p (.bool r60.2.told)),c65,.own s67 ([c67_0])]))).len) ?_
   refine .ci ?_
   exact .ret rfl rfl
  ·exact .ret rfl rfl
 subst h109
 refine .ab ?_
 refine .ch (P:=fun r y=>(.p (.bool r),(ptC (ptC (ptC (ptC H11 ⟨h.length,8,0,s6,[]⟩ 0 ([.v (.p (.int .i64 r20.cap)),.v (.p (.int .u64 r20.remb)),.v (.p (.bool r20.told)),c25,.own s27 ([c27_0])])) ⟨h.length,8,0,s6,[]⟩ 0 ([.v (.p (.int .i64 r35.2.cap)),.v (.p (.int .u64 r35.2.remb)),.v (.p (.bool r35.2.told)),c40,.own s42 ([c42_0])])) ⟨h.length,8,0,s6,[]⟩ 0 ([.v (.p (.int .i64 r50.2.cap)),.v (.p (.int .u64 r50.2.remb)),.v (.p (.bool r50.2.told)),c55,.own s57 ([c57_0])])) ⟨h.length,8,0,s6,[]⟩ 0 ([.v (.p (.int .i64 r60.2.cap)),.v (.p (.int .u64 r60.2.remb)),.v (.p (.bool r60.2.told)),c65,.own s67 ([c67_0])])))=y) ?_ (fun b117 y118 h119 h120=>?_)
 ·refine .cq ?_ ?_
  ·refine .call (z5l k r60.2 h66 h67 hc67_0 hn67_0 (S69.atG (i:=0) rfl)) fun r110 cs111 H112 h113 q114=>?_
   obtain ⟨v115,h116,q114⟩:=q114
   cases q114
   refine .op ((h116.h (ptC (ptC (ptC (ptC H11 ⟨h.length,8,0,s6,[]⟩ 0 ([.v (.p (.int .i64 r20.cap)),.v (.p (.int .u64 r20.remb)),.v (.p (.bool r20.told)),c25,.own s27 ([c27_0])])) ⟨h.length,8,0,s6,[]⟩ 0 ([.v (.p (.int .i64 r35.2.cap)),.v (.p (.int .u64 r35.2.remb)),.v (.p (.bool r35.2.told)),c40,.own s42 ([c42_0])])) ⟨h.length,8,0,s6,[]⟩ 0 ([.v (.p (.int .i64 r50.2.cap)),.v (.p (.int .u64 r50.2.remb)),.v (.p (.bool r50.2.told)),c55,.own s57 ([c57_0])])) ⟨h.length,8,0,s6,[]⟩ 0 ([.v (.p (.int .i64 r60.2.cap)),.v (.p (.int .u64 r60.2.remb)),.v (.p (.bool r60.2.told)),c65,.own s67 ([c67_0])]))).len) ?_
   refine .ci ?_
   exact .ret rfl rfl
  ·exact .ret rfl rfl
 subst h120
 refine .ab ?_
 exact .fin (S69.finN (lC (sB _).lv lN)) rfl
end
end Go.Ev
namespace Go.Ev
open Go.Proofs
set_option linter.unusedVariables false
set_option linter.unusedSimpArgs false
set_option maxRecDepth 100000
noncomputable section
abbrev KT32:=Exit→Env→H→Option (List C × H)
variable (rec : CallF) (loop : LoopV) (σ : Stamp)
def z6v:Code:=(codeAt (bodyOf Try.f33) [1,1,0,1,0,0])
def z77:Lv:=⟨96,16,[(0,96)]⟩
def zej:KT32:=(kBlock 0 (kSeq G rec loop (codeAt (bodyOf Try.f33) [1,1,1]) ⟨16,16,[]⟩ (1::1::0::σ) (finC G false Try.f33 (1::σ))))
theorem zma (x0:Int) (x1:V) (h:H):cvBody G rec loop 33 σ [(.p (.int .i64 x0)),x1] h =
(callO rec 35 (1::0::1::0::σ) [(.p (.int .i64 x0))] (List.replicate 107 []::h) (some 10)).bind fun q1 =>
(callO rec 63 (3::0::1::0::σ) [(.p (.int .i64 x0))] q1.2 (some 12)).bind fun q2 =>
(loop z6v z77 (1::0::1::1::0::σ) (envL [(1,x1),(5,q1.1),(6,q2.1),(7,(.p (.int .i64 0)))]) q2.2).bind fun r3=>zej rec loop σ r3.1 r3.2.1 r3.2.2:=by kernel_rfl
theorem zou (x1:V) (x5:V) (x6:V) (x7:Int) (h:H):z1n G rec loop z6v z77 σ (envL [(1,x1),(5,x5),(6,x6),(7,(.p (.int .i64 x7)))]) h =
(lenO x1).bind fun t4 =>
(castI .i64 t4).bind fun n5 =>
(bif decide (x7<n5) then (some (decide (x7<100))) else (some false)).bind fun b6 =>
bif b6 then (
(iS 5 x1 x7).bind fun t7 =>
(ldO true 5 h t7).bind fun t8 =>
(some (alO [.p (.int .i64 0),.p (.int .u32 0),.p (.int .u64 0),.p (.int .i64 0),.p (.int .i64 0)] (4::0::0::1::0::σ) 8 h)).bind fun q9 =>
((stO false 5 (5::0::0::1::0::σ) q9.2 q9.1 t8).map fun h=>(udf,h)).bind fun q10 =>
(binV Try.prog q10.2 .eql 66 x5 (.p (.pointer .none))).bind fun t11 =>
(asB t11).bind fun b12 =>
bif b12 then (
some (.ret,(envL [(4,(.p (.bool false)))]),q10.2))
else (
(fA q9.1 0).bind fun t13 =>
(ldO false 1 q10.2 t13).bind fun t14 =>
(castI .i64 t14).bind fun n15 =>
bif n15==3 then (
(fA q9.1 1).bind fun t16 =>
(fA t16 1).bind fun t17 =>
(ldO false 1 q10.2 t17).bind fun t18 =>
(castI .u64 t18).bind fun n19 =>
(callO rec 38 (4::0::1::1::0::1::1::0::1::0::σ) [x5,(.p (.int .u64 n19))] q10.2 (some 50)).bind fun q20 =>
(fA q9.1 1).bind fun t21 =>
(fA t21 1).bind fun t22 =>
(ldO false 1 q20.2 t22).bind fun t23 =>
(castI .u64 t23).bind fun n24 =>
(nilChk x6).bind fun t25 =>
(fA t25 1).bind fun t26 =>
((stO true 1 (9::1::1::1::0::1::1::0::1::0::σ) q20.2 t26 (.p (.int .i64 (IntKind.wrap .i64 ((if 1099511627776<(IntKind.wrap .u64 (Int.tdiv n24 8)) then 1099511627776 else (IntKind.wrap .u64 (Int.tdiv n24 8)))))))).map fun h=>(udf,h)).bind fun q27 =>
(callO rec 37 (1::0::1::1::1::0::1::0::σ) [x5] q27.2 (some 73)).bind fun q28 =>
(castI .i64 q28.1).bind fun n29 =>
(callO rec 66 (3::0::1::1::1::0::1::0::σ) [x6] q28.2 (some 75)).bind fun q30 =>
(castI .i64 q30.1).bind fun n31 =>
(bif n29 != n31 then (some ((.p (.bool true)),q30.2)) else ((nilChk x6).bind fun t32 =>
(fA t32 2).bind fun t33 =>
(ldO false 1 q30.2 t33).bind fun t34 =>
(callO rec 40 (7::0::1::1::1::0::1::0::σ) [x5] q30.2 (some 79)).bind fun q35 =>
need (ldO false 1 q35.2 t33=some t34) (
(callO rec 67 (12::0::1::1::1::0::1::0::σ) [q35.1,t34] q35.2 (some 84)).bind fun q36 =>
(asB q36.1).bind fun b37 =>
some ((.p (.bool (!b37))),q36.2)))).bind fun q38 =>
(asB q38.1).bind fun b39 =>
(bif b39 then (some ((.p (.bool true)),q38.2)) else ((nilChk x6).bind fun t40 =>
(fA t40 2).bind fun t41 =>
(ldO false 1 q38.2 t41).bind fun t42 =>
(callO rec 41 (17::0::1::1::1::0::1::0::σ) [x5] q38.2 (some 89)).bind fun q43 =>
need (ldO false 1 q43.2 t41=some t42) (
(callO rec 68 (22::0::1::1::1::0::1::0::σ) [t42] q43.2 (some 94)).bind fun q44 =>
(callO rec 67 (23::0::1::1::1::0::1::0::σ) [q43.1,q44.1] q44.2 (some 95)).bind fun q45 =>
(asB q45.1).bind fun b46 =>
some ((.p (.bool (!b46))),q45.2)))).bind fun q47 =>
(asB q47.1).bind fun b48 =>
bif b48 then (
some (.ret,(envL [(4,(.p (.bool false)))]),q47.2))
else (
loop z6v z77 (1::σ) (envL [(1,x1),(5,x5),(6,x6),(7,(.p (.int .i64 (IntKind.wrap .i64 (x7+1)))))]) q47.2))
else (
bif n15==4 then (
bif n15==4 then (
(fA q9.1 4).bind fun t49 =>
(ldO false 1 q10.2 t49).bind fun t50 =>
(castI .i64 t50).bind fun n51 =>
(fA q9.1 4).bind fun t52 =>
(ldO false 1 q10.2 t52).bind fun t53 =>
(castI .i64 t53).bind fun n54 =>
(callO rec 39 (3::0::1::1::1::0::1::1::0::1::0::σ) [x5,(.p (.int .i64 n51))] q10.2 (some 66)).bind fun q55 =>
(castI .i64 q55.1).bind fun n56 =>
need (ldO false 1 q55.2 t52=some (.p (.int .i64 n54))) (
(callO rec 64 (7::0::1::1::1::0::1::1::0::1::0::σ) [x6,(.p (.int .i64 n54))] q55.2 (some 70)).bind fun q57 =>
(castI .i64 q57.1).bind fun n58 =>
bif n56 != n58 then (
some (.ret,(envL [(4,(.p (.bool false)))]),q57.2))
else (
(callO rec 37 (1::0::1::1::1::0::1::0::σ) [x5] q57.2 (some 73)).bind fun q59 =>
(castI .i64 q59.1).bind fun n60 =>
(callO rec 66 (3::0::1::1::1::0::1::0::σ) [x6] q59.2 (some 75)).bind fun q61 =>
(castI .i64 q61.1).bind fun n62 =>
(bif n60 != n62 then (some ((.p (.bool true)),q61.2)) else ((nilChk x6).bind fun t63 =>
(fA t63 2).bind fun t64 =>
(ldO false 1 q61.2 t64).bind fun t65 =>
(callO rec 40 (7::0::1::1::1::0::1::0::σ) [x5] q61.2 (some 79)).bind fun q66 =>
need (ldO false 1 q66.2 t64=some t65) (
(callO rec 67 (12::0::1::1::1::0::1::0::σ) [q66.1,t65] q66.2 (some 84)).bind fun q67 =>
(asB q67.1).bind fun b68 =>
some ((.p (.bool (!b68))),q67.2)))).bind fun q69 =>
(asB q69.1).bind fun b70 =>
(bif b70 then (some ((.p (.bool true)),q69.2)) else ((nilChk x6).bind fun t71 =>
(fA t71 2).bind fun t72 =>
(ldO false 1 q69.2 t72).bind fun t73 =>
(callO rec 41 (17::0::1::1::1::0::1::0::σ) [x5] q69.2 (some 89)).bind fun q74 =>
need (ldO false 1 q74.2 t72=some t73) (
(callO rec 68 (22::0::1::1::1::0::1::0::σ) [t73] q74.2 (some 94)).bind fun q75 =>
(callO rec 67 (23::0::1::1::1::0::1::0::σ) [q74.1,q75.1] q75.2 (some 95)).bind fun q76 =>
(asB q76.1).bind fun b77 =>
some ((.p (.bool (!b77))),q76.2)))).bind fun q78 =>
(asB q78.1).bind fun b79 =>
bif b79 then (
some (.ret,(envL [(4,(.p (.bool false)))]),q78.2))
else (
loop z6v z77 (1::σ) (envL [(1,x1),(5,x5),(6,x6),(7,(.p (.int .i64 (IntKind.wrap .i64 (x7+1)))))]) q78.2))))
else (
(fA q9.1 1).bind fun t80 =>
(ldO true 3 q10.2 t80).bind fun t81 =>
(fA q9.1 4).bind fun t82 =>
(ldO false 1 q10.2 t82).bind fun t83 =>
(castI .i64 t83).bind fun n84 =>
(fA q9.1 1).bind fun t85 =>
(ldO true 3 q10.2 t85).bind fun t86 =>
(fA q9.1 4).bind fun t87 =>
(ldO false 1 q10.2 t87).bind fun t88 =>
(castI .i64 t88).bind fun n89 =>
(callO rec 36 (5::0::1::1::1::0::1::1::0::1::0::σ) [x5,t81,(.p (.int .i64 n84))] q10.2 (some 36)).bind fun q90 =>
(asB q90.1).bind fun b91 =>
need (ldO false 1 q90.2 t87=some (.p (.int .i64 n89))) (
need (ldO true 3 q90.2 t85=some t86) (
(callO rec 65 (11::0::1::1::1::0::1::1::0::1::0::σ) [x6,t86,(.p (.int .i64 n89))] q90.2 (some 42)).bind fun q92 =>
(asB q92.1).bind fun b93 =>
bif !(b91==b93) then (
some (.ret,(envL [(4,(.p (.bool false)))]),q92.2))
else (
(callO rec 37 (1::0::1::1::1::0::1::0::σ) [x5] q92.2 (some 73)).bind fun q94 =>
(castI .i64 q94.1).bind fun n95 =>
(callO rec 66 (3::0::1::1::1::0::1::0::σ) [x6] q94.2 (some 75)).bind fun q96 =>
(castI .i64 q96.1).bind fun n97 =>
(bif n95 != n97 then (some ((.p (.bool true)),q96.2)) else ((nilChk x6).bind fun t98 =>
(fA t98 2).bind fun t99 =>
(ldO false 1 q96.2 t99).bind fun t100 =>
(callO rec 40 (7::0::1::1::1::0::1::0::σ) [x5] q96.2 (some 79)).bind fun q101 =>
need (ldO false 1 q101.2 t99=some t100) (
(callO rec 67 (12::0::1::1::1::0::1::0::σ) [q101.1,t100] q101.2 (some 84)).bind fun q102 =>
(asB q102.1).bind fun b103 =>
some ((.p (.bool (!b103))),q102.2)))).bind fun q104 =>
(asB q104.1).bind fun b105 =>
(bif b105 then (some ((.p (.bool true)),q104.2)) else ((nilChk x6).bind fun t106 =>
(fA t106 2).bind fun t107 =>
(ldO false 1 q104.2 t107).bind fun t108 =>
(callO rec 41 (17::0::1::1::1::0::1::0::σ) [x5] q104.2 (some 89)).bind fun q109 =>
need (ldO false 1 q109.2 t107=some t108) (
(callO rec 68 (22::0::1::1::1::0::1::0::σ) [t108] q109.2 (some 94)).bind fun q110 =>
(callO rec 67 (23::0::1::1::1::0::1::0::σ) [q109.1,q110.1] q110.2 (some 95)).bind fun q111 =>
(asB q111.1).bind fun b112 =>
some ((.p (.bool (!b112))),q111.2)))).bind fun q113 =>
(asB q113.1).bind fun b114 =>
bif b114 then (
some (.ret,(envL [(4,(.p (.bool false)))]),q113.2))
else (
loop z6v z77 (1::σ) (envL [(1,x1),(5,x5),(6,x6),(7,(.p (.int .i64 (IntKind.wrap .i64 (x7+1)))))]) q113.2))))))
else (
bif n15==5 then (
(fA q9.1 4).bind fun t115 =>
(ldO false 1 q10.2 t115).bind fun t116 =>
(castI .i64 t116).bind fun n117 =>
(fA q9.1 4).bind fun t118 =>
(ldO false 1 q10.2 t118).bind fun t119 =>
(castI .i64 t119).bind fun n120 =>
(callO rec 39 (3::0::1::1::1::0::1::1::0::1::0::σ) [x5,(.p (.int .i64 n117))] q10.2 (some 66)).bind fun q121 =>
(castI .i64 q121.1).bind fun n122 =>
need (ldO false 1 q121.2 t118=some (.p (.int .i64 n120))) (
(callO rec 64 (7::0::1::1::1::0::1::1::0::1::0::σ) [x6,(.p (.int .i64 n120))] q121.2 (some 70)).bind fun q123 =>
(castI .i64 q123.1).bind fun n124 =>
bif n122 != n124 then (
some (.ret,(envL [(4,(.p (.bool false)))]),q123.2))
else (
(callO rec 37 (1::0::1::1::1::0::1::0::σ) [x5] q123.2 (some 73)).bind fun q125 =>
(castI .i64 q125.1).bind fun n126 =>
(callO rec 66 (3::0::1::1::1::0::1::0::σ) [x6] q125.2 (some 75)).bind fun q127 =>
(castI .i64 q127.1).bind fun n128 =>
(bif n126 != n128 then (some ((.p (.bool true)),q127.2)) else ((nilChk x6).bind fun t129 =>
(fA t129 2).bind fun t130 =>
(ldO false 1 q127.2 t130).bind fun t131 =>
(callO rec 40 (7::0::1::1::1::0::1::0::σ) [x5] q127.2 (some 79)).bind fun q132 =>
need (ldO false 1 q132.2 t130=some t131) (
(callO rec 67 (12::0::1::1::1::0::1::0::σ) [q132.1,t131] q132.2 (some 84)).bind fun q133 =>
(asB q133.1).bind fun b134 =>
some ((.p (.bool (!b134))),q133.2)))).bind fun q135 =>
(asB q135.1).bind fun b136 =>
(bif b136 then (some ((.p (.bool true)),q135.2)) else ((nilChk x6).bind fun t137 =>
(fA t137 2).bind fun t138 =>
(ldO false 1 q135.2 t138).bind fun t139 =>
(callO rec 41 (17::0::1::1::1::0::1::0::σ) [x5] q135.2 (some 89)).bind fun q140 =>
need (ldO false 1 q140.2 t138=some t139) (
(callO rec 68 (22::0::1::1::1::0::1::0::σ) [t139] q140.2 (some 94)).bind fun q141 =>
(callO rec 67 (23::0::1::1::1::0::1::0::σ) [q140.1,q141.1] q141.2 (some 95)).bind fun q142 =>
(asB q142.1).bind fun b143 =>
some ((.p (.bool (!b143))),q142.2)))).bind fun q144 =>
(asB q144.1).bind fun b145 =>
bif b145 then (
some (.ret,(envL [(4,(.p (.bool false)))]),q144.2))
else (
loop z6v z77 (1::σ) (envL [(1,x1),(5,x5),(6,x6),(7,(.p (.int .i64 (IntKind.wrap .i64 (x7+1)))))]) q144.2))))
else (
(fA q9.1 1).bind fun t146 =>
(ldO true 3 q10.2 t146).bind fun t147 =>
(fA q9.1 4).bind fun t148 =>
(ldO false 1 q10.2 t148).bind fun t149 =>
(castI .i64 t149).bind fun n150 =>
(fA q9.1 1).bind fun t151 =>
(ldO true 3 q10.2 t151).bind fun t152 =>
(fA q9.1 4).bind fun t153 =>
(ldO false 1 q10.2 t153).bind fun t154 =>
(castI .i64 t154).bind fun n155 =>
(callO rec 36 (5::0::1::1::1::0::1::1::0::1::0::σ) [x5,t147,(.p (.int .i64 n150))] q10.2 (some 36)).bind fun q156 =>
(asB q156.1).bind fun b157 =>
need (ldO false 1 q156.2 t153=some (.p (.int .i64 n155))) (
need (ldO true 3 q156.2 t151=some t152) (
(callO rec 65 (11::0::1::1::1::0::1::1::0::1::0::σ) [x6,t152,(.p (.int .i64 n155))] q156.2 (some 42)).bind fun q158 =>
(asB q158.1).bind fun b159 =>
bif !(b157==b159) then (
some (.ret,(envL [(4,(.p (.bool false)))]),q158.2))
else (
(callO rec 37 (1::0::1::1::1::0::1::0::σ) [x5] q158.2 (some 73)).bind fun q160 =>
(castI .i64 q160.1).bind fun n161 =>
(callO rec 66 (3::0::1::1::1::0::1::0::σ) [x6] q160.2 (some 75)).bind fun q162 =>
(castI .i64 q162.1).bind fun n163 =>
(bif n161 != n163 then (some ((.p (.bool true)),q162.2)) else ((nilChk x6).bind fun t164 =>
(fA t164 2).bind fun t165 =>
(ldO false 1 q162.2 t165).bind fun t166 =>
(callO rec 40 (7::0::1::1::1::0::1::0::σ) [x5] q162.2 (some 79)).bind fun q167 =>
need (ldO false 1 q167.2 t165=some t166) (
(callO rec 67 (12::0::1::1::1::0::1::0::σ) [q167.1,t166] q167.2 (some 84)).bind fun q168 =>
(asB q168.1).bind fun b169 =>
some ((.p (.bool (!b169))),q168.2)))).bind fun q170 =>
(asB q170.1).bind fun b171 =>
(bif b171 then (some ((.p (.bool true)),q170.2)) else ((nilChk x6).bind fun t172 =>
(fA t172 2).bind fun t173 =>
(ldO false 1 q170.2 t173).bind fun t174 =>
(callO rec 41 (17::0::1::1::1::0::1::0::σ) [x5] q170.2 (some 89)).bind fun q175 =>
need (ldO false 1 q175.2 t173=some t174) (
(callO rec 68 (22::0::1::1::1::0::1::0::σ) [t174] q175.2 (some 94)).bind fun q176 =>
(callO rec 67 (23::0::1::1::1::0::1::0::σ) [q175.1,q176.1] q176.2 (some 95)).bind fun q177 =>
(asB q177.1).bind fun b178 =>
some ((.p (.bool (!b178))),q177.2)))).bind fun q179 =>
(asB q179.1).bind fun b180 =>
bif b180 then (
some (.ret,(envL [(4,(.p (.bool false)))]),q179.2))
else (
loop z6v z77 (1::σ) (envL [(1,x1),(5,x5),(6,x6),(7,(.p (.int .i64 (IntKind.wrap .i64 (x7+1)))))]) q179.2)))))))))
else (
some ((.exit 0),(envL [(5,x5),(6,x6)]),h)):=by kernel_rfl
theorem zn8 (x5:V) (x6:V) (h:H):zej rec loop σ (.exit 0) (envL [(5,x5),(6,x6)]) h =
(binV Try.prog h .neq 66 x5 (.p (.pointer .none))).bind fun t181 =>
(asB t181).bind fun b182 =>
(bif b182 then ((callO rec 37 (4::0::1::1::1::0::σ) [x5] h (some 102)).bind fun q183 =>
(castI .i64 q183.1).bind fun n184 =>
(callO rec 66 (6::0::1::1::1::0::σ) [x6] q183.2 (some 104)).bind fun q185 =>
(castI .i64 q185.1).bind fun n186 =>
some ((.p (.bool (n184==n186))),q185.2)) else (some ((.p (.bool false)),h))).bind fun q187 =>
(asB q187.1).bind fun b188 =>
fin false σ q187.2 [(.p (.bool b188))]:=by kernel_rfl
theorem zki (x4:Bool) (h:H):zej rec loop σ .ret (envL [(4,(.p (.bool x4)))]) h =
fin false σ h [(.p (.bool x4))]:=by kernel_rfl
def zbg:Code:=(codeAt (bodyOf Try.f67) [1,1,0,1,0,0])
def zb9:Lv:=⟨0,16,[(0,0)]⟩
def zd8:KT32:=(kBlock 0 (kSeq G rec loop (codeAt (bodyOf Try.f67) [1,1,1]) ⟨16,16,[]⟩ (1::1::0::σ) (finC G false Try.f67 (1::σ))))
theorem zjn (x0:V) (x1:V) (h:H):cvBody G rec loop 67 σ [x0,x1] h =
(lenO x0).bind fun t1 =>
(castI .i64 t1).bind fun n2 =>
(lenO x1).bind fun t3 =>
(castI .i64 t3).bind fun n4 =>
bif n2 != n4 then (
fin false σ (List.replicate 26 []::h) [(.p (.bool false))])
else (
(lenO x0).bind fun t5 =>
(castI .i64 t5).bind fun n6 =>
(loop zbg zb9 (1::0::1::1::0::σ) (envL [(0,x0),(1,x1),(12,(.p (.int .i64 n6))),(13,(.p (.int .i64 0)))]) (List.replicate 26 []::h)).bind fun r7=>zd8 rec loop σ r7.1 r7.2.1 r7.2.2):=by kernel_rfl
theorem zn5 (x0:V) (x1:V) (x12:Int) (x13:Int) (h:H):z1n G rec loop zbg zb9 σ (envL [(0,x0),(1,x1),(12,(.p (.int .i64 x12))),(13,(.p (.int .i64 x13)))]) h =
bif decide (x13<x12) then (
(iS 3 x0 x13).bind fun t8 =>
(ldO true 3 h t8).bind fun t9 =>
(iS 3 x1 x13).bind fun t10 =>
(ldO true 3 h t10).bind fun t11 =>
(binV Try.prog h .neq 57 t9 t11).bind fun t12 =>
(asB t12).bind fun b13 =>
bif b13 then (
some (.ret,(envL [(4,(.p (.bool false)))]),h))
else (
loop zbg zb9 (1::σ) (envL [(0,x0),(1,x1),(12,(.p (.int .i64 x12))),(13,(.p (.int .i64 (IntKind.wrap .i64 (x13+1)))))]) h))
else (
some ((.exit 0),(envL []),h)):=by kernel_rfl
theorem zkd  (h:H):zd8 rec loop σ (.exit 0) (envL []) h =
fin false σ h [(.p (.bool true))]:=by kernel_rfl
theorem zih (x4:Bool) (h:H):zd8 rec loop σ .ret (envL [(4,(.p (.bool x4)))]) h =
fin false σ h [(.p (.bool x4))]:=by kernel_rfl
end
end Go.Ev
namespace Go.Ev
open Go.Proofs
set_option linter.unusedVariables false
set_option linter.unusedSimpArgs false
set_option maxRecDepth 100000
section
variable {β α : Type} {Q : β→α→Prop} {K : Exit × Env × H→Option α}
def z53 {β:Type} (k:Nat) (kE0:Unit→Option β) (kE1:Bool→Option β) (x0:(List z7)) (x1:(List z7)) (x12:Int) (x13:Int):Option β:=match k with
| 0=>none
| k+1 =>
bif decide (x13<x12) then (
(ix x0 x13).bind fun a9 =>
(ix x1 x13).bind fun a14 =>
bif !(andB [a9.Owner==a14.Owner,a9.Rate==a14.Rate,a9.Over==a14.Over]) then (
kE1 false)
else (
z53 k kE0 kE1 x0 x1 x12 (IntKind.wrap .i64 (x13+1))))
else (
kE0 ())
def z3e (k:Nat) (x0:(List z7)) (x1:(List z7)):Option (Bool) :=
bif ((x0.length:Int)) != ((x1.length:Int)) then (
some (false))
else (
z53 k (fun (_:Unit) =>
some (true)) (fun r27_4 =>
some (r27_4)) x0 x1 ((x0.length:Int)) 0)
theorem zjk {h:H}  {kE0:Unit→Option β} {kE1:Bool→Option β} (hE0:∀ (_u:Unit) (H20:Go.Ev.H) (_:Fm 26 h [] [] [] H20),Sim (kE0 ()) (K ((.exit 0),(envL []),H20)) Q) (hE1:∀ (q4:Bool) (H22:Go.Ev.H) (_:Fm 26 h [] [] [] H22),Sim (kE1 q4) (K (.ret,(envL [(4,(.p (.bool q4)))]),H22)) Q) (k:Nat):∀ (x0:(List z7)) (x1:(List z7)) (x12:Int) (x13:Int) (v4:V) (h5:SlH h z6 x0 v4) (v6:V) (h7:SlH h z6 x1 v6) (H2:Go.Ev.H) (_:Fm 26 h [] [] [] H2) {σ:Stamp},Sim (z53 k kE0 kE1 x0 x1 x12 x13) ((cvL G X0 zbg zb9 σ (envL [(0,v4),(1,v6),(12,(.p (.int .i64 x12))),(13,(.p (.int .i64 x13)))]) H2).bind K) Q:=by
 induction k with
 | zero=>intros;exact .no
 | succ k ih =>
  intro x0 x1 x12 x13 v4 h5 v6 h7 H2 S3 σ
  rw [z53]
  refine .round (Sim.ext (zn5 _ _ _ _ _ _ _ _) ?_)
  refine .cq ?_ ?_
  ·refine .bd fun a9 h10=>?_
   refine .op ((S3.low h5).iS h10 rfl) ?_
   obtain ⟨w12,h13,hE11⟩:=(S3.low h5).el h10 rfl
   obtain rfl:=z6.inv h13
   refine .op (hE11.all (by simp)) ?_
   refine .bd fun a14 h15=>?_
   refine .op ((S3.low h7).iS h15 rfl) ?_
   obtain ⟨w17,h18,hE16⟩:=(S3.low h7).el h15 rfl
   obtain rfl:=z6.inv h18
   refine .op (hE16.all (by simp)) ?_
   refine .op (nqS_ok (by kernel_rfl:_=andL [a9.Owner==a14.Owner,a9.Rate==a14.Rate,a9.Over==a14.Over])) ?_
   refine .ab ?_
   refine .cq ?_ ?_
   ·exact hE1 false H2 (S3.wk2 aN aN)
   exact ih x0 x1 x12 (IntKind.wrap .i64 (x13+1)) v4 h5 v6 h7 H2 (S3.wk2 aN aN)
  exact hE0 () H2 (S3.wk2 aN aN)
theorem z54 (k:Nat) {h:H} {σ:Stamp} (x0:List z7) {u0:V} (hu0:SlH h z6 x0 u0) (x1:List z7) {u1:V} (hu1:SlH h z6 x1 u1):Sim (z3e k x0 x1) (ev G X0 67 σ [u0,u1] h) (fun r s=>s=([.v (.p (.bool r))],h)):=by
 refine .ev rfl (Sim.ext (zjn _ _ _ _ _ _) ?_)
 rw [z3e]
 have S0:Fm 26 h [] [] [] (List.replicate 26 []::h):=Fm.start0
 refine .op ((S0.low hu0).len) ?_
 refine .ci ?_
 refine .op ((S0.low hu1).len) ?_
 refine .ci ?_
 refine .cq ?_ ?_
 ·exact .fin (S0.finN (lC (sB _).lv lN)) rfl
 refine .op ((S0.low hu0).len) ?_
 refine .ci ?_
 refine .as (zjk ?_ ?_ k x0 x1 ((x0.length:Int)) 0 u0 hu0 u1 hu1 (List.replicate 26 []::h) (S0.wk2 aN aN))
 ·intro _u H25 S26
  refine .ext (zkd _ _ _ _) ?_
  exact .fin (S26.finN (lC (sB _).lv lN)) rfl
 ·intro r27_4 H28 S29
  refine .ext (zih _ _ _ _ _) ?_
  exact .fin (S29.finN (lC (sB _).lv lN)) rfl
end
end Go.Ev
namespace Go.Ev
open Go.Proofs
set_option linter.unusedVariables false
set_option linter.unusedSimpArgs false
set_option maxRecDepth 100000
noncomputable section
abbrev KT33:=Exit→Env→H→Option (List C × H)
variable (rec : CallF) (loop : LoopV) (σ : Stamp)
theorem zgi (x0:V) (h:H):cvBody G rec loop 66 σ [x0] h =
(nilChk x0).bind fun t1 =>
(fA t1 0).bind fun t2 =>
(ldO false 1 (List.replicate 35 []::h) t2).bind fun t3 =>
(castI .i64 t3).bind fun n4 =>
(nilChk x0).bind fun t5 =>
(fA t5 1).bind fun t6 =>
(ldO false 1 (List.replicate 35 []::h) t6).bind fun t7 =>
(castI .i64 t7).bind fun n8 =>
bif decide (n8≥0) then (
(nilChk x0).bind fun t9 =>
(fA t9 1).bind fun t10 =>
(ldO false 1 (List.replicate 35 []::h) t10).bind fun t11 =>
(castI .i64 t11).bind fun n12 =>
(nilChk x0).bind fun t13 =>
(fA t13 2).bind fun t14 =>
(ldO false 1 (List.replicate 35 []::h) t14).bind fun t15 =>
(callO rec 105 (4::0::0::1::1::1::0::σ) [t15] (List.replicate 35 []::h) (some 26)).bind fun q16 =>
(extV q16.1 0).bind fun t17 =>
(castI .u64 t17).bind fun n18 =>
(extV q16.1 1).bind fun t19 =>
(asB t19).bind fun b20 =>
bif b20 then (
(callO rec 106 (2::1::1::0::1::1::1::0::σ) [(.p (.int .u64 n18))] q16.2 (some 32)).bind fun q21 =>
(castI .i64 q21.1).bind fun n22 =>
fin false σ q21.2 [(.p (.int .i64 ((if n22<((if n12<n4 then n12 else n4)) then n22 else ((if n12<n4 then n12 else n4))))))])
else (
fin false σ q16.2 [(.p (.int .i64 ((if n12<n4 then n12 else n4))))]))
else (
(nilChk x0).bind fun t23 =>
(fA t23 2).bind fun t24 =>
(ldO false 1 (List.replicate 35 []::h) t24).bind fun t25 =>
(callO rec 105 (4::0::0::1::1::1::0::σ) [t25] (List.replicate 35 []::h) (some 26)).bind fun q26 =>
(extV q26.1 0).bind fun t27 =>
(castI .u64 t27).bind fun n28 =>
(extV q26.1 1).bind fun t29 =>
(asB t29).bind fun b30 =>
bif b30 then (
(callO rec 106 (2::1::1::0::1::1::1::0::σ) [(.p (.int .u64 n28))] q26.2 (some 32)).bind fun q31 =>
(castI .i64 q31.1).bind fun n32 =>
fin false σ q31.2 [(.p (.int .i64 ((if n32<n4 then n32 else n4))))])
else (
fin false σ q26.2 [(.p (.int .i64 n4))])):=by kernel_rfl
def zcn:Code:=(codeAt (bodyOf Try.f105) [1,1,0,1,0,0])
def zcl:Lv:=⟨17,12,[(0,17)]⟩
def zib:KT33:=(kBlock 0 (kSeq G rec loop (codeAt (bodyOf Try.f105) [1,1,1]) ⟨12,12,[]⟩ (1::1::0::σ) (finC G false Try.f105 (1::σ))))
theorem zlb (x0:V) (h:H):cvBody G rec loop 105 σ [x0] h =
(callO rec 107 (1::0::0::1::1::0::σ) [x0] (List.replicate 23 []::h) (some 8)).bind fun q1 =>
(lenO q1.1).bind fun t2 =>
(castI .i64 t2).bind fun n3 =>
(loop zcn zcl (1::0::1::1::0::σ) (envL [(0,x0),(4,(.p (.int .u64 18446744073709551615))),(8,q1.1),(9,(.p (.int .i64 n3))),(10,(.p (.int .i64 0)))]) q1.2).bind fun r4=>zib rec loop σ r4.1 r4.2.1 r4.2.2:=by kernel_rfl
theorem zq4 (x0:V) (x4:Int) (x8:V) (x9:Int) (x10:Int) (h:H):z1n G rec loop zcn zcl σ (envL [(0,x0),(4,(.p (.int .u64 x4))),(8,x8),(9,(.p (.int .i64 x9))),(10,(.p (.int .i64 x10)))]) h =
bif decide (x10<x9) then (
(iS 3 x8 x10).bind fun t5 =>
(ldO true 3 h t5).bind fun t6 =>
(some (alO [.p (.int .u32 0),.p (.int .u64 0),.p (.int .i64 0)] (2::0::0::1::1::0::σ) 6 h)).bind fun q7 =>
((stO false 3 (3::0::0::1::1::0::σ) q7.2 q7.1 t6).map fun h=>(udf,h)).bind fun q8 =>
(fA q7.1 1).bind fun t9 =>
(ldO false 1 q8.2 t9).bind fun t10 =>
(castI .u64 t10).bind fun n11 =>
loop zcn zcl (1::σ) (envL [(0,x0),(4,(.p (.int .u64 ((if n11<x4 then n11 else x4))))),(8,x8),(9,(.p (.int .i64 x9))),(10,(.p (.int .i64 (IntKind.wrap .i64 (x10+1)))))]) q8.2)
else (
some ((.exit 0),(envL [(0,x0),(4,(.p (.int .u64 x4)))]),h)):=by kernel_rfl
theorem zmp (x0:V) (x4:Int) (h:H):zib rec loop σ (.exit 0) (envL [(0,x0),(4,(.p (.int .u64 x4)))]) h =
(lenO x0).bind fun t12 =>
(castI .i64 t12).bind fun n13 =>
bif n13==0 then (
fin false σ h [(.p (.int .u64 0)),(.p (.bool false))])
else (
fin false σ h [(.p (.int .u64 x4)),(.p (.bool true))]):=by kernel_rfl
end
end Go.Ev
namespace Go.Ev
open Go.Proofs
set_option linter.unusedVariables false
set_option linter.unusedSimpArgs false
set_option maxRecDepth 100000
section
variable {β α : Type} {Q : β→α→Prop} {K : Exit × Env × H→Option α}
def z6l {β:Type} (k:Nat) (kE0:(List z7)→Int→Option β) (x0:(List z7)) (x4:Int) (x8:(List z7)) (x9:Int) (x10:Int):Option β:=match k with
| 0=>none
| k+1 =>
bif decide (x10<x9) then (
(ix x8 x10).bind fun a15 =>
z6l k kE0 x0 ((if a15.Rate<x4 then a15.Rate else x4)) x8 x9 (IntKind.wrap .i64 (x10+1)))
else (
kE0 x0 x4)
def zae (k:Nat) (x0:(List z7)):Option (Int×Bool) :=
(zbb k x0).bind fun r1 =>
z6l k (fun r31_0 r31_4 =>
bif ((r31_0.length:Int))==0 then (
some (0,false))
else (
some (r31_4,true))) x0 18446744073709551615 r1 ((r1.length:Int)) 0
theorem zlr {h:H}  {kE0:(List z7)→Int→Option β} (hE0:∀ (q0:(List z7)) (q4:Int) (v29:V) (h30:SlH h z6 q0 v29) (H27:Go.Ev.H) (_:Fm 23 h [] [] [] H27),Sim (kE0 q0 q4) (K ((.exit 0),(envL [(0,v29),(4,(.p (.int .u64 q4)))]),H27)) Q) (k:Nat):∀ (x0:(List z7)) (x4:Int) (x8:(List z7)) (x9:Int) (x10:Int) (v10:V) (h11:SlH h z6 x0 v10) (v12:V) (h13:SlF z6 x8 v12) (H8:Go.Ev.H) (_:Fm 23 h [] [] [] H8) {σ:Stamp},Sim (z6l k kE0 x0 x4 x8 x9 x10) ((cvL G X0 zcn zcl σ (envL [(0,v10),(4,(.p (.int .u64 x4))),(8,v12),(9,(.p (.int .i64 x9))),(10,(.p (.int .i64 x10)))]) H8).bind K) Q:=by
 induction k with
 | zero=>intros;exact .no
 | succ k ih =>
  intro x0 x4 x8 x9 x10 v10 h11 v12 h13 H8 S9 σ
  rw [z6l]
  refine .round (Sim.ext (zq4 _ _ _ _ _ _ _ _ _) ?_)
  refine .cq ?_ ?_
  ·refine .bd fun a15 h16=>?_
   refine .op ((h13.h H8).iS h16 rfl) ?_
   obtain ⟨w18,h19,hE17⟩:=(h13.h H8).el h16 rfl
   obtain rfl:=z6.inv h19
   refine .op (hE17.all (by simp)) ?_
   obtain ⟨H20,e21,S22⟩:=S9.al (d:=6) (s:=(2::0::0::1::1::0::σ)) (z:=[(.p (.int .u32 0)),(.p (.int .u64 0)),(.p (.int .i64 0))]) (by decide) rfl
   refine .op (congrArg some e21) ?_
   obtain ⟨H24,e25,S26⟩:=S22.stGv (i:=0) (j:=0) (own:=false) (σ:=(3::0::0::1::1::0::σ)) (xs:=[.p (.int .u32 a15.Owner),.p (.int .u64 a15.Rate),.p (.int .i64 a15.Over)]) rfl rfl (sC (sI _ _) (sC (sI _ _) (sC (sI _ _) sN))) rfl rfl
   refine .op (sM e25) ?_
   refine .fa ?_
   refine .op ((S26.atG (i:=0) rfl).ld (j:=1) rfl) ?_
   refine .ci ?_
   exact ih x0 ((if a15.Rate<x4 then a15.Rate else x4)) x8 x9 (IntKind.wrap .i64 (x10+1)) v10 h11 v12 h13 H24 (S26.wk2 aN aN)
  exact hE0 x0 x4 v10 h11 H8 (S9.wk2 aN aN)
theorem zij (k:Nat) {h:H} {σ:Stamp} (x0:List z7) {u0:V} (hu0:SlH h z6 x0 u0):Sim (zae k x0) (ev G X0 105 σ [u0] h) (fun r s=>s=([.v (.p (.int .u64 r.1)),.v (.p (.bool r.2))],h)):=by
 refine .ev rfl (Sim.ext (zlb _ _ _ _ _) ?_)
 rw [zae]
 have S0:Fm 23 h [] [] [] (List.replicate 23 []::h):=Fm.start0
 refine .call (zjy k x0 (S0.low hu0)) fun r1 cs2 H3 h4 q5=>?_
 obtain ⟨v6,h7,q5⟩:=q5
 cases q5
 refine .op ((h7.h (List.replicate 23 []::h)).len) ?_
 refine .ci ?_
 refine .as (zlr ?_ k x0 18446744073709551615 r1 ((r1.length:Int)) 0 u0 hu0 v6 h7 (List.replicate 23 []::h) (S0.wk2 aN aN))
 ·intro r31_0 r31_4 v34 h35 H32 S33
  refine .ext (zmp _ _ _ _ _ _) ?_
  refine .op ((S33.low h35).len) ?_
  refine .ci ?_
  refine .cq ?_ ?_
  ·exact .fin (S33.finN (lC (sI _ _).lv (lC (sB _).lv lN))) rfl
  exact .fin (S33.finN (lC (sI _ _).lv (lC (sB _).lv lN))) rfl
end
end Go.Ev
namespace Go.Ev
open Go.Proofs
set_option linter.unusedVariables false
set_option linter.unusedSimpArgs false
set_option maxRecDepth 100000
noncomputable section
abbrev KT34:=Exit→Env→H→Option (List C × H)
variable (rec : CallF) (loop : LoopV) (σ : Stamp)
theorem zme (x0:Int) (h:H):cvBody G rec loop 106 σ [(.p (.int .u64 x0))] h =
fin false σ (List.replicate 7 []::h) [(.p (.int .i64 (IntKind.wrap .i64 ((if 1099511627776<(IntKind.wrap .u64 (Int.tdiv x0 8)) then 1099511627776 else (IntKind.wrap .u64 (Int.tdiv x0 8)))))))]:=by kernel_rfl
end
end Go.Ev
namespace Go.Ev
open Go.Proofs
set_option linter.unusedVariables false
set_option linter.unusedSimpArgs false
set_option maxRecDepth 100000
section
variable {β α : Type} {Q : β→α→Prop} {K : Exit × Env × H→Option α}
def zbd (x0:Int):Option (Int) :=
some ((IntKind.wrap .i64 ((if 1099511627776<(IntKind.wrap .u64 (Int.tdiv x0 8)) then 1099511627776 else (IntKind.wrap .u64 (Int.tdiv x0 8))))))
theorem zjz {h:H} {σ:Stamp} (x0:Int):Sim (zbd x0) (ev G X0 106 σ [(.p (.int .u64 x0))] h) (fun r s=>s=([.v (.p (.int .i64 r))],h)):=by
 refine .ev rfl (Sim.ext (zme _ _ _ _ _) ?_)
 rw [zbd]
 have S0:Fm 7 h [] [] [] (List.replicate 7 []::h):=Fm.start0
 exact .fin (S0.finN (lC (sI _ _).lv lN)) rfl
def z2u (k:Nat) (x0:z1t):Option (Int) :=
bif decide (x0.Remb≥0) then (
(zae k x0.f_L).bind fun r2 =>
bif r2.2 then (
(zbd r2.1).bind fun r8 =>
some (((if r8<((if x0.Remb<x0.Cap then x0.Remb else x0.Cap)) then r8 else ((if x0.Remb<x0.Cap then x0.Remb else x0.Cap))))))
else (
some (((if x0.Remb<x0.Cap then x0.Remb else x0.Cap)))))
else (
(zae k x0.f_L).bind fun r13 =>
bif r13.2 then (
(zbd r13.1).bind fun r19 =>
some (((if r19<x0.Cap then r19 else x0.Cap))))
else (
some (x0.Cap)))
theorem z5x (k:Nat) {h:H} {σ:Stamp} (x0:z1t) {c0_2:C} (hc0_2:SoC z6 x0.f_L c0_2) (hn0_2:Nn c0_2 3) {c0_3:C} (hc0_3:SoC (dI .i64) x0.Until c0_3) (hn0_3:Nn c0_3 1) {l0:Loc} {o0:Nat} (ha0:AtC h l0 o0 ([.v (.p (.int .i64 x0.Cap)),.v (.p (.int .i64 x0.Remb)),c0_2,c0_3])):Sim (z2u k x0) (ev G X0 66 σ [(.ref l0 o0)] h) (fun r s=>s=([.v (.p (.int .i64 r))],h)):=by
 refine .ev rfl (Sim.ext (zgi _ _ _ _ _) ?_)
 rw [z2u]
 have S0:Fm 35 h [] [] [] (List.replicate 35 []::h):=Fm.start0
 refine .nc ?_
 refine .fa ?_
 refine .op ((S0.lowA ha0).ld (j:=0) rfl) ?_
 refine .ci ?_
 refine .nc ?_
 refine .fa ?_
 refine .op ((S0.lowA ha0).ld (j:=1) rfl) ?_
 refine .ci ?_
 refine .cq ?_ ?_
 ·refine .nc ?_
  refine .fa ?_
  refine .op ((S0.lowA ha0).ld (j:=1) rfl) ?_
  refine .ci ?_
  refine .nc ?_
  refine .fa ?_
  refine .op (hc0_2.ld (S0.lowA ha0) (j:=2) rfl) ?_
  refine .call (zij k x0.f_L (hc0_2.sl (S0.lowA ha0) (j:=2) rfl)) fun r2 cs3 H4 h5 q6=>?_
  cases q6
  refine .or ?_
  refine .ci ?_
  refine .or ?_
  refine .ab ?_
  refine .cq ?_ ?_
  ·refine .call (zjz r2.1) fun r8 cs9 H10 h11 q12=>?_
   cases q12
   refine .ci ?_
   exact .fin (S0.finN (lC (sI _ _).lv lN)) rfl
  exact .fin (S0.finN (lC (sI _ _).lv lN)) rfl
 refine .nc ?_
 refine .fa ?_
 refine .op (hc0_2.ld (S0.lowA ha0) (j:=2) rfl) ?_
 refine .call (zij k x0.f_L (hc0_2.sl (S0.lowA ha0) (j:=2) rfl)) fun r13 cs14 H15 h16 q17=>?_
 cases q17
 refine .or ?_
 refine .ci ?_
 refine .or ?_
 refine .ab ?_
 refine .cq ?_ ?_
 ·refine .call (zjz r13.1) fun r19 cs20 H21 h22 q23=>?_
  cases q23
  refine .ci ?_
  exact .fin (S0.finN (lC (sI _ _).lv lN)) rfl
 exact .fin (S0.finN (lC (sI _ _).lv lN)) rfl
end
end Go.Ev
namespace Go.Ev
open Go.Proofs
set_option linter.unusedVariables false
set_option linter.unusedSimpArgs false
set_option maxRecDepth 100000
noncomputable section
abbrev KT35:=Exit→Env→H→Option (List C × H)
variable (rec : CallF) (loop : LoopV) (σ : Stamp)
def z72:Code:=(codeAt (bodyOf Try.f64) [1,1,1,0,1,0,0])
def z6w:Lv:=⟨97,16,[(0,97)]⟩
def zdm:KT35:=(kBlock 0 (kSeq G rec loop (codeAt (bodyOf Try.f64) [1,1,1,1]) ⟨16,16,[]⟩ (1::1::1::0::σ) (finC G false Try.f64 (1::σ))))
theorem zgm (x0:V) (x1:Int) (h:H):cvBody G rec loop 64 σ [x0,(.p (.int .i64 x1))] h =
(nilChk x0).bind fun t1 =>
(fA t1 2).bind fun t2 =>
(ldO false 1 (List.replicate 64 []::h) t2).bind fun t3 =>
(lenO t3).bind fun t4 =>
(castI .i64 t4).bind fun n5 =>
(loop z72 z6w (1::0::1::1::1::0::σ) (envL [(0,x0),(1,(.p (.int .i64 x1))),(5,(.p (.slice .none 0 0))),(6,(.p (.slice .none 0 0))),(13,(.p (.int .i64 n5))),(14,(.p (.int .i64 0)))]) (List.replicate 64 []::h)).bind fun r6=>zdm rec loop σ r6.1 r6.2.1 r6.2.2:=by kernel_rfl
theorem zit (x0:V) (x1:Int) (x5:V) (x6:V) (x13:Int) (x14:Int) (h:H):z1n G rec loop z72 z6w σ (envL [(0,x0),(1,(.p (.int .i64 x1))),(5,x5),(6,x6),(13,(.p (.int .i64 x13))),(14,(.p (.int .i64 x14)))]) h =
bif decide (x14<x13) then (
(nilChk x0).bind fun t7 =>
(fA t7 3).bind fun t8 =>
(ldO false 1 h t8).bind fun t9 =>
(iS 1 t9 x14).bind fun t10 =>
(ldO false 1 h t10).bind fun t11 =>
(castI .i64 t11).bind fun n12 =>
bif decide (n12>x1) then (
(nilChk x0).bind fun t13 =>
(fA t13 2).bind fun t14 =>
(ldO false 1 h t14).bind fun t15 =>
(iS 3 t15 x14).bind fun t16 =>
(ldO true 3 h t16).bind fun t17 =>
(bSV Try.prog 28 1 [(0,t17)]).bind fun t18 =>
(nilChk x0).bind fun t19 =>
(fA t19 3).bind fun t20 =>
(ldO false 1 h t20).bind fun t21 =>
(iS 1 t21 x14).bind fun t22 =>
(ldO false 1 h t22).bind fun t23 =>
(castI .i64 t23).bind fun n24 =>
(bSV Try.prog 37 1 [(0,(.p (.int .i64 n24)))]).bind fun t25 =>
(apO false 3 24 (9::1::1::0::1::1::0::σ) 35 h x5 t18).bind fun q26 =>
need (ldO false 1 q26.2 t22=some (.p (.int .i64 n24))) (
need (ldO false 1 q26.2 t20=some t21) (
(apO true 1 8 (19::1::1::0::1::1::0::σ) 45 q26.2 x6 t25).bind fun q27 =>
loop z72 z6w (1::σ) (envL [(0,x0),(1,(.p (.int .i64 x1))),(5,q26.1),(6,q27.1),(13,(.p (.int .i64 x13))),(14,(.p (.int .i64 (IntKind.wrap .i64 (x14+1)))))]) q27.2)))
else (
loop z72 z6w (1::σ) (envL [(0,x0),(1,(.p (.int .i64 x1))),(5,x5),(6,x6),(13,(.p (.int .i64 x13))),(14,(.p (.int .i64 (IntKind.wrap .i64 (x14+1)))))]) h))
else (
some ((.exit 0),(envL [(0,x0),(5,x5),(6,x6)]),h)):=by kernel_rfl
theorem zh5 (x0:V) (x5:V) (x6:V) (h:H):zdm rec loop σ (.exit 0) (envL [(0,x0),(5,x5),(6,x6)]) h =
(nilChk x0).bind fun t28 =>
(fA t28 2).bind fun t29 =>
(ldO false 1 h t29).bind fun t30 =>
(lenO t30).bind fun t31 =>
(castI .i64 t31).bind fun n32 =>
(lenO x5).bind fun t33 =>
(castI .i64 t33).bind fun n34 =>
(nilChk x0).bind fun t35 =>
(fA t35 2).bind fun t36 =>
((stO true 1 (6::0::1::1::1::1::1::0::σ) h t36 x5).map fun h=>(udf,h)).bind fun q37 =>
(nilChk x0).bind fun t38 =>
(fA t38 3).bind fun t39 =>
((stO true 1 (9::0::1::1::1::1::1::0::σ) q37.2 t39 x6).map fun h=>(udf,h)).bind fun q40 =>
fin false σ q40.2 [(.p (.int .i64 (IntKind.wrap .i64 (n32-n34))))]:=by kernel_rfl
end
end Go.Ev
namespace Go.Ev
open Go.Proofs
set_option linter.unusedVariables false
set_option linter.unusedSimpArgs false
set_option maxRecDepth 100000
section
variable {β α : Type} {Q : β→α→Prop} {K : Exit × Env × H→Option α}
def z3m {β:Type} (k:Nat) (kE0:(List z7)→(List Int)→z1t→Option β) (x1:Int) (x5:(List z7)) (x6:(List Int)) (x13:Int) (x14:Int) (zp0:z1t):Option β:=match k with
| 0=>none
| k+1 =>
bif decide (x14<x13) then (
(ix zp0.Until x14).bind fun a18 =>
bif decide (a18>x1) then (
(ix zp0.f_L x14).bind fun a22 =>
(ix zp0.Until x14).bind fun a28 =>
(ap 24 x5 ([a22])).bind fun a32 =>
(ap 8 x6 ([a28])).bind fun a39 =>
z3m k kE0 x1 a32 a39 x13 (IntKind.wrap .i64 (x14+1)) zp0)
else (
z3m k kE0 x1 x5 x6 x13 (IntKind.wrap .i64 (x14+1)) zp0))
else (
kE0 x5 x6 zp0)
def z4w (k:Nat) (x0:z1t) (x1:Int):Option (Int×z1t) :=
z3m k (fun r61_5 r61_6 zp0 =>
some ((IntKind.wrap .i64 (((zp0.f_L.length:Int))-((r61_5.length:Int)))),(⟨zp0.Cap,zp0.Remb,r61_5,r61_6⟩:z1t))) x1 (([]:List z7)) (([]:List Int)) ((x0.f_L.length:Int)) 0 x0
theorem zg6 {h:H} {l0:Loc} {o0:Nat} {kE0:(List z7)→(List Int)→z1t→Option β} (hE0:∀ (q5:(List z7)) (q6:(List Int)) (zp0:z1t) (v47:V) (v49:V) (c51:C) (h52:SoC z6 zp0.f_L c51) (h53:Nn c51 3) (c54:C) (h55:SoC (dI .i64) zp0.Until c54) (h56:Nn c54 1) (H45:Go.Ev.H) (_:Fm 64 h [⟨l0,o0,[.v (.p (.int .i64 zp0.Cap)),.v (.p (.int .i64 zp0.Remb)),c51,c54]⟩] [] [⟨[35],v47,z6,q5⟩,⟨[45],v49,(dI .i64),q6⟩] H45),Sim (kE0 q5 q6 zp0) (K ((.exit 0),(envL [(0,(.ref l0 o0)),(5,v47),(6,v49)]),H45)) Q) (k:Nat):∀ (x1:Int) (x5:(List z7)) (x6:(List Int)) (x13:Int) (x14:Int) (zp0:z1t) (v7:V) (v9:V) (c11:C) (h12:SoC z6 zp0.f_L c11) (h13:Nn c11 3) (c14:C) (h15:SoC (dI .i64) zp0.Until c14) (h16:Nn c14 1) (H5:Go.Ev.H) (_:Fm 64 h [⟨l0,o0,[.v (.p (.int .i64 zp0.Cap)),.v (.p (.int .i64 zp0.Remb)),c11,c14]⟩] [] [⟨[35],v7,z6,x5⟩,⟨[45],v9,(dI .i64),x6⟩] H5) {σ:Stamp},Sim (z3m k kE0 x1 x5 x6 x13 x14 zp0) ((cvL G X0 z72 z6w σ (envL [(0,(.ref l0 o0)),(1,(.p (.int .i64 x1))),(5,v7),(6,v9),(13,(.p (.int .i64 x13))),(14,(.p (.int .i64 x14)))]) H5).bind K) Q:=by
 induction k with
 | zero=>intros;exact .no
 | succ k ih =>
  intro x1 x5 x6 x13 x14 zp0 v7 v9 c11 h12 h13 c14 h15 h16 H5 S6 σ
  rw [z3m]
  refine .round (Sim.ext (zit _ _ _ _ _ _ _ _ _ _) ?_)
  refine .cq ?_ ?_
  ·refine .nc ?_
   refine .fa ?_
   refine .op (h15.ld (S6.atB (i:=0) rfl) (j:=3) rfl) ?_
   refine .bd fun a18 h19=>?_
   refine .op ((h15.sl (S6.atB (i:=0) rfl) (j:=3) rfl).iS h19 rfl) ?_
   obtain ⟨_,rfl,hE20⟩:=(h15.sl (S6.atB (i:=0) rfl) (j:=3) rfl).el h19 rfl
   refine .op (hE20.ld (j:=0) rfl) ?_
   refine .ci ?_
   refine .cq ?_ ?_
   ·refine .nc ?_
    refine .fa ?_
    refine .op (h12.ld (S6.atB (i:=0) rfl) (j:=2) rfl) ?_
    refine .bd fun a22 h23=>?_
    refine .op ((h12.sl (S6.atB (i:=0) rfl) (j:=2) rfl).iS h23 rfl) ?_
    obtain ⟨w25,h26,hE24⟩:=(h12.sl (S6.atB (i:=0) rfl) (j:=2) rfl).el h23 rfl
    obtain rfl:=z6.inv h26
    refine .op (hE24.all (by simp)) ?_
    have h27:SlF z6 [a22] (.fz [(.p (.int .u32 a22.Owner)),(.p (.int .u64 a22.Rate)),(.p (.int .i64 a22.Over))] 1 3 true):=SlF.lit (cs:=[(.p (.int .u32 a22.Owner)),(.p (.int .u64 a22.Rate)),(.p (.int .i64 a22.Over))]) (RL.cons (show z6.R a22 [.p (.int .u32 a22.Owner),.p (.int .u64 a22.Rate),.p (.int .i64 a22.Over)] from (z6.mk)) RL.nil) rfl rfl true
    refine .op (bldS (pC (c:=[.p (.int .u32 a22.Owner),.p (.int .u64 a22.Rate),.p (.int .i64 a22.Over)]) rfl pN) (by kernel_rfl:_=some (vOf h27))) ?_
    refine .nc ?_
    refine .fa ?_
    refine .op (h15.ld (S6.atB (i:=0) rfl) (j:=3) rfl) ?_
    refine .bd fun a28 h29=>?_
    refine .op ((h15.sl (S6.atB (i:=0) rfl) (j:=3) rfl).iS h29 rfl) ?_
    obtain ⟨_,rfl,hE30⟩:=(h15.sl (S6.atB (i:=0) rfl) (j:=3) rfl).el h29 rfl
    refine .op (hE30.ld (j:=0) rfl) ?_
    refine .ci ?_
    have h31:=SlF.int1 .i64 a28
    refine .op (bldS (pC rfl pN) (by kernel_rfl:_=some (vOf h31))) ?_
    refine .bd fun a32 h33=>?_
    obtain ⟨v34,H35,e36,S37⟩:=S6.app (i:=0) (d:=35) (e:=3) (own:=false) (σ:=(9::1::1::0::1::1::0::σ)) rfl (h27.h H5).y h33 rfl (by decide) (by decide) rfl
    refine .op (e36) ?_
    obtain ⟨_,rfl,hE38⟩:=(h15.sl (S37.atB (i:=0) rfl) (j:=3) rfl).el h29 rfl
    refine .nd (hE38.ld (j:=0) rfl) ?_
    refine .nd (h15.ld (S37.atB (i:=0) rfl) (j:=3) rfl) ?_
    refine .bd fun a39 h40=>?_
    obtain ⟨v41,H42,e43,S44⟩:=S37.app (i:=1) (d:=45) (e:=1) (own:=true) (σ:=(19::1::1::0::1::1::0::σ)) rfl (h31.h H35).y h40 rfl (by decide) (by decide) rfl
    refine .op (e43) ?_
    exact ih x1 a32 a39 x13 (IntKind.wrap .i64 (x14+1)) zp0 v34 v41 c11 h12 h13 c14 h15 h16 H42 (S44.wk2 aN (aC ⟨[35,35],by simp,aM 0 rfl⟩ (aC ⟨[45,45],by simp,aM 1 rfl⟩ aN)))
   exact ih x1 x5 x6 x13 (IntKind.wrap .i64 (x14+1)) zp0 v7 v9 c11 h12 h13 c14 h15 h16 H5 (S6.wk2 aN (aC ⟨[35],by simp,aM 0 rfl⟩ (aC ⟨[45],by simp,aM 1 rfl⟩ aN)))
  exact hE0 x5 x6 zp0 v7 v9 c11 h12 h13 c14 h15 h16 H5 (S6.wk2 aN (aC ⟨[35],by simp,aM 0 rfl⟩ (aC ⟨[45],by simp,aM 1 rfl⟩ aN)))
theorem zdq (k:Nat) {h:H} {σ:Stamp} (x0:z1t) {c0_2:C} (hc0_2:SoC z6 x0.f_L c0_2) (hn0_2:Nn c0_2 3) {c0_3:C} (hc0_3:SoC (dI .i64) x0.Until c0_3) (hn0_3:Nn c0_3 1) {l0:Loc} {o0:Nat} (ha0:AtC h l0 o0 ([.v (.p (.int .i64 x0.Cap)),.v (.p (.int .i64 x0.Remb)),c0_2,c0_3])) (x1:Int):Sim (z4w k x0 x1) (ev G X0 64 σ [(.ref l0 o0),(.p (.int .i64 x1))] h) (fun r s=>∃ (cb0_2:C),∃ (cb0_3:C),SoC z6 r.2.f_L cb0_2∧Nn cb0_2 3∧SoC (dI .i64) r.2.Until cb0_3∧Nn cb0_3 1∧s=([.v (.p (.int .i64 r.1))],pts h [⟨l0,o0,[.v (.p (.int .i64 r.2.Cap)),.v (.p (.int .i64 r.2.Remb)),cb0_2,cb0_3]⟩])):=by
 refine .ev rfl (Sim.ext (zgm _ _ _ _ _ _) ?_)
 rw [z4w]
 have S0:Fm 64 h [⟨l0,o0,[.v (.p (.int .i64 x0.Cap)),.v (.p (.int .i64 x0.Remb)),c0_2,c0_3]⟩] [] [] (List.replicate 64 []::h):=Fm.start1 ha0
 refine .nc ?_
 refine .fa ?_
 refine .op (hc0_2.ld (S0.atB (i:=0) rfl) (j:=2) rfl) ?_
 refine .op ((hc0_2.sl (S0.atB (i:=0) rfl) (j:=2) rfl).len) ?_
 refine .ci ?_
 have S58:=S0.nil z6 []
 have S60:=S58.nil (dI .i64) []
 refine .as (zg6 ?_ k x1 (([]:List z7)) (([]:List Int)) ((x0.f_L.length:Int)) 0 x0 (.p (.slice none 0 0)) (.p (.slice none 0 0)) c0_2 hc0_2 hn0_2 c0_3 hc0_3 hn0_3 (List.replicate 64 []::h) (S60.wk2 aN (aC ⟨[],by simp,aM 1 rfl⟩ (aC ⟨[],by simp,aM 0 rfl⟩ aN))))
 ·intro r61_5 r61_6 zp0 v64 v66 c68 h69 h70 c71 h72 h73 H62 S63
  refine .ext (zh5 _ _ _ _ _ _ _) ?_
  refine .nc ?_
  refine .fa ?_
  refine .op (h69.ld (S63.atB (i:=0) rfl) (j:=2) rfl) ?_
  refine .op ((h69.sl (S63.atB (i:=0) rfl) (j:=2) rfl).len) ?_
  refine .ci ?_
  refine .op ((S63.sl (i:=0) rfl).len) ?_
  refine .ci ?_
  refine .nc ?_
  refine .fa ?_
  obtain ⟨c77,H74,e75,h78,h79,S76⟩:=S63.mvB (i:=0) (j:=2) (k:=0) (σ:=(6::0::1::1::1::1::1::0::σ)) rfl rfl rfl rfl rfl
  refine .op (sM e75) ?_
  refine .nc ?_
  refine .fa ?_
  obtain ⟨c83,H80,e81,h84,h85,S82⟩:=S76.mvB (i:=0) (j:=3) (k:=0) (σ:=(9::0::1::1::1::1::1::0::σ)) rfl rfl rfl rfl rfl
  refine .op (sM e81) ?_
  exact .fin (S82.finN (lC (sI _ _).lv lN)) ⟨c77,c83,h78,h79,h84,h85,rfl⟩
end
end Go.Ev
namespace Go.Ev
open Go.Proofs
set_option linter.unusedVariables false
set_option linter.unusedSimpArgs false
set_option maxRecDepth 100000
noncomputable section
abbrev KT36:=Exit→Env→H→Option (List C × H)
variable (rec : CallF) (loop : LoopV) (σ : Stamp)
def z81:Code:=(codeAt (bodyOf Try.f65) [1,1,0,0,0])
def z84:Lv:=⟨149,64,[(0,149)]⟩
def zcz:KT36:=(kBlock 0 (kSeq G rec loop (codeAt (bodyOf Try.f65) [1,1,1]) ⟨64,64,[]⟩ (1::1::0::σ) (finC G false Try.f65 (1::σ))))
theorem zfk (x0:V) (x1:V) (x2:Int) (h:H):cvBody G rec loop 65 σ [x0,x1,(.p (.int .i64 x2))] h =
(boxO false (0::0::0::σ) 4 (List.replicate 128 []::h) x1).bind fun q1 =>
(loop z81 z84 (0::1::1::0::σ) (envL [(0,x0),(2,(.p (.int .i64 x2))),(4,q1.1),(7,(.p (.int .i64 0)))]) q1.2).bind fun r2=>zcz rec loop σ r2.1 r2.2.1 r2.2.2:=by kernel_rfl
theorem zhx (x0:V) (x2:Int) (x4:V) (x7:Int) (h:H):z1n G rec loop z81 z84 σ (envL [(0,x0),(2,(.p (.int .i64 x2))),(4,x4),(7,(.p (.int .i64 x7)))]) h =
(nilChk x0).bind fun t3 =>
(fA t3 2).bind fun t4 =>
(ldO false 1 h t4).bind fun t5 =>
(lenO t5).bind fun t6 =>
(castI .i64 t6).bind fun n7 =>
(bif decide (x7<n7) then ((nilChk x0).bind fun t8 =>
(fA t8 2).bind fun t9 =>
(ldO false 1 h t9).bind fun t10 =>
(iS 3 t10 x7).bind fun t11 =>
(fA t11 0).bind fun t12 =>
(ldO false 1 h t12).bind fun t13 =>
(castI .u32 t13).bind fun n14 =>
(fA x4 0).bind fun t15 =>
(ldO false 1 h t15).bind fun t16 =>
(castI .u32 t16).bind fun n17 =>
some (decide (n14<n17))) else (some false)).bind fun b18 =>
bif b18 then (
loop z81 z84 (1::σ) (envL [(0,x0),(2,(.p (.int .i64 x2))),(4,x4),(7,(.p (.int .i64 (IntKind.wrap .i64 (x7+1)))))]) h)
else (
some ((.exit 0),(envL [(0,x0),(2,(.p (.int .i64 x2))),(4,x4),(7,(.p (.int .i64 x7)))]),h)):=by kernel_rfl
theorem zg0 (x0:V) (x2:Int) (x4:V) (x7:Int) (h:H):zcz rec loop σ (.exit 0) (envL [(0,x0),(2,(.p (.int .i64 x2))),(4,x4),(7,(.p (.int .i64 x7)))]) h =
(callO rec 104 (1::0::1::1::1::0::σ) [(.p (.int .i64 x2)),(.p (.int .i64 1000000))] h (some 32)).bind fun q19 =>
(castI .i64 q19.1).bind fun n20 =>
bif decide (x2<0) then (
(nilChk x0).bind fun t21 =>
(fA t21 2).bind fun t22 =>
(ldO false 1 q19.2 t22).bind fun t23 =>
(lenO t23).bind fun t24 =>
(castI .i64 t24).bind fun n25 =>
(bif decide (x7<n25) then ((nilChk x0).bind fun t26 =>
(fA t26 2).bind fun t27 =>
(ldO false 1 q19.2 t27).bind fun t28 =>
(iS 3 t28 x7).bind fun t29 =>
(fA t29 0).bind fun t30 =>
(ldO false 1 q19.2 t30).bind fun t31 =>
(castI .u32 t31).bind fun n32 =>
(fA x4 0).bind fun t33 =>
(ldO false 1 q19.2 t33).bind fun t34 =>
(castI .u32 t34).bind fun n35 =>
some (n32==n35)) else (some false)).bind fun b36 =>
bif b36 then (
(bSV Try.prog 28 0 []).bind fun t37 =>
(nilChk x0).bind fun t38 =>
(fA t38 2).bind fun t39 =>
(ldO false 1 q19.2 t39).bind fun t40 =>
(apO false 3 24 (6::0::1::0::1::1::1::1::1::0::σ) 63 q19.2 t37 t40).bind fun q41 =>
(nilChk x0).bind fun t42 =>
(fA t42 2).bind fun t43 =>
((stO true 1 (9::0::1::0::1::1::1::1::1::0::σ) q41.2 t43 q41.1).map fun h=>(udf,h)).bind fun q44 =>
(nilChk x0).bind fun t45 =>
(fA t45 2).bind fun t46 =>
(ldO false 1 q44.2 t46).bind fun t47 =>
(nilChk x0).bind fun t48 =>
(fA t48 3).bind fun t49 =>
(ldO false 1 q44.2 t49).bind fun t50 =>
(ldO true 3 q44.2 x4).bind fun t51 =>
(iS 3 t47 x7).bind fun t52 =>
((stO false 3 (13::0::1::1::0::1::1::1::1::1::0::σ) q44.2 t52 t51).map fun h=>(udf,h)).bind fun q53 =>
(iS 1 t50 x7).bind fun t54 =>
((stO true 1 (15::0::1::1::0::1::1::1::1::1::0::σ) q53.2 t54 (.p (.int .i64 (IntKind.wrap .i64 (x2+1000000))))).map fun h=>(udf,h)).bind fun q55 =>
fin false σ q55.2 [(.p (.bool true))])
else (
(nilChk x0).bind fun t56 =>
(fA t56 2).bind fun t57 =>
(ldO false 1 q19.2 t57).bind fun t58 =>
(lenO t58).bind fun t59 =>
(castI .i64 t59).bind fun n60 =>
bif decide (n60≥6) then (
fin false σ q19.2 [(.p (.bool false))])
else (
(bSV Try.prog 28 0 []).bind fun t61 =>
(nilChk x0).bind fun t62 =>
(fA t62 2).bind fun t63 =>
(ldO false 1 q19.2 t63).bind fun t64 =>
(slS 3 t64 none (some x7) none).bind fun t65 =>
(ldO true 3 q19.2 x4).bind fun t66 =>
(bSV Try.prog 28 1 [(0,t66)]).bind fun t67 =>
(nilChk x0).bind fun t68 =>
(fA t68 2).bind fun t69 =>
(ldO false 1 q19.2 t69).bind fun t70 =>
(slS 3 t70 (some x7) none none).bind fun t71 =>
(apO false 3 24 (8::0::1::1::1::1::1::1::1::0::σ) 94 q19.2 t61 t65).bind fun q72 =>
need (slS 3 t70 (some x7) none none=some t71) (
need (ldO false 1 q72.2 t69=some t70) (
need (ldO true 3 q72.2 x4=some t66) (
(apO false 3 24 (11::0::1::1::1::1::1::1::1::0::σ) 97 q72.2 q72.1 t67).bind fun q73 =>
need (slS 3 t70 (some x7) none none=some t71) (
need (ldO false 1 q73.2 t69=some t70) (
(apO false 3 24 (18::0::1::1::1::1::1::1::1::0::σ) 104 q73.2 q73.1 t71).bind fun q74 =>
(nilChk x0).bind fun t75 =>
(fA t75 2).bind fun t76 =>
((stO true 1 (21::0::1::1::1::1::1::1::1::0::σ) q74.2 t76 q74.1).map fun h=>(udf,h)).bind fun q77 =>
(bSV Try.prog 37 0 []).bind fun t78 =>
(nilChk x0).bind fun t79 =>
(fA t79 3).bind fun t80 =>
(ldO false 1 q77.2 t80).bind fun t81 =>
(slS 1 t81 none (some x7) none).bind fun t82 =>
(bSV Try.prog 37 1 [(0,(.p (.int .i64 (IntKind.wrap .i64 (x2+1000000)))))]).bind fun t83 =>
(nilChk x0).bind fun t84 =>
(fA t84 3).bind fun t85 =>
(ldO false 1 q77.2 t85).bind fun t86 =>
(slS 1 t86 (some x7) none none).bind fun t87 =>
(apO true 1 8 (8::0::1::1::1::1::1::1::1::1::0::σ) 115 q77.2 t78 t82).bind fun q88 =>
need (slS 1 t86 (some x7) none none=some t87) (
need (ldO false 1 q88.2 t85=some t86) (
(apO true 1 8 (11::0::1::1::1::1::1::1::1::1::0::σ) 118 q88.2 q88.1 t83).bind fun q89 =>
need (slS 1 t86 (some x7) none none=some t87) (
need (ldO false 1 q89.2 t85=some t86) (
(apO true 1 8 (18::0::1::1::1::1::1::1::1::1::0::σ) 125 q89.2 q89.1 t87).bind fun q90 =>
(nilChk x0).bind fun t91 =>
(fA t91 3).bind fun t92 =>
((stO true 1 (21::0::1::1::1::1::1::1::1::1::0::σ) q90.2 t92 q90.1).map fun h=>(udf,h)).bind fun q93 =>
fin false σ q93.2 [(.p (.bool true))]))))))))))))
else (
(nilChk x0).bind fun t94 =>
(fA t94 2).bind fun t95 =>
(ldO false 1 q19.2 t95).bind fun t96 =>
(lenO t96).bind fun t97 =>
(castI .i64 t97).bind fun n98 =>
(bif decide (x7<n98) then ((nilChk x0).bind fun t99 =>
(fA t99 2).bind fun t100 =>
(ldO false 1 q19.2 t100).bind fun t101 =>
(iS 3 t101 x7).bind fun t102 =>
(fA t102 0).bind fun t103 =>
(ldO false 1 q19.2 t103).bind fun t104 =>
(castI .u32 t104).bind fun n105 =>
(fA x4 0).bind fun t106 =>
(ldO false 1 q19.2 t106).bind fun t107 =>
(castI .u32 t107).bind fun n108 =>
some (n105==n108)) else (some false)).bind fun b109 =>
bif b109 then (
(bSV Try.prog 28 0 []).bind fun t110 =>
(nilChk x0).bind fun t111 =>
(fA t111 2).bind fun t112 =>
(ldO false 1 q19.2 t112).bind fun t113 =>
(apO false 3 24 (6::0::1::0::1::1::1::1::1::0::σ) 63 q19.2 t110 t113).bind fun q114 =>
(nilChk x0).bind fun t115 =>
(fA t115 2).bind fun t116 =>
((stO true 1 (9::0::1::0::1::1::1::1::1::0::σ) q114.2 t116 q114.1).map fun h=>(udf,h)).bind fun q117 =>
(nilChk x0).bind fun t118 =>
(fA t118 2).bind fun t119 =>
(ldO false 1 q117.2 t119).bind fun t120 =>
(nilChk x0).bind fun t121 =>
(fA t121 3).bind fun t122 =>
(ldO false 1 q117.2 t122).bind fun t123 =>
(ldO true 3 q117.2 x4).bind fun t124 =>
(iS 3 t120 x7).bind fun t125 =>
((stO false 3 (13::0::1::1::0::1::1::1::1::1::0::σ) q117.2 t125 t124).map fun h=>(udf,h)).bind fun q126 =>
(iS 1 t123 x7).bind fun t127 =>
((stO true 1 (15::0::1::1::0::1::1::1::1::1::0::σ) q126.2 t127 (.p (.int .i64 n20))).map fun h=>(udf,h)).bind fun q128 =>
fin false σ q128.2 [(.p (.bool true))])
else (
(nilChk x0).bind fun t129 =>
(fA t129 2).bind fun t130 =>
(ldO false 1 q19.2 t130).bind fun t131 =>
(lenO t131).bind fun t132 =>
(castI .i64 t132).bind fun n133 =>
bif decide (n133≥6) then (
fin false σ q19.2 [(.p (.bool false))])
else (
(bSV Try.prog 28 0 []).bind fun t134 =>
(nilChk x0).bind fun t135 =>
(fA t135 2).bind fun t136 =>
(ldO false 1 q19.2 t136).bind fun t137 =>
(slS 3 t137 none (some x7) none).bind fun t138 =>
(ldO true 3 q19.2 x4).bind fun t139 =>
(bSV Try.prog 28 1 [(0,t139)]).bind fun t140 =>
(nilChk x0).bind fun t141 =>
(fA t141 2).bind fun t142 =>
(ldO false 1 q19.2 t142).bind fun t143 =>
(slS 3 t143 (some x7) none none).bind fun t144 =>
(apO false 3 24 (8::0::1::1::1::1::1::1::1::0::σ) 94 q19.2 t134 t138).bind fun q145 =>
need (slS 3 t143 (some x7) none none=some t144) (
need (ldO false 1 q145.2 t142=some t143) (
need (ldO true 3 q145.2 x4=some t139) (
(apO false 3 24 (11::0::1::1::1::1::1::1::1::0::σ) 97 q145.2 q145.1 t140).bind fun q146 =>
need (slS 3 t143 (some x7) none none=some t144) (
need (ldO false 1 q146.2 t142=some t143) (
(apO false 3 24 (18::0::1::1::1::1::1::1::1::0::σ) 104 q146.2 q146.1 t144).bind fun q147 =>
(nilChk x0).bind fun t148 =>
(fA t148 2).bind fun t149 =>
((stO true 1 (21::0::1::1::1::1::1::1::1::0::σ) q147.2 t149 q147.1).map fun h=>(udf,h)).bind fun q150 =>
(bSV Try.prog 37 0 []).bind fun t151 =>
(nilChk x0).bind fun t152 =>
(fA t152 3).bind fun t153 =>
(ldO false 1 q150.2 t153).bind fun t154 =>
(slS 1 t154 none (some x7) none).bind fun t155 =>
(bSV Try.prog 37 1 [(0,(.p (.int .i64 n20)))]).bind fun t156 =>
(nilChk x0).bind fun t157 =>
(fA t157 3).bind fun t158 =>
(ldO false 1 q150.2 t158).bind fun t159 =>
(slS 1 t159 (some x7) none none).bind fun t160 =>
(apO true 1 8 (8::0::1::1::1::1::1::1::1::1::0::σ) 115 q150.2 t151 t155).bind fun q161 =>
need (slS 1 t159 (some x7) none none=some t160) (
need (ldO false 1 q161.2 t158=some t159) (
(apO true 1 8 (11::0::1::1::1::1::1::1::1::1::0::σ) 118 q161.2 q161.1 t156).bind fun q162 =>
need (slS 1 t159 (some x7) none none=some t160) (
need (ldO false 1 q162.2 t158=some t159) (
(apO true 1 8 (18::0::1::1::1::1::1::1::1::1::0::σ) 125 q162.2 q162.1 t160).bind fun q163 =>
(nilChk x0).bind fun t164 =>
(fA t164 3).bind fun t165 =>
((stO true 1 (21::0::1::1::1::1::1::1::1::1::0::σ) q163.2 t165 q163.1).map fun h=>(udf,h)).bind fun q166 =>
fin false σ q166.2 [(.p (.bool true))])))))))))))):=by kernel_rfl
theorem zok (x0:Int) (x1:Int) (h:H):cvBody G rec loop 104 σ [(.p (.int .i64 x0)),(.p (.int .i64 x1))] h =
bif decide (((if 0>x0 then 0 else x0))>(IntKind.wrap .i64 (9223372036854775807-((if 0>x1 then 0 else x1))))) then (
fin false σ (List.replicate 16 []::h) [(.p (.int .i64 9223372036854775807))])
else (
fin false σ (List.replicate 16 []::h) [(.p (.int .i64 (IntKind.wrap .i64 (((if 0>x0 then 0 else x0))+((if 0>x1 then 0 else x1))))))]):=by kernel_rfl
end
end Go.Ev
namespace Go.Ev
open Go.Proofs
set_option linter.unusedVariables false
set_option linter.unusedSimpArgs false
set_option maxRecDepth 100000
section
variable {β α : Type} {Q : β→α→Prop} {K : Exit × Env × H→Option α}
def zat (x0:Int) (x1:Int):Option (Int) :=
bif decide (((if 0>x0 then 0 else x0))>(IntKind.wrap .i64 (9223372036854775807-((if 0>x1 then 0 else x1))))) then (
some (9223372036854775807))
else (
some ((IntKind.wrap .i64 (((if 0>x0 then 0 else x0))+((if 0>x1 then 0 else x1))))))
theorem zrm {h:H} {σ:Stamp} (x0:Int) (x1:Int):Sim (zat x0 x1) (ev G X0 104 σ [(.p (.int .i64 x0)),(.p (.int .i64 x1))] h) (fun r s=>s=([.v (.p (.int .i64 r))],h)):=by
 refine .ev rfl (Sim.ext (zok _ _ _ _ _ _) ?_)
 rw [zat]
 have S0:Fm 16 h [] [] [] (List.replicate 16 []::h):=Fm.start0
 refine .cq ?_ ?_
 ·exact .fin (S0.finN (lC (sI _ _).lv lN)) rfl
 exact .fin (S0.finN (lC (sI _ _).lv lN)) rfl
def z3i {β:Type} (k:Nat) (kE0:Int→Int→z7→z1t→Option β) (x2:Int) (x7:Int) (yg4:z7) (zp0:z1t):Option β:=match k with
| 0=>none
| k+1 =>
(bif decide (x7<((zp0.f_L.length:Int))) then ((ix zp0.f_L x7).bind fun a15 =>
some (decide (a15.Owner<yg4.Owner))) else (some false)).bind fun b23 =>
bif b23 then (
z3i k kE0 x2 (IntKind.wrap .i64 (x7+1)) yg4 zp0)
else (
kE0 x2 x7 yg4 zp0)
def z55 (k:Nat) (x0:z1t) (x1:z7) (x2:Int):Option (Bool×z1t) :=
z3i k (fun r38_2 r38_7 yg8 zp0 =>
(zat r38_2 1000000).bind fun r49 =>
bif decide (r38_2<0) then (
(bif decide (r38_7<((zp0.f_L.length:Int))) then ((ix zp0.f_L r38_7).bind fun a55 =>
some (a55.Owner==yg8.Owner)) else (some false)).bind fun b63 =>
bif b63 then (
(ap 24 (([]:List z7)) zp0.f_L).bind fun a71 =>
(ix a71 r38_7).bind fun a83 =>
(stx a71 r38_7 yg8).bind fun a88 =>
(ix zp0.Until r38_7).bind fun a93 =>
(stx zp0.Until r38_7 (IntKind.wrap .i64 (r38_2+1000000))).bind fun a98 =>
some (true,(⟨zp0.Cap,zp0.Remb,a88,a98⟩:z1t)))
else (
bif decide (((zp0.f_L.length:Int))≥6) then (
some (false,zp0))
else (
(sub zp0.f_L 0 r38_7).bind fun a105 =>
(sub zp0.f_L r38_7 ((zp0.f_L.length:Int))).bind fun a108 =>
(ap 24 (([]:List z7)) a105).bind fun a112 =>
(ap 24 a112 ([yg8])).bind fun a118 =>
(ap 24 a118 a108).bind fun a124 =>
(sub zp0.Until 0 r38_7).bind fun a137 =>
(sub zp0.Until r38_7 ((zp0.Until.length:Int))).bind fun a140 =>
(ap 8 (([]:List Int)) a137).bind fun a144 =>
(ap 8 a144 ([(IntKind.wrap .i64 (r38_2+1000000))])).bind fun a150 =>
(ap 8 a150 a140).bind fun a156 =>
some (true,(⟨zp0.Cap,zp0.Remb,a124,a156⟩:z1t)))))
else (
(bif decide (r38_7<((zp0.f_L.length:Int))) then ((ix zp0.f_L r38_7).bind fun a168 =>
some (a168.Owner==yg8.Owner)) else (some false)).bind fun b176 =>
bif b176 then (
(ap 24 (([]:List z7)) zp0.f_L).bind fun a184 =>
(ix a184 r38_7).bind fun a196 =>
(stx a184 r38_7 yg8).bind fun a201 =>
(ix zp0.Until r38_7).bind fun a206 =>
(stx zp0.Until r38_7 r49).bind fun a211 =>
some (true,(⟨zp0.Cap,zp0.Remb,a201,a211⟩:z1t)))
else (
bif decide (((zp0.f_L.length:Int))≥6) then (
some (false,zp0))
else (
(sub zp0.f_L 0 r38_7).bind fun a218 =>
(sub zp0.f_L r38_7 ((zp0.f_L.length:Int))).bind fun a221 =>
(ap 24 (([]:List z7)) a218).bind fun a225 =>
(ap 24 a225 ([yg8])).bind fun a231 =>
(ap 24 a231 a221).bind fun a237 =>
(sub zp0.Until 0 r38_7).bind fun a250 =>
(sub zp0.Until r38_7 ((zp0.Until.length:Int))).bind fun a253 =>
(ap 8 (([]:List Int)) a250).bind fun a257 =>
(ap 8 a257 ([r49])).bind fun a263 =>
(ap 8 a263 a253).bind fun a269 =>
some (true,(⟨zp0.Cap,zp0.Remb,a237,a269⟩:z1t)))))) x2 0 x1 x0
theorem zfo {h:H} {l0:Loc} {o0:Nat} {kE0:Int→Int→z7→z1t→Option β} (hE0:∀ (q2:Int) (q7:Int) (yg8:z7) (zp0:z1t) (s30:Stamp) (c32:C) (h33:SoC z6 zp0.f_L c32) (h34:Nn c32 3) (c35:C) (h36:SoC (dI .i64) zp0.Until c35) (h37:Nn c35 1) (H28:Go.Ev.H) (_:Fm 128 h [⟨l0,o0,[.v (.p (.int .i64 zp0.Cap)),.v (.p (.int .i64 zp0.Remb)),c32,c35]⟩] [(4,s30,List.map C.v [(.p (.int .u32 yg8.Owner)),(.p (.int .u64 yg8.Rate)),(.p (.int .i64 yg8.Over))])] [] H28),Sim (kE0 q2 q7 yg8 zp0) (K ((.exit 0),(envL [(0,(.ref l0 o0)),(2,(.p (.int .i64 q2))),(4,(.ref ⟨h.length,4,0,s30,[]⟩ 0)),(7,(.p (.int .i64 q7)))]),H28)) Q) (k:Nat):∀ (x2:Int) (x7:Int) (yg4:z7) (zp0:z1t) (s7:Stamp) (c9:C) (h10:SoC z6 zp0.f_L c9) (h11:Nn c9 3) (c12:C) (h13:SoC (dI .i64) zp0.Until c12) (h14:Nn c12 1) (H5:Go.Ev.H) (_:Fm 128 h [⟨l0,o0,[.v (.p (.int .i64 zp0.Cap)),.v (.p (.int .i64 zp0.Remb)),c9,c12]⟩] [(4,s7,List.map C.v [(.p (.int .u32 yg4.Owner)),(.p (.int .u64 yg4.Rate)),(.p (.int .i64 yg4.Over))])] [] H5) {σ:Stamp},Sim (z3i k kE0 x2 x7 yg4 zp0) ((cvL G X0 z81 z84 σ (envL [(0,(.ref l0 o0)),(2,(.p (.int .i64 x2))),(4,(.ref ⟨h.length,4,0,s7,[]⟩ 0)),(7,(.p (.int .i64 x7)))]) H5).bind K) Q:=by
 induction k with
 | zero=>intros;exact .no
 | succ k ih =>
  intro x2 x7 yg4 zp0 s7 c9 h10 h11 c12 h13 h14 H5 S6 σ
  rw [z3i]
  refine .round (Sim.ext (zhx _ _ _ _ _ _ _ _) ?_)
  refine .nc ?_
  refine .fa ?_
  refine .op (h10.ld (S6.atB (i:=0) rfl) (j:=2) rfl) ?_
  refine .op ((h10.sl (S6.atB (i:=0) rfl) (j:=2) rfl).len) ?_
  refine .ci ?_
  refine .ch (P:=fun r y=>r=y) ?_ (fun b23 y24 h25 h26=>?_)
  ·refine .cq ?_ ?_
   ·refine .nc ?_
    refine .fa ?_
    refine .op (h10.ld (S6.atB (i:=0) rfl) (j:=2) rfl) ?_
    refine .bd fun a15 h16=>?_
    refine .op ((h10.sl (S6.atB (i:=0) rfl) (j:=2) rfl).iS h16 rfl) ?_
    obtain ⟨w18,h19,hE17⟩:=(h10.sl (S6.atB (i:=0) rfl) (j:=2) rfl).el h16 rfl
    obtain rfl:=z6.inv h19
    refine .op (hE17.fa (j:=0) (by simp)) ?_
    obtain ⟨w21,h22,hE20⟩:=(h10.sl (S6.atB (i:=0) rfl) (j:=2) rfl).el h16 rfl
    obtain rfl:=z6.inv h22
    refine .op (hE20.ld (j:=0) rfl) ?_
    refine .ci ?_
    refine .fa ?_
    refine .op ((S6.atG (i:=0) rfl).ld (j:=0) rfl) ?_
    refine .ci ?_
    exact .ret rfl rfl
   ·exact .ret rfl rfl
  subst h26
  refine .cq ?_ ?_
  ·exact ih x2 (IntKind.wrap .i64 (x7+1)) yg4 zp0 s7 c9 h10 h11 c12 h13 h14 H5 (S6.wk2 (aC (aM 0 rfl) aN) aN)
  exact hE0 x2 x7 yg4 zp0 s7 c9 h10 h11 c12 h13 h14 H5 (S6.wk2 (aC (aM 0 rfl) aN) aN)
theorem zhz (k:Nat) {h:H} {σ:Stamp} (x0:z1t) {c0_2:C} (hc0_2:SoC z6 x0.f_L c0_2) (hn0_2:Nn c0_2 3) {c0_3:C} (hc0_3:SoC (dI .i64) x0.Until c0_3) (hn0_3:Nn c0_3 1) {l0:Loc} {o0:Nat} (ha0:AtC h l0 o0 ([.v (.p (.int .i64 x0.Cap)),.v (.p (.int .i64 x0.Remb)),c0_2,c0_3])) (x1:z7) {u1:List V} (hu1:z6.R x1 u1) (x2:Int):Sim (z55 k x0 x1 x2) (ev G X0 65 σ [(.ref l0 o0),(.agg u1),(.p (.int .i64 x2))] h) (fun r s=>∃ (cb0_2:C),∃ (cb0_3:C),SoC z6 r.2.f_L cb0_2∧Nn cb0_2 3∧SoC (dI .i64) r.2.Until cb0_3∧Nn cb0_3 1∧s=([.v (.p (.bool r.1))],pts h [⟨l0,o0,[.v (.p (.int .i64 r.2.Cap)),.v (.p (.int .i64 r.2.Remb)),cb0_2,cb0_3]⟩])):=by
 refine .ev rfl (Sim.ext (zfk _ _ _ _ _ _ _) ?_)
 rw [z55]
 obtain rfl:=z6.inv hu1
 have S0:Fm 128 h [⟨l0,o0,[.v (.p (.int .i64 x0.Cap)),.v (.p (.int .i64 x0.Remb)),c0_2,c0_3]⟩] [] [] (List.replicate 128 []::h):=Fm.start1 ha0
 obtain ⟨H1,e2,S3⟩:=S0.box (own:=false) (d:=4) (s:=(0::0::0::σ)) (xs:=[(.p (.int .u32 x1.Owner)),(.p (.int .u64 x1.Rate)),(.p (.int .i64 x1.Over))]) (sC (sI _ _) (sC (sI _ _) (sC (sI _ _) sN))) (by decide) rfl
 refine .op (e2) ?_
 refine .as (zfo ?_ k x2 0 x1 x0 (0::0::0::σ) c0_2 hc0_2 hn0_2 c0_3 hc0_3 hn0_3 H1 (S3.wk2 (aC (aM 0 rfl) aN) aN))
 ·intro r38_2 r38_7 yg8 zp0 s41 c43 h44 h45 c46 h47 h48 H39 S40
  refine .ext (zg0 _ _ _ _ _ _ _ _) ?_
  refine .call (zrm r38_2 1000000) fun r49 cs50 H51 h52 q53=>?_
  cases q53
  refine .ci ?_
  refine .cq ?_ ?_
  ·refine .nc ?_
   refine .fa ?_
   refine .op (h44.ld (S40.atB (i:=0) rfl) (j:=2) rfl) ?_
   refine .op ((h44.sl (S40.atB (i:=0) rfl) (j:=2) rfl).len) ?_
   refine .ci ?_
   refine .ch (P:=fun r y=>r=y) ?_ (fun b63 y64 h65 h66=>?_)
   ·refine .cq ?_ ?_
    ·refine .nc ?_
     refine .fa ?_
     refine .op (h44.ld (S40.atB (i:=0) rfl) (j:=2) rfl) ?_
     refine .bd fun a55 h56=>?_
     refine .op ((h44.sl (S40.atB (i:=0) rfl) (j:=2) rfl).iS h56 rfl) ?_
     obtain ⟨w58,h59,hE57⟩:=(h44.sl (S40.atB (i:=0) rfl) (j:=2) rfl).el h56 rfl
     obtain rfl:=z6.inv h59
     refine .op (hE57.fa (j:=0) (by simp)) ?_
     obtain ⟨w61,h62,hE60⟩:=(h44.sl (S40.atB (i:=0) rfl) (j:=2) rfl).el h56 rfl
     obtain rfl:=z6.inv h62
     refine .op (hE60.ld (j:=0) rfl) ?_
     refine .ci ?_
     refine .fa ?_
     refine .op ((S40.atG (i:=0) rfl).ld (j:=0) rfl) ?_
     refine .ci ?_
     exact .ret rfl rfl
    ·exact .ret rfl rfl
   subst h66
   refine .cq ?_ ?_
   ·have h68:SlF z6 ([]:List z7) (.fz [] 0 3 true):=SlF.lit (cs:=[]) RL.nil rfl rfl true
    refine .op (bldS pN (by kernel_rfl:_=some (vOf h68))) ?_
    refine .nc ?_
    refine .fa ?_
    refine .op (h44.ld (S40.atB (i:=0) rfl) (j:=2) rfl) ?_
    have S70:=S40.nil' z6 [] (e:=3) rfl
    refine .bd fun a71 h72=>?_
    obtain ⟨v73,H74,e75,S76⟩:=S70.app (i:=0) (d:=63) (e:=3) (own:=false) (σ:=(6::0::1::0::1::1::1::1::1::0::σ)) rfl (h44.sl (S70.atB (i:=0) rfl) (j:=2) rfl).y h72 rfl (by decide) (by decide) rfl
    refine .op (e75) ?_
    refine .nc ?_
    refine .fa ?_
    obtain ⟨c80,H77,e78,h81,h82,S79⟩:=S76.mvB (i:=0) (j:=2) (k:=0) (σ:=(9::0::1::0::1::1::1::1::1::0::σ)) rfl rfl rfl rfl rfl
    refine .op (sM e78) ?_
    refine .nc ?_
    refine .fa ?_
    refine .op (h81.ld (S79.atB (i:=0) rfl) (j:=2) rfl) ?_
    refine .nc ?_
    refine .fa ?_
    refine .op (h47.ld (S79.atB (i:=0) rfl) (j:=3) rfl) ?_
    refine .op ((S79.atG (i:=0) rfl).ldVs (j:=0) (xs:=[.p (.int .u32 yg8.Owner),.p (.int .u64 yg8.Rate),.p (.int .i64 yg8.Over)]) rfl rfl (by decide)) ?_
    refine .bd fun a83 h84=>?_
    refine .op ((h81.sl (S79.atB (i:=0) rfl) (j:=2) rfl).iS h84 rfl) ?_
    refine .bd fun a88 h89=>?_
    obtain ⟨c90,H85,e86,h91,h92,S87⟩:=S79.seB (i:=0) (j:=2) (own:=false) (σ:=(13::0::1::1::0::1::1::1::1::1::0::σ)) (nv:=[.p (.int .u32 yg8.Owner),.p (.int .u64 yg8.Rate),.p (.int .i64 yg8.Over)]) (xv:=(.agg [.p (.int .u32 yg8.Owner),.p (.int .u64 yg8.Rate),.p (.int .i64 yg8.Over)])) (n:=3) (e:=3) (off:=0) rfl rfl h81 h82 h84 h89 rfl rfl (by decide) (z28 (sC (sI _ _) (sC (sI _ _) (sC (sI _ _) sN)))) (Dt.whole (show z6.R yg8 [.p (.int .u32 yg8.Owner),.p (.int .u64 yg8.Rate),.p (.int .i64 yg8.Over)] from (z6.mk)) rfl)
    refine .op (sM e86) ?_
    refine .bd fun a93 h94=>?_
    refine .op ((h47.sl (S87.atB (i:=0) rfl) (j:=3) rfl).iS h94 rfl) ?_
    refine .bd fun a98 h99=>?_
    obtain ⟨c100,H95,e96,h101,h102,S97⟩:=S87.seB (i:=0) (j:=3) (own:=true) (σ:=(15::0::1::1::0::1::1::1::1::1::0::σ)) (nv:=[(.p (.int .i64 (IntKind.wrap .i64 (r38_2+1000000))))]) (xv:=(.p (.int .i64 (IntKind.wrap .i64 (r38_2+1000000))))) (n:=1) (e:=1) (off:=0) rfl rfl h47 h48 h94 h99 rfl rfl (by decide) (zra (sI _ _)) (Dt.whole (show (dI .i64).R (IntKind.wrap .i64 (r38_2+1000000)) [(.p (.int .i64 (IntKind.wrap .i64 (r38_2+1000000))))] from rfl) rfl)
    refine .op (sM e96) ?_
    exact .fin (S97.finN (lC (sB _).lv lN)) ⟨c90,c100,h91,(Nq.nn h92),h101,(Nq.nn h102),rfl⟩
   refine .nc ?_
   refine .fa ?_
   refine .op (h44.ld (S40.atB (i:=0) rfl) (j:=2) rfl) ?_
   refine .op ((h44.sl (S40.atB (i:=0) rfl) (j:=2) rfl).len) ?_
   refine .ci ?_
   refine .cq ?_ ?_
   ·exact .fin (S40.finN (lC (sB _).lv lN)) ⟨c43,c46,h44,h45,h47,h48,rfl⟩
   have h104:SlF z6 ([]:List z7) (.fz [] 0 3 true):=SlF.lit (cs:=[]) RL.nil rfl rfl true
   refine .op (bldS pN (by kernel_rfl:_=some (vOf h104))) ?_
   refine .nc ?_
   refine .fa ?_
   refine .op (h44.ld (S40.atB (i:=0) rfl) (j:=2) rfl) ?_
   refine .bd fun a105 h106=>?_
   refine .op ((h44.sl (S40.atB (i:=0) rfl) (j:=2) rfl).slS h106 rfl rfl rfl) ?_
   refine .op ((S40.atG (i:=0) rfl).ldVs (j:=0) (xs:=[.p (.int .u32 yg8.Owner),.p (.int .u64 yg8.Rate),.p (.int .i64 yg8.Over)]) rfl rfl (by decide)) ?_
   have h107:SlF z6 [yg8] (.fz [(.p (.int .u32 yg8.Owner)),(.p (.int .u64 yg8.Rate)),(.p (.int .i64 yg8.Over))] 1 3 true):=SlF.lit (cs:=[(.p (.int .u32 yg8.Owner)),(.p (.int .u64 yg8.Rate)),(.p (.int .i64 yg8.Over))]) (RL.cons (show z6.R yg8 [.p (.int .u32 yg8.Owner),.p (.int .u64 yg8.Rate),.p (.int .i64 yg8.Over)] from (z6.mk)) RL.nil) rfl rfl true
   refine .op (bldS (pC (c:=[.p (.int .u32 yg8.Owner),.p (.int .u64 yg8.Rate),.p (.int .i64 yg8.Over)]) rfl pN) (by kernel_rfl:_=some (vOf h107))) ?_
   refine .nc ?_
   refine .fa ?_
   refine .op (h44.ld (S40.atB (i:=0) rfl) (j:=2) rfl) ?_
   refine .bd fun a108 h109=>?_
   refine .op ((h44.sl (S40.atB (i:=0) rfl) (j:=2) rfl).slS h109 rfl rfl rfl) ?_
   have S111:=S40.nil' z6 [] (e:=3) rfl
   refine .bd fun a112 h113=>?_
   obtain ⟨v114,H115,e116,S117⟩:=S111.app (i:=0) (d:=94) (e:=3) (own:=false) (σ:=(8::0::1::1::1::1::1::1::1::0::σ)) rfl ((h44.sl (S111.atB (i:=0) rfl) (j:=2) rfl).sub h106 (e:=3) rfl).y h113 rfl (by decide) (by decide) rfl
   refine .op (e116) ?_
   refine .nd ((h44.sl (S117.atB (i:=0) rfl) (j:=2) rfl).slS h109 rfl rfl rfl) ?_
   refine .nd (h44.ld (S117.atB (i:=0) rfl) (j:=2) rfl) ?_
   refine .nd ((S117.atG (i:=0) rfl).ldVs (j:=0) (xs:=[.p (.int .u32 yg8.Owner),.p (.int .u64 yg8.Rate),.p (.int .i64 yg8.Over)]) rfl rfl (by decide)) ?_
   refine .bd fun a118 h119=>?_
   obtain ⟨v120,H121,e122,S123⟩:=S117.app (i:=0) (d:=97) (e:=3) (own:=false) (σ:=(11::0::1::1::1::1::1::1::1::0::σ)) rfl (h107.h H115).y h119 rfl (by decide) (by decide) rfl
   refine .op (e122) ?_
   refine .nd ((h44.sl (S123.atB (i:=0) rfl) (j:=2) rfl).slS h109 rfl rfl rfl) ?_
   refine .nd (h44.ld (S123.atB (i:=0) rfl) (j:=2) rfl) ?_
   refine .bd fun a124 h125=>?_
   obtain ⟨v126,H127,e128,S129⟩:=S123.app (i:=0) (d:=104) (e:=3) (own:=false) (σ:=(18::0::1::1::1::1::1::1::1::0::σ)) rfl ((h44.sl (S123.atB (i:=0) rfl) (j:=2) rfl).sub h109 (e:=3) rfl).y h125 rfl (by decide) (by decide) rfl
   refine .op (e128) ?_
   refine .nc ?_
   refine .fa ?_
   obtain ⟨c133,H130,e131,h134,h135,S132⟩:=S129.mvB (i:=0) (j:=2) (k:=0) (σ:=(21::0::1::1::1::1::1::1::1::0::σ)) rfl rfl rfl rfl rfl
   refine .op (sM e131) ?_
   have h136:SlF (dI .i64) ([]:List Int) (.fz [] 0 1 true):=SlF.lit (cs:=[]) RL.nil rfl rfl true
   refine .op (bldS pN (by kernel_rfl:_=some (vOf h136))) ?_
   refine .nc ?_
   refine .fa ?_
   refine .op (h47.ld (S132.atB (i:=0) rfl) (j:=3) rfl) ?_
   refine .bd fun a137 h138=>?_
   refine .op ((h47.sl (S132.atB (i:=0) rfl) (j:=3) rfl).slS h138 rfl rfl rfl) ?_
   have h139:=SlF.int1 .i64 (IntKind.wrap .i64 (r38_2+1000000))
   refine .op (bldS (pC rfl pN) (by kernel_rfl:_=some (vOf h139))) ?_
   refine .nc ?_
   refine .fa ?_
   refine .op (h47.ld (S132.atB (i:=0) rfl) (j:=3) rfl) ?_
   refine .bd fun a140 h141=>?_
   refine .op ((h47.sl (S132.atB (i:=0) rfl) (j:=3) rfl).slS h141 rfl rfl rfl) ?_
   have S143:=S132.nil' (dI .i64) [] (e:=1) rfl
   refine .bd fun a144 h145=>?_
   obtain ⟨v146,H147,e148,S149⟩:=S143.app (i:=0) (d:=115) (e:=1) (own:=true) (σ:=(8::0::1::1::1::1::1::1::1::1::0::σ)) rfl ((h47.sl (S143.atB (i:=0) rfl) (j:=3) rfl).sub h138 (e:=1) rfl).y h145 rfl (by decide) (by decide) rfl
   refine .op (e148) ?_
   refine .nd ((h47.sl (S149.atB (i:=0) rfl) (j:=3) rfl).slS h141 rfl rfl rfl) ?_
   refine .nd (h47.ld (S149.atB (i:=0) rfl) (j:=3) rfl) ?_
   refine .bd fun a150 h151=>?_
   obtain ⟨v152,H153,e154,S155⟩:=S149.app (i:=0) (d:=118) (e:=1) (own:=true) (σ:=(11::0::1::1::1::1::1::1::1::1::0::σ)) rfl (h139.h H147).y h151 rfl (by decide) (by decide) rfl
   refine .op (e154) ?_
   refine .nd ((h47.sl (S155.atB (i:=0) rfl) (j:=3) rfl).slS h141 rfl rfl rfl) ?_
   refine .nd (h47.ld (S155.atB (i:=0) rfl) (j:=3) rfl) ?_
   refine .bd fun a156 h157=>?_
   obtain ⟨v158,H159,e160,S161⟩:=S155.app (i:=0) (d:=125) (e:=1) (own:=true) (σ:=(18::0::1::1::1::1::1::1::1::1::0::σ)) rfl ((h47.sl (S155.atB (i:=0) rfl) (j:=3) rfl).sub h141 (e:=1) rfl).y h157 rfl (by decide) (by decide) rfl
   refine .op (e160) ?_
   refine .nc ?_
   refine .fa ?_
   obtain ⟨c165,H162,e163,h166,h167,S164⟩:=S161.mvB (i:=0) (j:=3) (k:=0) (σ:=(21::0::1::1::1::1::1::1::1::1::0::σ)) rfl rfl rfl rfl rfl
   refine .op (sM e163) ?_
   exact .fin (S164.finN (lC (sB _).lv lN)) ⟨c133,c165,h134,h135,h166,h167,rfl⟩
  refine .nc ?_
  refine .fa ?_
  refine .op (h44.ld (S40.atB (i:=0) rfl) (j:=2) rfl) ?_
  refine .op ((h44.sl (S40.atB (i:=0) rfl) (j:=2) rfl).len) ?_
  refine .ci ?_
  refine .ch (P:=fun r y=>r=y) ?_ (fun b176 y177 h178 h179=>?_)
  ·refine .cq ?_ ?_
   ·refine .nc ?_
    refine .fa ?_
    refine .op (h44.ld (S40.atB (i:=0) rfl) (j:=2) rfl) ?_
    refine .bd fun a168 h169=>?_
    refine .op ((h44.sl (S40.atB (i:=0) rfl) (j:=2) rfl).iS h169 rfl) ?_
    obtain ⟨w171,h172,hE170⟩:=(h44.sl (S40.atB (i:=0) rfl) (j:=2) rfl).el h169 rfl
    obtain rfl:=z6.inv h172
    refine .op (hE170.fa (j:=0) (by simp)) ?_
    obtain ⟨w174,h175,hE173⟩:=(h44.sl (S40.atB (i:=0) rfl) (j:=2) rfl).el h169 rfl
    obtain rfl:=z6.inv h175
    refine .op (hE173.ld (j:=0) rfl) ?_
    refine .ci ?_
    refine .fa ?_
    refine .op ((S40.atG (i:=0) rfl).ld (j:=0) rfl) ?_
    refine .ci ?_
    exact .ret rfl rfl
   ·exact .ret rfl rfl
  subst h179
  refine .cq ?_ ?_
  ·have h181:SlF z6 ([]:List z7) (.fz [] 0 3 true):=SlF.lit (cs:=[]) RL.nil rfl rfl true
   refine .op (bldS pN (by kernel_rfl:_=some (vOf h181))) ?_
   refine .nc ?_
   refine .fa ?_
   refine .op (h44.ld (S40.atB (i:=0) rfl) (j:=2) rfl) ?_
   have S183:=S40.nil' z6 [] (e:=3) rfl
   refine .bd fun a184 h185=>?_
   obtain ⟨v186,H187,e188,S189⟩:=S183.app (i:=0) (d:=63) (e:=3) (own:=false) (σ:=(6::0::1::0::1::1::1::1::1::0::σ)) rfl (h44.sl (S183.atB (i:=0) rfl) (j:=2) rfl).y h185 rfl (by decide) (by decide) rfl
   refine .op (e188) ?_
   refine .nc ?_
   refine .fa ?_
   obtain ⟨c193,H190,e191,h194,h195,S192⟩:=S189.mvB (i:=0) (j:=2) (k:=0) (σ:=(9::0::1::0::1::1::1::1::1::0::σ)) rfl rfl rfl rfl rfl
   refine .op (sM e191) ?_
   refine .nc ?_
   refine .fa ?_
   refine .op (h194.ld (S192.atB (i:=0) rfl) (j:=2) rfl) ?_
   refine .nc ?_
   refine .fa ?_
   refine .op (h47.ld (S192.atB (i:=0) rfl) (j:=3) rfl) ?_
   refine .op ((S192.atG (i:=0) rfl).ldVs (j:=0) (xs:=[.p (.int .u32 yg8.Owner),.p (.int .u64 yg8.Rate),.p (.int .i64 yg8.Over)]) rfl rfl (by decide)) ?_
   refine .bd fun a196 h197=>?_
   refine .op ((h194.sl (S192.atB (i:=0) rfl) (j:=2) rfl).iS h197 rfl) ?_
   refine .bd fun a201 h202=>?_
   obtain ⟨c203,H198,e199,h204,h205,S200⟩:=S192.seB (i:=0) (j:=2) (own:=false) (σ:=(13::0::1::1::0::1::1::1::1::1::0::σ)) (nv:=[.p (.int .u32 yg8.Owner),.p (.int .u64 yg8.Rate),.p (.int .i64 yg8.Over)]) (xv:=(.agg [.p (.int .u32 yg8.Owner),.p (.int .u64 yg8.Rate),.p (.int .i64 yg8.Over)])) (n:=3) (e:=3) (off:=0) rfl rfl h194 h195 h197 h202 rfl rfl (by decide) (z28 (sC (sI _ _) (sC (sI _ _) (sC (sI _ _) sN)))) (Dt.whole (show z6.R yg8 [.p (.int .u32 yg8.Owner),.p (.int .u64 yg8.Rate),.p (.int .i64 yg8.Over)] from (z6.mk)) rfl)
   refine .op (sM e199) ?_
   refine .bd fun a206 h207=>?_
   refine .op ((h47.sl (S200.atB (i:=0) rfl) (j:=3) rfl).iS h207 rfl) ?_
   refine .bd fun a211 h212=>?_
   obtain ⟨c213,H208,e209,h214,h215,S210⟩:=S200.seB (i:=0) (j:=3) (own:=true) (σ:=(15::0::1::1::0::1::1::1::1::1::0::σ)) (nv:=[(.p (.int .i64 r49))]) (xv:=(.p (.int .i64 r49))) (n:=1) (e:=1) (off:=0) rfl rfl h47 h48 h207 h212 rfl rfl (by decide) (zra (sI _ _)) (Dt.whole (show (dI .i64).R r49 [(.p (.int .i64 r49))] from rfl) rfl)
   refine .op (sM e209) ?_
   exact .fin (S210.finN (lC (sB _).lv lN)) ⟨c203,c213,h204,(Nq.nn h205),h214,(Nq.nn h215),rfl⟩
  refine .nc ?_
  refine .fa ?_
  refine .op (h44.ld (S40.atB (i:=0) rfl) (j:=2) rfl) ?_
  refine .op ((h44.sl (S40.atB (i:=0) rfl) (j:=2) rfl).len) ?_
  refine .ci ?_
  refine .cq ?_ ?_
  ·exact .fin (S40.finN (lC (sB _).lv lN)) ⟨c43,c46,h44,h45,h47,h48,rfl⟩
  have h217:SlF z6 ([]:List z7) (.fz [] 0 3 true):=SlF.lit (cs:=[]) RL.nil rfl rfl true
  refine .op (bldS pN (by kernel_rfl:_=some (vOf h217))) ?_
  refine .nc ?_
  refine .fa ?_
  refine .op (h44.ld (S40.atB (i:=0) rfl) (j:=2) rfl) ?_
  refine .bd fun a218 h219=>?_
  refine .op ((h44.sl (S40.atB (i:=0) rfl) (j:=2) rfl).slS h219 rfl rfl rfl) ?_
  refine .op ((S40.atG (i:=0) rfl).ldVs (j:=0) (xs:=[.p (.int .u32 yg8.Owner),.p (.int .u64 yg8.Rate),.p (.int .i64 yg8.Over)]) rfl rfl (by decide)) ?_
  have h220:SlF z6 [yg8] (.fz [(.p (.int .u32 yg8.Owner)),(.p (.int .u64 yg8.Rate)),(.p (.int .i64 yg8.Over))] 1 3 true):=SlF.lit (cs:=[(.p (.int .u32 yg8.Owner)),(.p (.int .u64 yg8.Rate)),(.p (.int .i64 yg8.Over))]) (RL.cons (show z6.R yg8 [.p (.int .u32 yg8.Owner),.p (.int .u64 yg8.Rate),.p (.int .i64 yg8.Over)] from (z6.mk)) RL.nil) rfl rfl true
  refine .op (bldS (pC (c:=[.p (.int .u32 yg8.Owner),.p (.int .u64 yg8.Rate),.p (.int .i64 yg8.Over)]) rfl pN) (by kernel_rfl:_=some (vOf h220))) ?_
  refine .nc ?_
  refine .fa ?_
  refine .op (h44.ld (S40.atB (i:=0) rfl) (j:=2) rfl) ?_
  refine .bd fun a221 h222=>?_
  refine .op ((h44.sl (S40.atB (i:=0) rfl) (j:=2) rfl).slS h222 rfl rfl rfl) ?_
  have S224:=S40.nil' z6 [] (e:=3) rfl
  refine .bd fun a225 h226=>?_
  obtain ⟨v227,H228,e229,S230⟩:=S224.app (i:=0) (d:=94) (e:=3) (own:=false) (σ:=(8::0::1::1::1::1::1::1::1::0::σ)) rfl ((h44.sl (S224.atB (i:=0) rfl) (j:=2) rfl).sub h219 (e:=3) rfl).y h226 rfl (by decide) (by decide) rfl
  refine .op (e229) ?_
  refine .nd ((h44.sl (S230.atB (i:=0) rfl) (j:=2) rfl).slS h222 rfl rfl rfl) ?_
  refine .nd (h44.ld (S230.atB (i:=0) rfl) (j:=2) rfl) ?_
  refine .nd ((S230.atG (i:=0) rfl).ldVs (j:=0) (xs:=[.p (.int .u32 yg8.Owner),.p (.int .u64 yg8.Rate),.p (.int .i64 yg8.Over)]) rfl rfl (by decide)) ?_
  refine .bd fun a231 h232=>?_
  obtain ⟨v233,H234,e235,S236⟩:=S230.app (i:=0) (d:=97) (e:=3) (own:=false) (σ:=(11::0::1::1::1::1::1::1::1::0::σ)) rfl (h220.h H228).y h232 rfl (by decide) (by decide) rfl
  refine .op (e235) ?_
  refine .nd ((h44.sl (S236.atB (i:=0) rfl) (j:=2) rfl).slS h222 rfl rfl rfl) ?_
  refine .nd (h44.ld (S236.atB (i:=0) rfl) (j:=2) rfl) ?_
  refine .bd fun a237 h238=>?_
  obtain ⟨v239,H240,e241,S242⟩:=S236.app (i:=0) (d:=104) (e:=3) (own:=false) (σ:=(18::0::1::1::1::1::1::1::1::0::σ)) rfl ((h44.sl (S236.atB (i:=0) rfl) (j:=2) rfl).sub h222 (e:=3) rfl).y h238 rfl (by decide) (by decide) rfl
  refine .op (e241) ?_
  refine .nc ?_
  refine .fa ?_
  obtain ⟨c246,H243,e244,h247,h248,S245⟩:=S242.mvB (i:=0) (j:=2) (k:=0) (σ:=(21::0::1::1::1::1::1::1::1::0::σ)) rfl rfl rfl rfl rfl
  refine .op (sM e244) ?_
  have h249:SlF (dI .i64) ([]:List Int) (.fz [] 0 1 true):=SlF.lit (cs:=[]) RL.nil rfl rfl true
  refine .op (bldS pN (by kernel_rfl:_=some (vOf h249))) ?_
  refine .nc ?_
  refine .fa ?_
  refine .op (h47.ld (S245.atB (i:=0) rfl) (j:=3) rfl) ?_
  refine .bd fun a250 h251=>?_
  refine .op ((h47.sl (S245.atB (i:=0) rfl) (j:=3) rfl).slS h251 rfl rfl rfl) ?_
  have h252:=SlF.int1 .i64 r49
  refine .op (bldS (pC rfl pN) (by kernel_rfl:_=some (vOf h252))) ?_
  refine .nc ?_
  refine .fa ?_
  refine .op (h47.ld (S245.atB (i:=0) rfl) (j:=3) rfl) ?_
  refine .bd fun a253 h254=>?_
  refine .op ((h47.sl (S245.atB (i:=0) rfl) (j:=3) rfl).slS h254 rfl rfl rfl) ?_
  have S256:=S245.nil' (dI .i64) [] (e:=1) rfl
  refine .bd fun a257 h258=>?_
  obtain ⟨v259,H260,e261,S262⟩:=S256.app (i:=0) (d:=115) (e:=1) (own:=true) (σ:=(8::0::1::1::1::1::1::1::1::1::0::σ)) rfl ((h47.sl (S256.atB (i:=0) rfl) (j:=3) rfl).sub h251 (e:=1) rfl).y h258 rfl (by decide) (by decide) rfl
  refine .op (e261) ?_
  refine .nd ((h47.sl (S262.atB (i:=0) rfl) (j:=3) rfl).slS h254 rfl rfl rfl) ?_
  refine .nd (h47.ld (S262.atB (i:=0) rfl) (j:=3) rfl) ?_
  refine .bd fun a263 h264=>?_
  obtain ⟨v265,H266,e267,S268⟩:=S262.app (i:=0) (d:=118) (e:=1) (own:=true) (σ:=(11::0::1::1::1::1::1::1::1::1::0::σ)) rfl (h252.h H260).y h264 rfl (by decide) (by decide) rfl
  refine .op (e267) ?_
  refine .nd ((h47.sl (S268.atB (i:=0) rfl) (j:=3) rfl).slS h254 rfl rfl rfl) ?_
  refine .nd (h47.ld (S268.atB (i:=0) rfl) (j:=3) rfl) ?_
  refine .bd fun a269 h270=>?_
  obtain ⟨v271,H272,e273,S274⟩:=S268.app (i:=0) (d:=125) (e:=1) (own:=true) (σ:=(18::0::1::1::1::1::1::1::1::1::0::σ)) rfl ((h47.sl (S268.atB (i:=0) rfl) (j:=3) rfl).sub h254 (e:=1) rfl).y h270 rfl (by decide) (by decide) rfl
  refine .op (e273) ?_
  refine .nc ?_
  refine .fa ?_
  obtain ⟨c278,H275,e276,h279,h280,S277⟩:=S274.mvB (i:=0) (j:=3) (k:=0) (σ:=(21::0::1::1::1::1::1::1::1::1::0::σ)) rfl rfl rfl rfl rfl
  refine .op (sM e276) ?_
  exact .fin (S277.finN (lC (sB _).lv lN)) ⟨c246,c278,h247,h248,h279,h280,rfl⟩
end
end Go.Ev
namespace Go.Ev
open Go.Proofs
set_option linter.unusedVariables false
set_option linter.unusedSimpArgs false
set_option maxRecDepth 100000
noncomputable section
abbrev KT37:=Exit→Env→H→Option (List C × H)
variable (rec : CallF) (loop : LoopV) (σ : Stamp)
theorem zn2 (x0:Int) (h:H):cvBody G rec loop 63 σ [(.p (.int .i64 x0))] h =
(buildV Try.prog 95 [(0,(.p (.int .i64 ((if 1>((if 1099511627776<x0 then 1099511627776 else x0)) then 1 else ((if 1099511627776<x0 then 1099511627776 else x0))))))),(1,(.p (.int .i64 (-1))))]).bind fun t1 =>
(boxO true (4::0::1::0::σ) 7 (List.replicate 8 []::h) t1).bind fun q2 =>
fin false σ q2.2 [q2.1]:=by kernel_rfl
end
end Go.Ev
namespace Go.Ev
open Go.Proofs
set_option linter.unusedVariables false
set_option linter.unusedSimpArgs false
set_option maxRecDepth 100000
section
variable {β α : Type} {Q : β→α→Prop} {K : Exit × Env × H→Option α}
def zcu (x0:Int):Option (z1t) :=
some ((⟨((if 1>((if 1099511627776<x0 then 1099511627776 else x0)) then 1 else ((if 1099511627776<x0 then 1099511627776 else x0)))),(-1),(([]:List z7)),(([]:List Int))⟩:z1t))
theorem zq8 {h:H} {σ:Stamp} (x0:Int):Sim (zcu x0) (ev G X0 63 σ [(.p (.int .i64 x0))] h) (fun r s=>∃ (s0:Stamp),∃ (cr0_2:C),∃ (cr0_3:C),SoC z6 r.f_L cr0_2∧Nn cr0_2 3∧SoC (dI .i64) r.Until cr0_3∧Nn cr0_3 1∧s=([.own s0 [.v (.p (.int .i64 r.Cap)),.v (.p (.int .i64 r.Remb)),cr0_2,cr0_3]],h)):=by
 refine .ev rfl (Sim.ext (zn2 _ _ _ _ _) ?_)
 rw [zcu]
 have S0:Fm 8 h [] [] [] (List.replicate 8 []::h):=Fm.start0
 refine .op (bldV (pC rfl (pC rfl pN)) (by kernel_rfl:_=some (.agg [.p (.int .i64 ((if 1>((if 1099511627776<x0 then 1099511627776 else x0)) then 1 else ((if 1099511627776<x0 then 1099511627776 else x0))))),.p (.int .i64 (-1)),.p (.slice none 0 0),.p (.slice none 0 0)]))) ?_
 obtain ⟨H1,e2,S3⟩:=S0.box (own:=true) (d:=7) (s:=(4::0::1::0::σ)) (xs:=[.p (.int .i64 ((if 1>((if 1099511627776<x0 then 1099511627776 else x0)) then 1 else ((if 1099511627776<x0 then 1099511627776 else x0))))),.p (.int .i64 (-1)),.p (.slice none 0 0),.p (.slice none 0 0)]) (sC (sI _ _) (sC (sI _ _) (sC (SlF.nil z6).still (sC (SlF.nil (dI .i64)).still sN)))) (by decide) rfl
 refine .op (e2) ?_
 obtain ⟨H5,e6,S7⟩:=S3.expG (i:=0) (τ:=0::1::σ) rfl rfl
 exact .fin (S7.finE (Ex.st e6 Ex.nil)) ⟨(4::0::1::0::σ),(.v (.p (.slice none 0 0))),(.v (.p (.slice none 0 0))),(SoC.frz (SlF.nil z6)),(fun v h=>by cases h;simp),(SoC.frz (SlF.nil (dI .i64))),(fun v h=>by cases h;simp),rfl⟩
def z4g {β:Type} (k:Nat) (kE0:z16→z1t→Option β) (kE1:Bool→Option β) (x1:(List z27)) (x7:Int) (yg14:z16) (yg30:z1t):Option β:=match k with
| 0=>none
| k+1 =>
(bif decide (x7<((x1.length:Int))) then (some (decide (x7<100))) else (some false)).bind fun b49 =>
bif b49 then (
(ix x1 x7).bind fun a54 =>
bif a54.Kind==3 then (
(z5m yg14 a54.T.Rate).bind fun r67 =>
(z1z k r67).bind fun r80 =>
(z2u k (⟨yg30.Cap,(IntKind.wrap .i64 ((if 1099511627776<(IntKind.wrap .u64 (Int.tdiv a54.T.Rate 8)) then 1099511627776 else (IntKind.wrap .u64 (Int.tdiv a54.T.Rate 8))))),yg30.f_L,yg30.Until⟩:z1t)).bind fun r85 =>
(bif r80 != r85 then (some true) else ((z2e r67).bind fun r90 =>
(z3e k r90 yg30.f_L).bind fun r97 =>
some (!r97))).bind fun b102 =>
(bif b102 then (some true) else ((z2t k r67).bind fun r106 =>
(z5y k yg30.f_L).bind fun r113 =>
(z3e k r106 r113).bind fun r120 =>
some (!r120))).bind fun b125 =>
bif b125 then (
kE1 false)
else (
z4g k kE0 kE1 x1 (IntKind.wrap .i64 (x7+1)) r67 ((⟨yg30.Cap,(IntKind.wrap .i64 ((if 1099511627776<(IntKind.wrap .u64 (Int.tdiv a54.T.Rate 8)) then 1099511627776 else (IntKind.wrap .u64 (Int.tdiv a54.T.Rate 8))))),yg30.f_L,yg30.Until⟩:z1t))))
else (
bif a54.Kind==4 then (
(z3n k yg14 a54.N).bind fun r131 =>
(z4w k yg30 a54.N).bind fun r141 =>
bif r131.1 != r141.1 then (
kE1 false)
else (
(z1z k r131.2).bind fun r154 =>
(z2u k r141.2).bind fun r159 =>
(bif r154 != r159 then (some true) else ((z2e r131.2).bind fun r164 =>
(z3e k r164 r141.2.f_L).bind fun r171 =>
some (!r171))).bind fun b176 =>
(bif b176 then (some true) else ((z2t k r131.2).bind fun r180 =>
(z5y k r141.2.f_L).bind fun r187 =>
(z3e k r180 r187).bind fun r194 =>
some (!r194))).bind fun b199 =>
bif b199 then (
kE1 false)
else (
z4g k kE0 kE1 x1 (IntKind.wrap .i64 (x7+1)) r131.2 r141.2)))
else (
bif a54.Kind==5 then (
(z3n k yg14 a54.N).bind fun r205 =>
(z4w k yg30 a54.N).bind fun r215 =>
bif r205.1 != r215.1 then (
kE1 false)
else (
(z1z k r205.2).bind fun r228 =>
(z2u k r215.2).bind fun r233 =>
(bif r228 != r233 then (some true) else ((z2e r205.2).bind fun r238 =>
(z3e k r238 r215.2.f_L).bind fun r245 =>
some (!r245))).bind fun b250 =>
(bif b250 then (some true) else ((z2t k r205.2).bind fun r254 =>
(z5y k r215.2.f_L).bind fun r261 =>
(z3e k r254 r261).bind fun r268 =>
some (!r268))).bind fun b273 =>
bif b273 then (
kE1 false)
else (
z4g k kE0 kE1 x1 (IntKind.wrap .i64 (x7+1)) r205.2 r215.2)))
else (
(z4k k yg14 a54.T a54.N).bind fun r278 =>
(z55 k yg30 a54.T a54.N).bind fun r288 =>
bif !(r278.1==r288.1) then (
kE1 false)
else (
(z1z k r278.2).bind fun r301 =>
(z2u k r288.2).bind fun r306 =>
(bif r301 != r306 then (some true) else ((z2e r278.2).bind fun r311 =>
(z3e k r311 r288.2.f_L).bind fun r318 =>
some (!r318))).bind fun b323 =>
(bif b323 then (some true) else ((z2t k r278.2).bind fun r327 =>
(z5y k r288.2.f_L).bind fun r334 =>
(z3e k r327 r334).bind fun r341 =>
some (!r341))).bind fun b346 =>
bif b346 then (
kE1 false)
else (
z4g k kE0 kE1 x1 (IntKind.wrap .i64 (x7+1)) r278.2 r288.2))))))
else (
kE0 yg14 yg30)
def z6s (k:Nat) (x0:Int) (x1:(List z27)):Option (Bool) :=
(zbo x0).bind fun r1 =>
(zcu x0).bind fun r15 =>
z4g k (fun yg40 yg48 =>
(bif true then ((z1z k yg40).bind fun r386 =>
(z2u k yg48).bind fun r391 =>
some (r386==r391)) else (some false)).bind fun b396 =>
some (b396)) (fun r400_4 =>
some (r400_4)) x1 0 r1 r15
theorem zlj {h:H}  {kE0:z16→z1t→Option β} {kE1:Bool→Option β} (hE0:∀ (yg40:z16) (yg48:z1t) (c353:C) (h354:SoC z6 yg40.tuples c353) (h355:Nn c353 3) (s355:Stamp) (c355_0:C) (hc355_0:SoC z5 yg40.ends.l c355_0) (hn355_0:Nn c355_0 2) (s357:Stamp) (c359:C) (h360:SoC z6 yg48.f_L c359) (h361:Nn c359 3) (c362:C) (h363:SoC (dI .i64) yg48.Until c362) (h364:Nn c362 1) (s365:Stamp) (H351:Go.Ev.H) (_:Fm 107 h [] [(10,s357,[.v (.p (.int .i64 yg40.cap)),.v (.p (.int .u64 yg40.remb)),.v (.p (.bool yg40.told)),c353,.own s355 ([c355_0])]),(12,s365,[.v (.p (.int .i64 yg48.Cap)),.v (.p (.int .i64 yg48.Remb)),c359,c362])] [] H351),Sim (kE0 yg40 yg48) (K ((.exit 0),(envL [(5,(.ref ⟨h.length,10,0,s357,[]⟩ 0)),(6,(.ref ⟨h.length,12,0,s365,[]⟩ 0))]),H351)) Q) (hE1:∀ (q4:Bool) (H367:Go.Ev.H) (_:Fm 107 h [] [] [] H367),Sim (kE1 q4) (K (.ret,(envL [(4,(.p (.bool q4)))]),H367)) Q) (k:Nat):∀ (x1:(List z27)) (x7:Int) (yg14:z16) (yg30:z1t) (v33:V) (h34:SlH h z2m x1 v33) (c35:C) (h36:SoC z6 yg14.tuples c35) (h37:Nn c35 3) (s37:Stamp) (c37_0:C) (hc37_0:SoC z5 yg14.ends.l c37_0) (hn37_0:Nn c37_0 2) (s39:Stamp) (c41:C) (h42:SoC z6 yg30.f_L c41) (h43:Nn c41 3) (c44:C) (h45:SoC (dI .i64) yg30.Until c44) (h46:Nn c44 1) (s47:Stamp) (H31:Go.Ev.H) (_:Fm 107 h [] [(10,s39,[.v (.p (.int .i64 yg14.cap)),.v (.p (.int .u64 yg14.remb)),.v (.p (.bool yg14.told)),c35,.own s37 ([c37_0])]),(12,s47,[.v (.p (.int .i64 yg30.Cap)),.v (.p (.int .i64 yg30.Remb)),c41,c44])] [] H31) {σ:Stamp},Sim (z4g k kE0 kE1 x1 x7 yg14 yg30) ((cvL G X0 z6v z77 σ (envL [(1,v33),(5,(.ref ⟨h.length,10,0,s39,[]⟩ 0)),(6,(.ref ⟨h.length,12,0,s47,[]⟩ 0)),(7,(.p (.int .i64 x7)))]) H31).bind K) Q:=by
 induction k with
 | zero=>intros;exact .no
 | succ k ih =>
  intro x1 x7 yg14 yg30 v33 h34 c35 h36 h37 s37 c37_0 hc37_0 hn37_0 s39 c41 h42 h43 c44 h45 h46 s47 H31 S32 σ
  rw [z4g]
  refine .round (Sim.ext (zou _ _ _ _ _ _ _ _) ?_)
  refine .op ((S32.low h34).len) ?_
  refine .ci ?_
  refine .ch (P:=fun r y=>r=y) ?_ (fun b49 y50 h51 h52=>?_)
  ·refine .cq ?_ ?_
   ·exact .ret rfl rfl
   ·exact .ret rfl rfl
  subst h52
  refine .cq ?_ ?_
  ·refine .bd fun a54 h55=>?_
   refine .op ((S32.low h34).iS h55 rfl) ?_
   obtain ⟨w57,h58,hE56⟩:=(S32.low h34).el h55 rfl
   obtain rfl:=z2m.inv h58
   refine .op (hE56.all (by simp)) ?_
   obtain ⟨H59,e60,S61⟩:=S32.al (d:=8) (s:=(4::0::0::1::0::σ)) (z:=[(.p (.int .i64 0)),(.p (.int .u32 0)),(.p (.int .u64 0)),(.p (.int .i64 0)),(.p (.int .i64 0))]) (by decide) rfl
   refine .op (congrArg some e60) ?_
   obtain ⟨H63,e64,S65⟩:=S61.stGv (i:=0) (j:=0) (own:=false) (σ:=(5::0::0::1::0::σ)) (xs:=[.p (.int .i64 a54.Kind),.p (.int .u32 a54.T.Owner),.p (.int .u64 a54.T.Rate),.p (.int .i64 a54.T.Over),.p (.int .i64 a54.N)]) rfl rfl (sC (sI _ _) (sC (sI _ _) (sC (sI _ _) (sC (sI _ _) (sC (sI _ _) sN))))) rfl rfl
   refine .op (sM e64) ?_
   refine .op ((by kernel_rfl:_=some (.p (.bool false)))) ?_
   refine .ab ?_
   refine .cdf rfl ?_
   refine .fa ?_
   refine .op ((S65.atG (i:=0) rfl).ld (j:=0) rfl) ?_
   refine .ci ?_
   refine .cq ?_ ?_
   ·refine .fa ?_
    refine .fa ?_
    refine .op ((S65.atG (i:=0) rfl).ld (j:=2) rfl) ?_
    refine .ci ?_
    refine .call (zch yg14 h36 h37 hc37_0 hn37_0 (S65.atG (i:=1) rfl) a54.T.Rate) fun r67 cs68 H69 h70 q71=>?_
    obtain ⟨c72,s74,c74_0,h73,h74,hc74_0,hn74_0,q71⟩:=q71
    cases q71
    have S76:=S65.setG (i:=1) (cs':=[.v (.p (.int .i64 r67.cap)),.v (.p (.int .u64 r67.remb)),.v (.p (.bool r67.told)),c72,.own s74 ([c74_0])]) rfl rfl rfl
    refine .fa ?_
    refine .fa ?_
    refine .op ((S76.atG (i:=0) rfl).ld (j:=2) rfl) ?_
    refine .ci ?_
    refine .nc ?_
    refine .fa ?_
    obtain ⟨H77,e78,S79⟩:=S76.stG (i:=2) (j:=1) (own:=true) (σ:=(9::1::1::1::0::1::1::0::1::0::σ)) (x:=(.p (.int .i64 (IntKind.wrap .i64 ((if 1099511627776<(IntKind.wrap .u64 (Int.tdiv a54.T.Rate 8)) then 1099511627776 else (IntKind.wrap .u64 (Int.tdiv a54.T.Rate 8)))))))) rfl rfl (sI _ _) rfl
    refine .op (sM e78) ?_
    refine .call (z2s k r67 h73 h74 hc74_0 hn74_0 (S79.atG (i:=1) rfl)) fun r80 cs81 H82 h83 q84=>?_
    cases q84
    refine .ci ?_
    refine .call (z5x k (⟨yg30.Cap,(IntKind.wrap .i64 ((if 1099511627776<(IntKind.wrap .u64 (Int.tdiv a54.T.Rate 8)) then 1099511627776 else (IntKind.wrap .u64 (Int.tdiv a54.T.Rate 8))))),yg30.f_L,yg30.Until⟩:z1t) h42 h43 h45 h46 (S79.atG (i:=2) rfl)) fun r85 cs86 H87 h88 q89=>?_
    cases q89
    refine .ci ?_
    refine .ch (P:=fun r y=>(.p (.bool r),H77)=y) ?_ (fun b102 y103 h104 h105=>?_)
    ·refine .cq ?_ ?_
     ·exact .ret rfl rfl
     ·refine .nc ?_
      refine .fa ?_
      refine .op (h42.ld (S79.atG (i:=2) rfl) (j:=2) rfl) ?_
      refine .call (z4s r67 h73 h74 hc74_0 hn74_0 (S79.atG (i:=1) rfl)) fun r90 cs91 H92 h93 q94=>?_
      obtain ⟨v95,h96,q94⟩:=q94
      cases q94
      refine .nd (h42.ld (S79.atG (i:=2) rfl) (j:=2) rfl) ?_
      refine .call (z54 k r90 (h96.h H77) yg30.f_L (h42.sl (S79.atG (i:=2) rfl) (j:=2) rfl)) fun r97 cs98 H99 h100 q101=>?_
      cases q101
      refine .ab ?_
      exact .ret rfl rfl
    subst h105
    refine .ab ?_
    refine .ch (P:=fun r y=>(.p (.bool r),H77)=y) ?_ (fun b125 y126 h127 h128=>?_)
    ·refine .cq ?_ ?_
     ·exact .ret rfl rfl
     ·refine .nc ?_
      refine .fa ?_
      refine .op (h42.ld (S79.atG (i:=2) rfl) (j:=2) rfl) ?_
      refine .call (z5l k r67 h73 h74 hc74_0 hn74_0 (S79.atG (i:=1) rfl)) fun r106 cs107 H108 h109 q110=>?_
      obtain ⟨v111,h112,q110⟩:=q110
      cases q110
      refine .nd (h42.ld (S79.atG (i:=2) rfl) (j:=2) rfl) ?_
      refine .call (zdf k yg30.f_L (h42.sl (S79.atG (i:=2) rfl) (j:=2) rfl)) fun r113 cs114 H115 h116 q117=>?_
      obtain ⟨v118,h119,q117⟩:=q117
      cases q117
      refine .call (z54 k r106 (h112.h H77) r113 (h119.h H77)) fun r120 cs121 H122 h123 q124=>?_
      cases q124
      refine .ab ?_
      exact .ret rfl rfl
    subst h128
    refine .ab ?_
    refine .cq ?_ ?_
    ·exact hE1 false H77 (S79.wk2 aN aN)
    exact ih x1 (IntKind.wrap .i64 (x7+1)) r67 ((⟨yg30.Cap,(IntKind.wrap .i64 ((if 1099511627776<(IntKind.wrap .u64 (Int.tdiv a54.T.Rate 8)) then 1099511627776 else (IntKind.wrap .u64 (Int.tdiv a54.T.Rate 8))))),yg30.f_L,yg30.Until⟩:z1t)) v33 h34 c72 h73 h74 s74 c74_0 hc74_0 hn74_0 s39 c41 h42 h43 c44 h45 h46 s47 H77 (S79.wk2 (aC (aM 1 rfl) (aC (aM 2 rfl) aN)) aN)
   refine .cd (fun hc130=>?_) (fun hc130=>?_)
   ·refine .cdt (eqT (beq_iff_eq.1 hc130)) ?_
    refine .fa ?_
    refine .op ((S65.atG (i:=0) rfl).ld (j:=4) rfl) ?_
    refine .ci ?_
    refine .fa ?_
    refine .op ((S65.atG (i:=0) rfl).ld (j:=4) rfl) ?_
    refine .ci ?_
    refine .call (z82 k yg14 h36 h37 hc37_0 hn37_0 (S65.atG (i:=1) rfl) a54.N) fun r131 cs132 H133 h134 q135=>?_
    obtain ⟨c136,s138,c138_0,h137,h138,hc138_0,hn138_0,q135⟩:=q135
    cases q135
    have S140:=S65.setG (i:=1) (cs':=[.v (.p (.int .i64 r131.2.cap)),.v (.p (.int .u64 r131.2.remb)),.v (.p (.bool r131.2.told)),c136,.own s138 ([c138_0])]) rfl rfl rfl
    refine .ci ?_
    refine .nd ((S140.atG (i:=0) rfl).ld (j:=4) rfl) ?_
    refine .call (zdq k yg30 h42 h43 h45 h46 (S140.atG (i:=2) rfl) a54.N) fun r141 cs142 H143 h144 q145=>?_
    obtain ⟨c146,c149,h147,h148,h150,h151,q145⟩:=q145
    cases q145
    have S152:=S140.setG (i:=2) (cs':=[.v (.p (.int .i64 r141.2.Cap)),.v (.p (.int .i64 r141.2.Remb)),c146,c149]) rfl rfl rfl
    refine .ci ?_
    refine .cq ?_ ?_
    ·exact hE1 false (ptC (ptC H63 ⟨h.length,10,0,s39,[]⟩ 0 ([.v (.p (.int .i64 r131.2.cap)),.v (.p (.int .u64 r131.2.remb)),.v (.p (.bool r131.2.told)),c136,.own s138 ([c138_0])])) ⟨h.length,12,0,s47,[]⟩ 0 ([.v (.p (.int .i64 r141.2.Cap)),.v (.p (.int .i64 r141.2.Remb)),c146,c149])) (S152.wk2 aN aN)
    refine .call (z2s k r131.2 h137 h138 hc138_0 hn138_0 (S152.atG (i:=1) rfl)) fun r154 cs155 H156 h157 q158=>?_
    cases q158
    refine .ci ?_
    refine .call (z5x k r141.2 h147 h148 h150 h151 (S152.atG (i:=2) rfl)) fun r159 cs160 H161 h162 q163=>?_
    cases q163
    refine .ci ?_
    refine .ch (P:=fun r y=>(.p (.bool r),(ptC (ptC H63 ⟨h.length,10,0,s39,[]⟩ 0 ([.v (.p (.int .i64 r131.2.cap)),.v (.p (.int .u64 r131.2.remb)),.v (.p (.bool r131.2.told)),c136,.own s138 ([c138_0])])) ⟨h.length,12,0,s47,[]⟩ 0 ([.v (.p (.int .i64 r141.2.Cap)),.v (.p (.int .i64 r141.2.Remb)),c146,c149])))=y) ?_ (fun b176 y177 h178 h179=>?_)
    ·refine .cq ?_ ?_
     ·exact .ret rfl rfl
     ·refine .nc ?_
      refine .fa ?_
      refine .op (h147.ld (S152.atG (i:=2) rfl) (j:=2) rfl) ?_
      refine .call (z4s r131.2 h137 h138 hc138_0 hn138_0 (S152.atG (i:=1) rfl)) fun r164 cs165 H166 h167 q168=>?_
      obtain ⟨v169,h170,q168⟩:=q168
      cases q168
      refine .nd (h147.ld (S152.atG (i:=2) rfl) (j:=2) rfl) ?_
      refine .call (z54 k r164 (h170.h (ptC (ptC H63 ⟨h.length,10,0,s39,[]⟩ 0 ([.v (.p (.int .i64 r131.2.cap)),.v (.p (.int .u64 r131.2.remb)),.v (.p (.bool r131.2.told)),c136,.own s138 ([c138_0])])) ⟨h.length,12,0,s47,[]⟩ 0 ([.v (.p (.int .i64 r141.2.Cap)),.v (.p (.int .i64 r141.2.Remb)),c146,c149]))) r141.2.f_L (h147.sl (S152.atG (i:=2) rfl) (j:=2) rfl)) fun r171 cs172 H173 h174 q175=>?_
      cases q175
      refine .ab ?_
      exact .ret rfl rfl
    subst h179
    refine .ab ?_
    refine .ch (P:=fun r y=>(.p (.bool r),(ptC (ptC H63 ⟨h.length,10,0,s39,[]⟩ 0 ([.v (.p (.int .i64 r131.2.cap)),.v (.p (.int .u64 r131.2.remb)),.v (.p (.bool r131.2.told)),c136,.own s138 ([c138_0])])) ⟨h.length,12,0,s47,[]⟩ 0 ([.v (.p (.int .i64 r141.2.Cap)),.v (.p (.int .i64 r141.2.Remb)),c146,c149])))=y) ?_ (fun b199 y200 h201 h202=>?_)
    ·refine .cq ?_ ?_
     ·exact .ret rfl rfl
     ·refine .nc ?_
      refine .fa ?_
      refine .op (h147.ld (S152.atG (i:=2) rfl) (j:=2) rfl) ?_
      refine .call (z5l k r131.2 h137 h138 hc138_0 hn138_0 (S152.atG (i:=1) rfl)) fun r180 cs181 H182 h183 q184=>?_
      obtain ⟨v185,h186,q184⟩:=q184
      cases q184
      refine .nd (h147.ld (S152.atG (i:=2) rfl) (j:=2) rfl) ?_
      refine .call (zdf k r141.2.f_L (h147.sl (S152.atG (i:=2) rfl) (j:=2) rfl)) fun r187 cs188 H189 h190 q191=>?_
      obtain ⟨v192,h193,q191⟩:=q191
      cases q191
      refine .call (z54 k r180 (h186.h (ptC (ptC H63 ⟨h.length,10,0,s39,[]⟩ 0 ([.v (.p (.int .i64 r131.2.cap)),.v (.p (.int .u64 r131.2.remb)),.v (.p (.bool r131.2.told)),c136,.own s138 ([c138_0])])) ⟨h.length,12,0,s47,[]⟩ 0 ([.v (.p (.int .i64 r141.2.Cap)),.v (.p (.int .i64 r141.2.Remb)),c146,c149]))) r187 (h193.h (ptC (ptC H63 ⟨h.length,10,0,s39,[]⟩ 0 ([.v (.p (.int .i64 r131.2.cap)),.v (.p (.int .u64 r131.2.remb)),.v (.p (.bool r131.2.told)),c136,.own s138 ([c138_0])])) ⟨h.length,12,0,s47,[]⟩ 0 ([.v (.p (.int .i64 r141.2.Cap)),.v (.p (.int .i64 r141.2.Remb)),c146,c149])))) fun r194 cs195 H196 h197 q198=>?_
      cases q198
      refine .ab ?_
      exact .ret rfl rfl
    subst h202
    refine .ab ?_
    refine .cq ?_ ?_
    ·exact hE1 false (ptC (ptC H63 ⟨h.length,10,0,s39,[]⟩ 0 ([.v (.p (.int .i64 r131.2.cap)),.v (.p (.int .u64 r131.2.remb)),.v (.p (.bool r131.2.told)),c136,.own s138 ([c138_0])])) ⟨h.length,12,0,s47,[]⟩ 0 ([.v (.p (.int .i64 r141.2.Cap)),.v (.p (.int .i64 r141.2.Remb)),c146,c149])) (S152.wk2 aN aN)
    exact ih x1 (IntKind.wrap .i64 (x7+1)) r131.2 r141.2 v33 h34 c136 h137 h138 s138 c138_0 hc138_0 hn138_0 s39 c146 h147 h148 c149 h150 h151 s47 (ptC (ptC H63 ⟨h.length,10,0,s39,[]⟩ 0 ([.v (.p (.int .i64 r131.2.cap)),.v (.p (.int .u64 r131.2.remb)),.v (.p (.bool r131.2.told)),c136,.own s138 ([c138_0])])) ⟨h.length,12,0,s47,[]⟩ 0 ([.v (.p (.int .i64 r141.2.Cap)),.v (.p (.int .i64 r141.2.Remb)),c146,c149])) (S152.wk2 (aC (aM 1 rfl) (aC (aM 2 rfl) aN)) aN)
   refine .cq ?_ ?_
   ·refine .fa ?_
    refine .op ((S65.atG (i:=0) rfl).ld (j:=4) rfl) ?_
    refine .ci ?_
    refine .fa ?_
    refine .op ((S65.atG (i:=0) rfl).ld (j:=4) rfl) ?_
    refine .ci ?_
    refine .call (z82 k yg14 h36 h37 hc37_0 hn37_0 (S65.atG (i:=1) rfl) a54.N) fun r205 cs206 H207 h208 q209=>?_
    obtain ⟨c210,s212,c212_0,h211,h212,hc212_0,hn212_0,q209⟩:=q209
    cases q209
    have S214:=S65.setG (i:=1) (cs':=[.v (.p (.int .i64 r205.2.cap)),.v (.p (.int .u64 r205.2.remb)),.v (.p (.bool r205.2.told)),c210,.own s212 ([c212_0])]) rfl rfl rfl
    refine .ci ?_
    refine .nd ((S214.atG (i:=0) rfl).ld (j:=4) rfl) ?_
    refine .call (zdq k yg30 h42 h43 h45 h46 (S214.atG (i:=2) rfl) a54.N) fun r215 cs216 H217 h218 q219=>?_
    obtain ⟨c220,c223,h221,h222,h224,h225,q219⟩:=q219
    cases q219
    have S226:=S214.setG (i:=2) (cs':=[.v (.p (.int .i64 r215.2.Cap)),.v (.p (.int .i64 r215.2.Remb)),c220,c223]) rfl rfl rfl
    refine .ci ?_
    refine .cq ?_ ?_
    ·exact hE1 false (ptC (ptC H63 ⟨h.length,10,0,s39,[]⟩ 0 ([.v (.p (.int .i64 r205.2.cap)),.v (.p (.int .u64 r205.2.remb)),.v (.p (.bool r205.2.told)),c210,.own s212 ([c212_0])])) ⟨h.length,12,0,s47,[]⟩ 0 ([.v (.p (.int .i64 r215.2.Cap)),.v (.p (.int .i64 r215.2.Remb)),c220,c223])) (S226.wk2 aN aN)
    refine .call (z2s k r205.2 h211 h212 hc212_0 hn212_0 (S226.atG (i:=1) rfl)) fun r228 cs229 H230 h231 q232=>?_
    cases q232
    refine .ci ?_
    refine .call (z5x k r215.2 h221 h222 h224 h225 (S226.atG (i:=2) rfl)) fun r233 cs234 H235 h236 q237=>?_
    cases q237
    refine .ci ?_
    refine .ch (P:=fun r y=>(.p (.bool r),(ptC (ptC H63 ⟨h.length,10,0,s39,[]⟩ 0 ([.v (.p (.int .i64 r205.2.cap)),.v (.p (.int .u64 r205.2.remb)),.v (.p (.bool r205.2.told)),c210,.own s212 ([c212_0])])) ⟨h.length,12,0,s47,[]⟩ 0 ([.v (.p (.int .i64 r215.2.Cap)),.v (.p (.int .i64 r215.2.Remb)),c220,c223])))=y) ?_ (fun b250 y251 h252 h253=>?_)
    ·refine .cq ?_ ?_
     ·exact .ret rfl rfl
     ·refine .nc ?_
      refine .fa ?_
      refine .op (h221.ld (S226.atG (i:=2) rfl) (j:=2) rfl) ?_
      refine .call (z4s r205.2 h211 h212 hc212_0 hn212_0 (S226.atG (i:=1) rfl)) fun r238 cs239 H240 h241 q242=>?_
      obtain ⟨v243,h244,q242⟩:=q242
      cases q242
      refine .nd (h221.ld (S226.atG (i:=2) rfl) (j:=2) rfl) ?_
      refine .call (z54 k r238 (h244.h (ptC (ptC H63 ⟨h.length,10,0,s39,[]⟩ 0 ([.v (.p (.int .i64 r205.2.cap)),.v (.p (.int .u64 r205.2.remb)),.v (.p (.bool r205.2.told)),c210,.own s212 ([c212_0])])) ⟨h.length,12,0,s47,[]⟩ 0 ([.v (.p (.int .i64 r215.2.Cap)),.v (.p (.int .i64 r215.2.Remb)),c220,c223]))) r215.2.f_L (h221.sl (S226.atG (i:=2) rfl) (j:=2) rfl)) fun r245 cs246 H247 h248 q249=>?_
      cases q249
      refine .ab ?_
      exact .ret rfl rfl
    subst h253
    refine .ab ?_
    refine .ch (P:=fun r y=>(.p (.bool r),(ptC (ptC H63 ⟨h.length,10,0,s39,[]⟩ 0 ([.v (.p (.int .i64 r205.2.cap)),.v (.p (.int .u64 r205.2.remb)),.v (.p (.bool r205.2.told)),c210,.own s212 ([c212_0])])) ⟨h.length,12,0,s47,[]⟩ 0 ([.v (.p (.int .i64 r215.2.Cap)),.v (.p (.int .i64 r215.2.Remb)),c220,c223])))=y) ?_ (fun b273 y274 h275 h276=>?_)
    ·refine .cq ?_ ?_
     ·exact .ret rfl rfl
     ·refine .nc ?_
      refine .fa ?_
      refine .op (h221.ld (S226.atG (i:=2) rfl) (j:=2) rfl) ?_
      refine .call (z5l k r205.2 h211 h212 hc212_0 hn212_0 (S226.atG (i:=1) rfl)) fun r254 cs255 H256 h257 q258=>?_
      obtain ⟨v259,h260,q258⟩:=q258
      cases q258
      refine .nd (h221.ld (S226.atG (i:=2) rfl) (j:=2) rfl) ?_
      refine .call (zdf k r215.2.f_L (h221.sl (S226.atG (i:=2) rfl) (j:=2) rfl)) fun r261 cs262 H263 h264 q265=>?_
      obtain ⟨v266,h267,q265⟩:=q265
      cases q265
      refine .call (z54 k r254 (h260.h (ptC (ptC H63 ⟨h.length,10,0,s39,[]⟩ 0 ([.v (.p (.int .i64 r205.2.cap)),.v (.p (.int .u64 r205.2.remb)),.v (.p (.bool r205.2.told)),c210,.own s212 ([c212_0])])) ⟨h.length,12,0,s47,[]⟩ 0 ([.v (.p (.int .i64 r215.2.Cap)),.v (.p (.int .i64 r215.2.Remb)),c220,c223]))) r261 (h267.h (ptC (ptC H63 ⟨h.length,10,0,s39,[]⟩ 0 ([.v (.p (.int .i64 r205.2.cap)),.v (.p (.int .u64 r205.2.remb)),.v (.p (.bool r205.2.told)),c210,.own s212 ([c212_0])])) ⟨h.length,12,0,s47,[]⟩ 0 ([.v (.p (.int .i64 r215.2.Cap)),.v (.p (.int .i64 r215.2.Remb)),c220,c223])))) fun r268 cs269 H270 h271 q272=>?_
      cases q272
      refine .ab ?_
      exact .ret rfl rfl
    subst h276
    refine .ab ?_
    refine .cq ?_ ?_
    ·exact hE1 false (ptC (ptC H63 ⟨h.length,10,0,s39,[]⟩ 0 ([.v (.p (.int .i64 r205.2.cap)),.v (.p (.int .u64 r205.2.remb)),.v (.p (.bool r205.2.told)),c210,.own s212 ([c212_0])])) ⟨h.length,12,0,s47,[]⟩ 0 ([.v (.p (.int .i64 r215.2.Cap)),.v (.p (.int .i64 r215.2.Remb)),c220,c223])) (S226.wk2 aN aN)
    exact ih x1 (IntKind.wrap .i64 (x7+1)) r205.2 r215.2 v33 h34 c210 h211 h212 s212 c212_0 hc212_0 hn212_0 s39 c220 h221 h222 c223 h224 h225 s47 (ptC (ptC H63 ⟨h.length,10,0,s39,[]⟩ 0 ([.v (.p (.int .i64 r205.2.cap)),.v (.p (.int .u64 r205.2.remb)),.v (.p (.bool r205.2.told)),c210,.own s212 ([c212_0])])) ⟨h.length,12,0,s47,[]⟩ 0 ([.v (.p (.int .i64 r215.2.Cap)),.v (.p (.int .i64 r215.2.Remb)),c220,c223])) (S226.wk2 (aC (aM 1 rfl) (aC (aM 2 rfl) aN)) aN)
   refine .fa ?_
   refine .op ((S65.atG (i:=0) rfl).ldVs (j:=1) (xs:=[.p (.int .u32 a54.T.Owner),.p (.int .u64 a54.T.Rate),.p (.int .i64 a54.T.Over)]) rfl rfl (by decide)) ?_
   refine .fa ?_
   refine .op ((S65.atG (i:=0) rfl).ld (j:=4) rfl) ?_
   refine .ci ?_
   refine .fa ?_
   refine .op ((S65.atG (i:=0) rfl).ldVs (j:=1) (xs:=[.p (.int .u32 a54.T.Owner),.p (.int .u64 a54.T.Rate),.p (.int .i64 a54.T.Over)]) rfl rfl (by decide)) ?_
   refine .fa ?_
   refine .op ((S65.atG (i:=0) rfl).ld (j:=4) rfl) ?_
   refine .ci ?_
   refine .call (zco k yg14 h36 h37 hc37_0 hn37_0 (S65.atG (i:=1) rfl) a54.T (show z6.R a54.T [.p (.int .u32 a54.T.Owner),.p (.int .u64 a54.T.Rate),.p (.int .i64 a54.T.Over)] from (z6.mk)) a54.N) fun r278 cs279 H280 h281 q282=>?_
   obtain ⟨c283,s285,c285_0,h284,h285,hc285_0,hn285_0,q282⟩:=q282
   cases q282
   have S287:=S65.setG (i:=1) (cs':=[.v (.p (.int .i64 r278.2.cap)),.v (.p (.int .u64 r278.2.remb)),.v (.p (.bool r278.2.told)),c283,.own s285 ([c285_0])]) rfl rfl rfl
   refine .ab ?_
   refine .nd ((S287.atG (i:=0) rfl).ld (j:=4) rfl) ?_
   refine .nd ((S287.atG (i:=0) rfl).ldVs (j:=1) (xs:=[.p (.int .u32 a54.T.Owner),.p (.int .u64 a54.T.Rate),.p (.int .i64 a54.T.Over)]) rfl rfl (by decide)) ?_
   refine .call (zhz k yg30 h42 h43 h45 h46 (S287.atG (i:=2) rfl) a54.T (show z6.R a54.T [.p (.int .u32 a54.T.Owner),.p (.int .u64 a54.T.Rate),.p (.int .i64 a54.T.Over)] from (z6.mk)) a54.N) fun r288 cs289 H290 h291 q292=>?_
   obtain ⟨c293,c296,h294,h295,h297,h298,q292⟩:=q292
   cases q292
   have S299:=S287.setG (i:=2) (cs':=[.v (.p (.int .i64 r288.2.Cap)),.v (.p (.int .i64 r288.2.Remb)),c293,c296]) rfl rfl rfl
   refine .ab ?_
   refine .cq ?_ ?_
   ·exact hE1 false (ptC (ptC H63 ⟨h.length,10,0,s39,[]⟩ 0 ([.v (.p (.int .i64 r278.2.cap)),.v (.p (.int .u64 r278.2.remb)),.v (.p (.bool r278.2.told)),c283,.own s285 ([c285_0])])) ⟨h.length,12,0,s47,[]⟩ 0 ([.v (.p (.int .i64 r288.2.Cap)),.v (.p (.int .i64 r288.2.Remb)),c293,c296])) (S299.wk2 aN aN)
   refine .call (z2s k r278.2 h284 h285 hc285_0 hn285_0 (S299.atG (i:=1) rfl)) fun r301 cs302 H303 h304 q305=>?_
   cases q305
   refine .ci ?_
   refine .call (z5x k r288.2 h294 h295 h297 h298 (S299.atG (i:=2) rfl)) fun r306 cs307 H308 h309 q310=>?_
   cases q310
   refine .ci ?_
   refine .ch (P:=fun r y=>(.p (.bool r),(ptC (ptC H63 ⟨h.length,10,0,s39,[]⟩ 0 ([.v (.p (.int .i64 r278.2.cap)),.v (.p (.int .u64 r278.2.remb)),.v (.p (.bool r278.2.told)),c283,.own s285 ([c285_0])])) ⟨h.length,12,0,s47,[]⟩ 0 ([.v (.p (.int .i64 r288.2.Cap)),.v (.p (.int .i64 r288.2.Remb)),c293,c296])))=y) ?_ (fun b323 y324 h325 h326=>?_)
   ·refine .cq ?_ ?_
    ·exact .ret rfl rfl
    ·refine .nc ?_
     refine .fa ?_
     refine .op (h294.ld (S299.atG (i:=2) rfl) (j:=2) rfl) ?_
     refine .call (z4s r278.2 h284 h285 hc285_0 hn285_0 (S299.atG (i:=1) rfl)) fun r311 cs312 H313 h314 q315=>?_
     obtain ⟨v316,h317,q315⟩:=q315
     cases q315
     refine .nd (h294.ld (S299.atG (i:=2) rfl) (j:=2) rfl) ?_
     refine .call (z54 k r311 (h317.h (ptC (ptC H63 ⟨h.length,10,0,s39,[]⟩ 0 ([.v (.p (.int .i64 r278.2.cap)),.v (.p (.int .u64 r278.2.remb)),.v (.p (.bool r278.2.told)),c283,.own s285 ([c285_0])])) ⟨h.length,12,0,s47,[]⟩ 0 ([.v (.p (.int .i64 r288.2.Cap)),.v (.p (.int .i64 r288.2.Remb)),c293,c296]))) r288.2.f_L (h294.sl (S299.atG (i:=2) rfl) (j:=2) rfl)) fun r318 cs319 H320 h321 q322=>?_
     cases q322
     refine .ab ?_
     exact .ret rfl rfl
   subst h326
   refine .ab ?_
   refine .ch (P:=fun r y=>(.p (.bool r),(ptC (ptC H63 ⟨h.length,10,0,s39,[]⟩ 0 ([.v (.p (.int .i64 r278.2.cap)),.v (.p (.int .u64 r278.2.remb)),.v (.p (.bool r278.2.told)),c283,.own s285 ([c285_0])])) ⟨h.length,12,0,s47,[]⟩ 0 ([.v (.p (.int .i64 r288.2.Cap)),.v (.p (.int .i64 r288.2.Remb)),c293,c296])))=y) ?_ (fun b346 y347 h348 h349=>?_)
   ·refine .cq ?_ ?_
    ·exact .ret rfl rfl
    ·refine .nc ?_
     refine .fa ?_
     refine .op (h294.ld (S299.atG (i:=2) rfl) (j:=2) rfl) ?_
     refine .call (z5l k r278.2 h284 h285 hc285_0 hn285_0 (S299.atG (i:=1) rfl)) fun r327 cs328 H329 h330 q331=>?_
     obtain ⟨v332,h333,q331⟩:=q331
     cases q331
     refine .nd (h294.ld (S299.atG (i:=2) rfl) (j:=2) rfl) ?_
     refine .call (zdf k r288.2.f_L (h294.sl (S299.atG (i:=2) rfl) (j:=2) rfl)) fun r334 cs335 H336 h337 q338=>?_
     obtain ⟨v339,h340,q338⟩:=q338
     cases q338
     refine .call (z54 k r327 (h333.h (ptC (ptC H63 ⟨h.length,10,0,s39,[]⟩ 0 ([.v (.p (.int .i64 r278.2.cap)),.v (.p (.int .u64 r278.2.remb)),.v (.p (.bool r278.2.told)),c283,.own s285 ([c285_0])])) ⟨h.length,12,0,s47,[]⟩ 0 ([.v (.p (.int .i64 r288.2.Cap)),.v (.p (.int .i64 r288.2.Remb)),c293,c296]))) r334 (h340.h (ptC (ptC H63 ⟨h.length,10,0,s39,[]⟩ 0 ([.v (.p (.int .i64 r278.2.cap)),.v (.p (.int .u64 r278.2.remb)),.v (.p (.bool r278.2.told)),c283,.own s285 ([c285_0])])) ⟨h.length,12,0,s47,[]⟩ 0 ([.v (.p (.int .i64 r288.2.Cap)),.v (.p (.int .i64 r288.2.Remb)),c293,c296])))) fun r341 cs342 H343 h344 q345=>?_
     cases q345
     refine .ab ?_
     exact .ret rfl rfl
   subst h349
   refine .ab ?_
   refine .cq ?_ ?_
   ·exact hE1 false (ptC (ptC H63 ⟨h.length,10,0,s39,[]⟩ 0 ([.v (.p (.int .i64 r278.2.cap)),.v (.p (.int .u64 r278.2.remb)),.v (.p (.bool r278.2.told)),c283,.own s285 ([c285_0])])) ⟨h.length,12,0,s47,[]⟩ 0 ([.v (.p (.int .i64 r288.2.Cap)),.v (.p (.int .i64 r288.2.Remb)),c293,c296])) (S299.wk2 aN aN)
   exact ih x1 (IntKind.wrap .i64 (x7+1)) r278.2 r288.2 v33 h34 c283 h284 h285 s285 c285_0 hc285_0 hn285_0 s39 c293 h294 h295 c296 h297 h298 s47 (ptC (ptC H63 ⟨h.length,10,0,s39,[]⟩ 0 ([.v (.p (.int .i64 r278.2.cap)),.v (.p (.int .u64 r278.2.remb)),.v (.p (.bool r278.2.told)),c283,.own s285 ([c285_0])])) ⟨h.length,12,0,s47,[]⟩ 0 ([.v (.p (.int .i64 r288.2.Cap)),.v (.p (.int .i64 r288.2.Remb)),c293,c296])) (S299.wk2 (aC (aM 1 rfl) (aC (aM 2 rfl) aN)) aN)
  exact hE0 yg14 yg30 c35 h36 h37 s37 c37_0 hc37_0 hn37_0 s39 c41 h42 h43 c44 h45 h46 s47 H31 (S32.wk2 (aC (aM 0 rfl) (aC (aM 1 rfl) aN)) aN)
theorem zee (k:Nat) {h:H} {σ:Stamp} (x0:Int) (x1:List z27) {u1:V} (hu1:SlH h z2m x1 u1):Sim (z6s k x0 x1) (ev G X0 33 σ [(.p (.int .i64 x0)),u1] h) (fun r s=>s=([.v (.p (.bool r))],h)):=by
 refine .ev rfl (Sim.ext (zma _ _ _ _ _ _) ?_)
 rw [z6s]
 have S0:Fm 107 h [] [] [] (List.replicate 107 []::h):=Fm.start0
 refine .call (zis x0) fun r1 cs2 H3 h4 q5=>?_
 obtain ⟨s6,c7,s9,c9_0,h8,h9,hc9_0,hn9_0,q5⟩:=q5
 cases q5
 obtain ⟨H11,e12,S13⟩:=S0.landG (d:=10) (s:=s6) (cs:=[.v (.p (.int .i64 r1.cap)),.v (.p (.int .u64 r1.remb)),.v (.p (.bool r1.told)),c7,.own s9 ([c9_0])]) (by decide) rfl
 erw [e12]
 refine .call (zq8 x0) fun r15 cs16 H17 h18 q19=>?_
 obtain ⟨s20,c21,c24,h22,h23,h25,h26,q19⟩:=q19
 cases q19
 obtain ⟨H27,e28,S29⟩:=S13.landG (d:=12) (s:=s20) (cs:=[.v (.p (.int .i64 r15.Cap)),.v (.p (.int .i64 r15.Remb)),c21,c24]) (by decide) rfl
 erw [e28]
 refine .as (zlj ?_ ?_ k x1 0 r1 r15 u1 hu1 c7 h8 h9 s9 c9_0 hc9_0 hn9_0 s6 c21 h22 h23 c24 h25 h26 s20 H27 (S29.wk2 (aC (aM 1 rfl) (aC (aM 0 rfl) aN)) aN))
 ·intro yg40 yg48 c372 h373 h374 s374 c374_0 hc374_0 hn374_0 s376 c378 h379 h380 c381 h382 h383 s384 H370 S371
  refine .ext (zn8 _ _ _ _ _ _) ?_
  refine .op ((by kernel_rfl:_=some (.p (.bool true)))) ?_
  refine .ab ?_
  refine .ch (P:=fun r y=>(.p (.bool r),H370)=y) ?_ (fun b396 y397 h398 h399=>?_)
  ·refine .cq ?_ ?_
   ·refine .call (z2s k yg40 h373 h374 hc374_0 hn374_0 (S371.atG (i:=0) rfl)) fun r386 cs387 H388 h389 q390=>?_
    cases q390
    refine .ci ?_
    refine .call (z5x k yg48 h379 h380 h382 h383 (S371.atG (i:=1) rfl)) fun r391 cs392 H393 h394 q395=>?_
    cases q395
    refine .ci ?_
    exact .ret rfl rfl
   ·exact .ret rfl rfl
  subst h399
  refine .ab ?_
  exact .fin (S371.finN (lC (sB _).lv lN)) rfl
 ·intro r400_4 H401 S402
  refine .ext (zki _ _ _ _ _) ?_
  exact .fin (S402.finN (lC (sB _).lv lN)) rfl
def z4a {β:Type} (k:Nat) (kE0:Int→(List z27)→(List z27)→Option β) (x0:Int) (x1:(List z27)) (x5:(List z27)) (x6:Int) (x11:Int) (x12:Int):Option β:=match k with
| 0=>none
| k+1 =>
bif decide (x12<x11) then (
(ix x1 x12).bind fun a10 =>
(zbn a10.Kind 0 5).bind fun r22 =>
(ap 40 x5 ([((⟨r22,(⟨(intBits .and .u32 a10.T.Owner 15),(intBits .and .u64 a10.T.Rate 1048575),(intBits .and .i64 a10.T.Over 127)⟩:z7),(IntKind.wrap .i64 (x6+(intBits .and .i64 a10.N 262143)))⟩:z27))])).bind fun a43 =>
z4a k kE0 x0 x1 a43 (IntKind.wrap .i64 (x6+(intBits .and .i64 a10.N 262143))) x11 (IntKind.wrap .i64 (x12+1)))
else (
kE0 x0 x1 x5)
def z2o {β:Type} (k:Nat) (kE0:Int→(List z27)→(List z27)→Option β) (kE1:Bool→Option β) (x0:Int) (x1:(List z27)) (x5:(List z27)) (x54:Int) (x55:Int):Option β:=match k with
| 0=>none
| k+1 =>
bif decide (x55<x54) then (
(ix x1 x55).bind fun a71 =>
(bif decide (a71.N>4611686018427387904) then (some true) else ((ix x1 x55).bind fun a79 =>
some (decide (a79.N<(-4611686018427387904))))).bind fun b87 =>
bif b87 then (
(z6s k x0 x5).bind fun r92 =>
(bif r92 then ((z7y k).bind fun r97 =>
some r97) else (some false)).bind fun b102 =>
kE1 b102)
else (
z2o k kE0 kE1 x0 x1 x5 x54 (IntKind.wrap .i64 (x55+1))))
else (
kE0 x0 x1 x5)
def z96 (k:Nat) (x0:Int) (x1:(List z27)):Option (Bool) :=
z4a k (fun r57_0 r57_1 r57_5 =>
z2o k (fun r114_0 r114_1 r114_5 =>
(z6s k r114_0 r114_5).bind fun r121 =>
(bif r121 then ((z6s k r114_0 r114_1).bind fun r126 =>
some r126) else (some false)).bind fun b131 =>
(bif b131 then ((z7y k).bind fun r135 =>
some r135) else (some false)).bind fun b140 =>
some (b140)) (fun r144_4 =>
some (r144_4)) r57_0 r57_1 r57_5 ((r57_1.length:Int)) 0) x0 x1 (([]:List z27)) 0 ((x1.length:Int)) 0
theorem zg8 {h:H}  {kE0:Int→(List z27)→(List z27)→Option β} (hE0:∀ (q0:Int) (q1:(List z27)) (q5:(List z27)) (v51:V) (h52:SlH h z2m q1 v51) (v53:V) (H49:Go.Ev.H) (_:Fm 90 h [] [] [⟨[51],v53,z2m,q5⟩] H49),Sim (kE0 q0 q1 q5) (K ((.exit 0),(envL [(0,(.p (.int .i64 q0))),(1,v51),(5,v53)]),H49)) Q) (k:Nat):∀ (x0:Int) (x1:(List z27)) (x5:(List z27)) (x6:Int) (x11:Int) (x12:Int) (v5:V) (h6:SlH h z2m x1 v5) (v7:V) (H3:Go.Ev.H) (_:Fm 90 h [] [] [⟨[51],v7,z2m,x5⟩] H3) {σ:Stamp},Sim (z4a k kE0 x0 x1 x5 x6 x11 x12) ((cvL G X0 z8l z8g σ (envL [(0,(.p (.int .i64 x0))),(1,v5),(5,v7),(6,(.p (.int .i64 x6))),(11,(.p (.int .i64 x11))),(12,(.p (.int .i64 x12)))]) H3).bind K) Q:=by
 induction k with
 | zero=>intros;exact .no
 | succ k ih =>
  intro x0 x1 x5 x6 x11 x12 v5 h6 v7 H3 S4 σ
  rw [z4a]
  refine .round (Sim.ext (zin _ _ _ _ _ _ _ _ _ _) ?_)
  refine .cq ?_ ?_
  ·refine .bd fun a10 h11=>?_
   refine .op ((S4.low h6).iS h11 rfl) ?_
   obtain ⟨w13,h14,hE12⟩:=(S4.low h6).el h11 rfl
   obtain rfl:=z2m.inv h14
   refine .op (hE12.all (by simp)) ?_
   obtain ⟨H15,e16,S17⟩:=S4.al (d:=8) (s:=(4::0::1::0::1::1::0::σ)) (z:=[(.p (.int .i64 0)),(.p (.int .u32 0)),(.p (.int .u64 0)),(.p (.int .i64 0)),(.p (.int .i64 0))]) (by decide) rfl
   refine .op (congrArg some e16) ?_
   obtain ⟨H19,e20,S21⟩:=S17.stGv (i:=0) (j:=0) (own:=false) (σ:=(5::0::1::0::1::1::0::σ)) (xs:=[.p (.int .i64 a10.Kind),.p (.int .u32 a10.T.Owner),.p (.int .u64 a10.T.Rate),.p (.int .i64 a10.T.Over),.p (.int .i64 a10.N)]) rfl rfl (sC (sI _ _) (sC (sI _ _) (sC (sI _ _) (sC (sI _ _) (sC (sI _ _) sN))))) rfl rfl
   refine .op (sM e20) ?_
   refine .fa ?_
   refine .op ((S21.atG (i:=0) rfl).ld (j:=0) rfl) ?_
   refine .ci ?_
   refine .call (zoq a10.Kind 0 5) fun r22 cs23 H24 h25 q26=>?_
   cases q26
   refine .ci ?_
   refine .fa ?_
   obtain ⟨H27,e28,S29⟩:=S21.stG (i:=0) (j:=0) (own:=true) (σ:=(4::0::1::1::0::1::1::0::σ)) (x:=(.p (.int .i64 r22))) rfl rfl (sI _ _) rfl
   refine .op (sM e28) ?_
   refine .fa ?_
   refine .op ((S29.atG (i:=0) rfl).ld (j:=4) rfl) ?_
   refine .ci ?_
   refine .fa ?_
   refine .fa ?_
   refine .op ((S29.atG (i:=0) rfl).ld (j:=1) rfl) ?_
   refine .ci ?_
   refine .fa ?_
   refine .fa ?_
   refine .op ((S29.atG (i:=0) rfl).ld (j:=2) rfl) ?_
   refine .ci ?_
   refine .fa ?_
   refine .fa ?_
   refine .op ((S29.atG (i:=0) rfl).ld (j:=3) rfl) ?_
   refine .ci ?_
   refine .fa ?_
   refine .fa ?_
   obtain ⟨H30,e31,S32⟩:=S29.stG (i:=0) (j:=1) (own:=true) (σ:=(15::0::1::1::1::1::0::1::1::0::σ)) (x:=(.p (.int .u32 (intBits .and .u32 a10.T.Owner 15)))) rfl rfl (sI _ _) rfl
   refine .op (sM e31) ?_
   refine .fa ?_
   refine .fa ?_
   obtain ⟨H33,e34,S35⟩:=S32.stG (i:=0) (j:=2) (own:=true) (σ:=(18::0::1::1::1::1::0::1::1::0::σ)) (x:=(.p (.int .u64 (intBits .and .u64 a10.T.Rate 1048575)))) rfl rfl (sI _ _) rfl
   refine .op (sM e34) ?_
   refine .fa ?_
   refine .fa ?_
   obtain ⟨H36,e37,S38⟩:=S35.stG (i:=0) (j:=3) (own:=true) (σ:=(21::0::1::1::1::1::0::1::1::0::σ)) (x:=(.p (.int .i64 (intBits .and .i64 a10.T.Over 127)))) rfl rfl (sI _ _) rfl
   refine .op (sM e37) ?_
   refine .fa ?_
   obtain ⟨H39,e40,S41⟩:=S38.stG (i:=0) (j:=4) (own:=true) (σ:=(23::0::1::1::1::1::0::1::1::0::σ)) (x:=(.p (.int .i64 (IntKind.wrap .i64 (x6+(intBits .and .i64 a10.N 262143)))))) rfl rfl (sI _ _) rfl
   refine .op (sM e40) ?_
   refine .op ((S41.atG (i:=0) rfl).ldVs (j:=0) (xs:=[.p (.int .i64 r22),.p (.int .u32 (intBits .and .u32 a10.T.Owner 15)),.p (.int .u64 (intBits .and .u64 a10.T.Rate 1048575)),.p (.int .i64 (intBits .and .i64 a10.T.Over 127)),.p (.int .i64 (IntKind.wrap .i64 (x6+(intBits .and .i64 a10.N 262143))))]) rfl rfl (by decide)) ?_
   have h42:SlF z2m [((⟨r22,(⟨(intBits .and .u32 a10.T.Owner 15),(intBits .and .u64 a10.T.Rate 1048575),(intBits .and .i64 a10.T.Over 127)⟩:z7),(IntKind.wrap .i64 (x6+(intBits .and .i64 a10.N 262143)))⟩:z27))] (.fz [(.p (.int .i64 r22)),(.p (.int .u32 (intBits .and .u32 a10.T.Owner 15))),(.p (.int .u64 (intBits .and .u64 a10.T.Rate 1048575))),(.p (.int .i64 (intBits .and .i64 a10.T.Over 127))),(.p (.int .i64 (IntKind.wrap .i64 (x6+(intBits .and .i64 a10.N 262143)))))] 1 5 true):=SlF.lit (cs:=[(.p (.int .i64 r22)),(.p (.int .u32 (intBits .and .u32 a10.T.Owner 15))),(.p (.int .u64 (intBits .and .u64 a10.T.Rate 1048575))),(.p (.int .i64 (intBits .and .i64 a10.T.Over 127))),(.p (.int .i64 (IntKind.wrap .i64 (x6+(intBits .and .i64 a10.N 262143)))))]) (RL.cons (show z2m.R ((⟨r22,(⟨(intBits .and .u32 a10.T.Owner 15),(intBits .and .u64 a10.T.Rate 1048575),(intBits .and .i64 a10.T.Over 127)⟩:z7),(IntKind.wrap .i64 (x6+(intBits .and .i64 a10.N 262143)))⟩:z27)) [.p (.int .i64 r22),.p (.int .u32 (intBits .and .u32 a10.T.Owner 15)),.p (.int .u64 (intBits .and .u64 a10.T.Rate 1048575)),.p (.int .i64 (intBits .and .i64 a10.T.Over 127)),.p (.int .i64 (IntKind.wrap .i64 (x6+(intBits .and .i64 a10.N 262143))))] from (z2m.mk)) RL.nil) rfl rfl true
   refine .op (bldS (pC (c:=[.p (.int .i64 r22),.p (.int .u32 (intBits .and .u32 a10.T.Owner 15)),.p (.int .u64 (intBits .and .u64 a10.T.Rate 1048575)),.p (.int .i64 (intBits .and .i64 a10.T.Over 127)),.p (.int .i64 (IntKind.wrap .i64 (x6+(intBits .and .i64 a10.N 262143))))]) rfl pN) (by kernel_rfl:_=some (vOf h42))) ?_
   refine .bd fun a43 h44=>?_
   obtain ⟨v45,H46,e47,S48⟩:=S41.app (i:=0) (d:=51) (e:=5) (own:=false) (σ:=(3::1::1::1::1::1::0::1::1::0::σ)) rfl (h42.h H39).y h44 rfl (by decide) (by decide) rfl
   refine .op (e47) ?_
   exact ih x0 x1 a43 (IntKind.wrap .i64 (x6+(intBits .and .i64 a10.N 262143))) x11 (IntKind.wrap .i64 (x12+1)) v5 h6 v45 H46 (S48.wk2 aN (aC ⟨[51,51],by simp,aM 0 rfl⟩ aN))
  exact hE0 x0 x1 x5 v5 h6 v7 H3 (S4.wk2 aN (aC ⟨[51],by simp,aM 0 rfl⟩ aN))
theorem zgg {h:H}  {kE0:Int→(List z27)→(List z27)→Option β} {kE1:Bool→Option β} (hE0:∀ (q0:Int) (q1:(List z27)) (q5:(List z27)) (v108:V) (h109:SlH h z2m q1 v108) (v110:V) (H106:Go.Ev.H) (_:Fm 90 h [] [] [⟨[51],v110,z2m,q5⟩] H106),Sim (kE0 q0 q1 q5) (K ((.exit 2),(envL [(0,(.p (.int .i64 q0))),(1,v108),(5,v110)]),H106)) Q) (hE1:∀ (q4:Bool) (H112:Go.Ev.H) (_:Fm 90 h [] [] [] H112),Sim (kE1 q4) (K (.ret,(envL [(4,(.p (.bool q4)))]),H112)) Q) (k:Nat):∀ (x0:Int) (x1:(List z27)) (x5:(List z27)) (x54:Int) (x55:Int) (v66:V) (h67:SlH h z2m x1 v66) (v68:V) (H64:Go.Ev.H) (_:Fm 90 h [] [] [⟨[51],v68,z2m,x5⟩] H64) {σ:Stamp},Sim (z2o k kE0 kE1 x0 x1 x5 x54 x55) ((cvL G X0 z8o z8m σ (envL [(0,(.p (.int .i64 x0))),(1,v66),(5,v68),(54,(.p (.int .i64 x54))),(55,(.p (.int .i64 x55)))]) H64).bind K) Q:=by
 induction k with
 | zero=>intros;exact .no
 | succ k ih =>
  intro x0 x1 x5 x54 x55 v66 h67 v68 H64 S65 σ
  rw [z2o]
  refine .round (Sim.ext (zic _ _ _ _ _ _ _ _ _) ?_)
  refine .cq ?_ ?_
  ·refine .bd fun a71 h72=>?_
   refine .op ((S65.low h67).iS h72 rfl) ?_
   obtain ⟨w74,h75,hE73⟩:=(S65.low h67).el h72 rfl
   obtain rfl:=z2m.inv h75
   refine .op (hE73.fa (j:=4) (by simp)) ?_
   obtain ⟨w77,h78,hE76⟩:=(S65.low h67).el h72 rfl
   obtain rfl:=z2m.inv h78
   refine .op (hE76.ld (j:=4) rfl) ?_
   refine .ci ?_
   refine .ch (P:=fun r y=>r=y) ?_ (fun b87 y88 h89 h90=>?_)
   ·refine .cq ?_ ?_
    ·exact .ret rfl rfl
    ·refine .bd fun a79 h80=>?_
     refine .op ((S65.low h67).iS h80 rfl) ?_
     obtain ⟨w82,h83,hE81⟩:=(S65.low h67).el h80 rfl
     obtain rfl:=z2m.inv h83
     refine .op (hE81.fa (j:=4) (by simp)) ?_
     obtain ⟨w85,h86,hE84⟩:=(S65.low h67).el h80 rfl
     obtain rfl:=z2m.inv h86
     refine .op (hE84.ld (j:=4) rfl) ?_
     refine .ci ?_
     exact .ret rfl rfl
   subst h90
   refine .cq ?_ ?_
   ·refine .call (zee k x0 x5 (S65.sl (i:=0) rfl)) fun r92 cs93 H94 h95 q96=>?_
    cases q96
    refine .ab ?_
    refine .ch (P:=fun r y=>(.p (.bool r),H64)=y) ?_ (fun b102 y103 h104 h105=>?_)
    ·refine .cq ?_ ?_
     ·refine .call (zhj k ) fun r97 cs98 H99 h100 q101=>?_
      cases q101
      refine .ab ?_
      exact .ret rfl rfl
     ·exact .ret rfl rfl
    subst h105
    refine .ab ?_
    exact hE1 b102 H64 (S65.wk2 aN aN)
   exact ih x0 x1 x5 x54 (IntKind.wrap .i64 (x55+1)) v66 h67 v68 H64 (S65.wk2 aN (aC ⟨[51],by simp,aM 0 rfl⟩ aN))
  exact hE0 x0 x1 x5 v66 h67 v68 H64 (S65.wk2 aN (aC ⟨[51],by simp,aM 0 rfl⟩ aN))
theorem zj2 (k:Nat) {h:H} {σ:Stamp} (x0:Int) (x1:List z27) {u1:V} (hu1:SlH h z2m x1 u1):Sim (z96 k x0 x1) (ev G X0 10 σ [(.p (.int .i64 x0)),u1] h) (fun r s=>s=([.v (.p (.bool r))],h)):=by
 refine .ev rfl (Sim.ext (zfz _ _ _ _ _ _) ?_)
 rw [z96]
 have S0:Fm 90 h [] [] [] (List.replicate 90 []::h):=Fm.start0
 refine .op ((S0.low hu1).len) ?_
 refine .ci ?_
 have S56:=S0.nil z2m []
 refine .as (zg8 ?_ k x0 x1 (([]:List z27)) 0 ((x1.length:Int)) 0 u1 hu1 (.p (.slice none 0 0)) (List.replicate 90 []::h) (S56.wk2 aN (aC ⟨[],by simp,aM 0 rfl⟩ aN)))
 ·intro r57_0 r57_1 r57_5 v60 h61 v62 H58 S59
  refine .ext (zgo _ _ _ _ _ _ _) ?_
  refine .op ((S59.low h61).len) ?_
  refine .ci ?_
  refine .as (zgg ?_ ?_ k r57_0 r57_1 r57_5 ((r57_1.length:Int)) 0 v60 h61 v62 H58 (S59.wk2 aN (aC ⟨[51],by simp,aM 0 rfl⟩ aN)))
  ·intro r114_0 r114_1 r114_5 v117 h118 v119 H115 S116
   refine .ext (zh7 _ _ _ _ _ _ _) ?_
   refine .call (zee k r114_0 r114_5 (S116.sl (i:=0) rfl)) fun r121 cs122 H123 h124 q125=>?_
   cases q125
   refine .ab ?_
   refine .ch (P:=fun r y=>(.p (.bool r),H115)=y) ?_ (fun b131 y132 h133 h134=>?_)
   ·refine .cq ?_ ?_
    ·refine .call (zee k r114_0 r114_1 (S116.low h118)) fun r126 cs127 H128 h129 q130=>?_
     cases q130
     refine .ab ?_
     exact .ret rfl rfl
    ·exact .ret rfl rfl
   subst h134
   refine .ab ?_
   refine .ch (P:=fun r y=>(.p (.bool r),H115)=y) ?_ (fun b140 y141 h142 h143=>?_)
   ·refine .cq ?_ ?_
    ·refine .call (zhj k ) fun r135 cs136 H137 h138 q139=>?_
     cases q139
     refine .ab ?_
     exact .ret rfl rfl
    ·exact .ret rfl rfl
   subst h143
   refine .ab ?_
   exact .fin (S116.finN (lC (sB _).lv lN)) rfl
  ·intro r144_4 H145 S146
   refine .ext (zfv _ _ _ _ _) ?_
   exact .fin (S146.finN (lC (sB _).lv lN)) rfl
end
end Go.Ev
namespace Go.Ev
theorem zs2 {x hi:Int} (h0:0≤hi) (h1:hi<2^40):∃ r,zbn x 0 hi=some r∧0≤r∧r≤hi:=by
 unfold zbn
 by_cases h:0≤x∧x≤hi
 ·refine ⟨x,?_,h.1,h.2⟩
  have e1:decide (x≥0)=true:=by simpa using h.1
  have e2:decide (x≤hi)=true:=by simpa using h.2
  simp only [e1,e2,cond_true,Option.bind_some]
 ·have e:∀ (a:Bool) (b:Bool),(a&&b)=false→((bif a then (some b) else (some false)):Option Bool)=some false:=by
   intro a b;cases a<;>cases b<;>simp
  rw [e (decide (x≥0)) (decide (x≤hi)) (by simp;omega),Option.bind_some,cond_false]
  have w1:IntKind.wrap .i64 (IntKind.wrap .i64 (hi-0)+1)=hi+1:=by
   rw [wrap_i64 (n:=hi-0) (by omega) (by omega),wrap_i64 (by omega) (by omega)];omega
  have hb:-(hi+1)<x.tmod (hi+1)∧x.tmod (hi+1)<hi+1:=by
   have h1:=Int.tmod_lt_of_pos x (show 0<hi+1 by omega)
   have h2:=Int.neg_tmod x (hi+1)
   have h3:=Int.tmod_lt_of_pos (-x) (show 0<hi+1 by omega)
   omega
  rw [w1]
  unfold remP
  rw [if_neg (by omega),Option.bind_some]
  generalize x.tmod (hi+1)=m at hb
  by_cases hm:m<0
  ·have:decide (m<0)=true:=by simpa using hm
   rw [this,cond_true]
   refine ⟨_,rfl,?_⟩
   rw [wrap_i64 (n:=m+hi) (by omega) (by omega),wrap_i64 (n:=m+hi-0) (by omega) (by omega),wrap_i64 (n:=m+hi-0+1) (by omega) (by omega),wrap_i64 (by omega) (by omega)]
   omega
  ·have:decide (m<0)=false:=by simpa using hm
   rw [this,cond_false]
   refine ⟨_,rfl,?_⟩
   rw [wrap_i64 (by omega) (by omega)]
   omega
end Go.Ev
