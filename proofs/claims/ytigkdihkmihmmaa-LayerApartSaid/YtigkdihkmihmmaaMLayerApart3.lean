/- A part of the proof that follows: what comes of one layer turns no other one -/
import Derived.Test.YtigkdihkmihmmaaMLayerApart2
import Derived.KernelRfl
namespace Go.Ev
open Go.Proofs
set_option linter.unusedVariables false
set_option linter.unusedSimpArgs false
set_option maxRecDepth 100000
section
variable {β α : Type} {Q : β→α→Prop} {K : Exit × Env × H→Option α}
def zr (k:Nat) (x0:z6) (x1:Int) (x2:TaiRtp) (x3:Int) (x4:Int):Option (Int×Bool×z6) :=
(z19 x0 x1).bind fun r11 =>
bif !r11 then (
some (0,false,x0))
else (
(ix x0.l x1).bind fun a17 =>
(z3n a17.seen x2.Seq).bind fun r27 =>
bif !r27.2.1 then (
some (0,false,(⟨((x0.l.set (Int.toNat x1) ((⟨a17.told,r27.2.2,(⟨[((a17.meter.slots.getD 0 0)),((a17.meter.slots.getD 1 0)),((a17.meter.slots.getD 2 0)),((a17.meter.slots.getD 3 0)),((a17.meter.slots.getD 4 0))],a17.meter.last,a17.meter.total⟩:z4),a17.came,a17.f_until,a17.resting,a17.woken,a17.kept⟩:zk))))⟩:z6)))
else (
(z2o k (⟨[((a17.meter.slots.getD 0 0)),((a17.meter.slots.getD 1 0)),((a17.meter.slots.getD 2 0)),((a17.meter.slots.getD 3 0)),((a17.meter.slots.getD 4 0))],a17.meter.last,a17.meter.total⟩:z4) (IntKind.wrap .i64 (x3+28)) x4).bind fun r38 =>
(z4a x4).bind fun r44 =>
some (r27.1,true,(⟨((x0.l.set (Int.toNat x1) ((⟨a17.told,r27.2.2,(⟨[((r38.slots.getD 0 0)),((r38.slots.getD 1 0)),((r38.slots.getD 2 0)),((r38.slots.getD 3 0)),((r38.slots.getD 4 0))],r38.last,r38.total⟩:z4),true,r44,a17.resting,false,a17.kept⟩:zk))))⟩:z6))))
theorem z1i (k:Nat) {h:H} {σ:Stamp} (x0:z6) {c0_0:C} (hc0_0:RsC zd x0.l c0_0) {l0:Loc} {o0:Nat} (ha0:AtC h l0 o0 ([c0_0])) (x1:Int) (x2:TaiRtp) {u2:List V} (hu2:z7.R x2 u2) (x3:Int) (x4:Int):Sim (zr k x0 x1 x2 x3 x4) (ev G X0 45 σ [(.ref l0 o0),(.p (.int .i64 x1)),(.agg u2),(.p (.int .i64 x3)),(.p (.int .i64 x4))] h) (fun r s=>∃ (cb0_0:C),RsC zd r.2.2.l cb0_0∧s=([.v (.p (.int .i64 r.1)),.v (.p (.bool r.2.1))],pts h [⟨l0,o0,[cb0_0]⟩])):=by
 refine .ev rfl (Sim.ext (z78 _ _ _ _ _ _ _ _ _) ?_)
 rw [zr]
 obtain ⟨v1,v3,v5,rfl,h2,h4,h6⟩:=z7.inv hu2
 have S0:Fm 57 h [⟨l0,o0,[c0_0]⟩] [] [] (List.replicate 57 []::h):=Fm.start1 ha0
 obtain ⟨H7,e8,S9⟩:=S0.box (own:=true) (d:=7) (s:=(0::0::0::σ)) (xs:=[(.p (.bool x2.Marker)),(.p (.int .i64 x2.f_Type)),(.p (.int .u16 x2.Seq)),(.p (.int .u32 x2.Time)),(.p (.int .u32 x2.Ssrc)),v1,(.p (.int .u16 x2.Profile)),v3,v5]) (sC (sB _) (sC (sI _ _) (sC (sI _ _) (sC (sI _ _) (sC (sI _ _) (sC h2.still (sC (sI _ _) (sC h4.still (sC h6.still sN))))))))) (by decide) rfl
 refine .op (e8) ?_
 refine .call (z1v x0 hc0_0 (S9.atB (i:=0) rfl) x1) fun r11 cs12 H13 h14 q15=>?_
 cases q15
 refine .ab ?_
 refine .cq ?_ ?_
 ·exact .fin (S9.finN (lC (sI _ _).lv (lC (sB _).lv lN))) ⟨c0_0,hc0_0,rfl⟩
 refine .nc ?_
 refine .fa ?_
 refine .op (RsC.ld hc0_0 (S9.atB (i:=0) rfl) (j:=0) rfl) ?_
 refine .bd fun a17 h18=>?_
 obtain ⟨s19,P20,w21,Q22,rfl,h23,h24,h25⟩:=hc0_0.open h18 (e:=10) rfl
 obtain ⟨s25_3,s25_4,rfl⟩:=h24
 refine .op (iS_arr h18 _ _ _ _ _) ?_
 refine .nc ?_
 refine .fa ?_
 refine .op ((S9.atF (Foc.arr (Foc.of (i:=0) rfl) (j:=0) rfl h23)).ldOwn (j:=3) rfl) ?_
 refine .fa ?_
 refine .op ((S9.atG (i:=0) rfl).ld (j:=2) rfl) ?_
 refine .ci ?_
 refine .call (zds a17.seen (S9.atF (Foc.own (Foc.arr (Foc.of (i:=0) rfl) (j:=0) rfl h23) (j:=3) rfl)) x2.Seq) fun r27 cs28 H29 h30 q31=>?_
 cases q31
 have S32:Fm _ _ _ _ _ (pts H7 [⟨((l0.hop (o0+0) s19).hop ((Int.toNat x1*10)+3) s25_3),0,List.map C.v [(.p (.int .i64 r27.2.2.first)),(.p (.int .i64 r27.2.2.last)),(.p (.int .i64 r27.2.2.count)),(.p (.int .u64 r27.2.2.mask))]⟩]):=S9.setF (Foc.own (Foc.arr (Foc.of (i:=0) rfl) (j:=0) rfl h23) (j:=3) rfl) (cs':=List.map C.v [(.p (.int .i64 r27.2.2.first)),(.p (.int .i64 r27.2.2.last)),(.p (.int .i64 r27.2.2.count)),(.p (.int .u64 r27.2.2.mask))]) (by rfl)
 refine .or ?_
 refine .ci ?_
 refine .or ?_
 refine .ab ?_
 refine .cq ?_ ?_
 ·obtain ⟨c34,e35,h36⟩:∃ c,c=.arr s19 x0.l.length 10 (P20++[.v (.p (.string a17.told.Rid)),.v (.p (.int .u32 a17.told.Ssrc)),.v (.p (.int .i64 a17.told.Height)),.own s25_3 (List.map C.v [(.p (.int .i64 r27.2.2.first)),(.p (.int .i64 r27.2.2.last)),(.p (.int .i64 r27.2.2.count)),(.p (.int .u64 r27.2.2.mask))]),.own s25_4 (List.map C.v [(.p (.int .i64 ((a17.meter.slots.getD 0 0)))),(.p (.int .i64 ((a17.meter.slots.getD 1 0)))),(.p (.int .i64 ((a17.meter.slots.getD 2 0)))),(.p (.int .i64 ((a17.meter.slots.getD 3 0)))),(.p (.int .i64 ((a17.meter.slots.getD 4 0)))),(.p (.int .i64 a17.meter.last)),(.p (.int .i64 a17.meter.total))]),.v (.p (.bool a17.came)),.v (.p (.int .i64 a17.f_until)),.v (.p (.bool a17.resting)),.v (.p (.bool a17.woken)),.v (.p (.int .i64 a17.kept))]++Q22)∧RsC zd ((x0.l.set (Int.toNat x1) ((⟨a17.told,r27.2.2,(⟨[((a17.meter.slots.getD 0 0)),((a17.meter.slots.getD 1 0)),((a17.meter.slots.getD 2 0)),((a17.meter.slots.getD 3 0)),((a17.meter.slots.getD 4 0))],a17.meter.last,a17.meter.total⟩:z4),a17.came,a17.f_until,a17.resting,a17.woken,a17.kept⟩:zk)))) c:=⟨_,rfl,h25 ((⟨a17.told,r27.2.2,(⟨[((a17.meter.slots.getD 0 0)),((a17.meter.slots.getD 1 0)),((a17.meter.slots.getD 2 0)),((a17.meter.slots.getD 3 0)),((a17.meter.slots.getD 4 0))],a17.meter.last,a17.meter.total⟩:z4),a17.came,a17.f_until,a17.resting,a17.woken,a17.kept⟩:zk)) [.v (.p (.string a17.told.Rid)),.v (.p (.int .u32 a17.told.Ssrc)),.v (.p (.int .i64 a17.told.Height)),.own s25_3 (List.map C.v [(.p (.int .i64 r27.2.2.first)),(.p (.int .i64 r27.2.2.last)),(.p (.int .i64 r27.2.2.count)),(.p (.int .u64 r27.2.2.mask))]),.own s25_4 (List.map C.v [(.p (.int .i64 ((a17.meter.slots.getD 0 0)))),(.p (.int .i64 ((a17.meter.slots.getD 1 0)))),(.p (.int .i64 ((a17.meter.slots.getD 2 0)))),(.p (.int .i64 ((a17.meter.slots.getD 3 0)))),(.p (.int .i64 ((a17.meter.slots.getD 4 0)))),(.p (.int .i64 a17.meter.last)),(.p (.int .i64 a17.meter.total))]),.v (.p (.bool a17.came)),.v (.p (.int .i64 a17.f_until)),.v (.p (.bool a17.resting)),.v (.p (.bool a17.woken)),.v (.p (.int .i64 a17.kept))] ⟨s25_3,s25_4,rfl⟩⟩
  have S37:Fm 57 h [⟨l0,o0,[c34]⟩] [(7,(0::0::0::σ),List.map C.v [(.p (.bool x2.Marker)),(.p (.int .i64 x2.f_Type)),(.p (.int .u16 x2.Seq)),(.p (.int .u32 x2.Time)),(.p (.int .u32 x2.Ssrc)),v1,(.p (.int .u16 x2.Profile)),v3,v5])] [] (pts H7 [⟨((l0.hop (o0+0) s19).hop ((Int.toNat x1*10)+3) s25_3),0,List.map C.v [(.p (.int .i64 r27.2.2.first)),(.p (.int .i64 r27.2.2.last)),(.p (.int .i64 r27.2.2.count)),(.p (.int .u64 r27.2.2.mask))]⟩]):=by rw [e35];exact S32
  exact .fin (S37.finN (lC (sI _ _).lv (lC (sB _).lv lN))) ⟨c34,h36,rfl⟩
 refine .nc ?_
 refine .fa ?_
 refine .op ((S32.atF (Foc.arr (Foc.of (i:=0) rfl) (j:=0) rfl h23)).ldOwn (j:=4) rfl) ?_
 refine .call (zb7 k (⟨[((a17.meter.slots.getD 0 0)),((a17.meter.slots.getD 1 0)),((a17.meter.slots.getD 2 0)),((a17.meter.slots.getD 3 0)),((a17.meter.slots.getD 4 0))],a17.meter.last,a17.meter.total⟩:z4) (S32.atF (Foc.own (Foc.arr (Foc.of (i:=0) rfl) (j:=0) rfl h23) (j:=4) rfl)) (IntKind.wrap .i64 (x3+28)) x4) fun r38 cs39 H40 h41 q42=>?_
 cases q42
 have S43:Fm _ _ _ _ _ (pts (pts H7 [⟨((l0.hop (o0+0) s19).hop ((Int.toNat x1*10)+3) s25_3),0,List.map C.v [(.p (.int .i64 r27.2.2.first)),(.p (.int .i64 r27.2.2.last)),(.p (.int .i64 r27.2.2.count)),(.p (.int .u64 r27.2.2.mask))]⟩]) [⟨((l0.hop (o0+0) s19).hop ((Int.toNat x1*10)+4) s25_4),0,List.map C.v [(.p (.int .i64 ((r38.slots.getD 0 0)))),(.p (.int .i64 ((r38.slots.getD 1 0)))),(.p (.int .i64 ((r38.slots.getD 2 0)))),(.p (.int .i64 ((r38.slots.getD 3 0)))),(.p (.int .i64 ((r38.slots.getD 4 0)))),(.p (.int .i64 r38.last)),(.p (.int .i64 r38.total))]⟩]):=S32.setF (Foc.own (Foc.arr (Foc.of (i:=0) rfl) (j:=0) rfl h23) (j:=4) rfl) (cs':=List.map C.v [(.p (.int .i64 ((r38.slots.getD 0 0)))),(.p (.int .i64 ((r38.slots.getD 1 0)))),(.p (.int .i64 ((r38.slots.getD 2 0)))),(.p (.int .i64 ((r38.slots.getD 3 0)))),(.p (.int .i64 ((r38.slots.getD 4 0)))),(.p (.int .i64 r38.last)),(.p (.int .i64 r38.total))]) (by rfl)
 refine .call (zej x4) fun r44 cs45 H46 h47 q48=>?_
 cases q48
 refine .ci ?_
 refine .nc ?_
 refine .fa ?_
 obtain ⟨H49,e50,S51⟩:=S43.stF (Foc.arr (Foc.of (i:=0) rfl) (j:=0) rfl h23) (j:=5) (own:=true) (σ:=(7::0::1::1::1::1::1::1::0::σ)) (x:=(.p (.bool true))) (sB _) rfl
 refine .op (sM e50) ?_
 refine .nc ?_
 refine .fa ?_
 obtain ⟨H52,e53,S54⟩:=S51.stF (Foc.arr (Foc.of (i:=0) rfl) (j:=0) rfl h23) (j:=6) (own:=true) (σ:=(10::0::1::1::1::1::1::1::0::σ)) (x:=(.p (.int .i64 r44))) (sI _ _) rfl
 refine .op (sM e53) ?_
 refine .nc ?_
 refine .fa ?_
 obtain ⟨H55,e56,S57⟩:=S54.stF (Foc.arr (Foc.of (i:=0) rfl) (j:=0) rfl h23) (j:=8) (own:=true) (σ:=(13::0::1::1::1::1::1::1::0::σ)) (x:=(.p (.bool false))) (sB _) rfl
 refine .op (sM e56) ?_
 obtain ⟨c58,e59,h60⟩:∃ c,c=.arr s19 x0.l.length 10 (P20++[.v (.p (.string a17.told.Rid)),.v (.p (.int .u32 a17.told.Ssrc)),.v (.p (.int .i64 a17.told.Height)),.own s25_3 (List.map C.v [(.p (.int .i64 r27.2.2.first)),(.p (.int .i64 r27.2.2.last)),(.p (.int .i64 r27.2.2.count)),(.p (.int .u64 r27.2.2.mask))]),.own s25_4 (List.map C.v [(.p (.int .i64 ((r38.slots.getD 0 0)))),(.p (.int .i64 ((r38.slots.getD 1 0)))),(.p (.int .i64 ((r38.slots.getD 2 0)))),(.p (.int .i64 ((r38.slots.getD 3 0)))),(.p (.int .i64 ((r38.slots.getD 4 0)))),(.p (.int .i64 r38.last)),(.p (.int .i64 r38.total))]),.v (.p (.bool true)),.v (.p (.int .i64 r44)),.v (.p (.bool a17.resting)),.v (.p (.bool false)),.v (.p (.int .i64 a17.kept))]++Q22)∧RsC zd ((x0.l.set (Int.toNat x1) ((⟨a17.told,r27.2.2,(⟨[((r38.slots.getD 0 0)),((r38.slots.getD 1 0)),((r38.slots.getD 2 0)),((r38.slots.getD 3 0)),((r38.slots.getD 4 0))],r38.last,r38.total⟩:z4),true,r44,a17.resting,false,a17.kept⟩:zk)))) c:=⟨_,rfl,h25 ((⟨a17.told,r27.2.2,(⟨[((r38.slots.getD 0 0)),((r38.slots.getD 1 0)),((r38.slots.getD 2 0)),((r38.slots.getD 3 0)),((r38.slots.getD 4 0))],r38.last,r38.total⟩:z4),true,r44,a17.resting,false,a17.kept⟩:zk)) [.v (.p (.string a17.told.Rid)),.v (.p (.int .u32 a17.told.Ssrc)),.v (.p (.int .i64 a17.told.Height)),.own s25_3 (List.map C.v [(.p (.int .i64 r27.2.2.first)),(.p (.int .i64 r27.2.2.last)),(.p (.int .i64 r27.2.2.count)),(.p (.int .u64 r27.2.2.mask))]),.own s25_4 (List.map C.v [(.p (.int .i64 ((r38.slots.getD 0 0)))),(.p (.int .i64 ((r38.slots.getD 1 0)))),(.p (.int .i64 ((r38.slots.getD 2 0)))),(.p (.int .i64 ((r38.slots.getD 3 0)))),(.p (.int .i64 ((r38.slots.getD 4 0)))),(.p (.int .i64 r38.last)),(.p (.int .i64 r38.total))]),.v (.p (.bool true)),.v (.p (.int .i64 r44)),.v (.p (.bool a17.resting)),.v (.p (.bool false)),.v (.p (.int .i64 a17.kept))] ⟨s25_3,s25_4,rfl⟩⟩
 have S61:Fm 57 h [⟨l0,o0,[c58]⟩] [(7,(0::0::0::σ),List.map C.v [(.p (.bool x2.Marker)),(.p (.int .i64 x2.f_Type)),(.p (.int .u16 x2.Seq)),(.p (.int .u32 x2.Time)),(.p (.int .u32 x2.Ssrc)),v1,(.p (.int .u16 x2.Profile)),v3,v5])] [] H55:=by rw [e59];exact S57
 exact .fin (S61.finN (lC (sI _ _).lv (lC (sB _).lv lN))) ⟨c58,h60,rfl⟩
end
end Go.Ev
namespace Go.Ev
open Go.Proofs
set_option linter.unusedVariables false
set_option linter.unusedSimpArgs false
set_option maxRecDepth 100000
noncomputable section
abbrev KT10:=Exit→Env→H→Option (List C × H)
variable (rec : CallF) (loop : LoopV) (σ : Stamp)
theorem z85 (x0:V) (x1:Int) (x2:Bool) (x3:Int) (h:H):cvBody G rec loop 48 σ [x0,(.p (.int .i64 x1)),(.p (.bool x2)),(.p (.int .i64 x3))] h =
(callO rec 96 (2::0::0::0::σ) [x0,(.p (.int .i64 x1))] (List.replicate 53 []::h) (some 10)).bind fun q1 =>
(asB q1.1).bind fun b2 =>
(bif !b2 then (some true) else ((nilChk x0).bind fun t3 =>
(fA t3 0).bind fun t4 =>
(ldO false 1 q1.2 t4).bind fun t5 =>
(iS 10 t5 x1).bind fun t6 =>
(fA t6 7).bind fun t7 =>
(ldO false 1 q1.2 t7).bind fun t8 =>
(asB t8).bind fun b9 =>
some (b9==x2))).bind fun b10 =>
bif b10 then (
fin false σ q1.2 [])
else (
bif x2 then (
(nilChk x0).bind fun t11 =>
(fA t11 0).bind fun t12 =>
(ldO false 1 q1.2 t12).bind fun t13 =>
(callO rec 46 (8::1::0::1::0::σ) [x0,(.p (.int .i64 x1)),(.p (.int .i64 x3))] q1.2 (some 33)).bind fun q14 =>
(castI .i64 q14.1).bind fun n15 =>
need (ldO false 1 q14.2 t12=some t13) (
(iS 10 t13 x1).bind fun t16 =>
(fA t16 9).bind fun t17 =>
((stO true 1 (11::1::0::1::0::σ) q14.2 t17 (.p (.int .i64 n15))).map fun h=>(udf,h)).bind fun q18 =>
(nilChk x0).bind fun t19 =>
(fA t19 0).bind fun t20 =>
(ldO false 1 q18.2 t20).bind fun t21 =>
(nilChk x0).bind fun t22 =>
(fA t22 0).bind fun t23 =>
(ldO false 1 q18.2 t23).bind fun t24 =>
(iS 10 t21 x1).bind fun t25 =>
(fA t25 7).bind fun t26 =>
((stO true 1 (15::1::1::0::σ) q18.2 t26 (.p (.bool x2))).map fun h=>(udf,h)).bind fun q27 =>
(iS 10 t24 x1).bind fun t28 =>
(fA t28 8).bind fun t29 =>
((stO true 1 (18::1::1::0::σ) q27.2 t29 (.p (.bool (!x2)))).map fun h=>(udf,h)).bind fun q30 =>
fin false σ q30.2 []))
else (
(nilChk x0).bind fun t31 =>
(fA t31 0).bind fun t32 =>
(ldO false 1 q1.2 t32).bind fun t33 =>
(nilChk x0).bind fun t34 =>
(fA t34 0).bind fun t35 =>
(ldO false 1 q1.2 t35).bind fun t36 =>
(iS 10 t33 x1).bind fun t37 =>
(fA t37 7).bind fun t38 =>
((stO true 1 (15::1::1::0::σ) q1.2 t38 (.p (.bool x2))).map fun h=>(udf,h)).bind fun q39 =>
(iS 10 t36 x1).bind fun t40 =>
(fA t40 8).bind fun t41 =>
((stO true 1 (18::1::1::0::σ) q39.2 t41 (.p (.bool (!x2)))).map fun h=>(udf,h)).bind fun q42 =>
fin false σ q42.2 [])):=by kernel_rfl
theorem z84 (x0:V) (x1:Int) (x2:Int) (h:H):cvBody G rec loop 46 σ [x0,(.p (.int .i64 x1)),(.p (.int .i64 x2))] h =
(callO rec 96 (2::0::0::1::0::σ) [x0,(.p (.int .i64 x1))] (List.replicate 33 []::h) (some 10)).bind fun q1 =>
(asB q1.1).bind fun b2 =>
bif !b2 then (
fin false σ q1.2 [(.p (.int .i64 0))])
else (
(nilChk x0).bind fun t3 =>
(fA t3 0).bind fun t4 =>
(ldO false 1 q1.2 t4).bind fun t5 =>
(iS 10 t5 x1).bind fun t6 =>
(ldO true 10 q1.2 t6).bind fun t7 =>
(some (alO [.p (.string (⟨#[]⟩:ByteArray)),.p (.int .u32 0),.p (.int .i64 0),.p (.pointer none),.p (.pointer none),.p (.bool false),.p (.int .i64 0),.p (.bool false),.p (.bool false),.p (.int .i64 0)] (7::0::1::1::0::σ) 7 q1.2)).bind fun q8 =>
((stO false 10 (8::0::1::1::0::σ) q8.2 q8.1 t7).map fun h=>(udf,h)).bind fun q9 =>
(fA q8.1 7).bind fun t10 =>
(ldO false 1 q9.2 t10).bind fun t11 =>
(asB t11).bind fun b12 =>
(bif b12 then (some true) else ((fA q8.1 8).bind fun t13 =>
(ldO false 1 q9.2 t13).bind fun t14 =>
(asB t14).bind fun b15 =>
some b15)).bind fun b16 =>
bif b16 then (
(fA q8.1 9).bind fun t17 =>
(ldO false 1 q9.2 t17).bind fun t18 =>
(castI .i64 t18).bind fun n19 =>
fin false σ q9.2 [(.p (.int .i64 n19))])
else (
(fA q8.1 4).bind fun t20 =>
(ldO false 1 q9.2 t20).bind fun t21 =>
(callO rec 101 (3::0::1::1::1::1::0::σ) [t21,(.p (.int .i64 x2))] q9.2 (some 30)).bind fun q22 =>
(castI .i64 q22.1).bind fun n23 =>
(callO rec 100 (4::0::1::1::1::1::0::σ) [(.p (.int .i64 n23)),(.p (.int .i64 1000))] q22.2 (some 31)).bind fun q24 =>
(castI .i64 q24.1).bind fun n25 =>
fin false σ q24.2 [(.p (.int .i64 ((if n25>1 then n25 else 1))))])):=by kernel_rfl
theorem zcx (x0:Int) (x1:Int) (h:H):cvBody G rec loop 100 σ [(.p (.int .i64 x0)),(.p (.int .i64 x1))] h =
(callO rec 130 (1::0::1::0::σ) [(.p (.int .i64 x0))] (List.replicate 25 []::h) (some 9)).bind fun q1 =>
(castI .u64 q1.1).bind fun n2 =>
(callO rec 130 (3::0::1::0::σ) [(.p (.int .i64 x1))] q1.2 (some 11)).bind fun q3 =>
(castI .u64 q3.1).bind fun n4 =>
bif n4==0 then (
fin false σ q3.2 [(.p (.int .i64 0))])
else (
(divI .u64 n2 n4).bind fun t5 =>
(castI .u64 t5).bind fun n6 =>
(remI .u64 n2 n4).bind fun t7 =>
(castI .u64 t7).bind fun n8 =>
bif decide (n8>0) then (
fin false σ q3.2 [(.p (.int .i64 (IntKind.wrap .i64 (IntKind.wrap .u64 (n6+1)))))])
else (
fin false σ q3.2 [(.p (.int .i64 (IntKind.wrap .i64 n6)))])):=by kernel_rfl
end
end Go.Ev
namespace Go.Ev
open Go.Proofs
set_option linter.unusedVariables false
set_option linter.unusedSimpArgs false
set_option maxRecDepth 100000
section
variable {β α : Type} {Q : β→α→Prop} {K : Exit × Env × H→Option α}
def z2r (x0:Int) (x1:Int):Option (Int) :=
(z2c x0).bind fun r1 =>
(z2c x1).bind fun r6 =>
bif r6==0 then (
some (0))
else (
(divP .u64 r1 r6).bind fun n12 =>
(remP r1 r6).bind fun n14 =>
bif decide (n14>0) then (
some ((IntKind.wrap .i64 (IntKind.wrap .u64 (n12+1)))))
else (
some ((IntKind.wrap .i64 n12))))
theorem za4 {h:H} {σ:Stamp} (x0:Int) (x1:Int):Sim (z2r x0 x1) (ev G X0 100 σ [(.p (.int .i64 x0)),(.p (.int .i64 x1))] h) (fun r s=>s=([.v (.p (.int .i64 r))],h)):=by
 refine .ev rfl (Sim.ext (zcx _ _ _ _ _ _) ?_)
 rw [z2r]
 have S0:Fm 25 h [] [] [] (List.replicate 25 []::h):=Fm.start0
 refine .call (z4c x0) fun r1 cs2 H3 h4 q5=>?_
 cases q5
 refine .ci ?_
 refine .call (z4c x1) fun r6 cs7 H8 h9 q10=>?_
 cases q10
 refine .ci ?_
 refine .cq ?_ ?_
 ·exact .fin (S0.finN (lC (sI _ _).lv lN)) rfl
 refine .bd fun n12 h13=>?_
 refine .op (zm8 h13) ?_
 refine .ci ?_
 refine .bd fun n14 h15=>?_
 refine .op (ze4 h15) ?_
 refine .ci ?_
 refine .cq ?_ ?_
 ·exact .fin (S0.finN (lC (sI _ _).lv lN)) rfl
 exact .fin (S0.finN (lC (sI _ _).lv lN)) rfl
end
end Go.Ev
namespace Go.Ev
open Go.Proofs
set_option linter.unusedVariables false
set_option linter.unusedSimpArgs false
set_option maxRecDepth 100000
noncomputable section
abbrev KT11:=Exit→Env→H→Option (List C × H)
variable (rec : CallF) (loop : LoopV) (σ : Stamp)
def z25:Code:=(codeAt (bodyOf Try.f101) [1,1,1,0,1,0,0])
def z26:Lv:=⟨64,16,[(0,64)]⟩
def z69:KT11:=(kBlock 0 (kSeq G rec loop (codeAt (bodyOf Try.f101) [1,1,1,1]) ⟨16,16,[]⟩ (1::1::1::0::σ) (finC G false Try.f101 (1::σ))))
theorem z8p (x0:V) (x1:Int) (h:H):cvBody G rec loop 101 σ [x0,(.p (.int .i64 x1))] h =
(nilChk x0).bind fun t1 =>
(fA t1 5).bind fun t2 =>
(ldO false 1 (List.replicate 49 []::h) t2).bind fun t3 =>
(castI .i64 t3).bind fun n4 =>
(callO rec 128 (5::0::1::0::σ) [(.p (.int .i64 x1))] (List.replicate 49 []::h) (some 13)).bind fun q5 =>
(castI .i64 q5.1).bind fun n6 =>
need (ldO false 1 q5.2 t2=some (.p (.int .i64 n4))) (
(loop z25 z26 (1::0::1::1::1::0::σ) (envL [(0,x0),(6,(.p (.int .i64 0))),(7,(.p (.int .i64 (IntKind.wrap .i64 ((IntKind.wrap .i64 (((if n6>n4 then n6 else n4))-5))+1)))))]) q5.2).bind fun r7=>z69 rec loop σ r7.1 r7.2.1 r7.2.2):=by kernel_rfl
theorem zad (x0:V) (x6:Int) (x7:Int) (h:H):z1l G rec loop z25 z26 σ (envL [(0,x0),(6,(.p (.int .i64 x6))),(7,(.p (.int .i64 x7)))]) h =
(nilChk x0).bind fun t8 =>
(fA t8 5).bind fun t9 =>
(ldO false 1 h t9).bind fun t10 =>
(castI .i64 t10).bind fun n11 =>
bif decide (x7≤n11) then (
(bif decide (x7≥0) then ((nilChk x0).bind fun t12 =>
(fA t12 5).bind fun t13 =>
(ldO false 1 h t13).bind fun t14 =>
(castI .i64 t14).bind fun n15 =>
some (decide (x7>(IntKind.wrap .i64 (n15-5))))) else (some false)).bind fun b16 =>
bif b16 then (
(nilChk x0).bind fun t17 =>
(fA t17 0).bind fun t18 =>
(iA 5 1 t18 (Int.tmod x7 5)).bind fun t19 =>
(ldO false 1 h t19).bind fun t20 =>
(castI .i64 t20).bind fun n21 =>
(callO rec 129 (8::1::0::1::0::σ) [(.p (.int .i64 x6)),(.p (.int .i64 n21))] h (some 45)).bind fun q22 =>
(castI .i64 q22.1).bind fun n23 =>
loop z25 z26 (1::σ) (envL [(0,x0),(6,(.p (.int .i64 n23))),(7,(.p (.int .i64 (IntKind.wrap .i64 (x7+1)))))]) q22.2)
else (
loop z25 z26 (1::σ) (envL [(0,x0),(6,(.p (.int .i64 x6))),(7,(.p (.int .i64 (IntKind.wrap .i64 (x7+1)))))]) h))
else (
some ((.exit 0),(envL [(6,(.p (.int .i64 x6)))]),h)):=by kernel_rfl
theorem z96 (x6:Int) (h:H):z69 rec loop σ (.exit 0) (envL [(6,(.p (.int .i64 x6)))]) h =
(callO rec 131 (1::0::1::1::1::1::0::σ) [(.p (.int .i64 x6)),(.p (.int .i64 1000000))] h (some 47)).bind fun q24 =>
(castI .i64 q24.1).bind fun n25 =>
(callO rec 100 (2::0::1::1::1::1::0::σ) [(.p (.int .i64 n25)),(.p (.int .i64 500000))] q24.2 (some 48)).bind fun q26 =>
(castI .i64 q26.1).bind fun n27 =>
fin false σ q26.2 [(.p (.int .i64 n27))]:=by kernel_rfl
theorem zdm (x0:Int) (x1:Int) (h:H):cvBody G rec loop 131 σ [(.p (.int .i64 x0)),(.p (.int .i64 x1))] h =
(callO rec 130 (1::0::1::0::σ) [(.p (.int .i64 x0))] (List.replicate 20 []::h) (some 9)).bind fun q1 =>
(castI .u64 q1.1).bind fun n2 =>
(callO rec 130 (3::0::1::0::σ) [(.p (.int .i64 x1))] q1.2 (some 11)).bind fun q3 =>
(castI .u64 q3.1).bind fun n4 =>
(callO rec 138 (4::0::1::0::σ) [(.p (.int .u64 n2)),(.p (.int .u64 n4))] q3.2 (some 12)).bind fun q5 =>
(extV q5.1 0).bind fun t6 =>
(castI .u64 t6).bind fun n7 =>
(extV q5.1 1).bind fun t8 =>
(castI .u64 t8).bind fun n9 =>
bif decide (n7>0) then (
fin false σ q5.2 [(.p (.int .i64 9223372036854775807))])
else (
fin false σ q5.2 [(.p (.int .i64 (IntKind.wrap .i64 ((if 9223372036854775807<n9 then 9223372036854775807 else n9)))))]):=by kernel_rfl
theorem z92 (x0:Int) (x1:Int) (h:H):cvBody G rec loop 138 σ [(.p (.int .u64 x0)),(.p (.int .u64 x1))] h =
fin false σ (List.replicate 51 []::h) [(.p (.int .u64 (IntKind.wrap .u64 ((IntKind.wrap .u64 ((IntKind.wrap .u64 ((Int.fdiv x0 (2^32))*(Int.fdiv x1 (2^32))))+(Int.fdiv (IntKind.wrap .u64 ((IntKind.wrap .u64 ((Int.fdiv x0 (2^32))*(intBits .and .u64 x1 4294967295)))+(Int.fdiv (IntKind.wrap .u64 ((intBits .and .u64 x0 4294967295)*(intBits .and .u64 x1 4294967295))) (2^32)))) (2^32))))+(Int.fdiv (IntKind.wrap .u64 ((intBits .and .u64 (IntKind.wrap .u64 ((IntKind.wrap .u64 ((Int.fdiv x0 (2^32))*(intBits .and .u64 x1 4294967295)))+(Int.fdiv (IntKind.wrap .u64 ((intBits .and .u64 x0 4294967295)*(intBits .and .u64 x1 4294967295))) (2^32)))) 4294967295)+(IntKind.wrap .u64 ((intBits .and .u64 x0 4294967295)*(Int.fdiv x1 (2^32)))))) (2^32)))))),(.p (.int .u64 (IntKind.wrap .u64 (x0*x1))))]:=by kernel_rfl
end
end Go.Ev
namespace Go.Ev
open Go.Proofs
set_option linter.unusedVariables false
set_option linter.unusedSimpArgs false
set_option maxRecDepth 100000
section
variable {β α : Type} {Q : β→α→Prop} {K : Exit × Env × H→Option α}
def z3j (x0:Int) (x1:Int):Option (Int×Int) :=
some ((IntKind.wrap .u64 ((IntKind.wrap .u64 ((IntKind.wrap .u64 ((Int.fdiv x0 (2^32))*(Int.fdiv x1 (2^32))))+(Int.fdiv (IntKind.wrap .u64 ((IntKind.wrap .u64 ((Int.fdiv x0 (2^32))*(intBits .and .u64 x1 4294967295)))+(Int.fdiv (IntKind.wrap .u64 ((intBits .and .u64 x0 4294967295)*(intBits .and .u64 x1 4294967295))) (2^32)))) (2^32))))+(Int.fdiv (IntKind.wrap .u64 ((intBits .and .u64 (IntKind.wrap .u64 ((IntKind.wrap .u64 ((Int.fdiv x0 (2^32))*(intBits .and .u64 x1 4294967295)))+(Int.fdiv (IntKind.wrap .u64 ((intBits .and .u64 x0 4294967295)*(intBits .and .u64 x1 4294967295))) (2^32)))) 4294967295)+(IntKind.wrap .u64 ((intBits .and .u64 x0 4294967295)*(Int.fdiv x1 (2^32)))))) (2^32)))),(IntKind.wrap .u64 (x0*x1)))
theorem zbb {h:H} {σ:Stamp} (x0:Int) (x1:Int):Sim (z3j x0 x1) (ev G X0 138 σ [(.p (.int .u64 x0)),(.p (.int .u64 x1))] h) (fun r s=>s=([.v (.p (.int .u64 r.1)),.v (.p (.int .u64 r.2))],h)):=by
 refine .ev rfl (Sim.ext (z92 _ _ _ _ _ _) ?_)
 rw [z3j]
 have S0:Fm 51 h [] [] [] (List.replicate 51 []::h):=Fm.start0
 exact .fin (S0.finN (lC (sI _ _).lv (lC (sI _ _).lv lN))) rfl
def z4h (x0:Int) (x1:Int):Option (Int) :=
(z2c x0).bind fun r1 =>
(z2c x1).bind fun r6 =>
(z3j r1 r6).bind fun r11 =>
bif decide (r11.1>0) then (
some (9223372036854775807))
else (
some ((IntKind.wrap .i64 ((if 9223372036854775807<r11.2 then 9223372036854775807 else r11.2)))))
theorem zh0 {h:H} {σ:Stamp} (x0:Int) (x1:Int):Sim (z4h x0 x1) (ev G X0 131 σ [(.p (.int .i64 x0)),(.p (.int .i64 x1))] h) (fun r s=>s=([.v (.p (.int .i64 r))],h)):=by
 refine .ev rfl (Sim.ext (zdm _ _ _ _ _ _) ?_)
 rw [z4h]
 have S0:Fm 20 h [] [] [] (List.replicate 20 []::h):=Fm.start0
 refine .call (z4c x0) fun r1 cs2 H3 h4 q5=>?_
 cases q5
 refine .ci ?_
 refine .call (z4c x1) fun r6 cs7 H8 h9 q10=>?_
 cases q10
 refine .ci ?_
 refine .call (zbb r1 r6) fun r11 cs12 H13 h14 q15=>?_
 cases q15
 refine .or ?_
 refine .ci ?_
 refine .or ?_
 refine .ci ?_
 refine .cq ?_ ?_
 ·exact .fin (S0.finN (lC (sI _ _).lv lN)) rfl
 exact .fin (S0.finN (lC (sI _ _).lv lN)) rfl
def z17 {β:Type} (k:Nat) (kE0:Int→Option β) (x0:z4) (x6:Int) (x7:Int):Option β:=match k with
| 0=>none
| k+1 =>
bif decide (x7≤x0.last) then (
(bif decide (x7≥0) then (some (decide (x7>(IntKind.wrap .i64 (x0.last-5))))) else (some false)).bind fun b13 =>
bif b13 then (
(ix [((x0.slots.getD 0 0)),((x0.slots.getD 1 0)),((x0.slots.getD 2 0)),((x0.slots.getD 3 0)),((x0.slots.getD 4 0))] (Int.tmod x7 5)).bind fun a18 =>
(z3e x6 a18).bind fun r20 =>
z17 k kE0 ((⟨[((x0.slots.getD 0 0)),((x0.slots.getD 1 0)),((x0.slots.getD 2 0)),((x0.slots.getD 3 0)),((x0.slots.getD 4 0))],x0.last,x0.total⟩:z4)) r20 (IntKind.wrap .i64 (x7+1)))
else (
z17 k kE0 ((⟨[((x0.slots.getD 0 0)),((x0.slots.getD 1 0)),((x0.slots.getD 2 0)),((x0.slots.getD 3 0)),((x0.slots.getD 4 0))],x0.last,x0.total⟩:z4)) x6 (IntKind.wrap .i64 (x7+1))))
else (
kE0 x6)
def z2f (k:Nat) (x0:z4) (x1:Int):Option (Int) :=
(z3q x1).bind fun r1 =>
z17 k (fun r27_6 =>
(z4h r27_6 1000000).bind fun r30 =>
(z2r r30 500000).bind fun r35 =>
some (r35)) ((⟨[((x0.slots.getD 0 0)),((x0.slots.getD 1 0)),((x0.slots.getD 2 0)),((x0.slots.getD 3 0)),((x0.slots.getD 4 0))],x0.last,x0.total⟩:z4)) 0 (IntKind.wrap .i64 ((IntKind.wrap .i64 (((if r1>x0.last then r1 else x0.last))-5))+1))
theorem z8j {h:H}  {kE0:Int→Option β} (hE0:∀ (q6:Int) (H25:Go.Ev.H) (_:Fm 49 h [] [] [] H25),Sim (kE0 q6) (K ((.exit 0),(envL [(6,(.p (.int .i64 q6)))]),H25)) Q) (k:Nat):∀ (x0:z4) (x6:Int) (x7:Int) (lr8:Loc) (or9:Nat) (har10:AtC h lr8 or9 (List.map C.v [(.p (.int .i64 ((x0.slots.getD 0 0)))),(.p (.int .i64 ((x0.slots.getD 1 0)))),(.p (.int .i64 ((x0.slots.getD 2 0)))),(.p (.int .i64 ((x0.slots.getD 3 0)))),(.p (.int .i64 ((x0.slots.getD 4 0)))),(.p (.int .i64 x0.last)),(.p (.int .i64 x0.total))])) (H6:Go.Ev.H) (_:Fm 49 h [] [] [] H6) {σ:Stamp},Sim (z17 k kE0 x0 x6 x7) ((cvL G X0 z25 z26 σ (envL [(0,(.ref lr8 or9)),(6,(.p (.int .i64 x6))),(7,(.p (.int .i64 x7)))]) H6).bind K) Q:=by
 induction k with
 | zero=>intros;exact .no
 | succ k ih =>
  intro x0 x6 x7 lr8 or9 har10 H6 S7 σ
  rw [z17]
  refine .round (Sim.ext (zad _ _ _ _ _ _ _) ?_)
  refine .nc ?_
  refine .fa ?_
  refine .op ((S7.lowA har10).ld (j:=5) rfl) ?_
  refine .ci ?_
  refine .cq ?_ ?_
  ·refine .ch (P:=fun r y=>r=y) ?_ (fun b13 y14 h15 h16=>?_)
   ·refine .cq ?_ ?_
    ·refine .nc ?_
     refine .fa ?_
     refine .op ((S7.lowA har10).ld (j:=5) rfl) ?_
     refine .ci ?_
     exact .ret rfl rfl
    ·exact .ret rfl rfl
   subst h16
   refine .cq ?_ ?_
   ·refine .nc ?_
    refine .fa ?_
    refine .bd fun a18 h19=>?_
    refine .op (iA_ok h19 rfl) ?_
    refine .op ((S7.lowA har10).ldIx (xs:=[((x0.slots.getD 0 0)),((x0.slots.getD 1 0)),((x0.slots.getD 2 0)),((x0.slots.getD 3 0)),((x0.slots.getD 4 0))]) (j:=0) (n:=5) (f:=fun z=>.p (.int .i64 z)) rfl h19 rfl) ?_
    refine .ci ?_
    refine .call (z68 x6 a18) fun r20 cs21 H22 h23 q24=>?_
    cases q24
    refine .ci ?_
    exact ih ((⟨[((x0.slots.getD 0 0)),((x0.slots.getD 1 0)),((x0.slots.getD 2 0)),((x0.slots.getD 3 0)),((x0.slots.getD 4 0))],x0.last,x0.total⟩:z4)) r20 (IntKind.wrap .i64 (x7+1)) lr8 or9 har10 H6 (S7.wk2 aN aN)
   exact ih ((⟨[((x0.slots.getD 0 0)),((x0.slots.getD 1 0)),((x0.slots.getD 2 0)),((x0.slots.getD 3 0)),((x0.slots.getD 4 0))],x0.last,x0.total⟩:z4)) x6 (IntKind.wrap .i64 (x7+1)) lr8 or9 har10 H6 (S7.wk2 aN aN)
  exact hE0 x6 H6 (S7.wk2 aN aN)
theorem zaa (k:Nat) {h:H} {σ:Stamp} (x0:z4)  {l0:Loc} {o0:Nat} (ha0:AtC h l0 o0 (List.map C.v [(.p (.int .i64 ((x0.slots.getD 0 0)))),(.p (.int .i64 ((x0.slots.getD 1 0)))),(.p (.int .i64 ((x0.slots.getD 2 0)))),(.p (.int .i64 ((x0.slots.getD 3 0)))),(.p (.int .i64 ((x0.slots.getD 4 0)))),(.p (.int .i64 x0.last)),(.p (.int .i64 x0.total))])) (x1:Int):Sim (z2f k x0 x1) (ev G X0 101 σ [(.ref l0 o0),(.p (.int .i64 x1))] h) (fun r s=>s=([.v (.p (.int .i64 r))],h)):=by
 refine .ev rfl (Sim.ext (z8p _ _ _ _ _ _) ?_)
 rw [z2f]
 have S0:Fm 49 h [] [] [] (List.replicate 49 []::h):=Fm.start0
 refine .nc ?_
 refine .fa ?_
 refine .op ((S0.lowA ha0).ld (j:=5) rfl) ?_
 refine .ci ?_
 refine .call (za1 x1) fun r1 cs2 H3 h4 q5=>?_
 cases q5
 refine .ci ?_
 refine .nd ((S0.lowA ha0).ld (j:=5) rfl) ?_
 refine .as (z8j ?_ k ((⟨[((x0.slots.getD 0 0)),((x0.slots.getD 1 0)),((x0.slots.getD 2 0)),((x0.slots.getD 3 0)),((x0.slots.getD 4 0))],x0.last,x0.total⟩:z4)) 0 (IntKind.wrap .i64 ((IntKind.wrap .i64 (((if r1>x0.last then r1 else x0.last))-5))+1)) l0 o0 ha0 (List.replicate 49 []::h) (S0.wk2 aN aN))
 ·intro r27_6 H28 S29
  refine .ext (z96 _ _ _ _ _) ?_
  refine .call (zh0 r27_6 1000000) fun r30 cs31 H32 h33 q34=>?_
  cases q34
  refine .ci ?_
  refine .call (za4 r30 500000) fun r35 cs36 H37 h38 q39=>?_
  cases q39
  refine .ci ?_
  exact .fin (S29.finN (lC (sI _ _).lv lN)) rfl
def z8 (k:Nat) (x0:z6) (x1:Int) (x2:Int):Option (Int) :=
(z19 x0 x1).bind fun r1 =>
bif !r1 then (
some (0))
else (
(ix x0.l x1).bind fun a7 =>
(bif a7.resting then (some true) else (some a7.woken)).bind fun b23 =>
bif b23 then (
some (a7.kept))
else (
(z2f k (⟨[((a7.meter.slots.getD 0 0)),((a7.meter.slots.getD 1 0)),((a7.meter.slots.getD 2 0)),((a7.meter.slots.getD 3 0)),((a7.meter.slots.getD 4 0))],a7.meter.last,a7.meter.total⟩:z4) x2).bind fun r28 =>
(z2r r28 1000).bind fun r33 =>
some (((if r33>1 then r33 else 1)))))
theorem ze (k:Nat) {h:H} {σ:Stamp} (x0:z6) {c0_0:C} (hc0_0:RsC zd x0.l c0_0) {l0:Loc} {o0:Nat} (ha0:AtC h l0 o0 ([c0_0])) (x1:Int) (x2:Int):Sim (z8 k x0 x1 x2) (ev G X0 46 σ [(.ref l0 o0),(.p (.int .i64 x1)),(.p (.int .i64 x2))] h) (fun r s=>s=([.v (.p (.int .i64 r))],h)):=by
 refine .ev rfl (Sim.ext (z84 _ _ _ _ _ _ _) ?_)
 rw [z8]
 have S0:Fm 33 h [] [] [] (List.replicate 33 []::h):=Fm.start0
 refine .call (z1v x0 hc0_0 (S0.lowA ha0) x1) fun r1 cs2 H3 h4 q5=>?_
 cases q5
 refine .ab ?_
 refine .cq ?_ ?_
 ·exact .fin (S0.finN (lC (sI _ _).lv lN)) rfl
 refine .nc ?_
 refine .fa ?_
 refine .op (RsC.ld hc0_0 (S0.lowA ha0) (j:=0) rfl) ?_
 refine .bd fun a7 h8=>?_
 obtain ⟨lr9,w10,e11,h12,har13⟩:=RsH.el (RsC.rs hc0_0 ha0 (j:=0) rfl) h8 (e:=10) rfl
 obtain ⟨s14_3,s14_4,rfl⟩:=h12
 refine .op (e11) ?_
 refine .op ((S0.lowA har13).ldAll (j:=0) (xs:=[(.p (.string a7.told.Rid)),(.p (.int .u32 a7.told.Ssrc)),(.p (.int .i64 a7.told.Height)),(.ref (lr9.hop ((Int.toNat x1*10)+3) s14_3) 0),(.ref (lr9.hop ((Int.toNat x1*10)+4) s14_4) 0),(.p (.bool a7.came)),(.p (.int .i64 a7.f_until)),(.p (.bool a7.resting)),(.p (.bool a7.woken)),(.p (.int .i64 a7.kept))]) rfl rfl) ?_
 obtain ⟨H16,e17,S18⟩:=S0.al (d:=7) (s:=(7::0::1::1::0::σ)) (z:=[(.p (.string ((⟨#[]⟩:ByteArray)))),(.p (.int .u32 0)),(.p (.int .i64 0)),(.p (.pointer none)),(.p (.pointer none)),(.p (.bool false)),(.p (.int .i64 0)),(.p (.bool false)),(.p (.bool false)),(.p (.int .i64 0))]) (by decide) rfl
 refine .op (congrArg some e17) ?_
 obtain ⟨H20,e21,S22⟩:=S18.stGw (i:=0) (j:=0) (own:=false) (σ:=(8::0::1::1::0::σ)) (xs:=[(.p (.string a7.told.Rid)),(.p (.int .u32 a7.told.Ssrc)),(.p (.int .i64 a7.told.Height)),(.ref (lr9.hop ((Int.toNat x1*10)+3) s14_3) 0),(.ref (lr9.hop ((Int.toNat x1*10)+4) s14_4) 0),(.p (.bool a7.came)),(.p (.int .i64 a7.f_until)),(.p (.bool a7.resting)),(.p (.bool a7.woken)),(.p (.int .i64 a7.kept))]) (ws:=List.map C.v [(.p (.string a7.told.Rid)),(.p (.int .u32 a7.told.Ssrc)),(.p (.int .i64 a7.told.Height)),(.ref (lr9.hop ((Int.toNat x1*10)+3) s14_3) 0),(.ref (lr9.hop ((Int.toNat x1*10)+4) s14_4) 0),(.p (.bool a7.came)),(.p (.int .i64 a7.f_until)),(.p (.bool a7.resting)),(.p (.bool a7.woken)),(.p (.int .i64 a7.kept))]) rfl rfl (z14 (Still.low (still_str _)) (z14 (Still.low (sI _ _)) (z14 (Still.low (sI _ _)) (z14 (Low.hop _ _ _) (z14 (Low.hop _ _ _) (z14 (Still.low (sB _)) (z14 (Still.low (sI _ _)) (z14 (Still.low (sB _)) (z14 (Still.low (sB _)) (z14 (Still.low (sI _ _)) lw_nil)))))))))) rfl rfl
 refine .op (sM e21) ?_
 refine .fa ?_
 refine .op ((S22.atG (i:=0) rfl).ld (j:=7) rfl) ?_
 refine .ab ?_
 refine .ch (P:=fun r y=>r=y) ?_ (fun b23 y24 h25 h26=>?_)
 ·refine .cq ?_ ?_
  ·exact .ret rfl rfl
  ·refine .fa ?_
   refine .op ((S22.atG (i:=0) rfl).ld (j:=8) rfl) ?_
   refine .ab ?_
   exact .ret rfl rfl
 subst h26
 refine .cq ?_ ?_
 ·refine .fa ?_
  refine .op ((S22.atG (i:=0) rfl).ld (j:=9) rfl) ?_
  refine .ci ?_
  exact .fin (S22.finN (lC (sI _ _).lv lN)) rfl
 refine .fa ?_
 refine .op ((S22.atG (i:=0) rfl).ld (j:=4) rfl) ?_
 refine .call (zaa k (⟨[((a7.meter.slots.getD 0 0)),((a7.meter.slots.getD 1 0)),((a7.meter.slots.getD 2 0)),((a7.meter.slots.getD 3 0)),((a7.meter.slots.getD 4 0))],a7.meter.last,a7.meter.total⟩:z4) ((S22.lowA har13).sub (j:=4) rfl) x2) fun r28 cs29 H30 h31 q32=>?_
 cases q32
 refine .ci ?_
 refine .call (za4 r28 1000) fun r33 cs34 H35 h36 q37=>?_
 cases q37
 refine .ci ?_
 exact .fin (S22.finN (lC (sI _ _).lv lN)) rfl
def zz (k:Nat) (x0:z6) (x1:Int) (x2:Bool) (x3:Int):Option (z6) :=
(z19 x0 x1).bind fun r1 =>
(bif !r1 then (some true) else ((ix x0.l x1).bind fun a6 =>
some (a6.resting==x2))).bind fun b16 =>
bif b16 then (
some (x0))
else (
bif x2 then (
(z8 k x0 x1 x3).bind fun r22 =>
(ix x0.l x1).bind fun a27 =>
some ((⟨((x0.l.set (Int.toNat x1) ((⟨a27.told,a27.seen,(⟨[((a27.meter.slots.getD 0 0)),((a27.meter.slots.getD 1 0)),((a27.meter.slots.getD 2 0)),((a27.meter.slots.getD 3 0)),((a27.meter.slots.getD 4 0))],a27.meter.last,a27.meter.total⟩:z4),a27.came,a27.f_until,x2,(!x2),r22⟩:zk))))⟩:z6)))
else (
(ix x0.l x1).bind fun a50 =>
some ((⟨((x0.l.set (Int.toNat x1) ((⟨a50.told,a50.seen,(⟨[((a50.meter.slots.getD 0 0)),((a50.meter.slots.getD 1 0)),((a50.meter.slots.getD 2 0)),((a50.meter.slots.getD 3 0)),((a50.meter.slots.getD 4 0))],a50.meter.last,a50.meter.total⟩:z4),a50.came,a50.f_until,x2,(!x2),a50.kept⟩:zk))))⟩:z6))))
theorem z20 (k:Nat) {h:H} {σ:Stamp} (x0:z6) {c0_0:C} (hc0_0:RsC zd x0.l c0_0) {l0:Loc} {o0:Nat} (ha0:AtC h l0 o0 ([c0_0])) (x1:Int) (x2:Bool) (x3:Int):Sim (zz k x0 x1 x2 x3) (ev G X0 48 σ [(.ref l0 o0),(.p (.int .i64 x1)),(.p (.bool x2)),(.p (.int .i64 x3))] h) (fun r s=>∃ (cb0_0:C),RsC zd r.l cb0_0∧s=([],pts h [⟨l0,o0,[cb0_0]⟩])):=by
 refine .ev rfl (Sim.ext (z85 _ _ _ _ _ _ _ _) ?_)
 rw [zz]
 have S0:Fm 53 h [⟨l0,o0,[c0_0]⟩] [] [] (List.replicate 53 []::h):=Fm.start1 ha0
 refine .call (z1v x0 hc0_0 (S0.atB (i:=0) rfl) x1) fun r1 cs2 H3 h4 q5=>?_
 cases q5
 refine .ab ?_
 refine .ch (P:=fun r y=>r=y) ?_ (fun b16 y17 h18 h19=>?_)
 ·refine .cq ?_ ?_
  ·exact .ret rfl rfl
  ·refine .nc ?_
   refine .fa ?_
   refine .op (RsC.ld hc0_0 (S0.atB (i:=0) rfl) (j:=0) rfl) ?_
   refine .bd fun a6 h7=>?_
   obtain ⟨s8,P9,w10,Q11,rfl,h12,h13,h14⟩:=hc0_0.open h7 (e:=10) rfl
   obtain ⟨s14_3,s14_4,rfl⟩:=h13
   refine .op (iS_arr h7 _ _ _ _ _) ?_
   refine .fa ?_
   refine .op ((S0.atF (Foc.arr (Foc.of (i:=0) rfl) (j:=0) rfl h12)).ld (j:=7) rfl) ?_
   refine .ab ?_
   exact .ret rfl rfl
 subst h19
 refine .cq ?_ ?_
 ·exact .fin (S0.finN lN) ⟨c0_0,hc0_0,rfl⟩
 refine .cq ?_ ?_
 ·refine .nc ?_
  refine .fa ?_
  refine .op (RsC.ld hc0_0 (S0.atB (i:=0) rfl) (j:=0) rfl) ?_
  refine .call (ze k x0 hc0_0 (S0.atB (i:=0) rfl) x1 x3) fun r22 cs23 H24 h25 q26=>?_
  cases q26
  refine .ci ?_
  refine .nd (RsC.ld hc0_0 (S0.atB (i:=0) rfl) (j:=0) rfl) ?_
  refine .bd fun a27 h28=>?_
  obtain ⟨s29,P30,w31,Q32,rfl,h33,h34,h35⟩:=hc0_0.open h28 (e:=10) rfl
  obtain ⟨s35_3,s35_4,rfl⟩:=h34
  refine .op (iS_arr h28 _ _ _ _ _) ?_
  refine .fa ?_
  obtain ⟨H37,e38,S39⟩:=S0.stF (Foc.arr (Foc.of (i:=0) rfl) (j:=0) rfl h33) (j:=9) (own:=true) (σ:=(11::1::0::1::0::σ)) (x:=(.p (.int .i64 r22))) (sI _ _) rfl
  refine .op (sM e38) ?_
  refine .nc ?_
  refine .fa ?_
  refine .op ((S39.atB (i:=0) rfl).ldR (j:=0) rfl) ?_
  refine .nc ?_
  refine .fa ?_
  refine .op ((S39.atB (i:=0) rfl).ldR (j:=0) rfl) ?_
  refine .op (iS_arr h28 _ _ _ _ _) ?_
  refine .fa ?_
  obtain ⟨H40,e41,S42⟩:=S39.stF (Foc.arr (Foc.of (i:=0) rfl) (j:=0) rfl h33) (j:=7) (own:=true) (σ:=(15::1::1::0::σ)) (x:=(.p (.bool x2))) (sB _) rfl
  refine .op (sM e41) ?_
  refine .op (iS_arr h28 _ _ _ _ _) ?_
  refine .fa ?_
  obtain ⟨H43,e44,S45⟩:=S42.stF (Foc.arr (Foc.of (i:=0) rfl) (j:=0) rfl h33) (j:=8) (own:=true) (σ:=(18::1::1::0::σ)) (x:=(.p (.bool (!x2)))) (sB _) rfl
  refine .op (sM e44) ?_
  obtain ⟨c46,e47,h48⟩:∃ c,c=.arr s29 x0.l.length 10 (P30++[.v (.p (.string a27.told.Rid)),.v (.p (.int .u32 a27.told.Ssrc)),.v (.p (.int .i64 a27.told.Height)),.own s35_3 (List.map C.v [(.p (.int .i64 a27.seen.first)),(.p (.int .i64 a27.seen.last)),(.p (.int .i64 a27.seen.count)),(.p (.int .u64 a27.seen.mask))]),.own s35_4 (List.map C.v [(.p (.int .i64 ((a27.meter.slots.getD 0 0)))),(.p (.int .i64 ((a27.meter.slots.getD 1 0)))),(.p (.int .i64 ((a27.meter.slots.getD 2 0)))),(.p (.int .i64 ((a27.meter.slots.getD 3 0)))),(.p (.int .i64 ((a27.meter.slots.getD 4 0)))),(.p (.int .i64 a27.meter.last)),(.p (.int .i64 a27.meter.total))]),.v (.p (.bool a27.came)),.v (.p (.int .i64 a27.f_until)),.v (.p (.bool x2)),.v (.p (.bool (!x2))),.v (.p (.int .i64 r22))]++Q32)∧RsC zd ((x0.l.set (Int.toNat x1) ((⟨a27.told,a27.seen,(⟨[((a27.meter.slots.getD 0 0)),((a27.meter.slots.getD 1 0)),((a27.meter.slots.getD 2 0)),((a27.meter.slots.getD 3 0)),((a27.meter.slots.getD 4 0))],a27.meter.last,a27.meter.total⟩:z4),a27.came,a27.f_until,x2,(!x2),r22⟩:zk)))) c:=⟨_,rfl,h35 ((⟨a27.told,a27.seen,(⟨[((a27.meter.slots.getD 0 0)),((a27.meter.slots.getD 1 0)),((a27.meter.slots.getD 2 0)),((a27.meter.slots.getD 3 0)),((a27.meter.slots.getD 4 0))],a27.meter.last,a27.meter.total⟩:z4),a27.came,a27.f_until,x2,(!x2),r22⟩:zk)) [.v (.p (.string a27.told.Rid)),.v (.p (.int .u32 a27.told.Ssrc)),.v (.p (.int .i64 a27.told.Height)),.own s35_3 (List.map C.v [(.p (.int .i64 a27.seen.first)),(.p (.int .i64 a27.seen.last)),(.p (.int .i64 a27.seen.count)),(.p (.int .u64 a27.seen.mask))]),.own s35_4 (List.map C.v [(.p (.int .i64 ((a27.meter.slots.getD 0 0)))),(.p (.int .i64 ((a27.meter.slots.getD 1 0)))),(.p (.int .i64 ((a27.meter.slots.getD 2 0)))),(.p (.int .i64 ((a27.meter.slots.getD 3 0)))),(.p (.int .i64 ((a27.meter.slots.getD 4 0)))),(.p (.int .i64 a27.meter.last)),(.p (.int .i64 a27.meter.total))]),.v (.p (.bool a27.came)),.v (.p (.int .i64 a27.f_until)),.v (.p (.bool x2)),.v (.p (.bool (!x2))),.v (.p (.int .i64 r22))] ⟨s35_3,s35_4,rfl⟩⟩
  have S49:Fm 53 h [⟨l0,o0,[c46]⟩] [] [] H43:=by rw [e47];exact S45
  exact .fin (S49.finN lN) ⟨c46,h48,rfl⟩
 refine .nc ?_
 refine .fa ?_
 refine .op (RsC.ld hc0_0 (S0.atB (i:=0) rfl) (j:=0) rfl) ?_
 refine .nc ?_
 refine .fa ?_
 refine .op (RsC.ld hc0_0 (S0.atB (i:=0) rfl) (j:=0) rfl) ?_
 refine .bd fun a50 h51=>?_
 obtain ⟨s52,P53,w54,Q55,rfl,h56,h57,h58⟩:=hc0_0.open h51 (e:=10) rfl
 obtain ⟨s58_3,s58_4,rfl⟩:=h57
 refine .op (iS_arr h51 _ _ _ _ _) ?_
 refine .fa ?_
 obtain ⟨H60,e61,S62⟩:=S0.stF (Foc.arr (Foc.of (i:=0) rfl) (j:=0) rfl h56) (j:=7) (own:=true) (σ:=(15::1::1::0::σ)) (x:=(.p (.bool x2))) (sB _) rfl
 refine .op (sM e61) ?_
 refine .op (iS_arr h51 _ _ _ _ _) ?_
 refine .fa ?_
 obtain ⟨H63,e64,S65⟩:=S62.stF (Foc.arr (Foc.of (i:=0) rfl) (j:=0) rfl h56) (j:=8) (own:=true) (σ:=(18::1::1::0::σ)) (x:=(.p (.bool (!x2)))) (sB _) rfl
 refine .op (sM e64) ?_
 obtain ⟨c66,e67,h68⟩:∃ c,c=.arr s52 x0.l.length 10 (P53++[.v (.p (.string a50.told.Rid)),.v (.p (.int .u32 a50.told.Ssrc)),.v (.p (.int .i64 a50.told.Height)),.own s58_3 (List.map C.v [(.p (.int .i64 a50.seen.first)),(.p (.int .i64 a50.seen.last)),(.p (.int .i64 a50.seen.count)),(.p (.int .u64 a50.seen.mask))]),.own s58_4 (List.map C.v [(.p (.int .i64 ((a50.meter.slots.getD 0 0)))),(.p (.int .i64 ((a50.meter.slots.getD 1 0)))),(.p (.int .i64 ((a50.meter.slots.getD 2 0)))),(.p (.int .i64 ((a50.meter.slots.getD 3 0)))),(.p (.int .i64 ((a50.meter.slots.getD 4 0)))),(.p (.int .i64 a50.meter.last)),(.p (.int .i64 a50.meter.total))]),.v (.p (.bool a50.came)),.v (.p (.int .i64 a50.f_until)),.v (.p (.bool x2)),.v (.p (.bool (!x2))),.v (.p (.int .i64 a50.kept))]++Q55)∧RsC zd ((x0.l.set (Int.toNat x1) ((⟨a50.told,a50.seen,(⟨[((a50.meter.slots.getD 0 0)),((a50.meter.slots.getD 1 0)),((a50.meter.slots.getD 2 0)),((a50.meter.slots.getD 3 0)),((a50.meter.slots.getD 4 0))],a50.meter.last,a50.meter.total⟩:z4),a50.came,a50.f_until,x2,(!x2),a50.kept⟩:zk)))) c:=⟨_,rfl,h58 ((⟨a50.told,a50.seen,(⟨[((a50.meter.slots.getD 0 0)),((a50.meter.slots.getD 1 0)),((a50.meter.slots.getD 2 0)),((a50.meter.slots.getD 3 0)),((a50.meter.slots.getD 4 0))],a50.meter.last,a50.meter.total⟩:z4),a50.came,a50.f_until,x2,(!x2),a50.kept⟩:zk)) [.v (.p (.string a50.told.Rid)),.v (.p (.int .u32 a50.told.Ssrc)),.v (.p (.int .i64 a50.told.Height)),.own s58_3 (List.map C.v [(.p (.int .i64 a50.seen.first)),(.p (.int .i64 a50.seen.last)),(.p (.int .i64 a50.seen.count)),(.p (.int .u64 a50.seen.mask))]),.own s58_4 (List.map C.v [(.p (.int .i64 ((a50.meter.slots.getD 0 0)))),(.p (.int .i64 ((a50.meter.slots.getD 1 0)))),(.p (.int .i64 ((a50.meter.slots.getD 2 0)))),(.p (.int .i64 ((a50.meter.slots.getD 3 0)))),(.p (.int .i64 ((a50.meter.slots.getD 4 0)))),(.p (.int .i64 a50.meter.last)),(.p (.int .i64 a50.meter.total))]),.v (.p (.bool a50.came)),.v (.p (.int .i64 a50.f_until)),.v (.p (.bool x2)),.v (.p (.bool (!x2))),.v (.p (.int .i64 a50.kept))] ⟨s58_3,s58_4,rfl⟩⟩
 have S69:Fm 53 h [⟨l0,o0,[c66]⟩] [] [] H63:=by rw [e67];exact S65
 exact .fin (S69.finN lN) ⟨c66,h68,rfl⟩
end
end Go.Ev
namespace Go.Ev
open Go.Proofs
set_option linter.unusedVariables false
set_option linter.unusedSimpArgs false
set_option maxRecDepth 100000
noncomputable section
abbrev KT12:=Exit→Env→H→Option (List C × H)
variable (rec : CallF) (loop : LoopV) (σ : Stamp)
theorem z87 (x0:V) (x1:Int) (x2:Int) (h:H):cvBody G rec loop 47 σ [x0,(.p (.int .i64 x1)),(.p (.int .i64 x2))] h =
(callO rec 96 (2::0::1::0::σ) [x0,(.p (.int .i64 x1))] (List.replicate 43 []::h) (some 9)).bind fun q1 =>
(asB q1.1).bind fun b2 =>
(bif b2 then ((nilChk x0).bind fun t3 =>
(fA t3 0).bind fun t4 =>
(ldO false 1 q1.2 t4).bind fun t5 =>
(iS 10 t5 x1).bind fun t6 =>
(fA t6 5).bind fun t7 =>
(ldO false 1 q1.2 t7).bind fun t8 =>
(asB t8).bind fun b9 =>
some b9) else (some false)).bind fun b10 =>
(bif b10 then ((nilChk x0).bind fun t11 =>
(fA t11 0).bind fun t12 =>
(ldO false 1 q1.2 t12).bind fun t13 =>
(iS 10 t13 x1).bind fun t14 =>
(fA t14 7).bind fun t15 =>
(ldO false 1 q1.2 t15).bind fun t16 =>
(asB t16).bind fun b17 =>
some (!b17)) else (some false)).bind fun b18 =>
(bif b18 then ((nilChk x0).bind fun t19 =>
(fA t19 0).bind fun t20 =>
(ldO false 1 q1.2 t20).bind fun t21 =>
(iS 10 t21 x1).bind fun t22 =>
(fA t22 6).bind fun t23 =>
(ldO false 1 q1.2 t23).bind fun t24 =>
(castI .i64 t24).bind fun n25 =>
some (decide (x2<n25))) else (some false)).bind fun b26 =>
fin false σ q1.2 [(.p (.bool b26))]:=by kernel_rfl
end
end Go.Ev
namespace Go.Ev
open Go.Proofs
set_option linter.unusedVariables false
set_option linter.unusedSimpArgs false
set_option maxRecDepth 100000
section
variable {β α : Type} {Q : β→α→Prop} {K : Exit × Env × H→Option α}
def zc (x0:z6) (x1:Int) (x2:Int):Option (Bool) :=
(z19 x0 x1).bind fun r1 =>
(bif r1 then ((ix x0.l x1).bind fun a6 =>
some a6.came) else (some false)).bind fun b15 =>
(bif b15 then ((ix x0.l x1).bind fun a19 =>
some (!a19.resting)) else (some false)).bind fun b28 =>
(bif b28 then ((ix x0.l x1).bind fun a32 =>
some (decide (x2<a32.f_until))) else (some false)).bind fun b41 =>
some (b41)
theorem zh {h:H} {σ:Stamp} (x0:z6) {c0_0:C} (hc0_0:RsC zd x0.l c0_0) {l0:Loc} {o0:Nat} (ha0:AtC h l0 o0 ([c0_0])) (x1:Int) (x2:Int):Sim (zc x0 x1 x2) (ev G X0 47 σ [(.ref l0 o0),(.p (.int .i64 x1)),(.p (.int .i64 x2))] h) (fun r s=>s=([.v (.p (.bool r))],h)):=by
 refine .ev rfl (Sim.ext (z87 _ _ _ _ _ _ _) ?_)
 rw [zc]
 have S0:Fm 43 h [] [] [] (List.replicate 43 []::h):=Fm.start0
 refine .call (z1v x0 hc0_0 (S0.lowA ha0) x1) fun r1 cs2 H3 h4 q5=>?_
 cases q5
 refine .ab ?_
 refine .ch (P:=fun r y=>r=y) ?_ (fun b15 y16 h17 h18=>?_)
 ·refine .cq ?_ ?_
  ·refine .nc ?_
   refine .fa ?_
   refine .op (RsC.ld hc0_0 (S0.lowA ha0) (j:=0) rfl) ?_
   refine .bd fun a6 h7=>?_
   obtain ⟨lr8,w9,e10,h11,har12⟩:=RsH.el (RsC.rs hc0_0 ha0 (j:=0) rfl) h7 (e:=10) rfl
   obtain ⟨s13_3,s13_4,rfl⟩:=h11
   refine .op (e10) ?_
   refine .fa ?_
   refine .op ((S0.lowA har12).ld (j:=5) rfl) ?_
   refine .ab ?_
   exact .ret rfl rfl
  ·exact .ret rfl rfl
 subst h18
 refine .ch (P:=fun r y=>r=y) ?_ (fun b28 y29 h30 h31=>?_)
 ·refine .cq ?_ ?_
  ·refine .nc ?_
   refine .fa ?_
   refine .op (RsC.ld hc0_0 (S0.lowA ha0) (j:=0) rfl) ?_
   refine .bd fun a19 h20=>?_
   obtain ⟨lr21,w22,e23,h24,har25⟩:=RsH.el (RsC.rs hc0_0 ha0 (j:=0) rfl) h20 (e:=10) rfl
   obtain ⟨s26_3,s26_4,rfl⟩:=h24
   refine .op (e23) ?_
   refine .fa ?_
   refine .op ((S0.lowA har25).ld (j:=7) rfl) ?_
   refine .ab ?_
   exact .ret rfl rfl
  ·exact .ret rfl rfl
 subst h31
 refine .ch (P:=fun r y=>r=y) ?_ (fun b41 y42 h43 h44=>?_)
 ·refine .cq ?_ ?_
  ·refine .nc ?_
   refine .fa ?_
   refine .op (RsC.ld hc0_0 (S0.lowA ha0) (j:=0) rfl) ?_
   refine .bd fun a32 h33=>?_
   obtain ⟨lr34,w35,e36,h37,har38⟩:=RsH.el (RsC.rs hc0_0 ha0 (j:=0) rfl) h33 (e:=10) rfl
   obtain ⟨s39_3,s39_4,rfl⟩:=h37
   refine .op (e36) ?_
   refine .fa ?_
   refine .op ((S0.lowA har38).ld (j:=6) rfl) ?_
   refine .ci ?_
   exact .ret rfl rfl
  ·exact .ret rfl rfl
 subst h44
 exact .fin (S0.finN (lC (sB _).lv lN)) rfl
end
end Go.Ev
namespace Go.Ev
open Go.Proofs
set_option linter.unusedVariables false
set_option linter.unusedSimpArgs false
set_option maxRecDepth 100000
noncomputable section
abbrev KT13:=Exit→Env→H→Option (List C × H)
variable (rec : CallF) (loop : LoopV) (σ : Stamp)
theorem z70 (x0:V) (x1:Int) (h:H):cvBody G rec loop 50 σ [x0,(.p (.int .i64 x1))] h =
(callO rec 96 (2::0::1::0::σ) [x0,(.p (.int .i64 x1))] (List.replicate 18 []::h) (some 7)).bind fun q1 =>
(asB q1.1).bind fun b2 =>
(bif b2 then ((nilChk x0).bind fun t3 =>
(fA t3 0).bind fun t4 =>
(ldO false 1 q1.2 t4).bind fun t5 =>
(iS 10 t5 x1).bind fun t6 =>
(fA t6 7).bind fun t7 =>
(ldO false 1 q1.2 t7).bind fun t8 =>
(asB t8).bind fun b9 =>
some b9) else (some false)).bind fun b10 =>
fin false σ q1.2 [(.p (.bool b10))]:=by kernel_rfl
end
end Go.Ev
namespace Go.Ev
open Go.Proofs
set_option linter.unusedVariables false
set_option linter.unusedSimpArgs false
set_option maxRecDepth 100000
section
variable {β α : Type} {Q : β→α→Prop} {K : Exit × Env × H→Option α}
def z9 (x0:z6) (x1:Int):Option (Bool) :=
(z19 x0 x1).bind fun r1 =>
(bif r1 then ((ix x0.l x1).bind fun a6 =>
some a6.resting) else (some false)).bind fun b15 =>
some (b15)
theorem zf {h:H} {σ:Stamp} (x0:z6) {c0_0:C} (hc0_0:RsC zd x0.l c0_0) {l0:Loc} {o0:Nat} (ha0:AtC h l0 o0 ([c0_0])) (x1:Int):Sim (z9 x0 x1) (ev G X0 50 σ [(.ref l0 o0),(.p (.int .i64 x1))] h) (fun r s=>s=([.v (.p (.bool r))],h)):=by
 refine .ev rfl (Sim.ext (z70 _ _ _ _ _ _) ?_)
 rw [z9]
 have S0:Fm 18 h [] [] [] (List.replicate 18 []::h):=Fm.start0
 refine .call (z1v x0 hc0_0 (S0.lowA ha0) x1) fun r1 cs2 H3 h4 q5=>?_
 cases q5
 refine .ab ?_
 refine .ch (P:=fun r y=>r=y) ?_ (fun b15 y16 h17 h18=>?_)
 ·refine .cq ?_ ?_
  ·refine .nc ?_
   refine .fa ?_
   refine .op (RsC.ld hc0_0 (S0.lowA ha0) (j:=0) rfl) ?_
   refine .bd fun a6 h7=>?_
   obtain ⟨lr8,w9,e10,h11,har12⟩:=RsH.el (RsC.rs hc0_0 ha0 (j:=0) rfl) h7 (e:=10) rfl
   obtain ⟨s13_3,s13_4,rfl⟩:=h11
   refine .op (e10) ?_
   refine .fa ?_
   refine .op ((S0.lowA har12).ld (j:=7) rfl) ?_
   refine .ab ?_
   exact .ret rfl rfl
  ·exact .ret rfl rfl
 subst h18
 exact .fin (S0.finN (lC (sB _).lv lN)) rfl
end
end Go.Ev
namespace Go.Ev
open Go.Proofs
set_option linter.unusedVariables false
set_option linter.unusedSimpArgs false
set_option maxRecDepth 100000
noncomputable section
abbrev KT14:=Exit→Env→H→Option (List C × H)
variable (rec : CallF) (loop : LoopV) (σ : Stamp)
theorem z7m (x0:V) (x1:Int) (h:H):cvBody G rec loop 49 σ [x0,(.p (.int .i64 x1))] h =
(callO rec 96 (2::0::1::0::σ) [x0,(.p (.int .i64 x1))] (List.replicate 18 []::h) (some 7)).bind fun q1 =>
(asB q1.1).bind fun b2 =>
(bif b2 then ((nilChk x0).bind fun t3 =>
(fA t3 0).bind fun t4 =>
(ldO false 1 q1.2 t4).bind fun t5 =>
(iS 10 t5 x1).bind fun t6 =>
(fA t6 8).bind fun t7 =>
(ldO false 1 q1.2 t7).bind fun t8 =>
(asB t8).bind fun b9 =>
some b9) else (some false)).bind fun b10 =>
fin false σ q1.2 [(.p (.bool b10))]:=by kernel_rfl
end
end Go.Ev
namespace Go.Ev
open Go.Proofs
set_option linter.unusedVariables false
set_option linter.unusedSimpArgs false
set_option maxRecDepth 100000
section
variable {β α : Type} {Q : β→α→Prop} {K : Exit × Env × H→Option α}
def za (x0:z6) (x1:Int):Option (Bool) :=
(z19 x0 x1).bind fun r1 =>
(bif r1 then ((ix x0.l x1).bind fun a6 =>
some a6.woken) else (some false)).bind fun b15 =>
some (b15)
theorem zi {h:H} {σ:Stamp} (x0:z6) {c0_0:C} (hc0_0:RsC zd x0.l c0_0) {l0:Loc} {o0:Nat} (ha0:AtC h l0 o0 ([c0_0])) (x1:Int):Sim (za x0 x1) (ev G X0 49 σ [(.ref l0 o0),(.p (.int .i64 x1))] h) (fun r s=>s=([.v (.p (.bool r))],h)):=by
 refine .ev rfl (Sim.ext (z7m _ _ _ _ _ _) ?_)
 rw [za]
 have S0:Fm 18 h [] [] [] (List.replicate 18 []::h):=Fm.start0
 refine .call (z1v x0 hc0_0 (S0.lowA ha0) x1) fun r1 cs2 H3 h4 q5=>?_
 cases q5
 refine .ab ?_
 refine .ch (P:=fun r y=>r=y) ?_ (fun b15 y16 h17 h18=>?_)
 ·refine .cq ?_ ?_
  ·refine .nc ?_
   refine .fa ?_
   refine .op (RsC.ld hc0_0 (S0.lowA ha0) (j:=0) rfl) ?_
   refine .bd fun a6 h7=>?_
   obtain ⟨lr8,w9,e10,h11,har12⟩:=RsH.el (RsC.rs hc0_0 ha0 (j:=0) rfl) h7 (e:=10) rfl
   obtain ⟨s13_3,s13_4,rfl⟩:=h11
   refine .op (e10) ?_
   refine .fa ?_
   refine .op ((S0.lowA har12).ld (j:=8) rfl) ?_
   refine .ab ?_
   exact .ret rfl rfl
  ·exact .ret rfl rfl
 subst h18
 exact .fin (S0.finN (lC (sB _).lv lN)) rfl
end
end Go.Ev
namespace Go.Ev
namespace Lay
abbrev One:=zk
abbrev Ly:=z6
structure OkE (e:One):Prop where
 s0:-1≤e.seen.last
 s1:e.seen.last<9223372036854775808
 m0:0≤e.meter.last
 m1:e.meter.last<1152921504606846976
theorem zm4 (n:Int):IntKind.wrap .i64 n<9223372036854775808:=by
 simp only [IntKind.wrap,IntKind.signed,IntKind.bits]
 simp
 omega
theorem zjl {last n:Int} (hn:0≤n∧n<65536):∃ r,z4p last n=some r∧0≤r∧r<9223372036854775808:=by
 have key:∀ v:Int,∃ r,(bif decide (IntKind.wrap .i64 v<0) then some n else some (IntKind.wrap .i64 v))=some r∧0≤r∧r<9223372036854775808:=fun v=>by
  by_cases h:IntKind.wrap .i64 v<0
  ·rw [decide_eq_true h];exact ⟨n,rfl,hn.1,by omega⟩
  ·rw [decide_eq_false h];exact ⟨_,rfl,by omega,zm4 v⟩
 have hw:IntKind.wrap .i64 n=n:=wrap_i64 (by omega) (by omega)
 unfold z4p z61
 rw [hw,show shP .shl .i64 1 16=some 65536 from rfl,Option.bind_some]
 by_cases h0:last<0
 ·rw [decide_eq_true h0];exact ⟨n,rfl,hn.1,by omega⟩
 ·rw [decide_eq_false h0,cond_false]
  generalize intBits .and .i64 (IntKind.wrap .i64 (IntKind.wrap .i64 (n-intBits .and .i64 last (IntKind.wrap .i64 (65536-1)))+65536)) (IntKind.wrap .i64 (65536-1))=D
  have fin:∀ b:Bool,∃ r,((some b).bind fun b4=>bif b4 then (bif decide (IntKind.wrap .i64 (last+IntKind.wrap .i64 (D-65536))<0) then some n else some (IntKind.wrap .i64 (last+IntKind.wrap .i64 (D-65536)))) else (bif decide (IntKind.wrap .i64 (last+D)<0) then some n else some (IntKind.wrap .i64 (last+D))))=some r∧0≤r∧r<9223372036854775808:=fun b=>by
   cases b
   ·exact key _
   ·exact key _
  cases hb:decide (D>IntKind.wrap .i64 (Int.tdiv 65536 2)) with
  | true =>
   obtain ⟨r,e,h⟩:=fin true
   rw [cond_true,e];exact ⟨r,rfl,h⟩
  | false =>
   obtain ⟨r,e,h⟩:=fin (decide (last>IntKind.wrap .i64 (9223372036854775807-D)))
   rw [cond_false,e];exact ⟨r,rfl,h⟩
theorem zgz {k:IntKind} {a b:Int} (h:0≤b):∃ v,shP .shl k a b=some v:=by
 unfold shP;rw [if_neg (by omega)];exact ⟨_,rfl⟩
theorem zl5 {k:IntKind} {a b:Int} (h:0≤b):∃ v,shP .shr k a b=some v:=by
 unfold shP;rw [if_neg (by omega)];exact ⟨_,rfl⟩
theorem add_ok {s:z1j} {n:Int} (h0:-1≤s.last) (h1:s.last<9223372036854775808) (hn:0≤n∧n<65536) :
  ∃ r b s',z3n s n=some (r,b,s')∧-1≤s'.last∧s'.last<9223372036854775808:=by
 obtain ⟨r,e,r0,r1⟩:=zjl (last:=s.last) hn
 unfold z3n
 rw [e,Option.bind_some]
 by_cases c1:s.last<0
 ·rw [decide_eq_true c1,cond_true,decide_eq_true (Int.le_refl r),cond_true]
  exact ⟨_,_,_,rfl,by simp only;omega,by simp only;omega⟩
 ·rw [decide_eq_false c1,cond_false]
  by_cases c2:r>s.last
  ·rw [decide_eq_true c2,cond_true,wrap_i64 (n:=r-s.last) (by omega) (by omega)]
   obtain ⟨v,hv⟩:=zgz (k:=.u64) (a:=s.mask) (b:=if 64<r-s.last then 64 else r-s.last) (by split<;>omega)
   rw [hv,Option.bind_some]
   cases decide (r≥s.first)
   ·exact ⟨_,_,_,rfl,by simp only;omega,by simp only;omega⟩
   ·exact ⟨_,_,_,rfl,by simp only;omega,by simp only;omega⟩
  ·rw [decide_eq_false c2,cond_false,wrap_i64 (n:=s.last-r) (by omega) (by omega)]
   obtain ⟨v,hv⟩:=zl5 (k:=.u64) (a:=s.mask) (b:=s.last-r) (by omega)
   obtain ⟨w,hw⟩:=zgz (k:=.u64) (a:=1) (b:=s.last-r) (by omega)
   rw [hv,hw]
   simp only [Option.bind_some]
   have fin:∀ b:Bool,∃ r' b' s',((some b).bind fun b35=>bif b35 then some (r,false,s) else bif decide (r≥s.first) then some (r,true,(⟨s.first,s.last,IntKind.wrap .i64 (s.count+1),intBits .or .u64 s.mask w⟩:z1j)) else some (r,true,⟨s.first,s.last,s.count,intBits .or .u64 s.mask w⟩))=some (r',b',s')∧-1≤s'.last∧s'.last<9223372036854775808:=fun b=>by
    cases b
    ·rw [Option.bind_some,cond_false]
     cases decide (r≥s.first)
     ·exact ⟨_,_,_,rfl,h0,h1⟩
     ·exact ⟨_,_,_,rfl,h0,h1⟩
    ·exact ⟨_,_,_,rfl,h0,h1⟩
   cases decide (s.last-r>63)
   ·exact fin _
   ·exact fin _
theorem zat (a b:Int):∃ r,z3e a b=some r:=⟨_,rfl⟩
theorem zdv (a b:Int):∃ r,z2r a b=some r:=by
 unfold z2r z2c divP remP
 simp only [Option.bind_some]
 by_cases h:IntKind.wrap .u64 (if b>0 then b else 0)=0
 ·rw [beq_iff_eq.2 h];exact ⟨_,rfl⟩
 ·rw [beq_eq_false_iff_ne.2 h,cond_false,if_neg h,if_neg h,Option.bind_some,Option.bind_some]
  cases decide (Int.tmod (IntKind.wrap .u64 (if a>0 then a else 0)) (IntKind.wrap .u64 (if b>0 then b else 0))>0)
  ·exact ⟨_,rfl⟩
  ·exact ⟨_,rfl⟩
theorem zl3 {α:Type} {c:Bool} {x y:α}:∃ r,(bif c then some x else some y)=some r:=by
 cases c
 ·exact ⟨y,rfl⟩
 ·exact ⟨x,rfl⟩
theorem zk6 (a b:Int):∃ r,z4h a b=some r:=by
 unfold z4h z2c z3j
 simp only [Option.bind_some]
 exact zl3
theorem zig {now:Int} (h0:0≤now) (h1:now<1152921504606846976):z3q now=some (now / 100000):=by
 unfold z3q
 have e:(if now>0 then now else 0)=now:=by split<;>omega
 rw [e,Int.tdiv_eq_ediv_of_nonneg h0,wrap_i64 (by omega) (by omega)]
theorem mod5 {x:Int} (h:0≤x):0≤Int.tmod x 5∧Int.tmod x 5<5:=by
 rw [Int.tmod_eq_emod_of_nonneg h];omega
theorem ix5 {a b c d e i:Int} (h:0≤i∧i<5):∃ v,ix [a,b,c,d,e] i=some v:=by
 obtain ⟨n,rfl⟩:∃ n:Nat,i=n:=⟨i.toNat,by omega⟩
 exact ⟨_,ix_at (List.getElem?_eq_getElem (by simp only [List.length_cons,List.length_nil];omega))⟩
theorem stx5 {a b c d e i v:Int} (h:0≤i∧i<5):∃ l,stx [a,b,c,d,e] i v=some l:=by
 unfold stx
 rw [if_pos ⟨h.1,by simp only [List.length_cons,List.length_nil];omega⟩]
 exact ⟨_,rfl⟩
theorem zm6 (kE:Int→Int→z4→Option z4) (x1 at_ n:Int):∀ m k:Nat,∀ (i:Int) (z:z4),n-i≤m→0≤i→n≤5→m<k→0≤z.last→n≤at_-z.last→at_<1152921504606846976 →
  ∃ z',z1m k kE x1 at_ n i z=kE x1 at_ z'∧z'.last=z.last:=by
 intro m
 induction m with
 | zero =>
  intro k i z h hi hn hk hz hd ha
  obtain ⟨k,rfl⟩:∃ j,k=j+1:=⟨k-1,by omega⟩
  rw [z1m,decide_eq_false (by omega),cond_false]
  exact ⟨_,rfl,rfl⟩
 | succ m ih =>
  intro k i z h hi hn hk hz hd ha
  obtain ⟨k,rfl⟩:∃ j,k=j+1:=⟨k-1,by omega⟩
  rw [z1m]
  by_cases hlt:i<n
  ·have h5:=mod5 (x:=at_-i) (by omega)
   rw [decide_eq_true hlt,cond_true,wrap_i64 (n:=at_-i) (by omega) (by omega)]
   obtain ⟨v,hv⟩:=ix5 (a:=z.slots.getD 0 0) (b:=z.slots.getD 1 0) (c:=z.slots.getD 2 0) (d:=z.slots.getD 3 0) (e:=z.slots.getD 4 0) h5
   obtain ⟨l,hl⟩:=stx5 (a:=z.slots.getD 0 0) (b:=z.slots.getD 1 0) (c:=z.slots.getD 2 0) (d:=z.slots.getD 3 0) (e:=z.slots.getD 4 0) (v:=0) h5
   rw [hv,Option.bind_some,hl,Option.bind_some,wrap_i64 (n:=i+1) (by omega) (by omega)]
   obtain ⟨z',q1,q2⟩:=ih k (i+1) ⟨[l.getD 0 0,l.getD 1 0,l.getD 2 0,l.getD 3 0,l.getD 4 0],z.last,z.total⟩ (by omega) (by omega) hn (by omega) hz hd ha
   exact ⟨z',q1,q2⟩
  ·rw [decide_eq_false hlt,cond_false]
   exact ⟨_,rfl,rfl⟩
theorem zm9 {m:z4} {n now:Int} (m0:0≤m.last) (m1:m.last<1152921504606846976) (n0:0≤now) (n1:now<1152921504606846976) {k:Nat} (hk:10≤k) :
  ∃ m',z2o k m n now=some m'∧0≤m'.last∧m'.last<1152921504606846976:=by
 unfold z2o
 by_cases h:n<0
 ·rw [decide_eq_true h,cond_true]
  exact ⟨_,rfl,m0,m1⟩
 ·rw [decide_eq_false h,cond_false,zig n0 n1,Option.bind_some]
  obtain ⟨at_,hat⟩:∃ at_,at_=if now / 100000>m.last then now / 100000 else m.last:=⟨_,rfl⟩
  have a0:m.last≤at_∧at_<1152921504606846976:=by rw [hat];split<;>omega
  rw [← hat,wrap_i64 (n:=at_-m.last) (by omega) (by omega)]
  obtain ⟨c,hc⟩:∃ c,c=if 5<at_-m.last then 5 else at_-m.last:=⟨_,rfl⟩
  have c0:0≤c∧c≤5∧c≤at_-m.last:=by rw [hc];split<;>omega
  rw [← hc]
  generalize hK:(fun (r19_1 r19_6:Int) (zp0:z4)=>_)=K
  obtain ⟨z',q1,q2⟩:=zm6 K n at_ c 5 k 0 ⟨[m.slots.getD 0 0,m.slots.getD 1 0,m.slots.getD 2 0,m.slots.getD 3 0,m.slots.getD 4 0],m.last,m.total⟩ (by omega) (by omega) c0.2.1 (by omega) m0 (by simp only;omega) a0.2
  have h5:=mod5 (x:=at_) (by omega)
  rw [q1,← hK]
  simp only
  obtain ⟨v,hv⟩:=ix5 (a:=z'.slots.getD 0 0) (b:=z'.slots.getD 1 0) (c:=z'.slots.getD 2 0) (d:=z'.slots.getD 3 0) (e:=z'.slots.getD 4 0) h5
  obtain ⟨r,hr⟩:=zat v n
  obtain ⟨l,hl⟩:=stx5 (a:=z'.slots.getD 0 0) (b:=z'.slots.getD 1 0) (c:=z'.slots.getD 2 0) (d:=z'.slots.getD 3 0) (e:=z'.slots.getD 4 0) (v:=r) h5
  obtain ⟨r2,hr2⟩:=zat z'.total n
  rw [hv,Option.bind_some,hr,Option.bind_some,Option.bind_some,hl,Option.bind_some,hr2,Option.bind_some]
  exact ⟨_,rfl,by simp only;omega,by simp only;omega⟩
theorem zkk (kE:Int→Option Int):∀ m k:Nat,∀ (z:z4) (s x:Int),z.last+1-x≤m→m<k→-10≤x→0≤z.last→z.last<1152921504606846976→x<1152921504606846986→∃ s',z17 k kE z s x=kE s':=by
 intro m
 induction m with
 | zero =>
  intro k z s x h hk hx z0 z1 x1
  obtain ⟨k,rfl⟩:∃ j,k=j+1:=⟨k-1,by omega⟩
  rw [z17,decide_eq_false (by omega),cond_false]
  exact ⟨_,rfl⟩
 | succ m ih =>
  intro k z s x h hk hx z0 z1 x1
  obtain ⟨k,rfl⟩:∃ j,k=j+1:=⟨k-1,by omega⟩
  rw [z17]
  by_cases hle:x≤z.last
  ·rw [decide_eq_true hle,cond_true,wrap_i64 (n:=x+1) (by omega) (by omega),wrap_i64 (n:=z.last-5) (by omega) (by omega)]
   have nx:∀ s2,∃ s',z17 k kE ⟨[z.slots.getD 0 0,z.slots.getD 1 0,z.slots.getD 2 0,z.slots.getD 3 0,z.slots.getD 4 0],z.last,z.total⟩ s2 (x+1)=kE s':=fun s2=>ih k _ s2 (x+1) (by simp only;omega) (by omega) (by omega) z0 z1 (by omega)
   by_cases h0:x≥0
   ·rw [decide_eq_true h0,cond_true,Option.bind_some]
    cases decide (x>z.last-5) with
    | true =>
     obtain ⟨v,hv⟩:=ix5 (a:=z.slots.getD 0 0) (b:=z.slots.getD 1 0) (c:=z.slots.getD 2 0) (d:=z.slots.getD 3 0) (e:=z.slots.getD 4 0) (mod5 h0)
     obtain ⟨r,hr⟩:=zat s v
     rw [cond_true,hv,Option.bind_some,hr,Option.bind_some]
     exact nx r
    | false=>rw [cond_false];exact nx s
   ·rw [decide_eq_false h0,cond_false,Option.bind_some,cond_false]
    exact nx s
  ·rw [decide_eq_false hle,cond_false]
   exact ⟨_,rfl⟩
theorem zkq {m:z4} {now:Int} (m0:0≤m.last) (m1:m.last<1152921504606846976) (n0:0≤now) (n1:now<1152921504606846976) {k:Nat} (hk:10≤k):∃ r,z2f k m now=some r:=by
 unfold z2f
 rw [zig n0 n1,Option.bind_some]
 obtain ⟨at_,hat⟩:∃ at_,at_=if now / 100000>m.last then now / 100000 else m.last:=⟨_,rfl⟩
 have a0:m.last≤at_∧at_<1152921504606846976:=by rw [hat];split<;>omega
 rw [← hat,wrap_i64 (n:=at_-5) (by omega) (by omega),wrap_i64 (n:=at_-5+1) (by omega) (by omega)]
 obtain ⟨s',e⟩:=zkk (fun r27_6=>(z4h r27_6 1000000).bind fun r30=>(z2r r30 500000).bind fun r35=>some r35) 5 k ⟨[m.slots.getD 0 0,m.slots.getD 1 0,m.slots.getD 2 0,m.slots.getD 3 0,m.slots.getD 4 0],m.last,m.total⟩ 0 (at_-5+1) (by simp only;omega) (by omega) (by omega) m0 m1 (by omega)
 rw [e]
 obtain ⟨v,hv⟩:=zk6 s' 1000000
 obtain ⟨w,hw⟩:=zdv v 500000
 rw [hv,Option.bind_some,hw,Option.bind_some]
 exact ⟨_,rfl⟩
theorem z5a {L:Ly} {i:Int} {e:One} (h:ix L.l i=some e):z19 L i=some true:=by
 obtain ⟨h0,hi,_⟩:=z3t h
 unfold z19
 rw [decide_eq_true (show i≥0 from h0),cond_true,decide_eq_true (by omega),Option.bind_some]
theorem zj2 (now:Int):∃ r,z4a now=some r:=by
 unfold z4a
 cases decide (now<0)
 ·exact ⟨_,rfl⟩
 ·exact ⟨_,rfl⟩
theorem zk1 {i now size:Int} {e:One} {p:TaiRtp} (he:OkE e) (hs:0≤p.Seq∧p.Seq<65536) (n0:0≤now) (n1:now<1152921504606846976) {k:Nat} (hk:10≤k) :
  ∃ n b e',OkE e'∧∀ L:Ly,ix L.l i=some e→zr k L i p size now=some (n,b,⟨L.l.set i.toNat e'⟩):=by
 obtain ⟨s0,s1,m0,m1⟩:=he
 obtain ⟨r,b,s',ea,q0,q1⟩:=add_ok (s:=e.seen) s0 s1 hs
 obtain ⟨u,hu⟩:=zj2 now
 cases b with
 | false =>
  refine ⟨0,false,⟨e.told,s',⟨[e.meter.slots.getD 0 0,e.meter.slots.getD 1 0,e.meter.slots.getD 2 0,e.meter.slots.getD 3 0,e.meter.slots.getD 4 0],e.meter.last,e.meter.total⟩,e.came,e.f_until,e.resting,e.woken,e.kept⟩,⟨q0,q1,m0,m1⟩,fun L hL=>?_⟩
  unfold zr
  rw [z5a hL,Option.bind_some,Bool.not_true,cond_false,hL,Option.bind_some,ea,Option.bind_some]
  exact rfl
 | true =>
  obtain ⟨m',em,w0,w1⟩:=zm9 (m:=⟨[e.meter.slots.getD 0 0,e.meter.slots.getD 1 0,e.meter.slots.getD 2 0,e.meter.slots.getD 3 0,e.meter.slots.getD 4 0],e.meter.last,e.meter.total⟩) (n:=IntKind.wrap .i64 (size+28)) (now:=now) m0 m1 n0 n1 hk
  refine ⟨r,true,⟨e.told,s',⟨[m'.slots.getD 0 0,m'.slots.getD 1 0,m'.slots.getD 2 0,m'.slots.getD 3 0,m'.slots.getD 4 0],m'.last,m'.total⟩,true,u,e.resting,false,e.kept⟩,⟨q0,q1,w0,w1⟩,fun L hL=>?_⟩
  unfold zr
  rw [z5a hL,Option.bind_some,Bool.not_true,cond_false,hL,Option.bind_some,ea,Option.bind_some]
  simp only [Bool.not_true,cond_false]
  rw [em,Option.bind_some,hu,Option.bind_some]
theorem zio {i now:Int} {e:One} (he:OkE e) (n0:0≤now) (n1:now<1152921504606846976) {k:Nat} (hk:10≤k) :
  ∃ c,∀ L:Ly,ix L.l i=some e→z8 k L i now=some c:=by
 obtain ⟨s0,s1,m0,m1⟩:=he
 obtain ⟨r,hr⟩:=zkq (m:=⟨[e.meter.slots.getD 0 0,e.meter.slots.getD 1 0,e.meter.slots.getD 2 0,e.meter.slots.getD 3 0,e.meter.slots.getD 4 0],e.meter.last,e.meter.total⟩) (now:=now) m0 m1 n0 n1 hk
 obtain ⟨v,hv⟩:=zdv r 1000
 have hd:∀ L:Ly,ix L.l i=some e→z8 k L i now=((bif e.resting then some true else some e.woken).bind fun b23=>bif b23 then some e.kept else some (if v>1 then v else 1)):=fun L hL=>by
  unfold z8
  rw [z5a hL,Option.bind_some,Bool.not_true,cond_false,hL,Option.bind_some,hr,Option.bind_some,hv,Option.bind_some]
 cases hr':e.resting with
 | true=>exact ⟨e.kept,fun L hL=>by rw [hd L hL,hr'];rfl⟩
 | false =>
  cases hw:e.woken with
  | true=>exact ⟨e.kept,fun L hL=>by rw [hd L hL,hr',hw];rfl⟩
  | false=>exact ⟨_,fun L hL=>by rw [hd L hL,hr',hw];rfl⟩
theorem zki {L:Ly} {i:Int} {e:One} (h:ix L.l i=some e):(⟨L.l.set i.toNat e⟩:Ly)=L:=by
 obtain ⟨h0,hi,he⟩:=z3t h
 rw [← he,List.set_getElem_self]
theorem zln {i now:Int} {on:Bool} {e:One} (he:OkE e) (n0:0≤now) (n1:now<1152921504606846976) {k:Nat} (hk:10≤k) :
  ∃ e',OkE e'∧∀ L:Ly,ix L.l i=some e→zz k L i on now=some ⟨L.l.set i.toNat e'⟩:=by
 obtain ⟨c,hc⟩:=zio (i:=i) he n0 n1 hk
 obtain ⟨s0,s1,m0,m1⟩:=he
 by_cases hr:(e.resting==on)=true
 ·refine ⟨e,⟨s0,s1,m0,m1⟩,fun L hL=>?_⟩
  unfold zz
  rw [z5a hL,Option.bind_some,Bool.not_true,cond_false,hL,Option.bind_some,hr,Option.bind_some,cond_true,zki hL]
 ·have hr:(e.resting==on)=false:=by simpa using hr
  cases on with
  | true =>
   refine ⟨⟨e.told,e.seen,⟨[e.meter.slots.getD 0 0,e.meter.slots.getD 1 0,e.meter.slots.getD 2 0,e.meter.slots.getD 3 0,e.meter.slots.getD 4 0],e.meter.last,e.meter.total⟩,e.came,e.f_until,true,!true,c⟩,⟨s0,s1,m0,m1⟩,fun L hL=>?_⟩
   unfold zz
   rw [z5a hL,Option.bind_some,Bool.not_true,cond_false,hL,Option.bind_some,hr,Option.bind_some,cond_false,cond_true,hc L hL,Option.bind_some,Option.bind_some]
  | false =>
   refine ⟨⟨e.told,e.seen,⟨[e.meter.slots.getD 0 0,e.meter.slots.getD 1 0,e.meter.slots.getD 2 0,e.meter.slots.getD 3 0,e.meter.slots.getD 4 0],e.meter.last,e.meter.total⟩,e.came,e.f_until,false,!false,e.kept⟩,⟨s0,s1,m0,m1⟩,fun L hL=>?_⟩
   unfold zz
   rw [z5a hL,Option.bind_some,Bool.not_true,cond_false,hL,Option.bind_some,hr,Option.bind_some,cond_false,cond_false,Option.bind_some]
theorem zic {i now:Int} {e:One} {L:Ly} (hL:ix L.l i=some e):zc L i now=some (e.came&&(!e.resting&&decide (now<e.f_until))):=by
 unfold zc
 rw [z5a hL,Option.bind_some,cond_true,hL,Option.bind_some,Option.bind_some]
 simp only [Option.bind_some]
 cases e.came<;>cases e.resting<;>rfl
theorem zd3 {i:Int} {e:One} {L:Ly} (hL:ix L.l i=some e):z9 L i=some e.resting:=by
 unfold z9
 rw [z5a hL,Option.bind_some,cond_true,hL,Option.bind_some,Option.bind_some]
theorem zh9 {i:Int} {e:One} {L:Ly} (hL:ix L.l i=some e):za L i=some e.woken:=by
 unfold za
 rw [z5a hL,Option.bind_some,cond_true,hL,Option.bind_some,Option.bind_some]
theorem ix_set {α:Type} {l:List α} {i:Int} {x y:α} (h:ix l i=some x):ix (l.set i.toNat y) i=some y:=by
 obtain ⟨h0,hi,_⟩:=z3t h
 unfold ix
 rw [if_pos h0,List.getElem?_set_self hi]
theorem zk9 {α:Type} {l:List α} {i j:Int} {y:α} (hi:0≤i) (hne:i≠j):ix (l.set i.toNat y) j=ix l j:=by
 unfold ix
 by_cases h:0≤j
 ·rw [if_pos h,if_pos h,List.getElem?_set_ne (by omega)]
 ·rw [if_neg h,if_neg h]
end Lay
end Go.Ev
namespace Go.Ev
open Go.Proofs
set_option linter.unusedVariables false
set_option linter.unusedSimpArgs false
set_option maxRecDepth 100000
noncomputable section
abbrev KT15:=Exit→Env→H→Option (List C × H)
variable (rec : CallF) (loop : LoopV) (σ : Stamp)
theorem zdr (x0:Int) (x1:Int) (x2:Int) (h:H):cvBody G rec loop 21 σ [(.p (.int .i64 x0)),(.p (.int .i64 x1)),(.p (.int .i64 x2))] h =
(bif decide (x0≥x1) then (some (decide (x0≤x2))) else (some false)).bind fun b1 =>
bif b1 then (
fin false σ (List.replicate 33 []::h) [(.p (.int .i64 x0))])
else (
(remI .i64 x0 (IntKind.wrap .i64 ((IntKind.wrap .i64 (x2-x1))+1))).bind fun t2 =>
(castI .i64 t2).bind fun n3 =>
bif decide (n3<0) then (
fin false σ (List.replicate 33 []::h) [(.p (.int .i64 (IntKind.wrap .i64 (x1+(IntKind.wrap .i64 ((IntKind.wrap .i64 ((IntKind.wrap .i64 (n3+x2))-x1))+1))))))])
else (
fin false σ (List.replicate 33 []::h) [(.p (.int .i64 (IntKind.wrap .i64 (x1+n3))))])):=by kernel_rfl
end
end Go.Ev
namespace Go.Ev
open Go.Proofs
set_option linter.unusedVariables false
set_option linter.unusedSimpArgs false
set_option maxRecDepth 100000
section
variable {β α : Type} {Q : β→α→Prop} {K : Exit × Env × H→Option α}
def z2d (x0:Int) (x1:Int) (x2:Int):Option (Int) :=
(bif decide (x0≥x1) then (some (decide (x0≤x2))) else (some false)).bind fun b1 =>
bif b1 then (
some (x0))
else (
(remP x0 (IntKind.wrap .i64 ((IntKind.wrap .i64 (x2-x1))+1))).bind fun n6 =>
bif decide (n6<0) then (
some ((IntKind.wrap .i64 (x1+(IntKind.wrap .i64 ((IntKind.wrap .i64 ((IntKind.wrap .i64 (n6+x2))-x1))+1))))))
else (
some ((IntKind.wrap .i64 (x1+n6)))))
theorem z4v {h:H} {σ:Stamp} (x0:Int) (x1:Int) (x2:Int):Sim (z2d x0 x1 x2) (ev G X0 21 σ [(.p (.int .i64 x0)),(.p (.int .i64 x1)),(.p (.int .i64 x2))] h) (fun r s=>s=([.v (.p (.int .i64 r))],h)):=by
 refine .ev rfl (Sim.ext (zdr _ _ _ _ _ _ _) ?_)
 rw [z2d]
 have S0:Fm 33 h [] [] [] (List.replicate 33 []::h):=Fm.start0
 refine .ch (P:=fun r y=>r=y) ?_ (fun b1 y2 h3 h4=>?_)
 ·refine .cq ?_ ?_
  ·exact .ret rfl rfl
  ·exact .ret rfl rfl
 subst h4
 refine .cq ?_ ?_
 ·exact .fin (S0.finN (lC (sI _ _).lv lN)) rfl
 refine .bd fun n6 h7=>?_
 refine .op (ze4 h7) ?_
 refine .ci ?_
 refine .cq ?_ ?_
 ·exact .fin (S0.finN (lC (sI _ _).lv lN)) rfl
 exact .fin (S0.finN (lC (sI _ _).lv lN)) rfl
end
end Go.Ev
namespace Go.Ev
theorem zf3 {x hi:Int} (h0:0≤hi) (h1:hi<2^40):∃ r,z2d x 0 hi=some r∧0≤r∧r≤hi:=by
 unfold z2d
 by_cases h:0≤x∧x≤hi
 ·refine ⟨x,?_,h.1,h.2⟩
  have e1:decide (x≥0)=true:=by simpa using h.1
  have e2:decide (x≤hi)=true:=by simpa using h.2
  simp only [e1,e2,cond_true,Option.bind_some]
 ·have e:∀ (a:Bool) (b:Bool),(a&&b)=false→((bif a then (some b) else (some false)):Option Bool)=some false:=by
   intro a b;cases a<;>cases b<;>simp
  rw [e (decide (x≥0)) (decide (x≤hi)) (by simp;omega),Option.bind_some,cond_false]
  have w1:IntKind.wrap .i64 (IntKind.wrap .i64 (hi-0)+1)=hi+1:=by
   rw [wrap_i64 (n:=hi-0) (by omega) (by omega),wrap_i64 (by omega) (by omega)];omega
  have hb:-(hi+1)<x.tmod (hi+1)∧x.tmod (hi+1)<hi+1:=by
   have h1:=Int.tmod_lt_of_pos x (show 0<hi+1 by omega)
   have h2:=Int.neg_tmod x (hi+1)
   have h3:=Int.tmod_lt_of_pos (-x) (show 0<hi+1 by omega)
   omega
  rw [w1]
  unfold remP
  rw [if_neg (by omega),Option.bind_some]
  generalize x.tmod (hi+1)=m at hb
  by_cases hm:m<0
  ·have:decide (m<0)=true:=by simpa using hm
   rw [this,cond_true]
   refine ⟨_,rfl,?_⟩
   rw [wrap_i64 (n:=m+hi) (by omega) (by omega),wrap_i64 (n:=m+hi-0) (by omega) (by omega),wrap_i64 (n:=m+hi-0+1) (by omega) (by omega),wrap_i64 (by omega) (by omega)]
   omega
  ·have:decide (m<0)=false:=by simpa using hm
   rw [this,cond_false]
   refine ⟨_,rfl,?_⟩
   rw [wrap_i64 (by omega) (by omega)]
   omega
end Go.Ev
namespace Go.Ev
open Go.Proofs
set_option linter.unusedVariables false
set_option linter.unusedSimpArgs false
set_option maxRecDepth 100000
noncomputable section
abbrev KT16:=Exit→Env→H→Option (List C × H)
variable (rec : CallF) (loop : LoopV) (σ : Stamp)
def z15:Code:=(codeAt (bodyOf Try.f14) [1,1,1,1,1,1,0,1,0,0])
def z16:Lv:=⟨0,16,[(0,0)]⟩
def z4r:KT16:=(kBlock 0 (kSeq G rec loop (codeAt (bodyOf Try.f14) [1,1,1,1,1,1,1]) ⟨16,16,[]⟩ (1::1::1::1::1::1::0::σ) (finC G false Try.f14 (1::σ))))
theorem z93 (x0:V) (x1:Int) (h:H):cvBody G rec loop 14 σ [x0,(.p (.int .i64 x1))] h =
(buildV Try.prog 70 [(0,(.p (.string ((⟨#[97]⟩:ByteArray))))),(1,(.p (.int .u32 1))),(2,(.p (.int .i64 10)))]).bind fun t1 =>
(buildV Try.prog 70 [(0,(.p (.string ((⟨#[98]⟩:ByteArray))))),(1,(.p (.int .u32 2))),(2,(.p (.int .i64 20)))]).bind fun t2 =>
(buildV Try.prog 70 [(0,(.p (.string ((⟨#[99]⟩:ByteArray))))),(1,(.p (.int .u32 3))),(2,(.p (.int .i64 30)))]).bind fun t3 =>
(bSV Try.prog 56 3 [(0,t1),(1,t2),(2,t3)]).bind fun t4 =>
(callO rec 39 (1::0::1::1::0::σ) [t4] (List.replicate 160 []::h) (some 21)).bind fun q5 =>
(callO rec 39 (3::0::1::1::0::σ) [t4] q5.2 (some 23)).bind fun q6 =>
(callO rec 21 (1::0::1::1::1::0::σ) [(.p (.int .i64 x1)),(.p (.int .i64 0)),(.p (.int .i64 2))] q6.2 (some 25)).bind fun q7 =>
(castI .i64 q7.1).bind fun n8 =>
(binV Try.prog q7.2 .eql 79 q5.1 (.p (.pointer .none))).bind fun t9 =>
(asB t9).bind fun b10 =>
(bif b10 then (some true) else ((binV Try.prog q7.2 .eql 79 q6.1 (.p (.pointer .none))).bind fun t11 =>
(asB t11).bind fun b12 =>
some b12)).bind fun b13 =>
bif b13 then (
fin false σ q7.2 [(.p (.bool false))])
else (
(loop z15 z16 (1::0::1::1::1::1::1::1::0::σ) (envL [(0,x0),(5,t4),(6,q5.1),(7,q6.1),(8,(.p (.int .i64 n8))),(9,(.p (.int .i64 0))),(10,(.p (.int .i64 0)))]) q7.2).bind fun r14=>z4r rec loop σ r14.1 r14.2.1 r14.2.2):=by kernel_rfl
theorem zb0 (x0:V) (x5:V) (x6:V) (x7:V) (x8:Int) (x9:Int) (x10:Int) (h:H):z1l G rec loop z15 z16 σ (envL [(0,x0),(5,x5),(6,x6),(7,x7),(8,(.p (.int .i64 x8))),(9,(.p (.int .i64 x9))),(10,(.p (.int .i64 x10)))]) h =
(lenO x0).bind fun t15 =>
(castI .i64 t15).bind fun n16 =>
(bif decide (x10<n16) then (some (decide (x10<60))) else (some false)).bind fun b17 =>
bif b17 then (
(iS 6 x0 x10).bind fun t18 =>
(ldO true 6 h t18).bind fun t19 =>
(some (alO [.p (.int .i64 0),.p (.int .i64 0),.p (.int .i64 0),.p (.int .u16 0),.p (.bool false),.p (.int .i64 0)] (4::0::0::1::0::σ) 11 h)).bind fun q20 =>
((stO false 6 (5::0::0::1::0::σ) q20.2 q20.1 t19).map fun h=>(udf,h)).bind fun q21 =>
(fA q20.1 1).bind fun t22 =>
(ldO false 1 q21.2 t22).bind fun t23 =>
(castI .i64 t23).bind fun n24 =>
(callO rec 21 (2::0::1::0::1::0::σ) [(.p (.int .i64 n24)),(.p (.int .i64 0)),(.p (.int .i64 2))] q21.2 (some 48)).bind fun q25 =>
(castI .i64 q25.1).bind fun n26 =>
(fA q20.1 5).bind fun t27 =>
(ldO false 1 q25.2 t27).bind fun t28 =>
(castI .i64 t28).bind fun n29 =>
(iS 3 x5 n26).bind fun t30 =>
(ldO true 3 q25.2 t30).bind fun t31 =>
(fA q20.1 3).bind fun t32 =>
(ldO false 1 q25.2 t32).bind fun t33 =>
(castI .u16 t33).bind fun n34 =>
(fA q20.1 4).bind fun t35 =>
(ldO false 1 q25.2 t35).bind fun t36 =>
(asB t36).bind fun b37 =>
(fA q20.1 2).bind fun t38 =>
(ldO false 1 q25.2 t38).bind fun t39 =>
(castI .i64 t39).bind fun n40 =>
(callO rec 41 (12::0::1::1::1::0::1::0::σ) [t31,(.p (.int .u16 n34)),(.p (.int .u32 7)),(.p (.bool b37)),(.p (.int .i64 (IntKind.wrap .i64 (1+(intBits .and .i64 n40 255)))))] q25.2 (some 66)).bind fun q41 =>
(callO rec 40 (1::0::1::1::1::1::0::1::0::σ) [q41.1] q41.2 (some 69)).bind fun q42 =>
(extV q42.1 0).bind fun t43 =>
(extV q42.1 1).bind fun t44 =>
(castI .i64 t44).bind fun n45 =>
(some (alO [.p (.bool false),.p (.int .i64 0),.p (.int .u16 0),.p (.int .u32 0),.p (.int .u32 0),.p (.slice none 0 0),.p (.int .u16 0),.p (.slice none 0 0),.p (.slice none 0 0)] (5::0::1::1::1::1::0::1::0::σ) 14 q42.2)).bind fun q46 =>
((stO true 9 (6::0::1::1::1::1::0::1::0::σ) q46.2 q46.1 t43).map fun h=>(udf,h)).bind fun q47 =>
(fA q20.1 0).bind fun t48 =>
(ldO false 1 q47.2 t48).bind fun t49 =>
(castI .i64 t49).bind fun n50 =>
bif decide (n50>4) then (
(fA q20.1 0).bind fun t51 =>
(ldO false 1 q47.2 t51).bind fun t52 =>
(castI .i64 t52).bind fun n53 =>
(callO rec 48 (7::1::0::1::1::1::1::1::0::1::0::σ) [x6,(.p (.int .i64 n26)),(.p (.bool ((intBits .and .i64 n53 1)==1))),(.p (.int .i64 (IntKind.wrap .i64 (x9+(intBits .and .i64 n29 65535)))))] q47.2 (some 82)).bind fun q54 =>
(bif n26==x8 then ((fA q20.1 0).bind fun t55 =>
(ldO false 1 q54.2 t55).bind fun t56 =>
(castI .i64 t56).bind fun n57 =>
some (decide (n57>4))) else (some false)).bind fun b58 =>
bif b58 then (
(fA q20.1 0).bind fun t59 =>
(ldO false 1 q54.2 t59).bind fun t60 =>
(castI .i64 t60).bind fun n61 =>
(callO rec 48 (7::1::0::1::1::1::1::1::1::0::1::0::σ) [x7,(.p (.int .i64 n26)),(.p (.bool ((intBits .and .i64 n61 1)==1))),(.p (.int .i64 (IntKind.wrap .i64 (x9+(intBits .and .i64 n29 65535)))))] q54.2 (some 105)).bind fun q62 =>
(bif n26==x8 then ((fA q20.1 0).bind fun t63 =>
(ldO false 1 q62.2 t63).bind fun t64 =>
(castI .i64 t64).bind fun n65 =>
some (decide (n65≤4))) else (some false)).bind fun b66 =>
bif b66 then (
(ldO true 9 q62.2 q46.1).bind fun t67 =>
(lenO q41.1).bind fun t68 =>
(castI .i64 t68).bind fun n69 =>
(callO rec 45 (6::1::0::1::1::1::1::1::1::1::0::1::0::σ) [x7,(.p (.int .i64 n26)),t67,(.p (.int .i64 n69)),(.p (.int .i64 (IntKind.wrap .i64 (x9+(intBits .and .i64 n29 65535)))))] q62.2 (some 120)).bind fun q70 =>
(callO rec 47 (3::0::1::1::1::1::1::1::1::1::0::1::0::σ) [x6,(.p (.int .i64 x8)),(.p (.int .i64 (IntKind.wrap .i64 (x9+(intBits .and .i64 n29 65535)))))] q70.2 (some 124)).bind fun q71 =>
(asB q71.1).bind fun b72 =>
(callO rec 47 (7::0::1::1::1::1::1::1::1::1::0::1::0::σ) [x7,(.p (.int .i64 x8)),(.p (.int .i64 (IntKind.wrap .i64 (x9+(intBits .and .i64 n29 65535)))))] q71.2 (some 128)).bind fun q73 =>
(asB q73.1).bind fun b74 =>
(bif !(b72==b74) then (some ((.p (.bool true)),q73.2)) else ((callO rec 46 (13::0::1::1::1::1::1::1::1::1::0::1::0::σ) [x6,(.p (.int .i64 x8)),(.p (.int .i64 (IntKind.wrap .i64 (x9+(intBits .and .i64 n29 65535)))))] q73.2 (some 134)).bind fun q75 =>
(castI .i64 q75.1).bind fun n76 =>
(callO rec 46 (17::0::1::1::1::1::1::1::1::1::0::1::0::σ) [x7,(.p (.int .i64 x8)),(.p (.int .i64 (IntKind.wrap .i64 (x9+(intBits .and .i64 n29 65535)))))] q75.2 (some 138)).bind fun q77 =>
(castI .i64 q77.1).bind fun n78 =>
some ((.p (.bool (n76 != n78))),q77.2))).bind fun q79 =>
(asB q79.1).bind fun b80 =>
(bif b80 then (some ((.p (.bool true)),q79.2)) else ((callO rec 50 (23::0::1::1::1::1::1::1::1::1::0::1::0::σ) [x6,(.p (.int .i64 x8))] q79.2 (some 144)).bind fun q81 =>
(asB q81.1).bind fun b82 =>
(callO rec 50 (26::0::1::1::1::1::1::1::1::1::0::1::0::σ) [x7,(.p (.int .i64 x8))] q81.2 (some 147)).bind fun q83 =>
(asB q83.1).bind fun b84 =>
some ((.p (.bool (!(b82==b84)))),q83.2))).bind fun q85 =>
(asB q85.1).bind fun b86 =>
(bif b86 then (some ((.p (.bool true)),q85.2)) else ((callO rec 49 (32::0::1::1::1::1::1::1::1::1::0::1::0::σ) [x6,(.p (.int .i64 x8))] q85.2 (some 153)).bind fun q87 =>
(asB q87.1).bind fun b88 =>
(callO rec 49 (35::0::1::1::1::1::1::1::1::1::0::1::0::σ) [x7,(.p (.int .i64 x8))] q87.2 (some 156)).bind fun q89 =>
(asB q89.1).bind fun b90 =>
some ((.p (.bool (!(b88==b90)))),q89.2))).bind fun q91 =>
(asB q91.1).bind fun b92 =>
bif b92 then (
some (.ret,(envL [(4,(.p (.bool false)))]),q91.2))
else (
loop z15 z16 (1::σ) (envL [(0,x0),(5,x5),(6,x6),(7,x7),(8,(.p (.int .i64 x8))),(9,(.p (.int .i64 (IntKind.wrap .i64 (x9+(intBits .and .i64 n29 65535)))))),(10,(.p (.int .i64 (IntKind.wrap .i64 (x10+1)))))]) q91.2))
else (
(callO rec 47 (3::0::1::1::1::1::1::1::1::1::0::1::0::σ) [x6,(.p (.int .i64 x8)),(.p (.int .i64 (IntKind.wrap .i64 (x9+(intBits .and .i64 n29 65535)))))] q62.2 (some 124)).bind fun q93 =>
(asB q93.1).bind fun b94 =>
(callO rec 47 (7::0::1::1::1::1::1::1::1::1::0::1::0::σ) [x7,(.p (.int .i64 x8)),(.p (.int .i64 (IntKind.wrap .i64 (x9+(intBits .and .i64 n29 65535)))))] q93.2 (some 128)).bind fun q95 =>
(asB q95.1).bind fun b96 =>
(bif !(b94==b96) then (some ((.p (.bool true)),q95.2)) else ((callO rec 46 (13::0::1::1::1::1::1::1::1::1::0::1::0::σ) [x6,(.p (.int .i64 x8)),(.p (.int .i64 (IntKind.wrap .i64 (x9+(intBits .and .i64 n29 65535)))))] q95.2 (some 134)).bind fun q97 =>
(castI .i64 q97.1).bind fun n98 =>
(callO rec 46 (17::0::1::1::1::1::1::1::1::1::0::1::0::σ) [x7,(.p (.int .i64 x8)),(.p (.int .i64 (IntKind.wrap .i64 (x9+(intBits .and .i64 n29 65535)))))] q97.2 (some 138)).bind fun q99 =>
(castI .i64 q99.1).bind fun n100 =>
some ((.p (.bool (n98 != n100))),q99.2))).bind fun q101 =>
(asB q101.1).bind fun b102 =>
(bif b102 then (some ((.p (.bool true)),q101.2)) else ((callO rec 50 (23::0::1::1::1::1::1::1::1::1::0::1::0::σ) [x6,(.p (.int .i64 x8))] q101.2 (some 144)).bind fun q103 =>
(asB q103.1).bind fun b104 =>
(callO rec 50 (26::0::1::1::1::1::1::1::1::1::0::1::0::σ) [x7,(.p (.int .i64 x8))] q103.2 (some 147)).bind fun q105 =>
(asB q105.1).bind fun b106 =>
some ((.p (.bool (!(b104==b106)))),q105.2))).bind fun q107 =>
(asB q107.1).bind fun b108 =>
(bif b108 then (some ((.p (.bool true)),q107.2)) else ((callO rec 49 (32::0::1::1::1::1::1::1::1::1::0::1::0::σ) [x6,(.p (.int .i64 x8))] q107.2 (some 153)).bind fun q109 =>
(asB q109.1).bind fun b110 =>
(callO rec 49 (35::0::1::1::1::1::1::1::1::1::0::1::0::σ) [x7,(.p (.int .i64 x8))] q109.2 (some 156)).bind fun q111 =>
(asB q111.1).bind fun b112 =>
some ((.p (.bool (!(b110==b112)))),q111.2))).bind fun q113 =>
(asB q113.1).bind fun b114 =>
bif b114 then (
some (.ret,(envL [(4,(.p (.bool false)))]),q113.2))
else (
loop z15 z16 (1::σ) (envL [(0,x0),(5,x5),(6,x6),(7,x7),(8,(.p (.int .i64 x8))),(9,(.p (.int .i64 (IntKind.wrap .i64 (x9+(intBits .and .i64 n29 65535)))))),(10,(.p (.int .i64 (IntKind.wrap .i64 (x10+1)))))]) q113.2)))
else (
(bif n26==x8 then ((fA q20.1 0).bind fun t115 =>
(ldO false 1 q54.2 t115).bind fun t116 =>
(castI .i64 t116).bind fun n117 =>
some (decide (n117≤4))) else (some false)).bind fun b118 =>
bif b118 then (
(ldO true 9 q54.2 q46.1).bind fun t119 =>
(lenO q41.1).bind fun t120 =>
(castI .i64 t120).bind fun n121 =>
(callO rec 45 (6::1::0::1::1::1::1::1::1::1::0::1::0::σ) [x7,(.p (.int .i64 n26)),t119,(.p (.int .i64 n121)),(.p (.int .i64 (IntKind.wrap .i64 (x9+(intBits .and .i64 n29 65535)))))] q54.2 (some 120)).bind fun q122 =>
(callO rec 47 (3::0::1::1::1::1::1::1::1::1::0::1::0::σ) [x6,(.p (.int .i64 x8)),(.p (.int .i64 (IntKind.wrap .i64 (x9+(intBits .and .i64 n29 65535)))))] q122.2 (some 124)).bind fun q123 =>
(asB q123.1).bind fun b124 =>
(callO rec 47 (7::0::1::1::1::1::1::1::1::1::0::1::0::σ) [x7,(.p (.int .i64 x8)),(.p (.int .i64 (IntKind.wrap .i64 (x9+(intBits .and .i64 n29 65535)))))] q123.2 (some 128)).bind fun q125 =>
(asB q125.1).bind fun b126 =>
(bif !(b124==b126) then (some ((.p (.bool true)),q125.2)) else ((callO rec 46 (13::0::1::1::1::1::1::1::1::1::0::1::0::σ) [x6,(.p (.int .i64 x8)),(.p (.int .i64 (IntKind.wrap .i64 (x9+(intBits .and .i64 n29 65535)))))] q125.2 (some 134)).bind fun q127 =>
(castI .i64 q127.1).bind fun n128 =>
(callO rec 46 (17::0::1::1::1::1::1::1::1::1::0::1::0::σ) [x7,(.p (.int .i64 x8)),(.p (.int .i64 (IntKind.wrap .i64 (x9+(intBits .and .i64 n29 65535)))))] q127.2 (some 138)).bind fun q129 =>
(castI .i64 q129.1).bind fun n130 =>
some ((.p (.bool (n128 != n130))),q129.2))).bind fun q131 =>
(asB q131.1).bind fun b132 =>
(bif b132 then (some ((.p (.bool true)),q131.2)) else ((callO rec 50 (23::0::1::1::1::1::1::1::1::1::0::1::0::σ) [x6,(.p (.int .i64 x8))] q131.2 (some 144)).bind fun q133 =>
(asB q133.1).bind fun b134 =>
(callO rec 50 (26::0::1::1::1::1::1::1::1::1::0::1::0::σ) [x7,(.p (.int .i64 x8))] q133.2 (some 147)).bind fun q135 =>
(asB q135.1).bind fun b136 =>
some ((.p (.bool (!(b134==b136)))),q135.2))).bind fun q137 =>
(asB q137.1).bind fun b138 =>
(bif b138 then (some ((.p (.bool true)),q137.2)) else ((callO rec 49 (32::0::1::1::1::1::1::1::1::1::0::1::0::σ) [x6,(.p (.int .i64 x8))] q137.2 (some 153)).bind fun q139 =>
(asB q139.1).bind fun b140 =>
(callO rec 49 (35::0::1::1::1::1::1::1::1::1::0::1::0::σ) [x7,(.p (.int .i64 x8))] q139.2 (some 156)).bind fun q141 =>
(asB q141.1).bind fun b142 =>
some ((.p (.bool (!(b140==b142)))),q141.2))).bind fun q143 =>
(asB q143.1).bind fun b144 =>
bif b144 then (
some (.ret,(envL [(4,(.p (.bool false)))]),q143.2))
else (
loop z15 z16 (1::σ) (envL [(0,x0),(5,x5),(6,x6),(7,x7),(8,(.p (.int .i64 x8))),(9,(.p (.int .i64 (IntKind.wrap .i64 (x9+(intBits .and .i64 n29 65535)))))),(10,(.p (.int .i64 (IntKind.wrap .i64 (x10+1)))))]) q143.2))
else (
(callO rec 47 (3::0::1::1::1::1::1::1::1::1::0::1::0::σ) [x6,(.p (.int .i64 x8)),(.p (.int .i64 (IntKind.wrap .i64 (x9+(intBits .and .i64 n29 65535)))))] q54.2 (some 124)).bind fun q145 =>
(asB q145.1).bind fun b146 =>
(callO rec 47 (7::0::1::1::1::1::1::1::1::1::0::1::0::σ) [x7,(.p (.int .i64 x8)),(.p (.int .i64 (IntKind.wrap .i64 (x9+(intBits .and .i64 n29 65535)))))] q145.2 (some 128)).bind fun q147 =>
(asB q147.1).bind fun b148 =>
(bif !(b146==b148) then (some ((.p (.bool true)),q147.2)) else ((callO rec 46 (13::0::1::1::1::1::1::1::1::1::0::1::0::σ) [x6,(.p (.int .i64 x8)),(.p (.int .i64 (IntKind.wrap .i64 (x9+(intBits .and .i64 n29 65535)))))] q147.2 (some 134)).bind fun q149 =>
(castI .i64 q149.1).bind fun n150 =>
(callO rec 46 (17::0::1::1::1::1::1::1::1::1::0::1::0::σ) [x7,(.p (.int .i64 x8)),(.p (.int .i64 (IntKind.wrap .i64 (x9+(intBits .and .i64 n29 65535)))))] q149.2 (some 138)).bind fun q151 =>
(castI .i64 q151.1).bind fun n152 =>
some ((.p (.bool (n150 != n152))),q151.2))).bind fun q153 =>
(asB q153.1).bind fun b154 =>
(bif b154 then (some ((.p (.bool true)),q153.2)) else ((callO rec 50 (23::0::1::1::1::1::1::1::1::1::0::1::0::σ) [x6,(.p (.int .i64 x8))] q153.2 (some 144)).bind fun q155 =>
(asB q155.1).bind fun b156 =>
(callO rec 50 (26::0::1::1::1::1::1::1::1::1::0::1::0::σ) [x7,(.p (.int .i64 x8))] q155.2 (some 147)).bind fun q157 =>
(asB q157.1).bind fun b158 =>
some ((.p (.bool (!(b156==b158)))),q157.2))).bind fun q159 =>
(asB q159.1).bind fun b160 =>
(bif b160 then (some ((.p (.bool true)),q159.2)) else ((callO rec 49 (32::0::1::1::1::1::1::1::1::1::0::1::0::σ) [x6,(.p (.int .i64 x8))] q159.2 (some 153)).bind fun q161 =>
(asB q161.1).bind fun b162 =>
(callO rec 49 (35::0::1::1::1::1::1::1::1::1::0::1::0::σ) [x7,(.p (.int .i64 x8))] q161.2 (some 156)).bind fun q163 =>
(asB q163.1).bind fun b164 =>
some ((.p (.bool (!(b162==b164)))),q163.2))).bind fun q165 =>
(asB q165.1).bind fun b166 =>
bif b166 then (
some (.ret,(envL [(4,(.p (.bool false)))]),q165.2))
else (
loop z15 z16 (1::σ) (envL [(0,x0),(5,x5),(6,x6),(7,x7),(8,(.p (.int .i64 x8))),(9,(.p (.int .i64 (IntKind.wrap .i64 (x9+(intBits .and .i64 n29 65535)))))),(10,(.p (.int .i64 (IntKind.wrap .i64 (x10+1)))))]) q165.2))))
else (
(ldO true 9 q47.2 q46.1).bind fun t167 =>
(lenO q41.1).bind fun t168 =>
(castI .i64 t168).bind fun n169 =>
(callO rec 45 (6::1::0::1::1::1::1::1::0::1::0::σ) [x6,(.p (.int .i64 n26)),t167,(.p (.int .i64 n169)),(.p (.int .i64 (IntKind.wrap .i64 (x9+(intBits .and .i64 n29 65535)))))] q47.2 (some 89)).bind fun q170 =>
(bif n26==x8 then ((fA q20.1 0).bind fun t171 =>
(ldO false 1 q170.2 t171).bind fun t172 =>
(castI .i64 t172).bind fun n173 =>
some (decide (n173>4))) else (some false)).bind fun b174 =>
bif b174 then (
(fA q20.1 0).bind fun t175 =>
(ldO false 1 q170.2 t175).bind fun t176 =>
(castI .i64 t176).bind fun n177 =>
(callO rec 48 (7::1::0::1::1::1::1::1::1::0::1::0::σ) [x7,(.p (.int .i64 n26)),(.p (.bool ((intBits .and .i64 n177 1)==1))),(.p (.int .i64 (IntKind.wrap .i64 (x9+(intBits .and .i64 n29 65535)))))] q170.2 (some 105)).bind fun q178 =>
(bif n26==x8 then ((fA q20.1 0).bind fun t179 =>
(ldO false 1 q178.2 t179).bind fun t180 =>
(castI .i64 t180).bind fun n181 =>
some (decide (n181≤4))) else (some false)).bind fun b182 =>
bif b182 then (
(ldO true 9 q178.2 q46.1).bind fun t183 =>
(lenO q41.1).bind fun t184 =>
(castI .i64 t184).bind fun n185 =>
(callO rec 45 (6::1::0::1::1::1::1::1::1::1::0::1::0::σ) [x7,(.p (.int .i64 n26)),t183,(.p (.int .i64 n185)),(.p (.int .i64 (IntKind.wrap .i64 (x9+(intBits .and .i64 n29 65535)))))] q178.2 (some 120)).bind fun q186 =>
(callO rec 47 (3::0::1::1::1::1::1::1::1::1::0::1::0::σ) [x6,(.p (.int .i64 x8)),(.p (.int .i64 (IntKind.wrap .i64 (x9+(intBits .and .i64 n29 65535)))))] q186.2 (some 124)).bind fun q187 =>
(asB q187.1).bind fun b188 =>
(callO rec 47 (7::0::1::1::1::1::1::1::1::1::0::1::0::σ) [x7,(.p (.int .i64 x8)),(.p (.int .i64 (IntKind.wrap .i64 (x9+(intBits .and .i64 n29 65535)))))] q187.2 (some 128)).bind fun q189 =>
(asB q189.1).bind fun b190 =>
(bif !(b188==b190) then (some ((.p (.bool true)),q189.2)) else ((callO rec 46 (13::0::1::1::1::1::1::1::1::1::0::1::0::σ) [x6,(.p (.int .i64 x8)),(.p (.int .i64 (IntKind.wrap .i64 (x9+(intBits .and .i64 n29 65535)))))] q189.2 (some 134)).bind fun q191 =>
(castI .i64 q191.1).bind fun n192 =>
(callO rec 46 (17::0::1::1::1::1::1::1::1::1::0::1::0::σ) [x7,(.p (.int .i64 x8)),(.p (.int .i64 (IntKind.wrap .i64 (x9+(intBits .and .i64 n29 65535)))))] q191.2 (some 138)).bind fun q193 =>
(castI .i64 q193.1).bind fun n194 =>
some ((.p (.bool (n192 != n194))),q193.2))).bind fun q195 =>
(asB q195.1).bind fun b196 =>
(bif b196 then (some ((.p (.bool true)),q195.2)) else ((callO rec 50 (23::0::1::1::1::1::1::1::1::1::0::1::0::σ) [x6,(.p (.int .i64 x8))] q195.2 (some 144)).bind fun q197 =>
(asB q197.1).bind fun b198 =>
(callO rec 50 (26::0::1::1::1::1::1::1::1::1::0::1::0::σ) [x7,(.p (.int .i64 x8))] q197.2 (some 147)).bind fun q199 =>
(asB q199.1).bind fun b200 =>
some ((.p (.bool (!(b198==b200)))),q199.2))).bind fun q201 =>
(asB q201.1).bind fun b202 =>
(bif b202 then (some ((.p (.bool true)),q201.2)) else ((callO rec 49 (32::0::1::1::1::1::1::1::1::1::0::1::0::σ) [x6,(.p (.int .i64 x8))] q201.2 (some 153)).bind fun q203 =>
(asB q203.1).bind fun b204 =>
(callO rec 49 (35::0::1::1::1::1::1::1::1::1::0::1::0::σ) [x7,(.p (.int .i64 x8))] q203.2 (some 156)).bind fun q205 =>
(asB q205.1).bind fun b206 =>
some ((.p (.bool (!(b204==b206)))),q205.2))).bind fun q207 =>
(asB q207.1).bind fun b208 =>
bif b208 then (
some (.ret,(envL [(4,(.p (.bool false)))]),q207.2))
else (
loop z15 z16 (1::σ) (envL [(0,x0),(5,x5),(6,x6),(7,x7),(8,(.p (.int .i64 x8))),(9,(.p (.int .i64 (IntKind.wrap .i64 (x9+(intBits .and .i64 n29 65535)))))),(10,(.p (.int .i64 (IntKind.wrap .i64 (x10+1)))))]) q207.2))
else (
(callO rec 47 (3::0::1::1::1::1::1::1::1::1::0::1::0::σ) [x6,(.p (.int .i64 x8)),(.p (.int .i64 (IntKind.wrap .i64 (x9+(intBits .and .i64 n29 65535)))))] q178.2 (some 124)).bind fun q209 =>
(asB q209.1).bind fun b210 =>
(callO rec 47 (7::0::1::1::1::1::1::1::1::1::0::1::0::σ) [x7,(.p (.int .i64 x8)),(.p (.int .i64 (IntKind.wrap .i64 (x9+(intBits .and .i64 n29 65535)))))] q209.2 (some 128)).bind fun q211 =>
(asB q211.1).bind fun b212 =>
(bif !(b210==b212) then (some ((.p (.bool true)),q211.2)) else ((callO rec 46 (13::0::1::1::1::1::1::1::1::1::0::1::0::σ) [x6,(.p (.int .i64 x8)),(.p (.int .i64 (IntKind.wrap .i64 (x9+(intBits .and .i64 n29 65535)))))] q211.2 (some 134)).bind fun q213 =>
(castI .i64 q213.1).bind fun n214 =>
(callO rec 46 (17::0::1::1::1::1::1::1::1::1::0::1::0::σ) [x7,(.p (.int .i64 x8)),(.p (.int .i64 (IntKind.wrap .i64 (x9+(intBits .and .i64 n29 65535)))))] q213.2 (some 138)).bind fun q215 =>
(castI .i64 q215.1).bind fun n216 =>
some ((.p (.bool (n214 != n216))),q215.2))).bind fun q217 =>
(asB q217.1).bind fun b218 =>
(bif b218 then (some ((.p (.bool true)),q217.2)) else ((callO rec 50 (23::0::1::1::1::1::1::1::1::1::0::1::0::σ) [x6,(.p (.int .i64 x8))] q217.2 (some 144)).bind fun q219 =>
(asB q219.1).bind fun b220 =>
(callO rec 50 (26::0::1::1::1::1::1::1::1::1::0::1::0::σ) [x7,(.p (.int .i64 x8))] q219.2 (some 147)).bind fun q221 =>
(asB q221.1).bind fun b222 =>
some ((.p (.bool (!(b220==b222)))),q221.2))).bind fun q223 =>
(asB q223.1).bind fun b224 =>
(bif b224 then (some ((.p (.bool true)),q223.2)) else ((callO rec 49 (32::0::1::1::1::1::1::1::1::1::0::1::0::σ) [x6,(.p (.int .i64 x8))] q223.2 (some 153)).bind fun q225 =>
(asB q225.1).bind fun b226 =>
(callO rec 49 (35::0::1::1::1::1::1::1::1::1::0::1::0::σ) [x7,(.p (.int .i64 x8))] q225.2 (some 156)).bind fun q227 =>
(asB q227.1).bind fun b228 =>
some ((.p (.bool (!(b226==b228)))),q227.2))).bind fun q229 =>
(asB q229.1).bind fun b230 =>
bif b230 then (
some (.ret,(envL [(4,(.p (.bool false)))]),q229.2))
else (
loop z15 z16 (1::σ) (envL [(0,x0),(5,x5),(6,x6),(7,x7),(8,(.p (.int .i64 x8))),(9,(.p (.int .i64 (IntKind.wrap .i64 (x9+(intBits .and .i64 n29 65535)))))),(10,(.p (.int .i64 (IntKind.wrap .i64 (x10+1)))))]) q229.2)))
else (
(bif n26==x8 then ((fA q20.1 0).bind fun t231 =>
(ldO false 1 q170.2 t231).bind fun t232 =>
(castI .i64 t232).bind fun n233 =>
some (decide (n233≤4))) else (some false)).bind fun b234 =>
bif b234 then (
(ldO true 9 q170.2 q46.1).bind fun t235 =>
(lenO q41.1).bind fun t236 =>
(castI .i64 t236).bind fun n237 =>
(callO rec 45 (6::1::0::1::1::1::1::1::1::1::0::1::0::σ) [x7,(.p (.int .i64 n26)),t235,(.p (.int .i64 n237)),(.p (.int .i64 (IntKind.wrap .i64 (x9+(intBits .and .i64 n29 65535)))))] q170.2 (some 120)).bind fun q238 =>
(callO rec 47 (3::0::1::1::1::1::1::1::1::1::0::1::0::σ) [x6,(.p (.int .i64 x8)),(.p (.int .i64 (IntKind.wrap .i64 (x9+(intBits .and .i64 n29 65535)))))] q238.2 (some 124)).bind fun q239 =>
(asB q239.1).bind fun b240 =>
(callO rec 47 (7::0::1::1::1::1::1::1::1::1::0::1::0::σ) [x7,(.p (.int .i64 x8)),(.p (.int .i64 (IntKind.wrap .i64 (x9+(intBits .and .i64 n29 65535)))))] q239.2 (some 128)).bind fun q241 =>
(asB q241.1).bind fun b242 =>
(bif !(b240==b242) then (some ((.p (.bool true)),q241.2)) else ((callO rec 46 (13::0::1::1::1::1::1::1::1::1::0::1::0::σ) [x6,(.p (.int .i64 x8)),(.p (.int .i64 (IntKind.wrap .i64 (x9+(intBits .and .i64 n29 65535)))))] q241.2 (some 134)).bind fun q243 =>
(castI .i64 q243.1).bind fun n244 =>
(callO rec 46 (17::0::1::1::1::1::1::1::1::1::0::1::0::σ) [x7,(.p (.int .i64 x8)),(.p (.int .i64 (IntKind.wrap .i64 (x9+(intBits .and .i64 n29 65535)))))] q243.2 (some 138)).bind fun q245 =>
(castI .i64 q245.1).bind fun n246 =>
some ((.p (.bool (n244 != n246))),q245.2))).bind fun q247 =>
(asB q247.1).bind fun b248 =>
(bif b248 then (some ((.p (.bool true)),q247.2)) else ((callO rec 50 (23::0::1::1::1::1::1::1::1::1::0::1::0::σ) [x6,(.p (.int .i64 x8))] q247.2 (some 144)).bind fun q249 =>
(asB q249.1).bind fun b250 =>
(callO rec 50 (26::0::1::1::1::1::1::1::1::1::0::1::0::σ) [x7,(.p (.int .i64 x8))] q249.2 (some 147)).bind fun q251 =>
(asB q251.1).bind fun b252 =>
some ((.p (.bool (!(b250==b252)))),q251.2))).bind fun q253 =>
(asB q253.1).bind fun b254 =>
(bif b254 then (some ((.p (.bool true)),q253.2)) else ((callO rec 49 (32::0::1::1::1::1::1::1::1::1::0::1::0::σ) [x6,(.p (.int .i64 x8))] q253.2 (some 153)).bind fun q255 =>
(asB q255.1).bind fun b256 =>
(callO rec 49 (35::0::1::1::1::1::1::1::1::1::0::1::0::σ) [x7,(.p (.int .i64 x8))] q255.2 (some 156)).bind fun q257 =>
(asB q257.1).bind fun b258 =>
some ((.p (.bool (!(b256==b258)))),q257.2))).bind fun q259 =>
(asB q259.1).bind fun b260 =>
bif b260 then (
some (.ret,(envL [(4,(.p (.bool false)))]),q259.2))
else (
loop z15 z16 (1::σ) (envL [(0,x0),(5,x5),(6,x6),(7,x7),(8,(.p (.int .i64 x8))),(9,(.p (.int .i64 (IntKind.wrap .i64 (x9+(intBits .and .i64 n29 65535)))))),(10,(.p (.int .i64 (IntKind.wrap .i64 (x10+1)))))]) q259.2))
else (
(callO rec 47 (3::0::1::1::1::1::1::1::1::1::0::1::0::σ) [x6,(.p (.int .i64 x8)),(.p (.int .i64 (IntKind.wrap .i64 (x9+(intBits .and .i64 n29 65535)))))] q170.2 (some 124)).bind fun q261 =>
(asB q261.1).bind fun b262 =>
(callO rec 47 (7::0::1::1::1::1::1::1::1::1::0::1::0::σ) [x7,(.p (.int .i64 x8)),(.p (.int .i64 (IntKind.wrap .i64 (x9+(intBits .and .i64 n29 65535)))))] q261.2 (some 128)).bind fun q263 =>
(asB q263.1).bind fun b264 =>
(bif !(b262==b264) then (some ((.p (.bool true)),q263.2)) else ((callO rec 46 (13::0::1::1::1::1::1::1::1::1::0::1::0::σ) [x6,(.p (.int .i64 x8)),(.p (.int .i64 (IntKind.wrap .i64 (x9+(intBits .and .i64 n29 65535)))))] q263.2 (some 134)).bind fun q265 =>
(castI .i64 q265.1).bind fun n266 =>
(callO rec 46 (17::0::1::1::1::1::1::1::1::1::0::1::0::σ) [x7,(.p (.int .i64 x8)),(.p (.int .i64 (IntKind.wrap .i64 (x9+(intBits .and .i64 n29 65535)))))] q265.2 (some 138)).bind fun q267 =>
(castI .i64 q267.1).bind fun n268 =>
some ((.p (.bool (n266 != n268))),q267.2))).bind fun q269 =>
(asB q269.1).bind fun b270 =>
(bif b270 then (some ((.p (.bool true)),q269.2)) else ((callO rec 50 (23::0::1::1::1::1::1::1::1::1::0::1::0::σ) [x6,(.p (.int .i64 x8))] q269.2 (some 144)).bind fun q271 =>
(asB q271.1).bind fun b272 =>
(callO rec 50 (26::0::1::1::1::1::1::1::1::1::0::1::0::σ) [x7,(.p (.int .i64 x8))] q271.2 (some 147)).bind fun q273 =>
(asB q273.1).bind fun b274 =>
some ((.p (.bool (!(b272==b274)))),q273.2))).bind fun q275 =>
(asB q275.1).bind fun b276 =>
(bif b276 then (some ((.p (.bool true)),q275.2)) else ((callO rec 49 (32::0::1::1::1::1::1::1::1::1::0::1::0::σ) [x6,(.p (.int .i64 x8))] q275.2 (some 153)).bind fun q277 =>
(asB q277.1).bind fun b278 =>
(callO rec 49 (35::0::1::1::1::1::1::1::1::1::0::1::0::σ) [x7,(.p (.int .i64 x8))] q277.2 (some 156)).bind fun q279 =>
(asB q279.1).bind fun b280 =>
some ((.p (.bool (!(b278==b280)))),q279.2))).bind fun q281 =>
(asB q281.1).bind fun b282 =>
bif b282 then (
some (.ret,(envL [(4,(.p (.bool false)))]),q281.2))
else (
loop z15 z16 (1::σ) (envL [(0,x0),(5,x5),(6,x6),(7,x7),(8,(.p (.int .i64 x8))),(9,(.p (.int .i64 (IntKind.wrap .i64 (x9+(intBits .and .i64 n29 65535)))))),(10,(.p (.int .i64 (IntKind.wrap .i64 (x10+1)))))]) q281.2)))))
else (
some ((.exit 0),(envL []),h)):=by kernel_rfl
theorem z9g  (h:H):z4r rec loop σ (.exit 0) (envL []) h =
(callO rec 44 (0::0::1::1::1::1::1::1::1::0::σ) [] h (some 159)).bind fun q283 =>
(asB q283.1).bind fun b284 =>
fin false σ q283.2 [(.p (.bool b284))]:=by kernel_rfl
theorem z8r (x4:Bool) (h:H):z4r rec loop σ .ret (envL [(4,(.p (.bool x4)))]) h =
fin false σ h [(.p (.bool x4))]:=by kernel_rfl
def z66:Code:=(codeAt (bodyOf Try.f39) [1,1,1,0,1,0,0])
def z65:Lv:=⟨8,4,[(0,8)]⟩
def zbe:KT16:=(kBlock 0 (kSeq G rec loop (codeAt (bodyOf Try.f39) [1,1,1,1]) ⟨4,4,[]⟩ (1::1::1::0::σ) (finC G false Try.f39 (1::σ))))
theorem zd4 (x0:V) (h:H):cvBody G rec loop 39 σ [x0] h =
(callO rec 34 (1::0::0::1::0::σ) [x0] (List.replicate 32 []::h) (some 7)).bind fun q1 =>
(castI .i64 q1.1).bind fun n2 =>
bif n2 != 0 then (
fin false σ q1.2 [(.p (.pointer .none))])
else (
(buildV Try.prog 130 []).bind fun t3 =>
(boxO true (1::0::1::1::0::σ) 10 q1.2 t3).bind fun q4 =>
(lenO x0).bind fun t5 =>
(castI .i64 t5).bind fun n6 =>
(loop z66 z65 (1::0::1::1::1::0::σ) (envL [(3,q4.1),(11,x0),(12,(.p (.int .i64 n6))),(13,(.p (.int .i64 0)))]) q4.2).bind fun r7=>zbe rec loop σ r7.1 r7.2.1 r7.2.2):=by kernel_rfl
theorem zge (x3:V) (x11:V) (x12:Int) (x13:Int) (h:H):z1l G rec loop z66 z65 σ (envL [(3,x3),(11,x11),(12,(.p (.int .i64 x12))),(13,(.p (.int .i64 x13)))]) h =
bif decide (x13<x12) then (
(iS 3 x11 x13).bind fun t8 =>
(ldO true 3 h t8).bind fun t9 =>
(some (alO [.p (.string (⟨#[]⟩:ByteArray)),.p (.int .u32 0),.p (.int .i64 0)] (2::0::0::1::1::0::σ) 5 h)).bind fun q10 =>
((stO false 3 (3::0::0::1::1::0::σ) q10.2 q10.1 t9).map fun h=>(udf,h)).bind fun q11 =>
(nilChk x3).bind fun t12 =>
(fA t12 0).bind fun t13 =>
(ldO false 1 q11.2 t13).bind fun t14 =>
(ldO true 3 q11.2 q10.1).bind fun t15 =>
(callO rec 87 (6::1::0::1::1::0::σ) [] q11.2 (some 23)).bind fun q16 =>
need (ldO true 3 q16.2 q10.1=some t15) (
need (ldO false 1 q16.2 t13=some t14) (
(callO rec 88 (7::1::0::1::1::0::σ) [] q16.2 (some 24)).bind fun q17 =>
need (ldO true 3 q17.2 q10.1=some t15) (
need (ldO false 1 q17.2 t13=some t14) (
(buildV Try.prog 136 [(0,t15),(1,q16.1),(2,q17.1)]).bind fun t18 =>
(bSV Try.prog 128 1 [(0,t18)]).bind fun t19 =>
(apO false 10 80 (10::1::0::1::1::0::σ) 27 q17.2 t14 t19).bind fun q20 =>
(nilChk x3).bind fun t21 =>
(fA t21 0).bind fun t22 =>
((stO true 1 (13::1::0::1::1::0::σ) q20.2 t22 q20.1).map fun h=>(udf,h)).bind fun q23 =>
loop z66 z65 (1::σ) (envL [(3,x3),(11,x11),(12,(.p (.int .i64 x12))),(13,(.p (.int .i64 (IntKind.wrap .i64 (x13+1)))))]) q23.2)))))
else (
some ((.exit 0),(envL [(3,x3)]),h)):=by kernel_rfl
theorem ze3 (x3:V) (h:H):zbe rec loop σ (.exit 0) (envL [(3,x3)]) h =
fin false σ h [x3]:=by kernel_rfl
def z5j:Code:=(codeAt (bodyOf Try.f34) [1,1,0,1,0,0])
def z5k:Lv:=⟨0,4,[(0,0)]⟩
def z6z:KT16:=(kBlock 0 (kSeq G rec loop (codeAt (bodyOf Try.f34) [1,1,1]) ⟨4,4,[]⟩ (1::1::0::σ) (finC G false Try.f34 (1::σ))))
theorem zcf (x0:V) (h:H):cvBody G rec loop 34 σ [x0] h =
(lenO x0).bind fun t1 =>
(castI .i64 t1).bind fun n2 =>
(bif decide (n2<1) then (some true) else ((lenO x0).bind fun t3 =>
(castI .i64 t3).bind fun n4 =>
some (decide (n4>3)))).bind fun b5 =>
bif b5 then (
fin false σ (List.replicate 55 []::h) [(.p (.int .i64 26))])
else (
(lenO x0).bind fun t6 =>
(castI .i64 t6).bind fun n7 =>
(loop z5j z5k (1::0::1::1::0::σ) (envL [(0,x0),(13,x0),(14,(.p (.int .i64 n7))),(15,(.p (.int .i64 0)))]) (List.replicate 55 []::h)).bind fun r8=>z6z rec loop σ r8.1 r8.2.1 r8.2.2):=by kernel_rfl
theorem zfl (x0:V) (x13:V) (x14:Int) (x15:Int) (h:H):z1l G rec loop z5j z5k σ (envL [(0,x0),(13,x13),(14,(.p (.int .i64 x14))),(15,(.p (.int .i64 x15)))]) h =
bif decide (x15<x14) then (
(iS 3 x13 x15).bind fun t9 =>
(ldO true 3 h t9).bind fun t10 =>
(some (alO [.p (.string (⟨#[]⟩:ByteArray)),.p (.int .u32 0),.p (.int .i64 0)] (3::0::0::1::1::0::σ) 4 h)).bind fun q11 =>
((stO false 3 (5::0::0::1::1::0::σ) q11.2 q11.1 t10).map fun h=>(udf,h)).bind fun q12 =>
(fA q11.1 0).bind fun t13 =>
(ldO false 1 q12.2 t13).bind fun t14 =>
(castS t14).bind fun s15 =>
(callO rec 64 (2::0::0::1::0::1::1::0::σ) [(.p (.string s15))] q12.2 (some 22)).bind fun q16 =>
(asB q16.1).bind fun b17 =>
(bif !b17 then (some true) else ((fA q11.1 2).bind fun t18 =>
(ldO false 1 q16.2 t18).bind fun t19 =>
(castI .i64 t19).bind fun n20 =>
some (decide (n20<1)))).bind fun b21 =>
(bif b21 then (some true) else ((fA q11.1 2).bind fun t22 =>
(ldO false 1 q16.2 t22).bind fun t23 =>
(castI .i64 t23).bind fun n24 =>
some (decide (n24>8192)))).bind fun b25 =>
(bif b25 then (some true) else ((bif decide (x15>0) then ((fA q11.1 2).bind fun t26 =>
(ldO false 1 q16.2 t26).bind fun t27 =>
(castI .i64 t27).bind fun n28 =>
(iS 3 x0 (IntKind.wrap .i64 (x15-1))).bind fun t29 =>
(fA t29 2).bind fun t30 =>
(ldO false 1 q16.2 t30).bind fun t31 =>
(castI .i64 t31).bind fun n32 =>
some (decide (n28≤n32))) else (some false)).bind fun b33 =>
some b33)).bind fun b34 =>
bif b34 then (
some (.ret,(envL [(2,(.p (.int .i64 26)))]),q16.2))
else (
(slS 3 x0 none (some x15) none).bind fun t35 =>
(callO rec 74 (4::0::1::1::0::1::1::0::σ) [t35,(.clo 75 [q11.1])] q16.2 (some 53)).bind fun q36 =>
(asB q36.1).bind fun b37 =>
bif b37 then (
some (.ret,(envL [(2,(.p (.int .i64 26)))]),q36.2))
else (
loop z5j z5k (1::σ) (envL [(0,x0),(13,x13),(14,(.p (.int .i64 x14))),(15,(.p (.int .i64 (IntKind.wrap .i64 (x15+1)))))]) q36.2)))
else (
some ((.exit 0),(envL []),h)):=by kernel_rfl
theorem zd5  (h:H):z6z rec loop σ (.exit 0) (envL []) h =
fin false σ h [(.p (.int .i64 0))]:=by kernel_rfl
theorem zbr (x2:Int) (h:H):z6z rec loop σ .ret (envL [(2,(.p (.int .i64 x2)))]) h =
fin false σ h [(.p (.int .i64 x2))]:=by kernel_rfl
end
end Go.Ev
namespace Go.Ev
open Go.Proofs
set_option linter.unusedVariables false
set_option linter.unusedSimpArgs false
set_option maxRecDepth 100000
section
variable {β α : Type} {Q : β→α→Prop} {K : Exit × Env × H→Option α}
def z8s (x0:ByteArray):Option Bool:=some (RidX.rightB x0)
theorem zaw {h:H} {σ:Stamp} (x0:ByteArray):Sim (z8s x0) (ev G X0 64 σ [(.p (.string x0))] h) (fun r s=>s=([.v (.p (.bool r))],h)):=Sim.told (ev_ext rfl)
end
end Go.Ev
namespace Go.Ev
open Go.Proofs
set_option linter.unusedVariables false
set_option linter.unusedSimpArgs false
set_option maxRecDepth 100000
noncomputable section
abbrev KT17:=Exit→Env→H→Option (List C × H)
variable (rec : CallF) (loop : LoopV) (σ : Stamp)
theorem z2v (x0:V) (x1:V) (h:H):cvBody G rec loop 74 σ [x0,x1] h =
(callO rec 108 (2::0::1::0::σ) [x0,x1] (List.replicate 9 []::h) (some 7)).bind fun q1 =>
(castI .i64 q1.1).bind fun n2 =>
fin false σ q1.2 [(.p (.bool (decide (n2≥0))))]:=by kernel_rfl
def z1a:Code:=(codeAt (bodyOf Try.f108) [1,0,1,0,0])
def z1d:Lv:=⟨0,16,[(0,0)]⟩
def z1n:KT17:=(kBlock 0 (kSeq G rec loop (codeAt (bodyOf Try.f108) [1,1]) ⟨16,16,[]⟩ (1::0::σ) (finC G false Try.f108 (1::σ))))
theorem z3g (x0:V) (x1:V) (h:H):cvBody G rec loop 108 σ [x0,x1] h =
(lenO x0).bind fun t1 =>
(castI .i64 t1).bind fun n2 =>
(loop z1a z1d (1::0::1::0::σ) (envL [(0,x0),(1,x1),(7,(.p (.int .i64 n2))),(8,(.p (.int .i64 0)))]) (List.replicate 19 []::h)).bind fun r3=>z1n rec loop σ r3.1 r3.2.1 r3.2.2:=by kernel_rfl
theorem z42 (x0:V) (x1:V) (x7:Int) (x8:Int) (h:H):z1l G rec loop z1a z1d σ (envL [(0,x0),(1,x1),(7,(.p (.int .i64 x7))),(8,(.p (.int .i64 x8)))]) h =
bif decide (x8<x7) then (
(iS 3 x0 x8).bind fun t4 =>
(ldO true 3 h t4).bind fun t5 =>
(cloO rec x1 (5::0::1::0::1::1::0::σ) [t5] h (some 16)).bind fun q6 =>
(asB q6.1).bind fun b7 =>
bif b7 then (
some (.ret,(envL [(4,(.p (.int .i64 x8)))]),q6.2))
else (
loop z1a z1d (1::σ) (envL [(0,x0),(1,x1),(7,(.p (.int .i64 x7))),(8,(.p (.int .i64 (IntKind.wrap .i64 (x8+1)))))]) q6.2))
else (
some ((.exit 0),(envL []),h)):=by kernel_rfl
theorem z3w  (h:H):z1n rec loop σ (.exit 0) (envL []) h =
fin false σ h [(.p (.int .i64 (-1)))]:=by kernel_rfl
theorem z3d (x4:Int) (h:H):z1n rec loop σ .ret (envL [(4,(.p (.int .i64 x4)))]) h =
fin false σ h [(.p (.int .i64 x4))]:=by kernel_rfl
theorem zao (x0:V) (x1:V) (h:H):cvBody G rec loop 75 σ [x0,x1] h =
(boxO false (0::0::0::σ) 2 (List.replicate 16 []::h) x0).bind fun q1 =>
(fA q1.1 1).bind fun t2 =>
(ldO false 1 q1.2 t2).bind fun t3 =>
(castI .u32 t3).bind fun n4 =>
(fA x1 1).bind fun t5 =>
(ldO false 1 q1.2 t5).bind fun t6 =>
(castI .u32 t6).bind fun n7 =>
(bif n4==n7 then (some ((.p (.bool true)),q1.2)) else ((fA q1.1 0).bind fun t8 =>
(ldO false 1 q1.2 t8).bind fun t9 =>
(castS t9).bind fun s10 =>
(fA x1 0).bind fun t11 =>
(ldO false 1 q1.2 t11).bind fun t12 =>
(castS t12).bind fun s13 =>
(callO rec 76 (10::0::1::0::σ) [(.p (.string s10)),(.p (.string s13))] q1.2 (some 14)).bind fun q14 =>
(asB q14.1).bind fun b15 =>
some ((.p (.bool b15)),q14.2))).bind fun q16 =>
(asB q16.1).bind fun b17 =>
fin false σ q16.2 [(.p (.bool b17))]:=by kernel_rfl
theorem zel (x0:ByteArray) (x1:ByteArray) (h:H):cvBody G rec loop 76 σ [(.p (.string x0)),(.p (.string x1))] h =
(callO rec 109 (1::0::1::0::σ) [(.p (.string x0))] (List.replicate 10 []::h) (some 6)).bind fun q1 =>
(castS q1.1).bind fun s2 =>
(callO rec 109 (3::0::1::0::σ) [(.p (.string x1))] q1.2 (some 8)).bind fun q3 =>
(castS q3.1).bind fun s4 =>
fin false σ q3.2 [(.p (.bool (s2.toList==s4.toList)))]:=by kernel_rfl
end
end Go.Ev
namespace Go.Ev
open Go.Proofs
set_option linter.unusedVariables false
set_option linter.unusedSimpArgs false
set_option maxRecDepth 100000
section
variable {β α : Type} {Q : β→α→Prop} {K : Exit × Env × H→Option α}
def z7c (x0:ByteArray):Option ByteArray:=if x0.size<2^40 then some (RidX.foldB x0) else none
theorem zbz {h:H} {σ:Stamp} (x0:ByteArray):Sim (z7c x0) (ev G X0 109 σ [(.p (.string x0))] h) (fun r s=>s=([.v (.p (.string r))],h)):=by
 unfold z7c
 split
 ·rename_i hs
  exact .told (s:=([.v (.p (.string (RidX.foldB x0)))],h)) (ev_ext (by simp only [X0,plainX,XT];simp [hs])) rfl
 ·exact .no
def z7a (x0:ByteArray) (x1:ByteArray):Option (Bool) :=
(z7c x0).bind fun r1 =>
(z7c x1).bind fun r6 =>
some ((r1.toList==r6.toList))
theorem zbt {h:H} {σ:Stamp} (x0:ByteArray) (x1:ByteArray):Sim (z7a x0 x1) (ev G X0 76 σ [(.p (.string x0)),(.p (.string x1))] h) (fun r s=>s=([.v (.p (.bool r))],h)):=by
 refine .ev rfl (Sim.ext (zel _ _ _ _ _ _) ?_)
 rw [z7a]
 have S0:Fm 10 h [] [] [] (List.replicate 10 []::h):=Fm.start0
 refine .call (zbz x0) fun r1 cs2 H3 h4 q5=>?_
 cases q5
 refine .op (castS_p _) ?_
 refine .call (zbz x1) fun r6 cs7 H8 h9 q10=>?_
 cases q10
 refine .op (castS_p _) ?_
 exact .fin (S0.finN (lC (sB _).lv lN)) rfl
def z6b (x0:z5) (x1:z5):Option (Bool) :=
(bif x0.Ssrc==x1.Ssrc then (some true) else ((z7a x0.Rid x1.Rid).bind fun r5 =>
some r5)).bind fun b10 =>
some (b10)
theorem zdn {h:H} {σ:Stamp} (x0:z5) {u0:List V} (hu0:zb.R x0 u0) (x1:z5)  {l1:Loc} {o1:Nat} (ha1:AtC h l1 o1 (List.map C.v [(.p (.string x1.Rid)),(.p (.int .u32 x1.Ssrc)),(.p (.int .i64 x1.Height))])):Sim (z6b x0 x1) (ev G X0 75 σ [(.agg u0),(.ref l1 o1)] h) (fun r s=>s=([.v (.p (.bool r))],h)):=by
 refine .ev rfl (Sim.ext (zao _ _ _ _ _ _) ?_)
 rw [z6b]
 obtain rfl:=zb.inv hu0
 have S0:Fm 16 h [] [] [] (List.replicate 16 []::h):=Fm.start0
 obtain ⟨H1,e2,S3⟩:=S0.box (own:=false) (d:=2) (s:=(0::0::0::σ)) (xs:=[(.p (.string x0.Rid)),(.p (.int .u32 x0.Ssrc)),(.p (.int .i64 x0.Height))]) (sC (still_str _) (sC (sI _ _) (sC (sI _ _) sN))) (by decide) rfl
 refine .op (e2) ?_
 refine .fa ?_
 refine .op ((S3.atG (i:=0) rfl).ld (j:=1) rfl) ?_
 refine .ci ?_
 refine .fa ?_
 refine .op ((S3.lowA ha1).ld (j:=1) rfl) ?_
 refine .ci ?_
 refine .ch (P:=fun r y=>(.p (.bool r),H1)=y) ?_ (fun b10 y11 h12 h13=>?_)
 ·refine .cq ?_ ?_
  ·exact .ret rfl rfl
  ·refine .fa ?_
   refine .op ((S3.atG (i:=0) rfl).ld (j:=0) rfl) ?_
   refine .op (castS_p _) ?_
   refine .fa ?_
   refine .op ((S3.lowA ha1).ld (j:=0) rfl) ?_
   refine .op (castS_p _) ?_
   refine .call (zbt x0.Rid x1.Rid) fun r5 cs6 H7 h8 q9=>?_
   cases q9
   refine .ab ?_
   exact .ret rfl rfl
 subst h13
 refine .ab ?_
 exact .fin (S3.finN (lC (sB _).lv lN)) rfl
def zq {β:Type} (k:Nat) (kE0:Unit→Option β) (kE1:Int→Option β) (x0:(List z5)) (x1c0:z5) (x7:Int) (x8:Int):Option β:=match k with
| 0=>none
| k+1 =>
bif decide (x8<x7) then (
(ix x0 x8).bind fun a10 =>
(z6b a10 x1c0).bind fun r15 =>
bif r15 then (
kE1 x8)
else (
zq k kE0 kE1 x0 x1c0 x7 (IntKind.wrap .i64 (x8+1))))
else (
kE0 ())
def z18 (k:Nat) (x0:(List z5)) (x1c0:z5):Option (Int) :=
zq k (fun (_:Unit) =>
some ((-1))) (fun r28_4 =>
some (r28_4)) x0 x1c0 ((x0.length:Int)) 0
theorem z2a {h:H}  {kE0:Unit→Option β} {kE1:Int→Option β} (hE0:∀ (_u:Unit) (H21:Go.Ev.H) (_:Fm 19 h [] [] [] H21),Sim (kE0 ()) (K ((.exit 0),(envL []),H21)) Q) (hE1:∀ (q4:Int) (H23:Go.Ev.H) (_:Fm 19 h [] [] [] H23),Sim (kE1 q4) (K (.ret,(envL [(4,(.p (.int .i64 q4)))]),H23)) Q) (k:Nat):∀ (x0:(List z5)) (x1c0:z5) (x7:Int) (x8:Int) (v3:V) (h4:SlH h zb x0 v3) (lr5:Loc) (or6:Nat) (har7:AtC h lr5 or6 (List.map C.v [(.p (.string x1c0.Rid)),(.p (.int .u32 x1c0.Ssrc)),(.p (.int .i64 x1c0.Height))])) (H1:Go.Ev.H) (_:Fm 19 h [] [] [] H1) {σ:Stamp},Sim (zq k kE0 kE1 x0 x1c0 x7 x8) ((cvL G X0 z1a z1d σ (envL [(0,v3),(1,(.clo 75 [(.ref lr5 or6)])),(7,(.p (.int .i64 x7))),(8,(.p (.int .i64 x8)))]) H1).bind K) Q:=by
 induction k with
 | zero=>intros;exact .no
 | succ k ih =>
  intro x0 x1c0 x7 x8 v3 h4 lr5 or6 har7 H1 S2 σ
  rw [zq]
  refine .round (Sim.ext (z42 _ _ _ _ _ _ _ _) ?_)
  refine .cq ?_ ?_
  ·refine .bd fun a10 h11=>?_
   refine .op ((S2.low h4).iS h11 rfl) ?_
   obtain ⟨w13,h14,hE12⟩:=(S2.low h4).el h11 rfl
   obtain rfl:=zb.inv h14
   refine .op (hE12.all (by simp)) ?_
   refine .clo ?_
   refine .call (zdn a10 (show zb.R a10 [.p (.string a10.Rid),.p (.int .u32 a10.Ssrc),.p (.int .i64 a10.Height)] from (zb.mk)) x1c0 (S2.lowA har7)) fun r15 cs16 H17 h18 q19=>?_
   cases q19
   refine .ab ?_
   refine .cq ?_ ?_
   ·exact hE1 x8 H1 (S2.wk2 aN aN)
   exact ih x0 x1c0 x7 (IntKind.wrap .i64 (x8+1)) v3 h4 lr5 or6 har7 H1 (S2.wk2 aN aN)
  exact hE0 () H1 (S2.wk2 aN aN)
theorem z2g (k:Nat) {h:H} {σ:Stamp} (x0:List z5) {u0:V} (hu0:SlH h zb x0 u0) (x1c0:z5)  {l1c0:Loc} {o1c0:Nat} (ha1c0:AtC h l1c0 o1c0 (List.map C.v [(.p (.string x1c0.Rid)),(.p (.int .u32 x1c0.Ssrc)),(.p (.int .i64 x1c0.Height))])):Sim (z18 k x0 x1c0) (ev G X0 108 σ [u0,(.clo 75 [(.ref l1c0 o1c0)])] h) (fun r s=>s=([.v (.p (.int .i64 r))],h)):=by
 refine .ev rfl (Sim.ext (z3g _ _ _ _ _ _) ?_)
 rw [z18]
 have S0:Fm 19 h [] [] [] (List.replicate 19 []::h):=Fm.start0
 refine .op ((S0.low hu0).len) ?_
 refine .ci ?_
 refine .as (z2a ?_ ?_ k x0 x1c0 ((x0.length:Int)) 0 u0 hu0 l1c0 o1c0 ha1c0 (List.replicate 19 []::h) (S0.wk2 aN aN))
 ·intro _u H26 S27
  refine .ext (z3w _ _ _ _) ?_
  exact .fin (S27.finN (lC (sI _ _).lv lN)) rfl
 ·intro r28_4 H29 S30
  refine .ext (z3d _ _ _ _ _) ?_
  exact .fin (S30.finN (lC (sI _ _).lv lN)) rfl
def z11 (k:Nat) (x0:(List z5)) (x1c0:z5):Option (Bool) :=
(z18 k x0 x1c0).bind fun r1 =>
some ((decide (r1≥0)))
theorem z27 (k:Nat) {h:H} {σ:Stamp} (x0:List z5) {u0:V} (hu0:SlH h zb x0 u0) (x1c0:z5)  {l1c0:Loc} {o1c0:Nat} (ha1c0:AtC h l1c0 o1c0 (List.map C.v [(.p (.string x1c0.Rid)),(.p (.int .u32 x1c0.Ssrc)),(.p (.int .i64 x1c0.Height))])):Sim (z11 k x0 x1c0) (ev G X0 74 σ [u0,(.clo 75 [(.ref l1c0 o1c0)])] h) (fun r s=>s=([.v (.p (.bool r))],h)):=by
 refine .ev rfl (Sim.ext (z2v _ _ _ _ _ _) ?_)
 rw [z11]
 have S0:Fm 9 h [] [] [] (List.replicate 9 []::h):=Fm.start0
 refine .call (z2g k x0 (S0.low hu0) x1c0 (S0.lowA ha1c0)) fun r1 cs2 H3 h4 q5=>?_
 cases q5
 refine .ci ?_
 exact .fin (S0.finN (lC (sB _).lv lN)) rfl
def z4k {β:Type} (k:Nat) (kE0:Unit→Option β) (kE1:Int→Option β) (x0:(List z5)) (x13:(List z5)) (x14:Int) (x15:Int):Option β:=match k with
| 0=>none
| k+1 =>
bif decide (x15<x14) then (
(ix x13 x15).bind fun a13 =>
(z8s a13.Rid).bind fun r25 =>
(bif !r25 then (some true) else (some (decide (a13.Height<1)))).bind fun b30 =>
(bif b30 then (some true) else (some (decide (a13.Height>8192)))).bind fun b34 =>
(bif b34 then (some true) else ((bif decide (x15>0) then ((ix x0 (IntKind.wrap .i64 (x15-1))).bind fun a38 =>
some (decide (a13.Height≤a38.Height))) else (some false)).bind fun b46 =>
some b46)).bind fun b50 =>
bif b50 then (
kE1 26)
else (
(sub x0 0 x15).bind fun a55 =>
(z11 k a55 a13).bind fun r57 =>
bif r57 then (
kE1 26)
else (
z4k k kE0 kE1 x0 x13 x14 (IntKind.wrap .i64 (x15+1)))))
else (
kE0 ())
def z7r (k:Nat) (x0:(List z5)):Option (Int) :=
(bif decide (((x0.length:Int))<1) then (some true) else (some (decide (((x0.length:Int))>3)))).bind fun b1 =>
bif b1 then (
some (26))
else (
z4k k (fun (_:Unit) =>
some (0)) (fun r70_2 =>
some (r70_2)) x0 x0 ((x0.length:Int)) 0)
theorem zca {h:H}  {kE0:Unit→Option β} {kE1:Int→Option β} (hE0:∀ (_u:Unit) (H63:Go.Ev.H) (_:Fm 55 h [] [] [] H63),Sim (kE0 ()) (K ((.exit 0),(envL []),H63)) Q) (hE1:∀ (q2:Int) (H65:Go.Ev.H) (_:Fm 55 h [] [] [] H65),Sim (kE1 q2) (K (.ret,(envL [(2,(.p (.int .i64 q2)))]),H65)) Q) (k:Nat):∀ (x0:(List z5)) (x13:(List z5)) (x14:Int) (x15:Int) (v8:V) (h9:SlH h zb x0 v8) (v10:V) (h11:SlH h zb x13 v10) (H6:Go.Ev.H) (_:Fm 55 h [] [] [] H6) {σ:Stamp},Sim (z4k k kE0 kE1 x0 x13 x14 x15) ((cvL G X0 z5j z5k σ (envL [(0,v8),(13,v10),(14,(.p (.int .i64 x14))),(15,(.p (.int .i64 x15)))]) H6).bind K) Q:=by
 induction k with
 | zero=>intros;exact .no
 | succ k ih =>
  intro x0 x13 x14 x15 v8 h9 v10 h11 H6 S7 σ
  rw [z4k]
  refine .round (Sim.ext (zfl _ _ _ _ _ _ _ _) ?_)
  refine .cq ?_ ?_
  ·refine .bd fun a13 h14=>?_
   refine .op ((S7.low h11).iS h14 rfl) ?_
   obtain ⟨w16,h17,hE15⟩:=(S7.low h11).el h14 rfl
   obtain rfl:=zb.inv h17
   refine .op (hE15.all (by simp)) ?_
   obtain ⟨H18,e19,S20⟩:=S7.al (d:=4) (s:=(3::0::0::1::1::0::σ)) (z:=[(.p (.string ((⟨#[]⟩:ByteArray)))),(.p (.int .u32 0)),(.p (.int .i64 0))]) (by decide) rfl
   refine .op (congrArg some e19) ?_
   obtain ⟨H22,e23,S24⟩:=S20.stGv (i:=0) (j:=0) (own:=false) (σ:=(5::0::0::1::1::0::σ)) (xs:=[.p (.string a13.Rid),.p (.int .u32 a13.Ssrc),.p (.int .i64 a13.Height)]) rfl rfl (sC (still_str _) (sC (sI _ _) (sC (sI _ _) sN))) rfl rfl
   refine .op (sM e23) ?_
   refine .fa ?_
   refine .op ((S24.atG (i:=0) rfl).ld (j:=0) rfl) ?_
   refine .op (castS_p _) ?_
   refine .call (zaw a13.Rid) fun r25 cs26 H27 h28 q29=>?_
   cases q29
   refine .ab ?_
   refine .ch (P:=fun r y=>r=y) ?_ (fun b30 y31 h32 h33=>?_)
   ·refine .cq ?_ ?_
    ·exact .ret rfl rfl
    ·refine .fa ?_
     refine .op ((S24.atG (i:=0) rfl).ld (j:=2) rfl) ?_
     refine .ci ?_
     exact .ret rfl rfl
   subst h33
   refine .ch (P:=fun r y=>r=y) ?_ (fun b34 y35 h36 h37=>?_)
   ·refine .cq ?_ ?_
    ·exact .ret rfl rfl
    ·refine .fa ?_
     refine .op ((S24.atG (i:=0) rfl).ld (j:=2) rfl) ?_
     refine .ci ?_
     exact .ret rfl rfl
   subst h37
   refine .ch (P:=fun r y=>r=y) ?_ (fun b50 y51 h52 h53=>?_)
   ·refine .cq ?_ ?_
    ·exact .ret rfl rfl
    ·refine .ch (P:=fun r y=>r=y) ?_ (fun b46 y47 h48 h49=>?_)
     ·refine .cq ?_ ?_
      ·refine .fa ?_
       refine .op ((S24.atG (i:=0) rfl).ld (j:=2) rfl) ?_
       refine .ci ?_
       refine .bd fun a38 h39=>?_
       refine .op ((S24.low h9).iS h39 rfl) ?_
       obtain ⟨w41,h42,hE40⟩:=(S24.low h9).el h39 rfl
       obtain rfl:=zb.inv h42
       refine .op (hE40.fa (j:=2) (by simp)) ?_
       obtain ⟨w44,h45,hE43⟩:=(S24.low h9).el h39 rfl
       obtain rfl:=zb.inv h45
       refine .op (hE43.ld (j:=2) rfl) ?_
       refine .ci ?_
       exact .ret rfl rfl
      ·exact .ret rfl rfl
     subst h49
     exact .ret rfl rfl
   subst h53
   refine .cq ?_ ?_
   ·exact hE1 26 H22 (S24.wk2 aN aN)
   refine .bd fun a55 h56=>?_
   refine .op ((S24.low h9).slS h56 rfl rfl rfl) ?_
   refine .call (z27 k a55 ((S24.low h9).sub h56 (e:=3) rfl) a13 (S24.atG (i:=0) rfl)) fun r57 cs58 H59 h60 q61=>?_
   cases q61
   refine .ab ?_
   refine .cq ?_ ?_
   ·exact hE1 26 H22 (S24.wk2 aN aN)
   exact ih x0 x13 x14 (IntKind.wrap .i64 (x15+1)) v8 h9 v10 h11 H22 (S24.wk2 aN aN)
  exact hE0 () H6 (S7.wk2 aN aN)
theorem zfq (k:Nat) {h:H} {σ:Stamp} (x0:List z5) {u0:V} (hu0:SlH h zb x0 u0):Sim (z7r k x0) (ev G X0 34 σ [u0] h) (fun r s=>s=([.v (.p (.int .i64 r))],h)):=by
 refine .ev rfl (Sim.ext (zcf _ _ _ _ _) ?_)
 rw [z7r]
 have S0:Fm 55 h [] [] [] (List.replicate 55 []::h):=Fm.start0
 refine .op ((S0.low hu0).len) ?_
 refine .ci ?_
 refine .ch (P:=fun r y=>r=y) ?_ (fun b1 y2 h3 h4=>?_)
 ·refine .cq ?_ ?_
  ·exact .ret rfl rfl
  ·refine .op ((S0.low hu0).len) ?_
   refine .ci ?_
   exact .ret rfl rfl
 subst h4
 refine .cq ?_ ?_
 ·exact .fin (S0.finN (lC (sI _ _).lv lN)) rfl
 refine .op ((S0.low hu0).len) ?_
 refine .ci ?_
 refine .as (zca ?_ ?_ k x0 x0 ((x0.length:Int)) 0 u0 hu0 u0 hu0 (List.replicate 55 []::h) (S0.wk2 aN aN))
 ·intro _u H68 S69
  refine .ext (zd5 _ _ _ _) ?_
  exact .fin (S69.finN (lC (sI _ _).lv lN)) rfl
 ·intro r70_2 H71 S72
  refine .ext (zbr _ _ _ _ _) ?_
  exact .fin (S72.finN (lC (sI _ _).lv lN)) rfl
end
end Go.Ev
namespace Go.Ev
open Go.Proofs
set_option linter.unusedVariables false
set_option linter.unusedSimpArgs false
set_option maxRecDepth 100000
noncomputable section
abbrev KT18:=Exit→Env→H→Option (List C × H)
variable (rec : CallF) (loop : LoopV) (σ : Stamp)
theorem zdo  (h:H):cvBody G rec loop 88 σ [] h =
(buildV Try.prog 172 []).bind fun t1 =>
(boxO false (1::0::1::0::σ) 2 (List.replicate 3 []::h) t1).bind fun q2 =>
fin false σ q2.2 [q2.1]:=by kernel_rfl
end
end Go.Ev
namespace Go.Ev
open Go.Proofs
set_option linter.unusedVariables false
set_option linter.unusedSimpArgs false
set_option maxRecDepth 100000
section
variable {β α : Type} {Q : β→α→Prop} {K : Exit × Env × H→Option α}
def z8v :Option (z4) :=
some ((⟨[0,0,0,0,0],0,0⟩:z4))
theorem zh5 {h:H} {σ:Stamp} :Sim (z8v ) (ev G X0 88 σ [] h) (fun r s=>∃ (s0:Stamp),s=([.own s0 [.v (.p (.int .i64 (r.slots.getD 0 0))),.v (.p (.int .i64 (r.slots.getD 1 0))),.v (.p (.int .i64 (r.slots.getD 2 0))),.v (.p (.int .i64 (r.slots.getD 3 0))),.v (.p (.int .i64 (r.slots.getD 4 0))),.v (.p (.int .i64 r.last)),.v (.p (.int .i64 r.total))]],h)):=by
 refine .ev rfl (Sim.ext (zdo _ _ _ _) ?_)
 rw [z8v]
 have S0:Fm 3 h [] [] [] (List.replicate 3 []::h):=Fm.start0
 refine .op (bldV pN (by kernel_rfl:_=some (.agg [.p (.int .i64 0),.p (.int .i64 0),.p (.int .i64 0),.p (.int .i64 0),.p (.int .i64 0),.p (.int .i64 0),.p (.int .i64 0)]))) ?_
 obtain ⟨H1,e2,S3⟩:=S0.box (own:=false) (d:=2) (s:=(1::0::1::0::σ)) (xs:=[.p (.int .i64 0),.p (.int .i64 0),.p (.int .i64 0),.p (.int .i64 0),.p (.int .i64 0),.p (.int .i64 0),.p (.int .i64 0)]) (sC (sI _ _) (sC (sI _ _) (sC (sI _ _) (sC (sI _ _) (sC (sI _ _) (sC (sI _ _) (sC (sI _ _) sN))))))) (by decide) rfl
 refine .op (e2) ?_
 obtain ⟨H5,e6,S7⟩:=S3.expG (i:=0) (τ:=0::1::σ) rfl rfl
 exact .fin (S7.finE (Ex.st e6 Ex.nil)) ⟨(1::0::1::0::σ),rfl⟩
end
end Go.Ev
namespace Go.Ev
open Go.Proofs
set_option linter.unusedVariables false
set_option linter.unusedSimpArgs false
set_option maxRecDepth 100000
noncomputable section
abbrev KT19:=Exit→Env→H→Option (List C × H)
variable (rec : CallF) (loop : LoopV) (σ : Stamp)
theorem zg5  (h:H):cvBody G rec loop 87 σ [] h =
(buildV Try.prog 170 [(0,(.p (.int .i64 (-1)))),(1,(.p (.int .i64 (-1))))]).bind fun t1 =>
(boxO false (1::0::1::0::σ) 2 (List.replicate 3 []::h) t1).bind fun q2 =>
fin false σ q2.2 [q2.1]:=by kernel_rfl
end
end Go.Ev
namespace Go.Ev
open Go.Proofs
set_option linter.unusedVariables false
set_option linter.unusedSimpArgs false
set_option maxRecDepth 100000
section
variable {β α : Type} {Q : β→α→Prop} {K : Exit × Env × H→Option α}
def zaj :Option (z1j) :=
some ((⟨(-1),(-1),0,0⟩:z1j))
theorem zj1 {h:H} {σ:Stamp} :Sim (zaj ) (ev G X0 87 σ [] h) (fun r s=>∃ (s0:Stamp),s=([.own s0 [.v (.p (.int .i64 r.first)),.v (.p (.int .i64 r.last)),.v (.p (.int .i64 r.count)),.v (.p (.int .u64 r.mask))]],h)):=by
 refine .ev rfl (Sim.ext (zg5 _ _ _ _) ?_)
 rw [zaj]
 have S0:Fm 3 h [] [] [] (List.replicate 3 []::h):=Fm.start0
 refine .op (bldV (pC rfl (pC rfl pN)) (by kernel_rfl:_=some (.agg [.p (.int .i64 (-1)),.p (.int .i64 (-1)),.p (.int .i64 0),.p (.int .u64 0)]))) ?_
 obtain ⟨H1,e2,S3⟩:=S0.box (own:=false) (d:=2) (s:=(1::0::1::0::σ)) (xs:=[.p (.int .i64 (-1)),.p (.int .i64 (-1)),.p (.int .i64 0),.p (.int .u64 0)]) (sC (sI _ _) (sC (sI _ _) (sC (sI _ _) (sC (sI _ _) sN)))) (by decide) rfl
 refine .op (e2) ?_
 obtain ⟨H5,e6,S7⟩:=S3.expG (i:=0) (τ:=0::1::σ) rfl rfl
 exact .fin (S7.finE (Ex.st e6 Ex.nil)) ⟨(1::0::1::0::σ),rfl⟩
def z59 {β:Type} (k:Nat) (kE0:z6→Option β) (x11:(List z5)) (x12:Int) (x13:Int) (yg10:z6):Option β:=match k with
| 0=>none
| k+1 =>
bif decide (x13<x12) then (
(ix x11 x13).bind fun a20 =>
(zaj).bind fun r32 =>
(z8v).bind fun r42 =>
(ap 80 yg10.l [(⟨a20,r32,(⟨[((r42.slots.getD 0 0)),((r42.slots.getD 1 0)),((r42.slots.getD 2 0)),((r42.slots.getD 3 0)),((r42.slots.getD 4 0))],r42.last,r42.total⟩:z4),false,0,false,false,0⟩:zk)]).bind fun a58 =>
z59 k kE0 x11 x12 (IntKind.wrap .i64 (x13+1)) ((⟨a58⟩:z6)))
else (
kE0 yg10)
def z2b (k:Nat) (x0:(List z5)):Option ((Option z6)) :=
(z7r k x0).bind fun r1 =>
bif r1 != 0 then (
some (none))
else (
z59 k (fun yg18 =>
some ((some yg18))) x0 ((x0.length:Int)) 0 ((⟨(([]:List zk))⟩:z6)))
theorem zdi {h:H}  {kE0:z6→Option β} (hE0:∀ (yg18:z6) (c76:C) (h77:RsC zd yg18.l c76) (s78:Stamp) (H74:Go.Ev.H) (_:Fm 32 h [] [(10,s78,[c76])] [] H74),Sim (kE0 yg18) (K ((.exit 0),(envL [(3,(.ref ⟨h.length,10,0,s78,[]⟩ 0))]),H74)) Q) (k:Nat):∀ (x11:(List z5)) (x12:Int) (x13:Int) (yg10:z6) (v13:V) (h14:SlH h zb x11 v13) (c15:C) (h16:RsC zd yg10.l c15) (s17:Stamp) (H11:Go.Ev.H) (_:Fm 32 h [] [(10,s17,[c15])] [] H11) {σ:Stamp},Sim (z59 k kE0 x11 x12 x13 yg10) ((cvL G X0 z66 z65 σ (envL [(3,(.ref ⟨h.length,10,0,s17,[]⟩ 0)),(11,v13),(12,(.p (.int .i64 x12))),(13,(.p (.int .i64 x13)))]) H11).bind K) Q:=by
 induction k with
 | zero=>intros;exact .no
 | succ k ih =>
  intro x11 x12 x13 yg10 v13 h14 c15 h16 s17 H11 S12 σ
  rw [z59]
  refine .round (Sim.ext (zge _ _ _ _ _ _ _ _) ?_)
  refine .cq ?_ ?_
  ·refine .bd fun a20 h21=>?_
   refine .op ((S12.low h14).iS h21 rfl) ?_
   obtain ⟨w23,h24,hE22⟩:=(S12.low h14).el h21 rfl
   obtain rfl:=zb.inv h24
   refine .op (hE22.all (by simp)) ?_
   obtain ⟨H25,e26,S27⟩:=S12.al (d:=5) (s:=(2::0::0::1::1::0::σ)) (z:=[(.p (.string ((⟨#[]⟩:ByteArray)))),(.p (.int .u32 0)),(.p (.int .i64 0))]) (by decide) rfl
   refine .op (congrArg some e26) ?_
   obtain ⟨H29,e30,S31⟩:=S27.stGv (i:=0) (j:=0) (own:=false) (σ:=(3::0::0::1::1::0::σ)) (xs:=[.p (.string a20.Rid),.p (.int .u32 a20.Ssrc),.p (.int .i64 a20.Height)]) rfl rfl (sC (still_str _) (sC (sI _ _) (sC (sI _ _) sN))) rfl rfl
   refine .op (sM e30) ?_
   refine .nc ?_
   refine .fa ?_
   refine .op (RsC.ld h16 (S31.atG (i:=1) rfl) (j:=0) rfl) ?_
   refine .op ((S31.atG (i:=0) rfl).ldVs (j:=0) (xs:=[.p (.string a20.Rid),.p (.int .u32 a20.Ssrc),.p (.int .i64 a20.Height)]) rfl rfl (by decide)) ?_
   refine .call (zj1 ) fun r32 cs33 H34 h35 q36=>?_
   obtain ⟨s37,q36⟩:=q36
   cases q36
   obtain ⟨H38,e39,S40⟩:=S31.landG (d:=23) (s:=s37) (cs:=List.map C.v [(.p (.int .i64 r32.first)),(.p (.int .i64 r32.last)),(.p (.int .i64 r32.count)),(.p (.int .u64 r32.mask))]) (by decide) rfl
   erw [e39]
   refine .nd ((S40.atG (i:=1) rfl).ldVs (j:=0) (xs:=[.p (.string a20.Rid),.p (.int .u32 a20.Ssrc),.p (.int .i64 a20.Height)]) rfl rfl (by decide)) ?_
   refine .nd (RsC.ld h16 (S40.atG (i:=2) rfl) (j:=0) rfl) ?_
   refine .call (zh5 ) fun r42 cs43 H44 h45 q46=>?_
   obtain ⟨s47,q46⟩:=q46
   cases q46
   obtain ⟨H48,e49,S50⟩:=S40.landG (d:=24) (s:=s47) (cs:=List.map C.v [(.p (.int .i64 ((r42.slots.getD 0 0)))),(.p (.int .i64 ((r42.slots.getD 1 0)))),(.p (.int .i64 ((r42.slots.getD 2 0)))),(.p (.int .i64 ((r42.slots.getD 3 0)))),(.p (.int .i64 ((r42.slots.getD 4 0)))),(.p (.int .i64 r42.last)),(.p (.int .i64 r42.total))]) (by decide) rfl
   erw [e49]
   refine .nd ((S50.atG (i:=2) rfl).ldVs (j:=0) (xs:=[.p (.string a20.Rid),.p (.int .u32 a20.Ssrc),.p (.int .i64 a20.Height)]) rfl rfl (by decide)) ?_
   refine .nd (RsC.ld h16 (S50.atG (i:=3) rfl) (j:=0) rfl) ?_
   refine .op (bldV (pC (c:=[.p (.string a20.Rid),.p (.int .u32 a20.Ssrc),.p (.int .i64 a20.Height)]) rfl (pC rfl (pC rfl pN))) (by kernel_rfl:_=some (.agg [(.p (.string a20.Rid)),(.p (.int .u32 a20.Ssrc)),(.p (.int .i64 a20.Height)),(.ref ⟨h.length,23,0,s37,[]⟩ 0),(.ref ⟨h.length,24,0,s47,[]⟩ 0),(.p (.bool false)),(.p (.int .i64 0)),(.p (.bool false)),(.p (.bool false)),(.p (.int .i64 0))]))) ?_
   refine .op (bldS1 (e:=10) (te:=136) (z:=[.p (.string (⟨#[]⟩:ByteArray)),.p (.int .u32 0),.p (.int .i64 0),.p (.pointer none),.p (.pointer none),.p (.bool false),.p (.int .i64 0),.p (.bool false),.p (.bool false),.p (.int .i64 0)]) (by kernel_rfl) (by kernel_rfl) ⟨⟨rfl,by kernel_rfl,by decide,by decide⟩,trivial⟩ ((show List.length [(.p (.string a20.Rid)),(.p (.int .u32 a20.Ssrc)),(.p (.int .i64 a20.Height)),(.ref ⟨h.length,23,0,s37,[]⟩ 0),(.ref ⟨h.length,24,0,s47,[]⟩ 0),(.p (.bool false)),(.p (.int .i64 0)),(.p (.bool false)),(.p (.bool false)),(.p (.int .i64 0))]=List.length [(.p (.string a20.Rid)),(.p (.int .u32 a20.Ssrc)),(.p (.int .i64 a20.Height)),(.ref ⟨h.length,23,0,s37,[]⟩ 0),(.ref ⟨h.length,24,0,s47,[]⟩ 0),(.p (.bool false)),(.p (.int .i64 0)),(.p (.bool false)),(.p (.bool false)),(.p (.int .i64 0))] from rfl).trans rfl)) ?_
   obtain ⟨H52,e53,S54⟩:=S50.layR (i:=1) (own:=false) rfl rfl
   obtain ⟨H55,e56,S57⟩:=S54.layR (i:=0) (own:=false) rfl rfl
   refine .bd fun a58 h59=>?_
   obtain ⟨c60,ds61,H62,e63,h64,h65,S66⟩:=S57.appR (i:=1) (j:=0) (d:=27) (e:=10) (own:=false) (σ:=(10::1::0::1::1::0::σ)) (dt:=zd) (t:=true) rfl rfl h16 (lx_pl (still_str _) (lx_pl (sI _ _) (lx_pl (sI _ _) (lx_ow e53 (lx_ow e56 (lx_pl (sB _) (lx_pl (sI _ _) (lx_pl (sB _) (lx_pl (sB _) (lx_pl (sI _ _) lx_nil)))))))))) rfl (show zd.R ((⟨a20,r32,(⟨[((r42.slots.getD 0 0)),((r42.slots.getD 1 0)),((r42.slots.getD 2 0)),((r42.slots.getD 3 0)),((r42.slots.getD 4 0))],r42.last,r42.total⟩:z4),false,0,false,false,0⟩:zk)) [.v (.p (.string a20.Rid)),.v (.p (.int .u32 a20.Ssrc)),.v (.p (.int .i64 a20.Height)),.own s37 (List.map C.v [(.p (.int .i64 r32.first)),(.p (.int .i64 r32.last)),(.p (.int .i64 r32.count)),(.p (.int .u64 r32.mask))]),.own s47 (List.map C.v [(.p (.int .i64 ((r42.slots.getD 0 0)))),(.p (.int .i64 ((r42.slots.getD 1 0)))),(.p (.int .i64 ((r42.slots.getD 2 0)))),(.p (.int .i64 ((r42.slots.getD 3 0)))),(.p (.int .i64 ((r42.slots.getD 4 0)))),(.p (.int .i64 r42.last)),(.p (.int .i64 r42.total))]),.v (.p (.bool false)),.v (.p (.int .i64 0)),.v (.p (.bool false)),.v (.p (.bool false)),.v (.p (.int .i64 0))] from ⟨s37,s47,rfl⟩) h59 rfl (by decide) (by decide) rfl rfl
   refine .op (e63) ?_
   refine .nc ?_
   refine .fa ?_
   obtain ⟨H67,e68,S69⟩:=S66.stR (j:=0) (σ:=(13::1::0::1::1::0::σ)) h65 (i:=1) rfl rfl rfl rfl
   obtain ⟨c70,e71,h73⟩:∃ c,c=.arr (10::1::0::1::1::0::σ) a58.length 10 ds61∧RsC zd a58 c:=⟨_,rfl,.inr ⟨_,_,rfl,h64⟩⟩
   have S72:Fm 32 h [] [(5,(2::0::0::1::1::0::σ),List.map C.v [(.p (.string a20.Rid)),(.p (.int .u32 a20.Ssrc)),(.p (.int .i64 a20.Height))]),(10,s17,[c70])] [] H67:=by rw [e71];exact S69
   refine .op (sM e68) ?_
   exact ih x11 x12 (IntKind.wrap .i64 (x13+1)) ((⟨a58⟩:z6)) v13 h14 c70 h73 s17 H67 (S72.wk2 (aC (aM 1 rfl) aN) aN)
  exact hE0 yg10 c15 h16 s17 H11 (S12.wk2 (aC (aM 0 rfl) aN) aN)
theorem z4n (k:Nat) {h:H} {σ:Stamp} (x0:List z5) {u0:V} (hu0:SlH h zb x0 u0):Sim (z2b k x0) (ev G X0 39 σ [u0] h) (fun r s=>match r with | none=>s=([.v (.p (.pointer none))],h) | some r=>∃ (s0:Stamp),∃ (cr0_0:C),RsC zd r.l cr0_0∧s=([.own s0 [cr0_0]],h)):=by
 refine .ev rfl (Sim.ext (zd4 _ _ _ _ _) ?_)
 rw [z2b]
 have S0:Fm 32 h [] [] [] (List.replicate 32 []::h):=Fm.start0
 refine .call (zfq k x0 (S0.low hu0)) fun r1 cs2 H3 h4 q5=>?_
 cases q5
 refine .ci ?_
 refine .cq ?_ ?_
 ·exact .fin (S0.finN (lC (Still.lv still_nilP) lN)) rfl
 refine .op (bldV pN (by kernel_rfl:_=some (.agg [(.p (.slice none 0 0))]))) ?_
 obtain ⟨H7,e8,S9⟩:=S0.box (own:=true) (d:=10) (s:=(1::0::1::1::0::σ)) (xs:=[(.p (.slice none 0 0))]) (sC still_nilS sN) (by decide) rfl
 refine .op (e8) ?_
 refine .op ((S9.low hu0).len) ?_
 refine .ci ?_
 refine .as (zdi ?_ k x0 ((x0.length:Int)) 0 ((⟨(([]:List zk))⟩:z6)) u0 hu0 (.v (.p (.slice none 0 0))) RsC.nil (1::0::1::1::0::σ) H7 (S9.wk2 (aC (aM 0 rfl) aN) aN))
 ·intro yg18 c83 h84 s85 H81 S82
  refine .ext (ze3 _ _ _ _ _) ?_
  obtain ⟨H87,e88,S89⟩:=S82.expG (i:=0) (τ:=0::1::σ) rfl rfl
  exact .fin (S89.finE (Ex.st e88 Ex.nil)) ⟨s85,c83,h84,rfl⟩
end
end Go.Ev
namespace Go.Ev
open Go.Proofs
set_option linter.unusedVariables false
set_option linter.unusedSimpArgs false
set_option maxRecDepth 100000
noncomputable section
abbrev KT20:=Exit→Env→H→Option (List C × H)
variable (rec : CallF) (loop : LoopV) (σ : Stamp)
theorem zcu  (h:H):cvBody G rec loop 44 σ [] h =
(buildV Try.prog 70 [(0,(.p (.string ((⟨#[108,111]⟩:ByteArray))))),(1,(.p (.int .u32 1))),(2,(.p (.int .i64 100)))]).bind fun t1 =>
(buildV Try.prog 70 [(0,(.p (.string ((⟨#[104,105]⟩:ByteArray))))),(1,(.p (.int .u32 2))),(2,(.p (.int .i64 200)))]).bind fun t2 =>
(bSV Try.prog 56 2 [(0,t1),(1,t2)]).bind fun t3 =>
(callO rec 39 (1::0::1::1::0::σ) [t3] (List.replicate 138 []::h) (some 18)).bind fun q4 =>
(binV Try.prog q4.2 .eql 79 q4.1 (.p (.pointer .none))).bind fun t5 =>
(asB t5).bind fun b6 =>
(bif b6 then (some ((.p (.bool true)),q4.2)) else ((callO rec 39 (3::0::0::1::1::1::0::σ) [(.p (.slice .none 0 0))] q4.2 (some 22)).bind fun q7 =>
(binV Try.prog q7.2 .neq 79 q7.1 (.p (.pointer .none))).bind fun t8 =>
(asB t8).bind fun b9 =>
some ((.p (.bool b9)),q7.2))).bind fun q10 =>
(asB q10.1).bind fun b11 =>
bif b11 then (
fin false σ q10.2 [(.p (.bool false))])
else (
(iS 3 t3 1).bind fun t12 =>
(ldO true 3 q10.2 t12).bind fun t13 =>
(callO rec 41 (3::0::1::1::1::1::0::σ) [t13,(.p (.int .u16 5)),(.p (.int .u32 9)),(.p (.bool true)),(.p (.int .i64 100))] q10.2 (some 28)).bind fun q14 =>
(callO rec 40 (1::0::1::1::1::1::1::0::σ) [q14.1] q14.2 (some 31)).bind fun q15 =>
(extV q15.1 0).bind fun t16 =>
(extV q15.1 1).bind fun t17 =>
(castI .i64 t17).bind fun n18 =>
(some (alO [.p (.bool false),.p (.int .i64 0),.p (.int .u16 0),.p (.int .u32 0),.p (.int .u32 0),.p (.slice none 0 0),.p (.int .u16 0),.p (.slice none 0 0),.p (.slice none 0 0)] (5::0::1::1::1::1::1::0::σ) 4 q15.2)).bind fun q19 =>
((stO true 9 (6::0::1::1::1::1::1::0::σ) q19.2 q19.1 t16).map fun h=>(udf,h)).bind fun q20 =>
(ldO true 9 q20.2 q19.1).bind fun t21 =>
(callO rec 42 (2::0::1::1::1::1::1::1::0::σ) [q4.1,t21] q20.2 (some 36)).bind fun q22 =>
(castI .i64 q22.1).bind fun n23 =>
(callO rec 47 (1::0::1::1::1::1::1::1::1::0::σ) [q4.1,(.p (.int .i64 1)),(.p (.int .i64 0))] q22.2 (some 38)).bind fun q24 =>
(asB q24.1).bind fun b25 =>
(ldO true 9 q24.2 q19.1).bind fun t26 =>
(lenO q14.1).bind fun t27 =>
(castI .i64 t27).bind fun n28 =>
(callO rec 45 (4::0::1::1::1::1::1::1::1::1::0::σ) [q4.1,(.p (.int .i64 1)),t26,(.p (.int .i64 n28)),(.p (.int .i64 10))] q24.2 (some 44)).bind fun q29 =>
(extV q29.1 0).bind fun t30 =>
(castI .i64 t30).bind fun n31 =>
(extV q29.1 1).bind fun t32 =>
(asB t32).bind fun b33 =>
(ldO true 9 q29.2 q19.1).bind fun t34 =>
(lenO q14.1).bind fun t35 =>
(castI .i64 t35).bind fun n36 =>
(callO rec 45 (4::0::1::1::1::1::1::1::1::1::1::0::σ) [q4.1,(.p (.int .i64 1)),t34,(.p (.int .i64 n36)),(.p (.int .i64 20))] q29.2 (some 52)).bind fun q37 =>
(extV q37.1 0).bind fun t38 =>
(castI .i64 t38).bind fun n39 =>
(extV q37.1 1).bind fun t40 =>
(asB t40).bind fun b41 =>
(callO rec 46 (1::0::1::1::1::1::1::1::1::1::1::1::0::σ) [q4.1,(.p (.int .i64 1)),(.p (.int .i64 10))] q37.2 (some 56)).bind fun q42 =>
(castI .i64 q42.1).bind fun n43 =>
(callO rec 48 (1::0::1::1::1::1::1::1::1::1::1::1::1::0::σ) [q4.1,(.p (.int .i64 1)),(.p (.bool true)),(.p (.int .i64 10))] q42.2 (some 58)).bind fun q44 =>
(callO rec 50 (1::0::1::1::1::1::1::1::1::1::1::1::1::1::0::σ) [q4.1,(.p (.int .i64 1))] q44.2 (some 60)).bind fun q45 =>
(asB q45.1).bind fun b46 =>
(bif b46 then ((callO rec 47 (4::0::1::1::1::1::1::1::1::1::1::1::1::1::0::σ) [q4.1,(.p (.int .i64 1)),(.p (.int .i64 20))] q45.2 (some 63)).bind fun q47 =>
(asB q47.1).bind fun b48 =>
some ((.p (.bool (!b48))),q47.2)) else (some ((.p (.bool false)),q45.2))).bind fun q49 =>
(asB q49.1).bind fun b50 =>
(callO rec 48 (1::0::1::1::1::1::1::1::1::1::1::1::1::1::1::0::σ) [q4.1,(.p (.int .i64 1)),(.p (.bool false)),(.p (.int .i64 900000))] q49.2 (some 67)).bind fun q51 =>
(bif n23==1 then (some (!b25)) else (some false)).bind fun b52 =>
(bif b52 then (some (n31==5)) else (some false)).bind fun b53 =>
(bif b53 then (some b33) else (some false)).bind fun b54 =>
(bif b54 then (some (!b41)) else (some false)).bind fun b55 =>
(bif b55 then (some (n43==1)) else (some false)).bind fun b56 =>
(bif b56 then (some b50) else (some false)).bind fun b57 =>
(bif b57 then ((callO rec 49 (26::0::1::1::1::1::1::1::1::1::1::1::1::1::1::1::0::σ) [q4.1,(.p (.int .i64 1))] q51.2 (some 94)).bind fun q58 =>
(asB q58.1).bind fun b59 =>
some ((.p (.bool b59)),q58.2)) else (some ((.p (.bool false)),q51.2))).bind fun q60 =>
(asB q60.1).bind fun b61 =>
(bif b61 then ((callO rec 46 (30::0::1::1::1::1::1::1::1::1::1::1::1::1::1::1::0::σ) [q4.1,(.p (.int .i64 1)),(.p (.int .i64 900000))] q60.2 (some 98)).bind fun q62 =>
(castI .i64 q62.1).bind fun n63 =>
some ((.p (.bool (n63==1))),q62.2)) else (some ((.p (.bool false)),q60.2))).bind fun q64 =>
(asB q64.1).bind fun b65 =>
(bif b65 then ((ldO true 9 q64.2 q19.1).bind fun t66 =>
(callO rec 43 (36::0::1::1::1::1::1::1::1::1::1::1::1::1::1::1::0::σ) [q4.1,t66] q64.2 (some 104)).bind fun q67 =>
(asB q67.1).bind fun b68 =>
some ((.p (.bool b68)),q67.2)) else (some ((.p (.bool false)),q64.2))).bind fun q69 =>
(asB q69.1).bind fun b70 =>
(bif b70 then ((callO rec 94 (40::0::1::1::1::1::1::1::1::1::1::1::1::1::1::1::0::σ) [q4.1,(.p (.int .i64 0))] q69.2 (some 108)).bind fun q71 =>
(castI .i64 q71.1).bind fun n72 =>
some ((.p (.bool (n72==100))),q71.2)) else (some ((.p (.bool false)),q69.2))).bind fun q73 =>
(asB q73.1).bind fun b74 =>
(bif b74 then ((callO rec 94 (45::0::1::1::1::1::1::1::1::1::1::1::1::1::1::1::0::σ) [q4.1,(.p (.int .i64 5))] q73.2 (some 113)).bind fun q75 =>
(castI .i64 q75.1).bind fun n76 =>
some ((.p (.bool (n76==0))),q75.2)) else (some ((.p (.bool false)),q73.2))).bind fun q77 =>
(asB q77.1).bind fun b78 =>
(bif b78 then ((callO rec 95 (50::0::1::1::1::1::1::1::1::1::1::1::1::1::1::1::0::σ) [q4.1] q77.2 (some 118)).bind fun q79 =>
(castI .i64 q79.1).bind fun n80 =>
some ((.p (.bool (n80==2))),q79.2)) else (some ((.p (.bool false)),q77.2))).bind fun q81 =>
(asB q81.1).bind fun b82 =>
(bif b82 then ((buildV Try.prog 52 [(4,(.p (.int .u32 1)))]).bind fun t83 =>
(callO rec 42 (56::0::1::1::1::1::1::1::1::1::1::1::1::1::1::1::0::σ) [q4.1,t83] q81.2 (some 124)).bind fun q84 =>
(castI .i64 q84.1).bind fun n85 =>
some ((.p (.bool (n85==(-1)))),q84.2)) else (some ((.p (.bool false)),q81.2))).bind fun q86 =>
(asB q86.1).bind fun b87 =>
(bif b87 then ((callO rec 46 (61::0::1::1::1::1::1::1::1::1::1::1::1::1::1::1::0::σ) [q4.1,(.p (.int .i64 (-1))),(.p (.int .i64 0))] q86.2 (some 129)).bind fun q88 =>
(castI .i64 q88.1).bind fun n89 =>
some ((.p (.bool (n89==0))),q88.2)) else (some ((.p (.bool false)),q86.2))).bind fun q90 =>
(asB q90.1).bind fun b91 =>
(bif b91 then ((callO rec 86 (66::0::1::1::1::1::1::1::1::1::1::1::1::1::1::1::0::σ) [q4.1] q90.2 (some 134)).bind fun q92 =>
(lenO q92.1).bind fun t93 =>
(castI .i64 t93).bind fun n94 =>
some ((.p (.bool (n94==2))),q92.2)) else (some ((.p (.bool false)),q90.2))).bind fun q95 =>
(asB q95.1).bind fun b96 =>
fin false σ q95.2 [(.p (.bool b96))]):=by kernel_rfl
theorem z86 (x0:V) (x1:V) (h:H):cvBody G rec loop 42 σ [x0,x1] h =
(boxO true (0::0::0::σ) 3 (List.replicate 18 []::h) x1).bind fun q1 =>
(ldO true 9 q1.2 q1.1).bind fun t2 =>
(callO rec 26 (1::0::1::0::σ) [t2] q1.2 (some 9)).bind fun q3 =>
(extV q3.1 0).bind fun t4 =>
(castS t4).bind fun s5 =>
(extV q3.1 1).bind fun t6 =>
(asB t6).bind fun b7 =>
(some (alO [.p (.string (⟨#[]⟩:ByteArray))] (5::0::1::0::σ) 5 q3.2)).bind fun q8 =>
(some (alO [.p (.bool false)] (6::0::1::0::σ) 6 q8.2)).bind fun q9 =>
((stO true 1 (7::0::1::0::σ) q9.2 q8.1 (.p (.string s5))).map fun h=>(udf,h)).bind fun q10 =>
((stO true 1 (8::0::1::0::σ) q10.2 q9.1 (.p (.bool b7))).map fun h=>(udf,h)).bind fun q11 =>
(nilChk x0).bind fun t12 =>
(fA t12 0).bind fun t13 =>
(ldO false 1 q11.2 t13).bind fun t14 =>
(callO rec 92 (5::0::1::1::0::σ) [t14,(.clo 93 [q9.1,q1.1,q8.1])] q11.2 (some 17)).bind fun q15 =>
(castI .i64 q15.1).bind fun n16 =>
fin false σ q15.2 [(.p (.int .i64 n16))]:=by kernel_rfl
theorem zfx (x0:V) (h:H):cvBody G rec loop 26 σ [x0] h =
(boxO true (0::0::0::σ) 1 (List.replicate 33 []::h) x0).bind fun q1 =>
(fA q1.1 6).bind fun t2 =>
(ldO false 1 q1.2 t2).bind fun t3 =>
(castI .u16 t3).bind fun n4 =>
(fA q1.1 7).bind fun t5 =>
(ldO false 1 q1.2 t5).bind fun t6 =>
(callO rec 23 (4::0::1::0::σ) [(.p (.int .u16 n4)),t6] q1.2 (some 13)).bind fun q7 =>
(extV q7.1 0).bind fun t8 =>
(extV q7.1 1).bind fun t9 =>
(castI .i64 t9).bind fun n10 =>
bif n10 != 0 then (
fin false σ q7.2 [(.p (.string ((⟨#[]⟩:ByteArray)))),(.p (.bool false))])
else (
(callO rec 25 (1::0::1::1::1::0::σ) [t8,(.p (.int .i64 1))] q7.2 (some 20)).bind fun q11 =>
(extV q11.1 0).bind fun t12 =>
(extV q11.1 1).bind fun t13 =>
(asB t13).bind fun b14 =>
(bif !b14 then (some ((.p (.bool true)),q11.2)) else ((strO q11.2 t12).bind fun t15 =>
(castS t15).bind fun s16 =>
(callO rec 64 (5::0::0::1::1::1::1::0::σ) [(.p (.string s16))] q11.2 (some 28)).bind fun q17 =>
(asB q17.1).bind fun b18 =>
some ((.p (.bool (!b18))),q17.2))).bind fun q19 =>
(asB q19.1).bind fun b20 =>
bif b20 then (
fin false σ q19.2 [(.p (.string ((⟨#[]⟩:ByteArray)))),(.p (.bool false))])
else (
(strO q19.2 t12).bind fun t21 =>
(castS t21).bind fun s22 =>
fin false σ q19.2 [(.p (.string s22)),(.p (.bool true))])):=by kernel_rfl
theorem zef (x0:V) (x1:Int) (h:H):cvBody G rec loop 25 σ [x0,(.p (.int .i64 x1))] h =
(boxO true (0::0::0::σ) 3 (List.replicate 18 []::h) (.p (.int .i64 x1))).bind fun q1 =>
(callO rec 61 (2::0::1::0::σ) [x0,(.clo 62 [q1.1])] q1.2 (some 9)).bind fun q2 =>
(castI .i64 q2.1).bind fun n3 =>
bif decide (n3<0) then (
fin true σ q2.2 [(.p (.slice .none 0 0)),(.p (.bool false))])
else (
(iS 2 x0 n3).bind fun t4 =>
(fA t4 1).bind fun t5 =>
(ldO false 1 q2.2 t5).bind fun t6 =>
(callO rec 63 (5::0::1::1::1::0::σ) [t6] q2.2 (some 17)).bind fun q7 =>
fin true σ q7.2 [q7.1,(.p (.bool true))]):=by kernel_rfl
theorem z3f (x0:V) (h:H):cvBody G rec loop 63 σ [x0] h =
(binV Try.prog (List.replicate 8 []::h) .eql 32 x0 (.p (.slice .none 0 0))).bind fun t1 =>
(asB t1).bind fun b2 =>
bif b2 then (
fin false σ (List.replicate 8 []::h) [(.p (.slice .none 0 0))])
else (
(bSV Try.prog 32 0 []).bind fun t3 =>
(apO true 1 1 (2::0::1::1::0::σ) 7 (List.replicate 8 []::h) t3 x0).bind fun q4 =>
fin false σ q4.2 [q4.1]):=by kernel_rfl
def z1g:Code:=(codeAt (bodyOf Try.f61) [1,0,1,0,0])
def z1h:Lv:=⟨0,16,[(0,0)]⟩
def z1s:KT20:=(kBlock 0 (kSeq G rec loop (codeAt (bodyOf Try.f61) [1,1]) ⟨16,16,[]⟩ (1::0::σ) (finC G false Try.f61 (1::σ))))
theorem z3x (x0:V) (x1:V) (h:H):cvBody G rec loop 61 σ [x0,x1] h =
(lenO x0).bind fun t1 =>
(castI .i64 t1).bind fun n2 =>
(loop z1g z1h (1::0::1::0::σ) (envL [(0,x0),(1,x1),(7,(.p (.int .i64 n2))),(8,(.p (.int .i64 0)))]) (List.replicate 19 []::h)).bind fun r3=>z1s rec loop σ r3.1 r3.2.1 r3.2.2:=by kernel_rfl
theorem z4i (x0:V) (x1:V) (x7:Int) (x8:Int) (h:H):z1l G rec loop z1g z1h σ (envL [(0,x0),(1,x1),(7,(.p (.int .i64 x7))),(8,(.p (.int .i64 x8)))]) h =
bif decide (x8<x7) then (
(iS 2 x0 x8).bind fun t4 =>
(ldO true 2 h t4).bind fun t5 =>
(cloO rec x1 (5::0::1::0::1::1::0::σ) [t5] h (some 16)).bind fun q6 =>
(asB q6.1).bind fun b7 =>
bif b7 then (
some (.ret,(envL [(4,(.p (.int .i64 x8)))]),q6.2))
else (
loop z1g z1h (1::σ) (envL [(0,x0),(1,x1),(7,(.p (.int .i64 x7))),(8,(.p (.int .i64 (IntKind.wrap .i64 (x8+1)))))]) q6.2))
else (
some ((.exit 0),(envL []),h)):=by kernel_rfl
theorem z44  (h:H):z1s rec loop σ (.exit 0) (envL []) h =
fin false σ h [(.p (.int .i64 (-1)))]:=by kernel_rfl
theorem z3k (x4:Int) (h:H):z1s rec loop σ .ret (envL [(4,(.p (.int .i64 x4)))]) h =
fin false σ h [(.p (.int .i64 x4))]:=by kernel_rfl
theorem zcs (x0:V) (x1:V) (h:H):cvBody G rec loop 62 σ [x0,x1] h =
(boxO false (0::0::0::σ) 2 (List.replicate 8 []::h) x0).bind fun q1 =>
(fA q1.1 0).bind fun t2 =>
(ldO false 1 q1.2 t2).bind fun t3 =>
(castI .i64 t3).bind fun n4 =>
(ldO false 1 q1.2 x1).bind fun t5 =>
(castI .i64 t5).bind fun n6 =>
fin false σ q1.2 [(.p (.bool (n4==n6)))]:=by kernel_rfl
end
end Go.Ev
namespace Go.Ev
open Go.Proofs
set_option linter.unusedVariables false
set_option linter.unusedSimpArgs false
set_option maxRecDepth 100000
section
variable {β α : Type} {Q : β→α→Prop} {K : Exit × Env × H→Option α}
def z7q (x0:zu) (x1:Int):Option (Bool) :=
some ((x0.ID==x1))
theorem zfo {h:H} {σ:Stamp} (x0:zu) {u0:List V} (hu0:zt.R x0 u0) (x1:Int)  {l1:Loc} {o1:Nat} (ha1:AtC h l1 o1 (List.map C.v [(.p (.int .i64 x1))])):Sim (z7q x0 x1) (ev G X0 62 σ [(.agg u0),(.ref l1 o1)] h) (fun r s=>s=([.v (.p (.bool r))],h)):=by
 refine .ev rfl (Sim.ext (zcs _ _ _ _ _ _) ?_)
 rw [z7q]
 obtain ⟨v1,rfl,h2⟩:=zt.inv hu0
 have S0:Fm 8 h [] [] [] (List.replicate 8 []::h):=Fm.start0
 obtain ⟨H3,e4,S5⟩:=S0.box (own:=false) (d:=2) (s:=(0::0::0::σ)) (xs:=[(.p (.int .i64 x0.ID)),v1]) (sC (sI _ _) (sC h2.still sN)) (by decide) rfl
 refine .op (e4) ?_
 refine .fa ?_
 refine .op ((S5.atG (i:=0) rfl).ld (j:=0) rfl) ?_
 refine .ci ?_
 refine .op ((S5.lowA ha1).ld (j:=0) rfl) ?_
 refine .ci ?_
 exact .fin (S5.finN (lC (sB _).lv lN)) rfl
def zw {β:Type} (k:Nat) (kE0:Unit→Option β) (kE1:Int→Option β) (x0:(List zu)) (x1c0:Int) (x7:Int) (x8:Int):Option β:=match k with
| 0=>none
| k+1 =>
bif decide (x8<x7) then (
(ix x0 x8).bind fun a10 =>
(z7q a10 x1c0).bind fun r17 =>
bif r17 then (
kE1 x8)
else (
zw k kE0 kE1 x0 x1c0 x7 (IntKind.wrap .i64 (x8+1))))
else (
kE0 ())
def z1f (k:Nat) (x0:(List zu)) (x1c0:Int):Option (Int) :=
zw k (fun (_:Unit) =>
some ((-1))) (fun r30_4 =>
some (r30_4)) x0 x1c0 ((x0.length:Int)) 0
theorem z2m {h:H}  {kE0:Unit→Option β} {kE1:Int→Option β} (hE0:∀ (_u:Unit) (H23:Go.Ev.H) (_:Fm 19 h [] [] [] H23),Sim (kE0 ()) (K ((.exit 0),(envL []),H23)) Q) (hE1:∀ (q4:Int) (H25:Go.Ev.H) (_:Fm 19 h [] [] [] H25),Sim (kE1 q4) (K (.ret,(envL [(4,(.p (.int .i64 q4)))]),H25)) Q) (k:Nat):∀ (x0:(List zu)) (x1c0:Int) (x7:Int) (x8:Int) (v3:V) (h4:SlH h zt x0 v3) (lr5:Loc) (or6:Nat) (har7:AtC h lr5 or6 (List.map C.v [(.p (.int .i64 x1c0))])) (H1:Go.Ev.H) (_:Fm 19 h [] [] [] H1) {σ:Stamp},Sim (zw k kE0 kE1 x0 x1c0 x7 x8) ((cvL G X0 z1g z1h σ (envL [(0,v3),(1,(.clo 62 [(.ref lr5 or6)])),(7,(.p (.int .i64 x7))),(8,(.p (.int .i64 x8)))]) H1).bind K) Q:=by
 induction k with
 | zero=>intros;exact .no
 | succ k ih =>
  intro x0 x1c0 x7 x8 v3 h4 lr5 or6 har7 H1 S2 σ
  rw [zw]
  refine .round (Sim.ext (z4i _ _ _ _ _ _ _ _) ?_)
  refine .cq ?_ ?_
  ·refine .bd fun a10 h11=>?_
   refine .op ((S2.low h4).iS h11 rfl) ?_
   obtain ⟨w13,h14,hE12⟩:=(S2.low h4).el h11 rfl
   obtain ⟨v15,rfl,h16⟩:=zt.inv h14
   refine .op (hE12.all (by simp)) ?_
   refine .clo ?_
   refine .call (zfo a10 (show zt.R a10 [.p (.int .i64 a10.ID),v15] from (zt.mk h16)) x1c0 (S2.lowA har7)) fun r17 cs18 H19 h20 q21=>?_
   cases q21
   refine .ab ?_
   refine .cq ?_ ?_
   ·exact hE1 x8 H1 (S2.wk2 aN aN)
   exact ih x0 x1c0 x7 (IntKind.wrap .i64 (x8+1)) v3 h4 lr5 or6 har7 H1 (S2.wk2 aN aN)
  exact hE0 () H1 (S2.wk2 aN aN)
theorem z2p (k:Nat) {h:H} {σ:Stamp} (x0:List zu) {u0:V} (hu0:SlH h zt x0 u0) (x1c0:Int)  {l1c0:Loc} {o1c0:Nat} (ha1c0:AtC h l1c0 o1c0 (List.map C.v [(.p (.int .i64 x1c0))])):Sim (z1f k x0 x1c0) (ev G X0 61 σ [u0,(.clo 62 [(.ref l1c0 o1c0)])] h) (fun r s=>s=([.v (.p (.int .i64 r))],h)):=by
 refine .ev rfl (Sim.ext (z3x _ _ _ _ _ _) ?_)
 rw [z1f]
 have S0:Fm 19 h [] [] [] (List.replicate 19 []::h):=Fm.start0
 refine .op ((S0.low hu0).len) ?_
 refine .ci ?_
 refine .as (z2m ?_ ?_ k x0 x1c0 ((x0.length:Int)) 0 u0 hu0 l1c0 o1c0 ha1c0 (List.replicate 19 []::h) (S0.wk2 aN aN))
 ·intro _u H28 S29
  refine .ext (z44 _ _ _ _) ?_
  exact .fin (S29.finN (lC (sI _ _).lv lN)) rfl
 ·intro r30_4 H31 S32
  refine .ext (z3k _ _ _ _ _) ?_
  exact .fin (S32.finN (lC (sI _ _).lv lN)) rfl
def z9q (k:Nat) (x0:(List zu)) (x1:Int):Option ((List Int)×Bool) :=
(z1f k x0 x1).bind fun r5 =>
bif decide (r5<0) then (
some ((([]:List Int)),false))
else (
(ix x0 r5).bind fun a11 =>
(zee 1 a11.Data).bind fun r23 =>
some (r23,true))
theorem zhr (k:Nat) {h:H} {σ:Stamp} (x0:List zu) {u0:V} (hu0:SlH h zt x0 u0) (x1:Int):Sim (z9q k x0 x1) (ev G X0 25 σ [u0,(.p (.int .i64 x1))] h) (fun r s=>∃ (v0:V),SlF (dI .u8) r.1 v0∧s=([.v v0,.v (.p (.bool r.2))],h)):=by
 refine .ev rfl (Sim.ext (zef _ _ _ _ _ _) ?_)
 rw [z9q]
 have S0:Fm 18 h [] [] [] (List.replicate 18 []::h):=Fm.start0
 obtain ⟨H1,e2,S3⟩:=S0.box1 (own:=true) (d:=3) (s:=(0::0::0::σ)) (x:=(.p (.int .i64 x1))) (sI _ _) (by decide) rfl
 refine .op (e2) ?_
 refine .call (z2p k x0 (S3.low hu0) x1 (S3.atG (i:=0) rfl)) fun r5 cs6 H7 h8 q9=>?_
 cases q9
 refine .ci ?_
 refine .cq ?_ ?_
 ·exact .fin (S3.finN (lC (SlF.nil (dI .u8)).still.lv (lC (sB _).lv lN))) ⟨(.p (.slice none 0 0)),(SlF.nil (dI .u8)),rfl⟩
 refine .bd fun a11 h12=>?_
 refine .op ((S3.low hu0).iS h12 rfl) ?_
 obtain ⟨w14,h15,hE13⟩:=(S3.low hu0).el h12 rfl
 obtain ⟨v16,rfl,h17⟩:=zt.inv h15
 refine .op (hE13.fa (j:=1) (by simp)) ?_
 obtain ⟨w19,h20,hE18⟩:=(S3.low hu0).el h12 rfl
 obtain ⟨v21,rfl,h22⟩:=zt.inv h20
 refine .op (hE18.ld (j:=1) rfl) ?_
 refine .call (zgq (b:=1) (f:=63) (tt:=5) (e:=1) (τ:=fun σ=>_::_::_::_::_::σ) (fun x h=>z3f _ _ _ x h) (h22.h H1) rfl (by decide) (by decide) (by decide) (by kernel_rfl) (by kernel_rfl) rfl) fun r23 cs24 H25 h26 q27=>?_
 obtain ⟨c28,cs29,h30,h31,q27⟩:=q27
 cases q27
 obtain ⟨v32,H33,e34,S35⟩:=S3.land (dt:=(dI .u8)) (d:=17) (e:=0) (n:=0) h30 h31 (by decide) rfl
 erw [e34]
 obtain ⟨v42,H37,e38,h40,S39⟩:=S35.expFrz (i:=0) (τ:=0::1::σ) rfl rfl
 exact .fin (S39.finE (Ex.st e38 (Ex.pl (sB _).lv Ex.nil))) ⟨v42,h40,rfl⟩
end
end Go.Ev
namespace Go.Ev
open Go.Proofs
set_option linter.unusedVariables false
set_option linter.unusedSimpArgs false
set_option maxRecDepth 100000
noncomputable section
abbrev KT21:=Exit→Env→H→Option (List C × H)
variable (rec : CallF) (loop : LoopV) (σ : Stamp)
def z5h:Code:=(codeAt (bodyOf Try.f23) [1,1,1,0,1,0,0])
def z5c:Lv:=⟨64,48,[(0,64)]⟩
def z8q:KT21:=(kBlock 0 (kSeq G rec loop (codeAt (bodyOf Try.f23) [1,1,1,1]) ⟨48,48,[]⟩ (1::1::1::0::σ) (finC G true Try.f23 (1::σ))))
theorem zen (x0:Int) (x1:V) (h:H):cvBody G rec loop 23 σ [(.p (.int .u16 x0)),x1] h =
(bif x0 != 48862 then (some (x0 != 4096)) else (some false)).bind fun b1 =>
bif b1 then (
fin true σ (List.replicate 65 []::h) [(.p (.slice .none 0 0)),(.p (.int .i64 1))])
else (
(loop z5h z5c (1::0::1::1::1::0::σ) (envL [(0,(.p (.int .u16 x0))),(1,x1),(6,(.p (.slice .none 0 0))),(7,(.p (.int .i64 0)))]) (List.replicate 65 []::h)).bind fun r2=>z8q rec loop σ r2.1 r2.2.1 r2.2.2):=by kernel_rfl
theorem zi7 (x0:Int) (x1:V) (x6:V) (x7:Int) (h:H):z1l G rec loop z5h z5c σ (envL [(0,(.p (.int .u16 x0))),(1,x1),(6,x6),(7,(.p (.int .i64 x7)))]) h =
(lenO x1).bind fun t3 =>
(castI .i64 t3).bind fun n4 =>
bif decide (x7<n4) then (
(iS 1 x1 x7).bind fun t5 =>
(ldO false 1 h t5).bind fun t6 =>
(castI .u8 t6).bind fun n7 =>
bif n7==0 then (
loop z5h z5c (1::σ) (envL [(0,(.p (.int .u16 x0))),(1,x1),(6,x6),(7,(.p (.int .i64 (IntKind.wrap .i64 (x7+1)))))]) h)
else (
(callO rec 58 (3::0::1::1::0::σ) [(.p (.int .u16 x0)),x1,(.p (.int .i64 x7))] h (some 35)).bind fun q8 =>
(extV q8.1 0).bind fun t9 =>
(castI .i64 t9).bind fun n10 =>
(extV q8.1 1).bind fun t11 =>
(castI .i64 t11).bind fun n12 =>
(extV q8.1 2).bind fun t13 =>
(castI .i64 t13).bind fun n14 =>
(extV q8.1 3).bind fun t15 =>
(asB t15).bind fun b16 =>
bif !b16 then (
some ((.exit 0),(envL [(6,x6)]),q8.2))
else (
(callO rec 59 (3::0::1::1::1::1::0::σ) [x1,(.p (.int .i64 n14)),(.p (.int .i64 n12))] q8.2 (some 46)).bind fun q17 =>
(extV q17.1 0).bind fun t18 =>
(extV q17.1 1).bind fun t19 =>
(asB t19).bind fun b20 =>
bif !b20 then (
some (.ret,(envL [(4,(.p (.slice .none 0 0))),(5,(.p (.int .i64 13)))]),q17.2))
else (
(buildV Try.prog 38 [(0,(.p (.int .i64 n10))),(1,t18)]).bind fun t21 =>
(bSV Try.prog 27 1 [(0,t21)]).bind fun t22 =>
(apO false 2 32 (5::0::1::1::1::1::1::1::0::σ) 56 q17.2 x6 t22).bind fun q23 =>
loop z5h z5c (1::σ) (envL [(0,(.p (.int .u16 x0))),(1,x1),(6,q23.1),(7,(.p (.int .i64 (IntKind.wrap .i64 (n14+n12)))))]) q23.2))))
else (
some ((.exit 0),(envL [(6,x6)]),h)):=by kernel_rfl
theorem zfv (x6:V) (h:H):z8q rec loop σ (.exit 0) (envL [(6,x6)]) h =
(lenO x6).bind fun t24 =>
(castI .i64 t24).bind fun n25 =>
bif decide (n25>8) then (
fin true σ h [(.p (.slice .none 0 0)),(.p (.int .i64 3))])
else (
(callO rec 60 (1::0::1::1::1::1::1::0::σ) [x6] h (some 64)).bind fun q26 =>
fin true σ q26.2 [q26.1,(.p (.int .i64 0))]):=by kernel_rfl
theorem zdy (x4:V) (x5:Int) (h:H):z8q rec loop σ .ret (envL [(4,x4),(5,(.p (.int .i64 x5)))]) h =
fin true σ h [x4,(.p (.int .i64 x5))]:=by kernel_rfl
theorem z4s (x0:V) (h:H):cvBody G rec loop 60 σ [x0] h =
(lenO x0).bind fun t1 =>
(castI .i64 t1).bind fun n2 =>
(lenO x0).bind fun t3 =>
(castI .i64 t3).bind fun n4 =>
(slS 2 x0 none (some n2) (some n4)).bind fun t5 =>
fin false σ (List.replicate 9 []::h) [t5]:=by kernel_rfl
theorem ze5 (x0:Int) (x1:V) (x2:Int) (h:H):cvBody G rec loop 58 σ [(.p (.int .u16 x0)),x1,(.p (.int .i64 x2))] h =
bif x0==48862 then (
(iS 1 x1 x2).bind fun t1 =>
(ldO false 1 (List.replicate 63 []::h) t1).bind fun t2 =>
(castI .u8 t2).bind fun n3 =>
(iS 1 x1 x2).bind fun t4 =>
(ldO false 1 (List.replicate 63 []::h) t4).bind fun t5 =>
(castI .u8 t5).bind fun n6 =>
(bif (Int.fdiv (IntKind.wrap .i64 n3) (2^4)) != 0 then (some ((Int.fdiv (IntKind.wrap .i64 n3) (2^4)) != 15)) else (some false)).bind fun b7 =>
fin false σ (List.replicate 63 []::h) [(.p (.int .i64 (Int.fdiv (IntKind.wrap .i64 n3) (2^4)))),(.p (.int .i64 (IntKind.wrap .i64 ((IntKind.wrap .i64 (intBits .and .u8 n6 15))+1)))),(.p (.int .i64 (IntKind.wrap .i64 (x2+1)))),(.p (.bool b7))])
else (
(lenO x1).bind fun t8 =>
(castI .i64 t8).bind fun n9 =>
bif decide ((IntKind.wrap .i64 (x2+1))≥n9) then (
(iS 1 x1 x2).bind fun t10 =>
(ldO false 1 (List.replicate 63 []::h) t10).bind fun t11 =>
(castI .u8 t11).bind fun n12 =>
(lenO x1).bind fun t13 =>
(castI .i64 t13).bind fun n14 =>
fin false σ (List.replicate 63 []::h) [(.p (.int .i64 (IntKind.wrap .i64 n12))),(.p (.int .i64 n14)),(.p (.int .i64 (IntKind.wrap .i64 (x2+1)))),(.p (.bool true))])
else (
(iS 1 x1 x2).bind fun t15 =>
(ldO false 1 (List.replicate 63 []::h) t15).bind fun t16 =>
(castI .u8 t16).bind fun n17 =>
(iS 1 x1 (IntKind.wrap .i64 (x2+1))).bind fun t18 =>
(ldO false 1 (List.replicate 63 []::h) t18).bind fun t19 =>
(castI .u8 t19).bind fun n20 =>
fin false σ (List.replicate 63 []::h) [(.p (.int .i64 (IntKind.wrap .i64 n17))),(.p (.int .i64 (IntKind.wrap .i64 n20))),(.p (.int .i64 (IntKind.wrap .i64 (x2+2)))),(.p (.bool true))])):=by kernel_rfl
end
end Go.Ev
namespace Go.Ev
open Go.Proofs
set_option linter.unusedVariables false
set_option linter.unusedSimpArgs false
set_option maxRecDepth 100000
section
variable {β α : Type} {Q : β→α→Prop} {K : Exit × Env × H→Option α}
def z9j (x0:Int) (x1:(List Int)) (x2:Int):Option (Int×Int×Int×Bool) :=
bif x0==48862 then (
(ix x1 x2).bind fun a2 =>
(ix x1 x2).bind fun a5 =>
(bif (Int.fdiv (IntKind.wrap .i64 a2) (2^4)) != 0 then (some ((Int.fdiv (IntKind.wrap .i64 a2) (2^4)) != 15)) else (some false)).bind fun b8 =>
some ((Int.fdiv (IntKind.wrap .i64 a2) (2^4)),(IntKind.wrap .i64 ((IntKind.wrap .i64 (intBits .and .u8 a5 15))+1)),(IntKind.wrap .i64 (x2+1)),b8))
else (
bif decide ((IntKind.wrap .i64 (x2+1))≥((x1.length:Int))) then (
(ix x1 x2).bind fun a13 =>
some ((IntKind.wrap .i64 a13),((x1.length:Int)),(IntKind.wrap .i64 (x2+1)),true))
else (
(ix x1 x2).bind fun a16 =>
(ix x1 (IntKind.wrap .i64 (x2+1))).bind fun a19 =>
some ((IntKind.wrap .i64 a16),(IntKind.wrap .i64 a19),(IntKind.wrap .i64 (x2+2)),true)))
theorem zi3 {h:H} {σ:Stamp} (x0:Int) (x1:List Int) {u1:V} (hu1:SlH h (dI .u8) x1 u1) (x2:Int):Sim (z9j x0 x1 x2) (ev G X0 58 σ [(.p (.int .u16 x0)),u1,(.p (.int .i64 x2))] h) (fun r s=>s=([.v (.p (.int .i64 r.1)),.v (.p (.int .i64 r.2.1)),.v (.p (.int .i64 r.2.2.1)),.v (.p (.bool r.2.2.2))],h)):=by
 refine .ev rfl (Sim.ext (ze5 _ _ _ _ _ _ _) ?_)
 rw [z9j]
 have S0:Fm 63 h [] [] [] (List.replicate 63 []::h):=Fm.start0
 refine .cq ?_ ?_
 ·refine .bd fun a2 h3=>?_
  refine .op ((S0.low hu1).iS h3 rfl) ?_
  obtain ⟨_,rfl,hE4⟩:=(S0.low hu1).el h3 rfl
  refine .op (hE4.ld (j:=0) rfl) ?_
  refine .ci ?_
  refine .bd fun a5 h6=>?_
  refine .op ((S0.low hu1).iS h6 rfl) ?_
  obtain ⟨_,rfl,hE7⟩:=(S0.low hu1).el h6 rfl
  refine .op (hE7.ld (j:=0) rfl) ?_
  refine .ci ?_
  refine .ch (P:=fun r y=>r=y) ?_ (fun b8 y9 h10 h11=>?_)
  ·refine .cq ?_ ?_
   ·exact .ret rfl rfl
   ·exact .ret rfl rfl
  subst h11
  exact .fin (S0.finN (lC (sI _ _).lv (lC (sI _ _).lv (lC (sI _ _).lv (lC (sB _).lv lN))))) rfl
 refine .op ((S0.low hu1).len) ?_
 refine .ci ?_
 refine .cq ?_ ?_
 ·refine .bd fun a13 h14=>?_
  refine .op ((S0.low hu1).iS h14 rfl) ?_
  obtain ⟨_,rfl,hE15⟩:=(S0.low hu1).el h14 rfl
  refine .op (hE15.ld (j:=0) rfl) ?_
  refine .ci ?_
  refine .op ((S0.low hu1).len) ?_
  refine .ci ?_
  exact .fin (S0.finN (lC (sI _ _).lv (lC (sI _ _).lv (lC (sI _ _).lv (lC (sB _).lv lN))))) rfl
 refine .bd fun a16 h17=>?_
 refine .op ((S0.low hu1).iS h17 rfl) ?_
 obtain ⟨_,rfl,hE18⟩:=(S0.low hu1).el h17 rfl
 refine .op (hE18.ld (j:=0) rfl) ?_
 refine .ci ?_
 refine .bd fun a19 h20=>?_
 refine .op ((S0.low hu1).iS h20 rfl) ?_
 obtain ⟨_,rfl,hE21⟩:=(S0.low hu1).el h20 rfl
 refine .op (hE21.ld (j:=0) rfl) ?_
 refine .ci ?_
 exact .fin (S0.finN (lC (sI _ _).lv (lC (sI _ _).lv (lC (sI _ _).lv (lC (sB _).lv lN))))) rfl
end
end Go.Ev
namespace Go.Ev
open Go.Proofs
set_option linter.unusedVariables false
set_option linter.unusedSimpArgs false
set_option maxRecDepth 100000
noncomputable section
abbrev KT22:=Exit→Env→H→Option (List C × H)
variable (rec : CallF) (loop : LoopV) (σ : Stamp)
theorem zda (x0:V) (x1:Int) (x2:Int) (h:H):cvBody G rec loop 59 σ [x0,(.p (.int .i64 x1)),(.p (.int .i64 x2))] h =
(bif decide (x1<0) then (some true) else (some (decide (x2<0)))).bind fun b1 =>
(bif b1 then (some true) else ((lenO x0).bind fun t2 =>
(castI .i64 t2).bind fun n3 =>
some (decide (x1>n3)))).bind fun b4 =>
(bif b4 then (some true) else ((lenO x0).bind fun t5 =>
(castI .i64 t5).bind fun n6 =>
some (decide (x2>(IntKind.wrap .i64 (n6-x1)))))).bind fun b7 =>
bif b7 then (
fin true σ (List.replicate 35 []::h) [(.p (.slice .none 0 0)),(.p (.bool false))])
else (
(slS 1 x0 (some x1) (some (IntKind.wrap .i64 (x1+x2))) none).bind fun t8 =>
(callO rec 63 (6::0::1::1::0::σ) [t8] (List.replicate 35 []::h) (some 34)).bind fun q9 =>
fin true σ q9.2 [q9.1,(.p (.bool true))]):=by kernel_rfl
end
end Go.Ev
namespace Go.Ev
open Go.Proofs
set_option linter.unusedVariables false
set_option linter.unusedSimpArgs false
set_option maxRecDepth 100000
section
variable {β α : Type} {Q : β→α→Prop} {K : Exit × Env × H→Option α}
def z8g (x0:(List Int)) (x1:Int) (x2:Int):Option ((List Int)×Bool) :=
(bif decide (x1<0) then (some true) else (some (decide (x2<0)))).bind fun b1 =>
(bif b1 then (some true) else (some (decide (x1>((x0.length:Int)))))).bind fun b5 =>
(bif b5 then (some true) else (some (decide (x2>(IntKind.wrap .i64 (((x0.length:Int))-x1)))))).bind fun b9 =>
bif b9 then (
some ((([]:List Int)),false))
else (
(sub x0 x1 (IntKind.wrap .i64 (x1+x2))).bind fun a14 =>
(zee 1 a14).bind fun r16 =>
some (r16,true))
theorem zhl {h:H} {σ:Stamp} (x0:List Int) {u0:V} (hu0:SlH h (dI .u8) x0 u0) (x1:Int) (x2:Int):Sim (z8g x0 x1 x2) (ev G X0 59 σ [u0,(.p (.int .i64 x1)),(.p (.int .i64 x2))] h) (fun r s=>∃ (v0:V),SlF (dI .u8) r.1 v0∧s=([.v v0,.v (.p (.bool r.2))],h)):=by
 refine .ev rfl (Sim.ext (zda _ _ _ _ _ _ _) ?_)
 rw [z8g]
 have S0:Fm 35 h [] [] [] (List.replicate 35 []::h):=Fm.start0
 refine .ch (P:=fun r y=>r=y) ?_ (fun b1 y2 h3 h4=>?_)
 ·refine .cq ?_ ?_
  ·exact .ret rfl rfl
  ·exact .ret rfl rfl
 subst h4
 refine .ch (P:=fun r y=>r=y) ?_ (fun b5 y6 h7 h8=>?_)
 ·refine .cq ?_ ?_
  ·exact .ret rfl rfl
  ·refine .op ((S0.low hu0).len) ?_
   refine .ci ?_
   exact .ret rfl rfl
 subst h8
 refine .ch (P:=fun r y=>r=y) ?_ (fun b9 y10 h11 h12=>?_)
 ·refine .cq ?_ ?_
  ·exact .ret rfl rfl
  ·refine .op ((S0.low hu0).len) ?_
   refine .ci ?_
   exact .ret rfl rfl
 subst h12
 refine .cq ?_ ?_
 ·exact .fin (S0.finN (lC (SlF.nil (dI .u8)).still.lv (lC (sB _).lv lN))) ⟨(.p (.slice none 0 0)),(SlF.nil (dI .u8)),rfl⟩
 refine .bd fun a14 h15=>?_
 refine .op ((S0.low hu0).slS h15 rfl rfl rfl) ?_
 refine .call (zgq (b:=1) (f:=63) (tt:=5) (e:=1) (τ:=fun σ=>_::_::_::_::_::σ) (fun x h=>z3f _ _ _ x h) ((S0.low hu0).sub h15 (e:=1) rfl) rfl (by decide) (by decide) (by decide) (by kernel_rfl) (by kernel_rfl) rfl) fun r16 cs17 H18 h19 q20=>?_
 obtain ⟨c21,cs22,h23,h24,q20⟩:=q20
 cases q20
 obtain ⟨v25,H26,e27,S28⟩:=S0.land (dt:=(dI .u8)) (d:=34) (e:=0) (n:=0) h23 h24 (by decide) rfl
 erw [e27]
 obtain ⟨v35,H30,e31,h33,S32⟩:=S28.expFrz (i:=0) (τ:=0::1::σ) rfl rfl
 exact .fin (S32.finE (Ex.st e31 (Ex.pl (sB _).lv Ex.nil))) ⟨v35,h33,rfl⟩
def z48 {β:Type} (k:Nat) (kE0:(List zu)→Option β) (kE1:Int→Option β) (x0:Int) (x1:(List Int)) (x6:(List zu)) (x7:Int):Option β:=match k with
| 0=>none
| k+1 =>
bif decide (x7<((x1.length:Int))) then (
(ix x1 x7).bind fun a15 =>
bif a15==0 then (
z48 k kE0 kE1 x0 x1 x6 (IntKind.wrap .i64 (x7+1)))
else (
(z9j x0 x1 x7).bind fun r19 =>
bif !r19.2.2.2 then (
kE0 x6)
else (
(z8g x1 r19.2.2.1 r19.2.1).bind fun r25 =>
bif !r25.2 then (
kE1 13)
else (
(ap 32 x6 ([((⟨r19.1,r25.1⟩:zu))])).bind fun a34 =>
z48 k kE0 kE1 x0 x1 a34 (IntKind.wrap .i64 (r19.2.2.1+r19.2.1))))))
else (
kE0 x6)
def z9h (k:Nat) (x0:Int) (x1:(List Int)):Option ((List zu)×Int) :=
(bif x0 != 48862 then (some (x0 != 4096)) else (some false)).bind fun b1 =>
bif b1 then (
some ((([]:List zu)),1))
else (
z48 k (fun r48_6 =>
bif decide (((r48_6.length:Int))>8) then (
some ((([]:List zu)),3))
else (
some (r48_6,0))) (fun r63_5 =>
some ((([]:List zu)),r63_5)) x0 x1 (([]:List zu)) 0)
theorem zea {h:H}  {kE0:(List zu)→Option β} {kE1:Int→Option β} (hE0:∀ (q6:(List zu)) (v42:V) (H40:Go.Ev.H) (_:Fm 65 h [] [] [⟨[56],v42,zt,q6⟩] H40),Sim (kE0 q6) (K ((.exit 0),(envL [(6,v42)]),H40)) Q) (hE1:∀ (q5:Int) (H44:Go.Ev.H) (_:Fm 65 h [] [] [] H44),Sim (kE1 q5) (K (.ret,(envL [(4,(.p (.slice none 0 0))),(5,(.p (.int .i64 q5)))]),H44)) Q) (k:Nat):∀ (x0:Int) (x1:(List Int)) (x6:(List zu)) (x7:Int) (v10:V) (h11:SlH h (dI .u8) x1 v10) (v12:V) (H8:Go.Ev.H) (_:Fm 65 h [] [] [⟨[56],v12,zt,x6⟩] H8) {σ:Stamp},Sim (z48 k kE0 kE1 x0 x1 x6 x7) ((cvL G X0 z5h z5c σ (envL [(0,(.p (.int .u16 x0))),(1,v10),(6,v12),(7,(.p (.int .i64 x7)))]) H8).bind K) Q:=by
 induction k with
 | zero=>intros;exact .no
 | succ k ih =>
  intro x0 x1 x6 x7 v10 h11 v12 H8 S9 σ
  rw [z48]
  refine .round (Sim.ext (zi7 _ _ _ _ _ _ _ _) ?_)
  refine .op ((S9.low h11).len) ?_
  refine .ci ?_
  refine .cq ?_ ?_
  ·refine .bd fun a15 h16=>?_
   refine .op ((S9.low h11).iS h16 rfl) ?_
   obtain ⟨_,rfl,hE17⟩:=(S9.low h11).el h16 rfl
   refine .op (hE17.ld (j:=0) rfl) ?_
   refine .ci ?_
   refine .cq ?_ ?_
   ·exact ih x0 x1 x6 (IntKind.wrap .i64 (x7+1)) v10 h11 v12 H8 (S9.wk2 aN (aC ⟨[56],by simp,aM 0 rfl⟩ aN))
   refine .call (zi3 x0 x1 (S9.low h11) x7) fun r19 cs20 H21 h22 q23=>?_
   cases q23
   refine .or ?_
   refine .ci ?_
   refine .or ?_
   refine .ci ?_
   refine .or ?_
   refine .ci ?_
   refine .or ?_
   refine .ab ?_
   refine .cq ?_ ?_
   ·exact hE0 x6 v12 H8 (S9.wk2 aN (aC ⟨[56],by simp,aM 0 rfl⟩ aN))
   refine .call (zhl x1 (S9.low h11) r19.2.2.1 r19.2.1) fun r25 cs26 H27 h28 q29=>?_
   obtain ⟨v30,h31,q29⟩:=q29
   cases q29
   refine .or ?_
   refine .or ?_
   refine .ab ?_
   refine .cq ?_ ?_
   ·exact hE1 13 H8 (S9.wk2 aN aN)
   refine .op (bldV (pC rfl (pC h31.still.cells pN)) (by kernel_rfl:_=some (.agg [.p (.int .i64 r19.1),v30]))) ?_
   have h33:SlF zt [((⟨r19.1,r25.1⟩:zu))] (.fz [(.p (.int .i64 r19.1)),v30] 1 2 true):=SlF.lit (cs:=[(.p (.int .i64 r19.1)),v30]) (RL.cons (show zt.R ((⟨r19.1,r25.1⟩:zu)) [.p (.int .i64 r19.1),v30] from (zt.mk h31)) RL.nil) rfl rfl true
   refine .op (bldS (pC (c:=[.p (.int .i64 r19.1),v30]) rfl pN) (by kernel_rfl:_=some (vOf h33))) ?_
   refine .bd fun a34 h35=>?_
   obtain ⟨v36,H37,e38,S39⟩:=S9.app (i:=0) (d:=56) (e:=2) (own:=false) (σ:=(5::0::1::1::1::1::1::1::0::σ)) rfl (h33.h H8).y h35 rfl (by decide) (by decide) rfl
   refine .op (e38) ?_
   exact ih x0 x1 a34 (IntKind.wrap .i64 (r19.2.2.1+r19.2.1)) v10 h11 v36 H37 (S39.wk2 aN (aC ⟨[56,56],by simp,aM 0 rfl⟩ aN))
  exact hE0 x6 v12 H8 (S9.wk2 aN (aC ⟨[56],by simp,aM 0 rfl⟩ aN))
theorem zi8 (k:Nat) {h:H} {σ:Stamp} (x0:Int) (x1:List Int) {u1:V} (hu1:SlH h (dI .u8) x1 u1):Sim (z9h k x0 x1) (ev G X0 23 σ [(.p (.int .u16 x0)),u1] h) (fun r s=>∃ (v0:V),SlF zt r.1 v0∧s=([.v v0,.v (.p (.int .i64 r.2))],h)):=by
 refine .ev rfl (Sim.ext (zen _ _ _ _ _ _) ?_)
 rw [z9h]
 have S0:Fm 65 h [] [] [] (List.replicate 65 []::h):=Fm.start0
 refine .ch (P:=fun r y=>r=y) ?_ (fun b1 y2 h3 h4=>?_)
 ·refine .cq ?_ ?_
  ·exact .ret rfl rfl
  ·exact .ret rfl rfl
 subst h4
 refine .cq ?_ ?_
 ·exact .fin (S0.finN (lC (SlF.nil zt).still.lv (lC (sI _ _).lv lN))) ⟨(.p (.slice none 0 0)),(SlF.nil zt),rfl⟩
 have S47:=S0.nil zt []
 refine .as (zea ?_ ?_ k x0 x1 (([]:List zu)) 0 u1 hu1 (.p (.slice none 0 0)) (List.replicate 65 []::h) (S47.wk2 aN (aC ⟨[],by simp,aM 0 rfl⟩ aN)))
 ·intro r48_6 v51 H49 S50
  refine .ext (zfv _ _ _ _ _) ?_
  refine .op ((S50.sl (i:=0) rfl).len) ?_
  refine .ci ?_
  refine .cq ?_ ?_
  ·exact .fin (S50.finN (lC (SlF.nil zt).still.lv (lC (sI _ _).lv lN))) ⟨(.p (.slice none 0 0)),(SlF.nil zt),rfl⟩
  obtain ⟨v54,e55,S56⟩:=clip_D (G:=G) (X:=X0) (i:=0) (f:=60) (fun x h=>z4s _ _ _ x h) S50 rfl rfl rfl
  refine .op (e55) ?_
  obtain ⟨v62,H57,e58,h60,S59⟩:=S56.expFrz (i:=0) (τ:=0::1::σ) rfl rfl
  exact .fin (S59.finE (Ex.st e58 (Ex.pl (sI _ _).lv Ex.nil))) ⟨v62,h60,rfl⟩
 ·intro r63_5 H64 S65
  refine .ext (zdy _ _ _ _ _ _) ?_
  exact .fin (S65.finN (lC (SlF.nil zt).still.lv (lC (sI _ _).lv lN))) ⟨(.p (.slice none 0 0)),(SlF.nil zt),rfl⟩
def zay (k:Nat) (x0:TaiRtp):Option (ByteArray×Bool) :=
(z9h k x0.Profile x0.Ext).bind fun r11 =>
bif r11.2 != 0 then (
some (((⟨#[]⟩:ByteArray)),false))
else (
(z9q k r11.1 1).bind fun r19 =>
(bif !r19.2 then (some true) else ((z8s (strB r19.1)).bind fun r26 =>
some (!r26))).bind fun b31 =>
bif b31 then (
some (((⟨#[]⟩:ByteArray)),false))
else (
some ((strB r19.1),true)))
theorem zj9 (k:Nat) {h:H} {σ:Stamp} (x0:TaiRtp) {u0:List V} (hu0:z7.R x0 u0):Sim (zay k x0) (ev G X0 26 σ [(.agg u0)] h) (fun r s=>s=([.v (.p (.string r.1)),.v (.p (.bool r.2))],h)):=by
 refine .ev rfl (Sim.ext (zfx _ _ _ _ _) ?_)
 rw [zay]
 obtain ⟨v1,v3,v5,rfl,h2,h4,h6⟩:=z7.inv hu0
 have S0:Fm 33 h [] [] [] (List.replicate 33 []::h):=Fm.start0
 obtain ⟨H7,e8,S9⟩:=S0.box (own:=true) (d:=1) (s:=(0::0::0::σ)) (xs:=[(.p (.bool x0.Marker)),(.p (.int .i64 x0.f_Type)),(.p (.int .u16 x0.Seq)),(.p (.int .u32 x0.Time)),(.p (.int .u32 x0.Ssrc)),v1,(.p (.int .u16 x0.Profile)),v3,v5]) (sC (sB _) (sC (sI _ _) (sC (sI _ _) (sC (sI _ _) (sC (sI _ _) (sC h2.still (sC (sI _ _) (sC h4.still (sC h6.still sN))))))))) (by decide) rfl
 refine .op (e8) ?_
 refine .fa ?_
 refine .op ((S9.atG (i:=0) rfl).ld (j:=6) rfl) ?_
 refine .ci ?_
 refine .fa ?_
 refine .op ((S9.atG (i:=0) rfl).ld (j:=7) rfl) ?_
 refine .call (zi8 k x0.Profile x0.Ext (h4.h H7)) fun r11 cs12 H13 h14 q15=>?_
 obtain ⟨v16,h17,q15⟩:=q15
 cases q15
 refine .or ?_
 refine .or ?_
 refine .ci ?_
 refine .cq ?_ ?_
 ·exact .fin (S9.finN (lC (still_str _).lv (lC (sB _).lv lN))) rfl
 refine .call (zhr k r11.1 (h17.h H7) 1) fun r19 cs20 H21 h22 q23=>?_
 obtain ⟨v24,h25,q23⟩:=q23
 cases q23
 refine .or ?_
 refine .or ?_
 refine .ab ?_
 refine .ch (P:=fun r y=>(.p (.bool r),H7)=y) ?_ (fun b31 y32 h33 h34=>?_)
 ·refine .cq ?_ ?_
  ·exact .ret rfl rfl
  ·refine .op ((h25.h H7).str) ?_
   refine .op (castS_p _) ?_
   refine .call (zaw (strB r19.1)) fun r26 cs27 H28 h29 q30=>?_
   cases q30
   refine .ab ?_
   exact .ret rfl rfl
 subst h34
 refine .ab ?_
 refine .cq ?_ ?_
 ·exact .fin (S9.finN (lC (still_str _).lv (lC (sB _).lv lN))) rfl
 refine .op ((h25.h H7).str) ?_
 refine .op (castS_p _) ?_
 exact .fin (S9.finN (lC (still_str _).lv (lC (sB _).lv lN))) rfl
end
end Go.Ev
namespace Go.Ev
open Go.Proofs
set_option linter.unusedVariables false
set_option linter.unusedSimpArgs false
set_option maxRecDepth 100000
noncomputable section
abbrev KT23:=Exit→Env→H→Option (List C × H)
variable (rec : CallF) (loop : LoopV) (σ : Stamp)
def z1b:Code:=(codeAt (bodyOf Try.f92) [1,0,1,0,0])
def z1c:Lv:=⟨0,16,[(0,0)]⟩
def z1o:KT23:=(kBlock 0 (kSeq G rec loop (codeAt (bodyOf Try.f92) [1,1]) ⟨16,16,[]⟩ (1::0::σ) (finC G false Try.f92 (1::σ))))
theorem z3h (x0:V) (x1:V) (h:H):cvBody G rec loop 92 σ [x0,x1] h =
(lenO x0).bind fun t1 =>
(castI .i64 t1).bind fun n2 =>
(loop z1b z1c (1::0::1::0::σ) (envL [(0,x0),(1,x1),(7,(.p (.int .i64 n2))),(8,(.p (.int .i64 0)))]) (List.replicate 19 []::h)).bind fun r3=>z1o rec loop σ r3.1 r3.2.1 r3.2.2:=by kernel_rfl
theorem z46 (x0:V) (x1:V) (x7:Int) (x8:Int) (h:H):z1l G rec loop z1b z1c σ (envL [(0,x0),(1,x1),(7,(.p (.int .i64 x7))),(8,(.p (.int .i64 x8)))]) h =
bif decide (x8<x7) then (
(iS 10 x0 x8).bind fun t4 =>
(ldO true 10 h t4).bind fun t5 =>
(cloO rec x1 (5::0::1::0::1::1::0::σ) [t5] h (some 16)).bind fun q6 =>
(asB q6.1).bind fun b7 =>
bif b7 then (
some (.ret,(envL [(4,(.p (.int .i64 x8)))]),q6.2))
else (
loop z1b z1c (1::σ) (envL [(0,x0),(1,x1),(7,(.p (.int .i64 x7))),(8,(.p (.int .i64 (IntKind.wrap .i64 (x8+1)))))]) q6.2))
else (
some ((.exit 0),(envL []),h)):=by kernel_rfl
theorem z3o  (h:H):z1o rec loop σ (.exit 0) (envL []) h =
fin false σ h [(.p (.int .i64 (-1)))]:=by kernel_rfl
theorem z38 (x4:Int) (h:H):z1o rec loop σ .ret (envL [(4,(.p (.int .i64 x4)))]) h =
fin false σ h [(.p (.int .i64 x4))]:=by kernel_rfl
theorem z7f (x0:V) (x1:V) (x2:V) (x3:V) (h:H):cvBody G rec loop 93 σ [x0,x1,x2,x3] h =
(boxO false (0::0::0::σ) 4 (List.replicate 22 []::h) x0).bind fun q1 =>
(ldO false 1 q1.2 x1).bind fun t2 =>
(asB t2).bind fun b3 =>
(bif b3 then ((fA q1.1 0).bind fun t4 =>
(fA t4 1).bind fun t5 =>
(ldO false 1 q1.2 t5).bind fun t6 =>
(castI .u32 t6).bind fun n7 =>
(fA x2 4).bind fun t8 =>
(ldO false 1 q1.2 t8).bind fun t9 =>
(castI .u32 t9).bind fun n10 =>
some (n7==n10)) else (some false)).bind fun b11 =>
(bif b11 then ((fA q1.1 0).bind fun t12 =>
(fA t12 0).bind fun t13 =>
(ldO false 1 q1.2 t13).bind fun t14 =>
(castS t14).bind fun s15 =>
(ldO false 1 q1.2 x3).bind fun t16 =>
(castS t16).bind fun s17 =>
(callO rec 76 (14::0::1::0::σ) [(.p (.string s15)),(.p (.string s17))] q1.2 (some 20)).bind fun q18 =>
(asB q18.1).bind fun b19 =>
some ((.p (.bool b19)),q18.2)) else (some ((.p (.bool false)),q1.2))).bind fun q20 =>
(asB q20.1).bind fun b21 =>
fin false σ q20.2 [(.p (.bool b21))]:=by kernel_rfl
end
end Go.Ev
namespace Go.Ev
open Go.Proofs
set_option linter.unusedVariables false
set_option linter.unusedSimpArgs false
set_option maxRecDepth 100000
section
variable {β α : Type} {Q : β→α→Prop} {K : Exit × Env × H→Option α}
def z3l (x0:zk) (x1:Bool) (x2:TaiRtp) (x3:ByteArray):Option (Bool) :=
(bif x1 then (some (x0.told.Ssrc==x2.Ssrc)) else (some false)).bind fun b5 =>
(bif b5 then ((z7a x0.told.Rid x3).bind fun r9 =>
some r9) else (some false)).bind fun b14 =>
some (b14)
theorem z8l {h:H} {σ:Stamp} (x0:zk) {p0_3:V} (hp0_3:Low p0_3) {p0_4:V} (hp0_4:Low p0_4) (x1:Bool)  {l1:Loc} {o1:Nat} (ha1:AtC h l1 o1 (List.map C.v [(.p (.bool x1))])) (x2:TaiRtp) {u2_5:V} (hu2_5:SlF (dI .u32) x2.Csrc u2_5) {u2_7:V} (hu2_7:SlF (dI .u8) x2.Ext u2_7) {u2_8:V} (hu2_8:SlF (dI .u8) x2.Payload u2_8) {l2:Loc} {o2:Nat} (ha2:AtC h l2 o2 (List.map C.v [(.p (.bool x2.Marker)),(.p (.int .i64 x2.f_Type)),(.p (.int .u16 x2.Seq)),(.p (.int .u32 x2.Time)),(.p (.int .u32 x2.Ssrc)),u2_5,(.p (.int .u16 x2.Profile)),u2_7,u2_8])) (x3:ByteArray)  {l3:Loc} {o3:Nat} (ha3:AtC h l3 o3 (List.map C.v [(.p (.string x3))])):Sim (z3l x0 x1 x2 x3) (ev G X0 93 σ [(.agg [(.p (.string x0.told.Rid)),(.p (.int .u32 x0.told.Ssrc)),(.p (.int .i64 x0.told.Height)),p0_3,p0_4,(.p (.bool x0.came)),(.p (.int .i64 x0.f_until)),(.p (.bool x0.resting)),(.p (.bool x0.woken)),(.p (.int .i64 x0.kept))]),(.ref l1 o1),(.ref l2 o2),(.ref l3 o3)] h) (fun r s=>s=([.v (.p (.bool r))],h)):=by
 refine .ev rfl (Sim.ext (z7f _ _ _ _ _ _ _ _) ?_)
 rw [z3l]
 have S0:Fm 22 h [] [] [] (List.replicate 22 []::h):=Fm.start0
 obtain ⟨H1,e2,S3⟩:=S0.boxW (own:=false) (d:=4) (s:=(0::0::0::σ)) (xs:=[(.p (.string x0.told.Rid)),(.p (.int .u32 x0.told.Ssrc)),(.p (.int .i64 x0.told.Height)),p0_3,p0_4,(.p (.bool x0.came)),(.p (.int .i64 x0.f_until)),(.p (.bool x0.resting)),(.p (.bool x0.woken)),(.p (.int .i64 x0.kept))]) (ws:=List.map C.v [(.p (.string x0.told.Rid)),(.p (.int .u32 x0.told.Ssrc)),(.p (.int .i64 x0.told.Height)),p0_3,p0_4,(.p (.bool x0.came)),(.p (.int .i64 x0.f_until)),(.p (.bool x0.resting)),(.p (.bool x0.woken)),(.p (.int .i64 x0.kept))]) (z14 (Still.low (still_str _)) (z14 (Still.low (sI _ _)) (z14 (Still.low (sI _ _)) (z14 hp0_3 (z14 hp0_4 (z14 (Still.low (sB _)) (z14 (Still.low (sI _ _)) (z14 (Still.low (sB _)) (z14 (Still.low (sB _)) (z14 (Still.low (sI _ _)) lw_nil)))))))))) (by decide) rfl
 refine .op (e2) ?_
 refine .op ((S3.lowA ha1).ld (j:=0) rfl) ?_
 refine .ab ?_
 refine .ch (P:=fun r y=>r=y) ?_ (fun b5 y6 h7 h8=>?_)
 ·refine .cq ?_ ?_
  ·refine .fa ?_
   refine .fa ?_
   refine .op ((S3.atG (i:=0) rfl).ld (j:=1) rfl) ?_
   refine .ci ?_
   refine .fa ?_
   refine .op ((S3.lowA ha2).ld (j:=4) rfl) ?_
   refine .ci ?_
   exact .ret rfl rfl
  ·exact .ret rfl rfl
 subst h8
 refine .ch (P:=fun r y=>(.p (.bool r),H1)=y) ?_ (fun b14 y15 h16 h17=>?_)
 ·refine .cq ?_ ?_
  ·refine .fa ?_
   refine .fa ?_
   refine .op ((S3.atG (i:=0) rfl).ld (j:=0) rfl) ?_
   refine .op (castS_p _) ?_
   refine .op ((S3.lowA ha3).ld (j:=0) rfl) ?_
   refine .op (castS_p _) ?_
   refine .call (zbt x0.told.Rid x3) fun r9 cs10 H11 h12 q13=>?_
   cases q13
   refine .ab ?_
   exact .ret rfl rfl
  ·exact .ret rfl rfl
 subst h17
 refine .ab ?_
 exact .fin (S3.finN (lC (sB _).lv lN)) rfl
def zn {β:Type} (k:Nat) (kE0:Unit→Option β) (kE1:Int→Option β) (x0:(List zk)) (x1c0:Bool) (x1c1:TaiRtp) (x1c2:ByteArray) (x7:Int) (x8:Int):Option β:=match k with
| 0=>none
| k+1 =>
bif decide (x8<x7) then (
(ix x0 x8).bind fun a24 =>
(z3l ((⟨a24.told,a24.seen,(⟨[((a24.meter.slots.getD 0 0)),((a24.meter.slots.getD 1 0)),((a24.meter.slots.getD 2 0)),((a24.meter.slots.getD 3 0)),((a24.meter.slots.getD 4 0))],a24.meter.last,a24.meter.total⟩:z4),a24.came,a24.f_until,a24.resting,a24.woken,a24.kept⟩:zk)) x1c0 x1c1 x1c2).bind fun r33 =>
bif r33 then (
kE1 x8)
else (
zn k kE0 kE1 x0 x1c0 x1c1 x1c2 x7 (IntKind.wrap .i64 (x8+1))))
else (
kE0 ())
def zy (k:Nat) (x0:(List zk)) (x1c0:Bool) (x1c1:TaiRtp) (x1c2:ByteArray):Option (Int) :=
zn k (fun (_:Unit) =>
some ((-1))) (fun r46_4 =>
some (r46_4)) x0 x1c0 x1c1 x1c2 ((x0.length:Int)) 0
theorem z1x {h:H}  {kE0:Unit→Option β} {kE1:Int→Option β} (hE0:∀ (_u:Unit) (H39:Go.Ev.H) (_:Fm 19 h [] [] [] H39),Sim (kE0 ()) (K ((.exit 0),(envL []),H39)) Q) (hE1:∀ (q4:Int) (H41:Go.Ev.H) (_:Fm 19 h [] [] [] H41),Sim (kE1 q4) (K (.ret,(envL [(4,(.p (.int .i64 q4)))]),H41)) Q) (k:Nat):∀ (x0:(List zk)) (x1c0:Bool) (x1c1:TaiRtp) (x1c2:ByteArray) (x7:Int) (x8:Int) (v3:V) (h4:RsH h zd x0 v3) (lr5:Loc) (or6:Nat) (har7:AtC h lr5 or6 (List.map C.v [(.p (.bool x1c0))])) (v9:V) (h10:SlF (dI .u32) x1c1.Csrc v9) (v11:V) (h12:SlF (dI .u8) x1c1.Ext v11) (v13:V) (h14:SlF (dI .u8) x1c1.Payload v13) (lr15:Loc) (or16:Nat) (har17:AtC h lr15 or16 (List.map C.v [(.p (.bool x1c1.Marker)),(.p (.int .i64 x1c1.f_Type)),(.p (.int .u16 x1c1.Seq)),(.p (.int .u32 x1c1.Time)),(.p (.int .u32 x1c1.Ssrc)),v9,(.p (.int .u16 x1c1.Profile)),v11,v13])) (lr19:Loc) (or20:Nat) (har21:AtC h lr19 or20 (List.map C.v [(.p (.string x1c2))])) (H1:Go.Ev.H) (_:Fm 19 h [] [] [] H1) {σ:Stamp},Sim (zn k kE0 kE1 x0 x1c0 x1c1 x1c2 x7 x8) ((cvL G X0 z1b z1c σ (envL [(0,v3),(1,(.clo 93 [(.ref lr5 or6),(.ref lr15 or16),(.ref lr19 or20)])),(7,(.p (.int .i64 x7))),(8,(.p (.int .i64 x8)))]) H1).bind K) Q:=by
 induction k with
 | zero=>intros;exact .no
 | succ k ih =>
  intro x0 x1c0 x1c1 x1c2 x7 x8 v3 h4 lr5 or6 har7 v9 h10 v11 h12 v13 h14 lr15 or16 har17 lr19 or20 har21 H1 S2 σ
  rw [zn]
  refine .round (Sim.ext (z46 _ _ _ _ _ _ _ _) ?_)
  refine .cq ?_ ?_
  ·refine .bd fun a24 h25=>?_
   obtain ⟨lr26,w27,e28,h29,har30⟩:=RsH.el h4 h25 (e:=10) rfl
   obtain ⟨s31_3,s31_4,rfl⟩:=h29
   refine .op (e28) ?_
   refine .op ((S2.lowA har30).ldAll (j:=0) (xs:=[(.p (.string a24.told.Rid)),(.p (.int .u32 a24.told.Ssrc)),(.p (.int .i64 a24.told.Height)),(.ref (lr26.hop ((Int.toNat x8*10)+3) s31_3) 0),(.ref (lr26.hop ((Int.toNat x8*10)+4) s31_4) 0),(.p (.bool a24.came)),(.p (.int .i64 a24.f_until)),(.p (.bool a24.resting)),(.p (.bool a24.woken)),(.p (.int .i64 a24.kept))]) rfl rfl) ?_
   refine .clo ?_
   refine .call (z8l ((⟨a24.told,a24.seen,(⟨[((a24.meter.slots.getD 0 0)),((a24.meter.slots.getD 1 0)),((a24.meter.slots.getD 2 0)),((a24.meter.slots.getD 3 0)),((a24.meter.slots.getD 4 0))],a24.meter.last,a24.meter.total⟩:z4),a24.came,a24.f_until,a24.resting,a24.woken,a24.kept⟩:zk)) (Low.hop _ _ _) (Low.hop _ _ _) x1c0 (S2.lowA har7) x1c1 h10 h12 h14 (S2.lowA har17) x1c2 (S2.lowA har21)) fun r33 cs34 H35 h36 q37=>?_
   cases q37
   refine .ab ?_
   refine .cq ?_ ?_
   ·exact hE1 x8 H1 (S2.wk2 aN aN)
   exact ih x0 x1c0 x1c1 x1c2 x7 (IntKind.wrap .i64 (x8+1)) v3 h4 lr5 or6 har7 v9 h10 v11 h12 v13 h14 lr15 or16 har17 lr19 or20 har21 H1 (S2.wk2 aN aN)
  exact hE0 () H1 (S2.wk2 aN aN)
theorem z22 (k:Nat) {h:H} {σ:Stamp} (x0:List zk) {u0:V} (hu0:RsH h zd x0 u0) (x1c0:Bool)  {l1c0:Loc} {o1c0:Nat} (ha1c0:AtC h l1c0 o1c0 (List.map C.v [(.p (.bool x1c0))])) (x1c1:TaiRtp) {u1c1_5:V} (hu1c1_5:SlF (dI .u32) x1c1.Csrc u1c1_5) {u1c1_7:V} (hu1c1_7:SlF (dI .u8) x1c1.Ext u1c1_7) {u1c1_8:V} (hu1c1_8:SlF (dI .u8) x1c1.Payload u1c1_8) {l1c1:Loc} {o1c1:Nat} (ha1c1:AtC h l1c1 o1c1 (List.map C.v [(.p (.bool x1c1.Marker)),(.p (.int .i64 x1c1.f_Type)),(.p (.int .u16 x1c1.Seq)),(.p (.int .u32 x1c1.Time)),(.p (.int .u32 x1c1.Ssrc)),u1c1_5,(.p (.int .u16 x1c1.Profile)),u1c1_7,u1c1_8])) (x1c2:ByteArray)  {l1c2:Loc} {o1c2:Nat} (ha1c2:AtC h l1c2 o1c2 (List.map C.v [(.p (.string x1c2))])):Sim (zy k x0 x1c0 x1c1 x1c2) (ev G X0 92 σ [u0,(.clo 93 [(.ref l1c0 o1c0),(.ref l1c1 o1c1),(.ref l1c2 o1c2)])] h) (fun r s=>s=([.v (.p (.int .i64 r))],h)):=by
 refine .ev rfl (Sim.ext (z3h _ _ _ _ _ _) ?_)
 rw [zy]
 have S0:Fm 19 h [] [] [] (List.replicate 19 []::h):=Fm.start0
 refine .op (hu0.len) ?_
 refine .ci ?_
 refine .as (z1x ?_ ?_ k x0 x1c0 x1c1 x1c2 ((x0.length:Int)) 0 u0 hu0 l1c0 o1c0 ha1c0 u1c1_5 hu1c1_5 u1c1_7 hu1c1_7 u1c1_8 hu1c1_8 l1c1 o1c1 ha1c1 l1c2 o1c2 ha1c2 (List.replicate 19 []::h) (S0.wk2 aN aN))
 ·intro _u H44 S45
  refine .ext (z3o _ _ _ _) ?_
  exact .fin (S45.finN (lC (sI _ _).lv lN)) rfl
 ·intro r46_4 H47 S48
  refine .ext (z38 _ _ _ _ _) ?_
  exact .fin (S48.finN (lC (sI _ _).lv lN)) rfl
def z2u (k:Nat) (x0:z6) (x1:TaiRtp):Option (Int) :=
(zay k x1).bind fun r11 =>
(zy k x0.l r11.2 x1 r11.1).bind fun r30 =>
some (r30)
theorem z60 (k:Nat) {h:H} {σ:Stamp} (x0:z6) {c0_0:C} (hc0_0:RsC zd x0.l c0_0) {l0:Loc} {o0:Nat} (ha0:AtC h l0 o0 ([c0_0])) (x1:TaiRtp) {u1:List V} (hu1:z7.R x1 u1):Sim (z2u k x0 x1) (ev G X0 42 σ [(.ref l0 o0),(.agg u1)] h) (fun r s=>s=([.v (.p (.int .i64 r))],h)):=by
 refine .ev rfl (Sim.ext (z86 _ _ _ _ _ _) ?_)
 rw [z2u]
 obtain ⟨v1,v3,v5,rfl,h2,h4,h6⟩:=z7.inv hu1
 have S0:Fm 18 h [] [] [] (List.replicate 18 []::h):=Fm.start0
 obtain ⟨H7,e8,S9⟩:=S0.box (own:=true) (d:=3) (s:=(0::0::0::σ)) (xs:=[(.p (.bool x1.Marker)),(.p (.int .i64 x1.f_Type)),(.p (.int .u16 x1.Seq)),(.p (.int .u32 x1.Time)),(.p (.int .u32 x1.Ssrc)),v1,(.p (.int .u16 x1.Profile)),v3,v5]) (sC (sB _) (sC (sI _ _) (sC (sI _ _) (sC (sI _ _) (sC (sI _ _) (sC h2.still (sC (sI _ _) (sC h4.still (sC h6.still sN))))))))) (by decide) rfl
 refine .op (e8) ?_
 refine .op ((S9.atG (i:=0) rfl).ldVs (j:=0) (xs:=[(.p (.bool x1.Marker)),(.p (.int .i64 x1.f_Type)),(.p (.int .u16 x1.Seq)),(.p (.int .u32 x1.Time)),(.p (.int .u32 x1.Ssrc)),v1,(.p (.int .u16 x1.Profile)),v3,v5]) rfl rfl (by decide)) ?_
 refine .call (zj9 k x1 hu1) fun r11 cs12 H13 h14 q15=>?_
 cases q15
 refine .or ?_
 refine .op (castS_p _) ?_
 refine .or ?_
 refine .ab ?_
 obtain ⟨H16,e17,S18⟩:=S9.al (d:=5) (s:=(5::0::1::0::σ)) (z:=[(.p (.string ((⟨#[]⟩:ByteArray))))]) (by decide) rfl
 refine .op (congrArg some e17) ?_
 obtain ⟨H20,e21,S22⟩:=S18.al (d:=6) (s:=(6::0::1::0::σ)) (z:=[(.p (.bool false))]) (by decide) rfl
 refine .op (congrArg some e21) ?_
 obtain ⟨H24,e25,S26⟩:=S22.stG (i:=1) (j:=0) (own:=true) (σ:=(7::0::1::0::σ)) (x:=(.p (.string r11.1))) rfl rfl (still_str _) rfl
 refine .op (sM e25) ?_
 obtain ⟨H27,e28,S29⟩:=S26.stG (i:=0) (j:=0) (own:=true) (σ:=(8::0::1::0::σ)) (x:=(.p (.bool r11.2))) rfl rfl (sB _) rfl
 refine .op (sM e28) ?_
 refine .nc ?_
 refine .fa ?_
 refine .op (RsC.ld hc0_0 (S29.lowA ha0) (j:=0) rfl) ?_
 refine .call (z22 k x0.l (RsC.rs hc0_0 (S29.lowA ha0) (j:=0) rfl) r11.2 (S29.atG (i:=0) rfl) x1 h2 h4 h6 (S29.atG (i:=2) rfl) r11.1 (S29.atG (i:=1) rfl)) fun r30 cs31 H32 h33 q34=>?_
 cases q34
 refine .ci ?_
 exact .fin (S29.finN (lC (sI _ _).lv lN)) rfl
end
end Go.Ev
namespace Go.Ev
open Go.Proofs
set_option linter.unusedVariables false
set_option linter.unusedSimpArgs false
set_option maxRecDepth 100000
noncomputable section
abbrev KT24:=Exit→Env→H→Option (List C × H)
variable (rec : CallF) (loop : LoopV) (σ : Stamp)
theorem z7d (x0:V) (x1:Int) (h:H):cvBody G rec loop 94 σ [x0,(.p (.int .i64 x1))] h =
(callO rec 96 (2::0::0::1::0::σ) [x0,(.p (.int .i64 x1))] (List.replicate 18 []::h) (some 7)).bind fun q1 =>
(asB q1.1).bind fun b2 =>
bif !b2 then (
fin false σ q1.2 [(.p (.int .i64 0))])
else (
(nilChk x0).bind fun t3 =>
(fA t3 0).bind fun t4 =>
(ldO false 1 q1.2 t4).bind fun t5 =>
(iS 10 t5 x1).bind fun t6 =>
(fA t6 0).bind fun t7 =>
(fA t7 2).bind fun t8 =>
(ldO false 1 q1.2 t8).bind fun t9 =>
(castI .i64 t9).bind fun n10 =>
fin false σ q1.2 [(.p (.int .i64 n10))]):=by kernel_rfl
end
end Go.Ev
namespace Go.Ev
open Go.Proofs
set_option linter.unusedVariables false
set_option linter.unusedSimpArgs false
set_option maxRecDepth 100000
section
variable {β α : Type} {Q : β→α→Prop} {K : Exit × Env × H→Option α}
def z2l (x0:z6) (x1:Int):Option (Int) :=
(z19 x0 x1).bind fun r1 =>
bif !r1 then (
some (0))
else (
(ix x0.l x1).bind fun a7 =>
some (a7.told.Height))
theorem z5e {h:H} {σ:Stamp} (x0:z6) {c0_0:C} (hc0_0:RsC zd x0.l c0_0) {l0:Loc} {o0:Nat} (ha0:AtC h l0 o0 ([c0_0])) (x1:Int):Sim (z2l x0 x1) (ev G X0 94 σ [(.ref l0 o0),(.p (.int .i64 x1))] h) (fun r s=>s=([.v (.p (.int .i64 r))],h)):=by
 refine .ev rfl (Sim.ext (z7d _ _ _ _ _ _) ?_)
 rw [z2l]
 have S0:Fm 18 h [] [] [] (List.replicate 18 []::h):=Fm.start0
 refine .call (z1v x0 hc0_0 (S0.lowA ha0) x1) fun r1 cs2 H3 h4 q5=>?_
 cases q5
 refine .ab ?_
 refine .cq ?_ ?_
 ·exact .fin (S0.finN (lC (sI _ _).lv lN)) rfl
 refine .nc ?_
 refine .fa ?_
 refine .op (RsC.ld hc0_0 (S0.lowA ha0) (j:=0) rfl) ?_
 refine .bd fun a7 h8=>?_
 obtain ⟨lr9,w10,e11,h12,har13⟩:=RsH.el (RsC.rs hc0_0 ha0 (j:=0) rfl) h8 (e:=10) rfl
 obtain ⟨s14_3,s14_4,rfl⟩:=h12
 refine .op (e11) ?_
 refine .fa ?_
 refine .fa ?_
 refine .op ((S0.lowA har13).ld (j:=2) rfl) ?_
 refine .ci ?_
 exact .fin (S0.finN (lC (sI _ _).lv lN)) rfl
end
end Go.Ev
namespace Go.Ev
open Go.Proofs
set_option linter.unusedVariables false
set_option linter.unusedSimpArgs false
set_option maxRecDepth 100000
noncomputable section
abbrev KT25:=Exit→Env→H→Option (List C × H)
variable (rec : CallF) (loop : LoopV) (σ : Stamp)
theorem z8n (x0:V) (x1:V) (h:H):cvBody G rec loop 43 σ [x0,x1] h =
(boxO true (0::0::0::σ) 3 (List.replicate 17 []::h) x1).bind fun q1 =>
(fA q1.1 8).bind fun t2 =>
(ldO false 1 q1.2 t2).bind fun t3 =>
(lenO t3).bind fun t4 =>
(castI .i64 t4).bind fun n5 =>
(bif decide (n5>0) then ((fA q1.1 8).bind fun t6 =>
(ldO false 1 q1.2 t6).bind fun t7 =>
(iS 1 t7 0).bind fun t8 =>
(ldO false 1 q1.2 t8).bind fun t9 =>
(castI .u8 t9).bind fun n10 =>
some ((intBits .and .u8 n10 1)==1)) else (some false)).bind fun b11 =>
fin false σ q1.2 [(.p (.bool b11))]:=by kernel_rfl
end
end Go.Ev
namespace Go.Ev
open Go.Proofs
set_option linter.unusedVariables false
set_option linter.unusedSimpArgs false
set_option maxRecDepth 100000
section
variable {β α : Type} {Q : β→α→Prop} {K : Exit × Env × H→Option α}
def z4t (x0:z6) (x1:TaiRtp):Option (Bool) :=
(bif decide (((x1.Payload.length:Int))>0) then ((ix x1.Payload 0).bind fun a11 =>
some ((intBits .and .u8 a11 1)==1)) else (some false)).bind fun b14 =>
some (b14)
theorem zab {h:H} {σ:Stamp} (x0:z6) {c0_0:C} (hc0_0:RsC zd x0.l c0_0) {l0:Loc} {o0:Nat} (ha0:AtC h l0 o0 ([c0_0])) (x1:TaiRtp) {u1:List V} (hu1:z7.R x1 u1):Sim (z4t x0 x1) (ev G X0 43 σ [(.ref l0 o0),(.agg u1)] h) (fun r s=>s=([.v (.p (.bool r))],h)):=by
 refine .ev rfl (Sim.ext (z8n _ _ _ _ _ _) ?_)
 rw [z4t]
 obtain ⟨v1,v3,v5,rfl,h2,h4,h6⟩:=z7.inv hu1
 have S0:Fm 17 h [] [] [] (List.replicate 17 []::h):=Fm.start0
 obtain ⟨H7,e8,S9⟩:=S0.box (own:=true) (d:=3) (s:=(0::0::0::σ)) (xs:=[(.p (.bool x1.Marker)),(.p (.int .i64 x1.f_Type)),(.p (.int .u16 x1.Seq)),(.p (.int .u32 x1.Time)),(.p (.int .u32 x1.Ssrc)),v1,(.p (.int .u16 x1.Profile)),v3,v5]) (sC (sB _) (sC (sI _ _) (sC (sI _ _) (sC (sI _ _) (sC (sI _ _) (sC h2.still (sC (sI _ _) (sC h4.still (sC h6.still sN))))))))) (by decide) rfl
 refine .op (e8) ?_
 refine .fa ?_
 refine .op ((S9.atG (i:=0) rfl).ld (j:=8) rfl) ?_
 refine .op ((h6.h H7).len) ?_
 refine .ci ?_
 refine .ch (P:=fun r y=>r=y) ?_ (fun b14 y15 h16 h17=>?_)
 ·refine .cq ?_ ?_
  ·refine .fa ?_
   refine .op ((S9.atG (i:=0) rfl).ld (j:=8) rfl) ?_
   refine .bd fun a11 h12=>?_
   refine .op ((h6.h H7).iS h12 rfl) ?_
   obtain ⟨_,rfl,hE13⟩:=(h6.h H7).el h12 rfl
   refine .op (hE13.ld (j:=0) rfl) ?_
   refine .ci ?_
   exact .ret rfl rfl
  ·exact .ret rfl rfl
 subst h17
 exact .fin (S9.finN (lC (sB _).lv lN)) rfl
end
end Go.Ev
namespace Go.Ev
open Go.Proofs
set_option linter.unusedVariables false
set_option linter.unusedSimpArgs false
set_option maxRecDepth 100000
noncomputable section
abbrev KT26:=Exit→Env→H→Option (List C × H)
variable (rec : CallF) (loop : LoopV) (σ : Stamp)
theorem z8t (x0:V) (h:H):cvBody G rec loop 95 σ [x0] h =
(nilChk x0).bind fun t1 =>
(fA t1 0).bind fun t2 =>
(ldO false 1 (List.replicate 8 []::h) t2).bind fun t3 =>
(lenO t3).bind fun t4 =>
(castI .i64 t4).bind fun n5 =>
fin false σ (List.replicate 8 []::h) [(.p (.int .i64 n5))]:=by kernel_rfl
end
end Go.Ev
namespace Go.Ev
open Go.Proofs
set_option linter.unusedVariables false
set_option linter.unusedSimpArgs false
set_option maxRecDepth 100000
section
variable {β α : Type} {Q : β→α→Prop} {K : Exit × Env × H→Option α}
def z4o (x0:z6):Option (Int) :=
some (((x0.l.length:Int)))
theorem zac {h:H} {σ:Stamp} (x0:z6) {c0_0:C} (hc0_0:RsC zd x0.l c0_0) {l0:Loc} {o0:Nat} (ha0:AtC h l0 o0 ([c0_0])):Sim (z4o x0) (ev G X0 95 σ [(.ref l0 o0)] h) (fun r s=>s=([.v (.p (.int .i64 r))],h)):=by
 refine .ev rfl (Sim.ext (z8t _ _ _ _ _) ?_)
 rw [z4o]
 have S0:Fm 8 h [] [] [] (List.replicate 8 []::h):=Fm.start0
 refine .nc ?_
 refine .fa ?_
 refine .op (RsC.ld hc0_0 (S0.lowA ha0) (j:=0) rfl) ?_
 refine .op (RsC.len hc0_0 _ _) ?_
 refine .ci ?_
 exact .fin (S0.finN (lC (sI _ _).lv lN)) rfl
end
end Go.Ev
namespace Go.Ev
open Go.Proofs
set_option linter.unusedVariables false
set_option linter.unusedSimpArgs false
set_option maxRecDepth 100000
noncomputable section
abbrev KT27:=Exit→Env→H→Option (List C × H)
variable (rec : CallF) (loop : LoopV) (σ : Stamp)
def z2h:Code:=(codeAt (bodyOf Try.f86) [1,1,0,1,0,0])
def z2i:Lv:=⟨8,4,[(0,8)]⟩
def z5u:KT27:=(kBlock 0 (kSeq G rec loop (codeAt (bodyOf Try.f86) [1,1,1]) ⟨4,4,[]⟩ (1::1::0::σ) (finC G false Try.f86 (1::σ))))
theorem z7z (x0:V) (h:H):cvBody G rec loop 86 σ [x0] h =
(nilChk x0).bind fun t1 =>
(fA t1 0).bind fun t2 =>
(ldO false 1 (List.replicate 23 []::h) t2).bind fun t3 =>
(lenO t3).bind fun t4 =>
(castI .i64 t4).bind fun n5 =>
(loop z2h z2i (1::0::1::1::0::σ) (envL [(3,(.p (.slice .none 0 0))),(9,t3),(10,(.p (.int .i64 n5))),(11,(.p (.int .i64 0)))]) (List.replicate 23 []::h)).bind fun r6=>z5u rec loop σ r6.1 r6.2.1 r6.2.2:=by kernel_rfl
theorem z95 (x3:V) (x9:V) (x10:Int) (x11:Int) (h:H):z1l G rec loop z2h z2i σ (envL [(3,x3),(9,x9),(10,(.p (.int .i64 x10))),(11,(.p (.int .i64 x11)))]) h =
bif decide (x11<x10) then (
(iS 10 x9 x11).bind fun t7 =>
(ldO true 10 h t7).bind fun t8 =>
(some (alO [.p (.string (⟨#[]⟩:ByteArray)),.p (.int .u32 0),.p (.int .i64 0),.p (.pointer none),.p (.pointer none),.p (.bool false),.p (.int .i64 0),.p (.bool false),.p (.bool false),.p (.int .i64 0)] (2::0::0::1::1::0::σ) 5 h)).bind fun q9 =>
((stO false 10 (3::0::0::1::1::0::σ) q9.2 q9.1 t8).map fun h=>(udf,h)).bind fun q10 =>
(fA q9.1 0).bind fun t11 =>
(ldO true 3 q10.2 t11).bind fun t12 =>
(bSV Try.prog 56 1 [(0,t12)]).bind fun t13 =>
(apO false 3 32 (4::1::0::1::1::0::σ) 19 q10.2 x3 t13).bind fun q14 =>
loop z2h z2i (1::σ) (envL [(3,q14.1),(9,x9),(10,(.p (.int .i64 x10))),(11,(.p (.int .i64 (IntKind.wrap .i64 (x11+1)))))]) q14.2)
else (
some ((.exit 0),(envL [(3,x3)]),h)):=by kernel_rfl
theorem z83 (x3:V) (h:H):z5u rec loop σ (.exit 0) (envL [(3,x3)]) h =
(callO rec 124 (1::0::1::1::1::0::σ) [x3] h (some 22)).bind fun q15 =>
fin false σ q15.2 [q15.1]:=by kernel_rfl
theorem z4j (x0:V) (h:H):cvBody G rec loop 124 σ [x0] h =
(lenO x0).bind fun t1 =>
(castI .i64 t1).bind fun n2 =>
(lenO x0).bind fun t3 =>
(castI .i64 t3).bind fun n4 =>
(slS 3 x0 none (some n2) (some n4)).bind fun t5 =>
fin false σ (List.replicate 9 []::h) [t5]:=by kernel_rfl
end
end Go.Ev
namespace Go.Ev
open Go.Proofs
set_option linter.unusedVariables false
set_option linter.unusedSimpArgs false
set_option maxRecDepth 100000
section
variable {β α : Type} {Q : β→α→Prop} {K : Exit × Env × H→Option α}
def z24 {β:Type} (k:Nat) (kE0:(List z5)→Option β) (x3:(List z5)) (x9:(List zk)) (x10:Int) (x11:Int):Option β:=match k with
| 0=>none
| k+1 =>
bif decide (x11<x10) then (
(ix x9 x11).bind fun a10 =>
(ap 32 x3 ([a10.told])).bind fun a27 =>
z24 k kE0 a27 x9 x10 (IntKind.wrap .i64 (x11+1)))
else (
kE0 x3)
def z43 (k:Nat) (x0:z6):Option ((List z5)) :=
z24 k (fun r39_3 =>
some (r39_3)) (([]:List z5)) x0.l ((x0.l.length:Int)) 0
theorem z7x {h:H}  {kE0:(List z5)→Option β} (hE0:∀ (q3:(List z5)) (v35:V) (H33:Go.Ev.H) (_:Fm 23 h [] [] [⟨[19],v35,zb,q3⟩] H33),Sim (kE0 q3) (K ((.exit 0),(envL [(3,v35)]),H33)) Q) (k:Nat):∀ (x3:(List z5)) (x9:(List zk)) (x10:Int) (x11:Int) (v5:V) (v7:V) (h8:RsH h zd x9 v7) (H3:Go.Ev.H) (_:Fm 23 h [] [] [⟨[19],v5,zb,x3⟩] H3) {σ:Stamp},Sim (z24 k kE0 x3 x9 x10 x11) ((cvL G X0 z2h z2i σ (envL [(3,v5),(9,v7),(10,(.p (.int .i64 x10))),(11,(.p (.int .i64 x11)))]) H3).bind K) Q:=by
 induction k with
 | zero=>intros;exact .no
 | succ k ih =>
  intro x3 x9 x10 x11 v5 v7 h8 H3 S4 σ
  rw [z24]
  refine .round (Sim.ext (z95 _ _ _ _ _ _ _ _) ?_)
  refine .cq ?_ ?_
  ·refine .bd fun a10 h11=>?_
   obtain ⟨lr12,w13,e14,h15,har16⟩:=RsH.el h8 h11 (e:=10) rfl
   obtain ⟨s17_3,s17_4,rfl⟩:=h15
   refine .op (e14) ?_
   refine .op ((S4.lowA har16).ldAll (j:=0) (xs:=[(.p (.string a10.told.Rid)),(.p (.int .u32 a10.told.Ssrc)),(.p (.int .i64 a10.told.Height)),(.ref (lr12.hop ((Int.toNat x11*10)+3) s17_3) 0),(.ref (lr12.hop ((Int.toNat x11*10)+4) s17_4) 0),(.p (.bool a10.came)),(.p (.int .i64 a10.f_until)),(.p (.bool a10.resting)),(.p (.bool a10.woken)),(.p (.int .i64 a10.kept))]) rfl rfl) ?_
   obtain ⟨H19,e20,S21⟩:=S4.al (d:=5) (s:=(2::0::0::1::1::0::σ)) (z:=[(.p (.string ((⟨#[]⟩:ByteArray)))),(.p (.int .u32 0)),(.p (.int .i64 0)),(.p (.pointer none)),(.p (.pointer none)),(.p (.bool false)),(.p (.int .i64 0)),(.p (.bool false)),(.p (.bool false)),(.p (.int .i64 0))]) (by decide) rfl
   refine .op (congrArg some e20) ?_
   obtain ⟨H23,e24,S25⟩:=S21.stGw (i:=0) (j:=0) (own:=false) (σ:=(3::0::0::1::1::0::σ)) (xs:=[(.p (.string a10.told.Rid)),(.p (.int .u32 a10.told.Ssrc)),(.p (.int .i64 a10.told.Height)),(.ref (lr12.hop ((Int.toNat x11*10)+3) s17_3) 0),(.ref (lr12.hop ((Int.toNat x11*10)+4) s17_4) 0),(.p (.bool a10.came)),(.p (.int .i64 a10.f_until)),(.p (.bool a10.resting)),(.p (.bool a10.woken)),(.p (.int .i64 a10.kept))]) (ws:=List.map C.v [(.p (.string a10.told.Rid)),(.p (.int .u32 a10.told.Ssrc)),(.p (.int .i64 a10.told.Height)),(.ref (lr12.hop ((Int.toNat x11*10)+3) s17_3) 0),(.ref (lr12.hop ((Int.toNat x11*10)+4) s17_4) 0),(.p (.bool a10.came)),(.p (.int .i64 a10.f_until)),(.p (.bool a10.resting)),(.p (.bool a10.woken)),(.p (.int .i64 a10.kept))]) rfl rfl (z14 (Still.low (still_str _)) (z14 (Still.low (sI _ _)) (z14 (Still.low (sI _ _)) (z14 (Low.hop _ _ _) (z14 (Low.hop _ _ _) (z14 (Still.low (sB _)) (z14 (Still.low (sI _ _)) (z14 (Still.low (sB _)) (z14 (Still.low (sB _)) (z14 (Still.low (sI _ _)) lw_nil)))))))))) rfl rfl
   refine .op (sM e24) ?_
   refine .fa ?_
   refine .op ((S25.atG (i:=0) rfl).ldVs (j:=0) (xs:=[.p (.string a10.told.Rid),.p (.int .u32 a10.told.Ssrc),.p (.int .i64 a10.told.Height)]) rfl rfl (by decide)) ?_
   have h26:SlF zb [a10.told] (.fz [(.p (.string a10.told.Rid)),(.p (.int .u32 a10.told.Ssrc)),(.p (.int .i64 a10.told.Height))] 1 3 true):=SlF.lit (cs:=[(.p (.string a10.told.Rid)),(.p (.int .u32 a10.told.Ssrc)),(.p (.int .i64 a10.told.Height))]) (RL.cons (show zb.R a10.told [.p (.string a10.told.Rid),.p (.int .u32 a10.told.Ssrc),.p (.int .i64 a10.told.Height)] from (zb.mk)) RL.nil) rfl rfl true
   refine .op (bldS (pC (c:=[.p (.string a10.told.Rid),.p (.int .u32 a10.told.Ssrc),.p (.int .i64 a10.told.Height)]) rfl pN) (by kernel_rfl:_=some (vOf h26))) ?_
   refine .bd fun a27 h28=>?_
   obtain ⟨v29,H30,e31,S32⟩:=S25.app (i:=0) (d:=19) (e:=3) (own:=false) (σ:=(4::1::0::1::1::0::σ)) rfl (h26.h H23).y h28 rfl (by decide) (by decide) rfl
   refine .op (e31) ?_
   exact ih a27 x9 x10 (IntKind.wrap .i64 (x11+1)) v29 v7 h8 H30 (S32.wk2 aN (aC ⟨[19,19],by simp,aM 0 rfl⟩ aN))
  exact hE0 x3 v5 H3 (S4.wk2 aN (aC ⟨[19],by simp,aM 0 rfl⟩ aN))
theorem z94 (k:Nat) {h:H} {σ:Stamp} (x0:z6) {c0_0:C} (hc0_0:RsC zd x0.l c0_0) {l0:Loc} {o0:Nat} (ha0:AtC h l0 o0 ([c0_0])):Sim (z43 k x0) (ev G X0 86 σ [(.ref l0 o0)] h) (fun r s=>∃ (c0:C),∃ (a0:List V),OwnS c0 zb.sz r.length a0∧zb.L r a0∧s=([c0],h)):=by
 refine .ev rfl (Sim.ext (z7z _ _ _ _ _) ?_)
 rw [z43]
 have S0:Fm 23 h [] [] [] (List.replicate 23 []::h):=Fm.start0
 refine .nc ?_
 refine .fa ?_
 refine .op (RsC.ld hc0_0 (S0.lowA ha0) (j:=0) rfl) ?_
 refine .op (RsC.len hc0_0 _ _) ?_
 refine .ci ?_
 have S38:=S0.nil zb []
 refine .as (z7x ?_ k (([]:List z5)) x0.l ((x0.l.length:Int)) 0 (.p (.slice none 0 0)) (cellV l0 (o0+0) (c0_0)) (RsC.rs hc0_0 ha0 (j:=0) rfl) (List.replicate 23 []::h) (S38.wk2 aN (aC ⟨[],by simp,aM 0 rfl⟩ aN)))
 ·intro r39_3 v42 H40 S41
  refine .ext (z83 _ _ _ _ _) ?_
  obtain ⟨v44,e45,S46⟩:=clip_D (G:=G) (X:=X0) (i:=0) (f:=124) (fun x h=>z4j _ _ _ x h) S41 rfl rfl rfl
  refine .op (e45) ?_
  obtain ⟨c52,cs53,H47,e48,h50,h51,S49⟩:=S46.expOwn (i:=0) (τ:=0::1::σ) rfl rfl rfl
  exact .fin (S49.finE (Ex.st e48 Ex.nil)) ⟨c52,cs53,h50,h51,rfl⟩
def z5z (k:Nat) :Option (Bool) :=
(z2b k ([((⟨((⟨#[108,111]⟩:ByteArray)),1,100⟩:z5)),((⟨((⟨#[104,105]⟩:ByteArray)),2,200⟩:z5))])).bind fun r2 =>
(match r2 with
| none=>(
some (false))
| some r7=>(
(z2b k (([]:List z5))).bind fun r15 =>
(match r15 with
| none=>(
(ix ([((⟨((⟨#[108,111]⟩:ByteArray)),1,100⟩:z5)),((⟨((⟨#[104,105]⟩:ByteArray)),2,200⟩:z5))]) 1).bind fun a24 =>
(z4e k a24 5 9 true 100).bind fun r29 =>
(z55 k r29).bind fun r36 =>
(z2u k r7 r36.1).bind fun r56 =>
(zc r7 1 0).bind fun r61 =>
(zr k r7 1 r36.1 ((r29.length:Int)) 10).bind fun r66 =>
(zr k r66.2.2 1 r36.1 ((r29.length:Int)) 20).bind fun r74 =>
(z8 k r74.2.2 1 10).bind fun r82 =>
(zz k r74.2.2 1 true 10).bind fun r87 =>
(z9 r87 1).bind fun r95 =>
(bif r95 then ((zc r87 1 20).bind fun r100 =>
some (!r100)) else (some false)).bind fun b105 =>
(zz k r87 1 false 900000).bind fun r109 =>
(bif r56==1 then (some (!r61)) else (some false)).bind fun b117 =>
(bif b117 then (some (r66.1==5)) else (some false)).bind fun b121 =>
(bif b121 then (some r66.2.1) else (some false)).bind fun b125 =>
(bif b125 then (some (!r74.2.1)) else (some false)).bind fun b129 =>
(bif b129 then (some (r82==1)) else (some false)).bind fun b133 =>
(bif b133 then (some b105) else (some false)).bind fun b137 =>
(bif b137 then ((za r109 1).bind fun r141 =>
some r141) else (some false)).bind fun b146 =>
(bif b146 then ((z8 k r109 1 900000).bind fun r150 =>
some (r150==1)) else (some false)).bind fun b155 =>
(bif b155 then ((z4t r109 r36.1).bind fun r159 =>
some r159) else (some false)).bind fun b164 =>
(bif b164 then ((z2l r109 0).bind fun r168 =>
some (r168==100)) else (some false)).bind fun b173 =>
(bif b173 then ((z2l r109 5).bind fun r177 =>
some (r177==0)) else (some false)).bind fun b182 =>
(bif b182 then ((z4o r109).bind fun r186 =>
some (r186==2)) else (some false)).bind fun b191 =>
(bif b191 then ((z2u k r109 ((⟨false,0,0,0,1,(([]:List Int)),0,(([]:List Int)),(([]:List Int))⟩:TaiRtp))).bind fun r195 =>
some (r195==(-1))) else (some false)).bind fun b200 =>
(bif b200 then ((z8 k r109 (-1) 0).bind fun r204 =>
some (r204==0)) else (some false)).bind fun b209 =>
bif b209 then ((z43 k r109).bind fun r213 =>
some ((((r213.length:Int))==2))) else (some (false)))
| some r20=>(
some (false)))))
theorem zfs (k:Nat) {h:H} {σ:Stamp} :Sim (z5z k ) (ev G X0 44 σ [] h) (fun r s=>s=([.v (.p (.bool r))],h)):=by
 refine .ev rfl (Sim.ext (zcu _ _ _ _) ?_)
 rw [z5z]
 have S0:Fm 138 h [] [] [] (List.replicate 138 []::h):=Fm.start0
 refine .op (bldV (pC rfl (pC rfl (pC rfl pN))) (by kernel_rfl:_=some (.agg [.p (.string ((⟨#[108,111]⟩:ByteArray))),.p (.int .u32 1),.p (.int .i64 100)]))) ?_
 refine .op (bldV (pC rfl (pC rfl (pC rfl pN))) (by kernel_rfl:_=some (.agg [.p (.string ((⟨#[104,105]⟩:ByteArray))),.p (.int .u32 2),.p (.int .i64 200)]))) ?_
 have h1:SlF zb [((⟨((⟨#[108,111]⟩:ByteArray)),1,100⟩:z5)),((⟨((⟨#[104,105]⟩:ByteArray)),2,200⟩:z5))] (.fz [(.p (.string ((⟨#[108,111]⟩:ByteArray)))),(.p (.int .u32 1)),(.p (.int .i64 100)),(.p (.string ((⟨#[104,105]⟩:ByteArray)))),(.p (.int .u32 2)),(.p (.int .i64 200))] 2 3 true):=SlF.lit (cs:=[(.p (.string ((⟨#[108,111]⟩:ByteArray)))),(.p (.int .u32 1)),(.p (.int .i64 100)),(.p (.string ((⟨#[104,105]⟩:ByteArray)))),(.p (.int .u32 2)),(.p (.int .i64 200))]) (RL.cons (show zb.R ((⟨((⟨#[108,111]⟩:ByteArray)),1,100⟩:z5)) [.p (.string ((⟨#[108,111]⟩:ByteArray))),.p (.int .u32 1),.p (.int .i64 100)] from (zb.mk)) (RL.cons (show zb.R ((⟨((⟨#[104,105]⟩:ByteArray)),2,200⟩:z5)) [.p (.string ((⟨#[104,105]⟩:ByteArray))),.p (.int .u32 2),.p (.int .i64 200)] from (zb.mk)) RL.nil)) rfl rfl true
 refine .op (bldS (pC (c:=[.p (.string ((⟨#[108,111]⟩:ByteArray))),.p (.int .u32 1),.p (.int .i64 100)]) rfl (pC (c:=[.p (.string ((⟨#[104,105]⟩:ByteArray))),.p (.int .u32 2),.p (.int .i64 200)]) rfl pN)) (by kernel_rfl:_=some (vOf h1))) ?_
 refine .call (z4n k ([((⟨((⟨#[108,111]⟩:ByteArray)),1,100⟩:z5)),((⟨((⟨#[104,105]⟩:ByteArray)),2,200⟩:z5))]) (h1.h (List.replicate 138 []::h))) fun r2 cs3 H4 h5 q6=>?_
 rcases r2 with _ | r7
 ·cases (show (cs3,H4)=([.v (.p (.pointer none))],(List.replicate 138 []::h)) from q6)
  refine .op ((by kernel_rfl:_=some (.p (.bool true)))) ?_
  refine .ab ?_
  refine .asT ?_
  refine .pure ?_
  refine .ab ?_
  refine .cdt rfl ?_
  exact .fin (S0.finN (lC (sB _).lv lN)) rfl
 ·obtain ⟨s8,c9,h10,q6⟩:=q6
  cases q6
  obtain ⟨H11,e12,S13⟩:=S0.landG (d:=18) (s:=s8) (cs:=[c9]) (by decide) rfl
  erw [e12]
  refine .op ((by kernel_rfl:_=some (.p (.bool false)))) ?_
  refine .ab ?_
  refine .asF ?_
  refine .call (z4n k (([]:List z5)) ((SlF.nil zb).h H11)) fun r15 cs16 H17 h18 q19=>?_
  rcases r15 with _ | r20
  ·cases (show (cs16,H17)=([.v (.p (.pointer none))],H11) from q19)
   refine .op ((by kernel_rfl:_=some (.p (.bool false)))) ?_
   refine .ab ?_
   refine .pure ?_
   refine .ab ?_
   refine .cdf rfl ?_
   refine .bd fun a24 h25=>?_
   refine .op ((h1.h H11).iS h25 rfl) ?_
   obtain ⟨w27,h28,hE26⟩:=(h1.h H11).el h25 rfl
   obtain rfl:=zb.inv h28
   refine .op (hE26.all (by simp)) ?_
   refine .call (zaz k a24 (show zb.R a24 [.p (.string a24.Rid),.p (.int .u32 a24.Ssrc),.p (.int .i64 a24.Height)] from (zb.mk)) 5 9 true 100) fun r29 cs30 H31 h32 q33=>?_
   obtain ⟨v34,h35,q33⟩:=q33
   cases q33
   refine .call (zc1 k r29 (h35.h H11)) fun r36 cs37 H38 h39 q40=>?_
   obtain ⟨w41,h42,q40⟩:=q40
   cases q40
   obtain ⟨v43,v45,v47,rfl,h44,h46,h48⟩:=z7.inv h42
   refine .or ?_
   refine .or ?_
   refine .ci ?_
   obtain ⟨H49,e50,S51⟩:=S13.al (d:=4) (s:=(5::0::1::1::1::1::1::0::σ)) (z:=[(.p (.bool false)),(.p (.int .i64 0)),(.p (.int .u16 0)),(.p (.int .u32 0)),(.p (.int .u32 0)),(.p (.slice none 0 0)),(.p (.int .u16 0)),(.p (.slice none 0 0)),(.p (.slice none 0 0))]) (by decide) rfl
   refine .op (congrArg some e50) ?_
   obtain ⟨H53,e54,S55⟩:=S51.stGv (i:=0) (j:=0) (own:=true) (σ:=(6::0::1::1::1::1::1::0::σ)) (xs:=[(.p (.bool r36.1.Marker)),(.p (.int .i64 r36.1.f_Type)),(.p (.int .u16 r36.1.Seq)),(.p (.int .u32 r36.1.Time)),(.p (.int .u32 r36.1.Ssrc)),v43,(.p (.int .u16 r36.1.Profile)),v45,v47]) rfl rfl (sC (sB _) (sC (sI _ _) (sC (sI _ _) (sC (sI _ _) (sC (sI _ _) (sC h44.still (sC (sI _ _) (sC h46.still (sC h48.still sN))))))))) rfl rfl
   refine .op (sM e54) ?_
   refine .op ((S55.atG (i:=0) rfl).ldVs (j:=0) (xs:=[(.p (.bool r36.1.Marker)),(.p (.int .i64 r36.1.f_Type)),(.p (.int .u16 r36.1.Seq)),(.p (.int .u32 r36.1.Time)),(.p (.int .u32 r36.1.Ssrc)),v43,(.p (.int .u16 r36.1.Profile)),v45,v47]) rfl rfl (by decide)) ?_
   refine .call (z60 k r7 h10 (S55.atG (i:=1) rfl) r36.1 h42) fun r56 cs57 H58 h59 q60=>?_
   cases q60
   refine .ci ?_
   refine .call (zh r7 h10 (S55.atG (i:=1) rfl) 1 0) fun r61 cs62 H63 h64 q65=>?_
   cases q65
   refine .ab ?_
   refine .op ((S55.atG (i:=0) rfl).ldVs (j:=0) (xs:=[(.p (.bool r36.1.Marker)),(.p (.int .i64 r36.1.f_Type)),(.p (.int .u16 r36.1.Seq)),(.p (.int .u32 r36.1.Time)),(.p (.int .u32 r36.1.Ssrc)),v43,(.p (.int .u16 r36.1.Profile)),v45,v47]) rfl rfl (by decide)) ?_
   refine .op ((h35.h H53).len) ?_
   refine .ci ?_
   refine .call (z1i k r7 h10 (S55.atG (i:=1) rfl) 1 r36.1 h42 ((r29.length:Int)) 10) fun r66 cs67 H68 h69 q70=>?_
   obtain ⟨c71,h72,q70⟩:=q70
   cases q70
   have S73:=S55.setG (i:=1) (cs':=[c71]) rfl rfl rfl
   refine .or ?_
   refine .ci ?_
   refine .or ?_
   refine .ab ?_
   refine .op ((S73.atG (i:=0) rfl).ldVs (j:=0) (xs:=[(.p (.bool r36.1.Marker)),(.p (.int .i64 r36.1.f_Type)),(.p (.int .u16 r36.1.Seq)),(.p (.int .u32 r36.1.Time)),(.p (.int .u32 r36.1.Ssrc)),v43,(.p (.int .u16 r36.1.Profile)),v45,v47]) rfl rfl (by decide)) ?_
   refine .op ((h35.h (ptC H53 ⟨h.length,18,0,s8,[]⟩ 0 ([c71]))).len) ?_
   refine .ci ?_
   refine .call (z1i k r66.2.2 h72 (S73.atG (i:=1) rfl) 1 r36.1 h42 ((r29.length:Int)) 20) fun r74 cs75 H76 h77 q78=>?_
   obtain ⟨c79,h80,q78⟩:=q78
   cases q78
   have S81:=S73.setG (i:=1) (cs':=[c79]) rfl rfl rfl
   refine .or ?_
   refine .ci ?_
   refine .or ?_
   refine .ab ?_
   refine .call (ze k r74.2.2 h80 (S81.atG (i:=1) rfl) 1 10) fun r82 cs83 H84 h85 q86=>?_
   cases q86
   refine .ci ?_
   refine .call (z20 k r74.2.2 h80 (S81.atG (i:=1) rfl) 1 true 10) fun r87 cs88 H89 h90 q91=>?_
   obtain ⟨c92,h93,q91⟩:=q91
   cases q91
   have S94:=S81.setG (i:=1) (cs':=[c92]) rfl rfl rfl
   refine .call (zf r87 h93 (S94.atG (i:=1) rfl) 1) fun r95 cs96 H97 h98 q99=>?_
   cases q99
   refine .ab ?_
   refine .ch (P:=fun r y=>(.p (.bool r),(ptC (ptC (ptC H53 ⟨h.length,18,0,s8,[]⟩ 0 ([c71])) ⟨h.length,18,0,s8,[]⟩ 0 ([c79])) ⟨h.length,18,0,s8,[]⟩ 0 ([c92])))=y) ?_ (fun b105 y106 h107 h108=>?_)
   ·refine .cq ?_ ?_
    ·refine .call (zh r87 h93 (S94.atG (i:=1) rfl) 1 20) fun r100 cs101 H102 h103 q104=>?_
     cases q104
     refine .ab ?_
     exact .ret rfl rfl
    ·exact .ret rfl rfl
   subst h108
   refine .ab ?_
   refine .call (z20 k r87 h93 (S94.atG (i:=1) rfl) 1 false 900000) fun r109 cs110 H111 h112 q113=>?_
   obtain ⟨c114,h115,q113⟩:=q113
   cases q113
   have S116:=S94.setG (i:=1) (cs':=[c114]) rfl rfl rfl
   refine .ch (P:=fun r y=>r=y) ?_ (fun b117 y118 h119 h120=>?_)
   ·refine .cq ?_ ?_
    ·exact .ret rfl rfl
    ·exact .ret rfl rfl
   subst h120
   refine .ch (P:=fun r y=>r=y) ?_ (fun b121 y122 h123 h124=>?_)
   ·refine .cq ?_ ?_
    ·exact .ret rfl rfl
    ·exact .ret rfl rfl
   subst h124
   refine .ch (P:=fun r y=>r=y) ?_ (fun b125 y126 h127 h128=>?_)
   ·refine .cq ?_ ?_
    ·exact .ret rfl rfl
    ·exact .ret rfl rfl
   subst h128
   refine .ch (P:=fun r y=>r=y) ?_ (fun b129 y130 h131 h132=>?_)
   ·refine .cq ?_ ?_
    ·exact .ret rfl rfl
    ·exact .ret rfl rfl
   subst h132
   refine .ch (P:=fun r y=>r=y) ?_ (fun b133 y134 h135 h136=>?_)
   ·refine .cq ?_ ?_
    ·exact .ret rfl rfl
    ·exact .ret rfl rfl
   subst h136
   refine .ch (P:=fun r y=>r=y) ?_ (fun b137 y138 h139 h140=>?_)
   ·refine .cq ?_ ?_
    ·exact .ret rfl rfl
    ·exact .ret rfl rfl
   subst h140
   refine .ch (P:=fun r y=>(.p (.bool r),(ptC (ptC (ptC (ptC H53 ⟨h.length,18,0,s8,[]⟩ 0 ([c71])) ⟨h.length,18,0,s8,[]⟩ 0 ([c79])) ⟨h.length,18,0,s8,[]⟩ 0 ([c92])) ⟨h.length,18,0,s8,[]⟩ 0 ([c114])))=y) ?_ (fun b146 y147 h148 h149=>?_)
   ·refine .cq ?_ ?_
    ·refine .call (zi r109 h115 (S116.atG (i:=1) rfl) 1) fun r141 cs142 H143 h144 q145=>?_
     cases q145
     refine .ab ?_
     exact .ret rfl rfl
    ·exact .ret rfl rfl
   subst h149
   refine .ab ?_
   refine .ch (P:=fun r y=>(.p (.bool r),(ptC (ptC (ptC (ptC H53 ⟨h.length,18,0,s8,[]⟩ 0 ([c71])) ⟨h.length,18,0,s8,[]⟩ 0 ([c79])) ⟨h.length,18,0,s8,[]⟩ 0 ([c92])) ⟨h.length,18,0,s8,[]⟩ 0 ([c114])))=y) ?_ (fun b155 y156 h157 h158=>?_)
   ·refine .cq ?_ ?_
    ·refine .call (ze k r109 h115 (S116.atG (i:=1) rfl) 1 900000) fun r150 cs151 H152 h153 q154=>?_
     cases q154
     refine .ci ?_
     exact .ret rfl rfl
    ·exact .ret rfl rfl
   subst h158
   refine .ab ?_
   refine .ch (P:=fun r y=>(.p (.bool r),(ptC (ptC (ptC (ptC H53 ⟨h.length,18,0,s8,[]⟩ 0 ([c71])) ⟨h.length,18,0,s8,[]⟩ 0 ([c79])) ⟨h.length,18,0,s8,[]⟩ 0 ([c92])) ⟨h.length,18,0,s8,[]⟩ 0 ([c114])))=y) ?_ (fun b164 y165 h166 h167=>?_)
   ·refine .cq ?_ ?_
    ·refine .op ((S116.atG (i:=0) rfl).ldVs (j:=0) (xs:=[(.p (.bool r36.1.Marker)),(.p (.int .i64 r36.1.f_Type)),(.p (.int .u16 r36.1.Seq)),(.p (.int .u32 r36.1.Time)),(.p (.int .u32 r36.1.Ssrc)),v43,(.p (.int .u16 r36.1.Profile)),v45,v47]) rfl rfl (by decide)) ?_
     refine .call (zab r109 h115 (S116.atG (i:=1) rfl) r36.1 h42) fun r159 cs160 H161 h162 q163=>?_
     cases q163
     refine .ab ?_
     exact .ret rfl rfl
    ·exact .ret rfl rfl
   subst h167
   refine .ab ?_
   refine .ch (P:=fun r y=>(.p (.bool r),(ptC (ptC (ptC (ptC H53 ⟨h.length,18,0,s8,[]⟩ 0 ([c71])) ⟨h.length,18,0,s8,[]⟩ 0 ([c79])) ⟨h.length,18,0,s8,[]⟩ 0 ([c92])) ⟨h.length,18,0,s8,[]⟩ 0 ([c114])))=y) ?_ (fun b173 y174 h175 h176=>?_)
   ·refine .cq ?_ ?_
    ·refine .call (z5e r109 h115 (S116.atG (i:=1) rfl) 0) fun r168 cs169 H170 h171 q172=>?_
     cases q172
     refine .ci ?_
     exact .ret rfl rfl
    ·exact .ret rfl rfl
   subst h176
   refine .ab ?_
   refine .ch (P:=fun r y=>(.p (.bool r),(ptC (ptC (ptC (ptC H53 ⟨h.length,18,0,s8,[]⟩ 0 ([c71])) ⟨h.length,18,0,s8,[]⟩ 0 ([c79])) ⟨h.length,18,0,s8,[]⟩ 0 ([c92])) ⟨h.length,18,0,s8,[]⟩ 0 ([c114])))=y) ?_ (fun b182 y183 h184 h185=>?_)
   ·refine .cq ?_ ?_
    ·refine .call (z5e r109 h115 (S116.atG (i:=1) rfl) 5) fun r177 cs178 H179 h180 q181=>?_
     cases q181
     refine .ci ?_
     exact .ret rfl rfl
    ·exact .ret rfl rfl
   subst h185
   refine .ab ?_
   refine .ch (P:=fun r y=>(.p (.bool r),(ptC (ptC (ptC (ptC H53 ⟨h.length,18,0,s8,[]⟩ 0 ([c71])) ⟨h.length,18,0,s8,[]⟩ 0 ([c79])) ⟨h.length,18,0,s8,[]⟩ 0 ([c92])) ⟨h.length,18,0,s8,[]⟩ 0 ([c114])))=y) ?_ (fun b191 y192 h193 h194=>?_)
   ·refine .cq ?_ ?_
    ·refine .call (zac r109 h115 (S116.atG (i:=1) rfl)) fun r186 cs187 H188 h189 q190=>?_
     cases q190
     refine .ci ?_
     exact .ret rfl rfl
    ·exact .ret rfl rfl
   subst h194
   refine .ab ?_
   refine .ch (P:=fun r y=>(.p (.bool r),(ptC (ptC (ptC (ptC H53 ⟨h.length,18,0,s8,[]⟩ 0 ([c71])) ⟨h.length,18,0,s8,[]⟩ 0 ([c79])) ⟨h.length,18,0,s8,[]⟩ 0 ([c92])) ⟨h.length,18,0,s8,[]⟩ 0 ([c114])))=y) ?_ (fun b200 y201 h202 h203=>?_)
   ·refine .cq ?_ ?_
    ·refine .op (bldV (pC rfl pN) (by kernel_rfl:_=some (.agg [.p (.bool false),.p (.int .i64 0),.p (.int .u16 0),.p (.int .u32 0),.p (.int .u32 1),.p (.slice none 0 0),.p (.int .u16 0),.p (.slice none 0 0),.p (.slice none 0 0)]))) ?_
     refine .call (z60 k r109 h115 (S116.atG (i:=1) rfl) ((⟨false,0,0,0,1,(([]:List Int)),0,(([]:List Int)),(([]:List Int))⟩:TaiRtp)) (show z7.R ((⟨false,0,0,0,1,(([]:List Int)),0,(([]:List Int)),(([]:List Int))⟩:TaiRtp)) [.p (.bool false),.p (.int .i64 0),.p (.int .u16 0),.p (.int .u32 0),.p (.int .u32 1),.p (.slice none 0 0),.p (.int .u16 0),.p (.slice none 0 0),.p (.slice none 0 0)] from (z7.mk (SlF.nil (dI .u32)) (SlF.nil (dI .u8)) (SlF.nil (dI .u8))))) fun r195 cs196 H197 h198 q199=>?_
     cases q199
     refine .ci ?_
     exact .ret rfl rfl
    ·exact .ret rfl rfl
   subst h203
   refine .ab ?_
   refine .ch (P:=fun r y=>(.p (.bool r),(ptC (ptC (ptC (ptC H53 ⟨h.length,18,0,s8,[]⟩ 0 ([c71])) ⟨h.length,18,0,s8,[]⟩ 0 ([c79])) ⟨h.length,18,0,s8,[]⟩ 0 ([c92])) ⟨h.length,18,0,s8,[]⟩ 0 ([c114])))=y) ?_ (fun b209 y210 h211 h212=>?_)
   ·refine .cq ?_ ?_
    ·refine .call (ze k r109 h115 (S116.atG (i:=1) rfl) (-1) 0) fun r204 cs205 H206 h207 q208=>?_
     cases q208
     refine .ci ?_
     exact .ret rfl rfl
    ·exact .ret rfl rfl
   subst h212
   refine .ab ?_
   refine .cqk ?_ ?_
   ·refine .as ?_
    refine .call (z94 k r109 h115 (S116.atG (i:=1) rfl)) fun r213 cs214 H215 h216 q217=>?_
    obtain ⟨c218,cs219,h220,h221,q217⟩:=q217
    cases q217
    obtain ⟨v222,H223,e224,S225⟩:=S116.land (dt:=zb) (d:=134) (e:=0) (n:=0) h220 h221 (by decide) rfl
    erw [e224]
    refine .op ((S225.sl (i:=0) rfl).len) ?_
    refine .ci ?_
    refine .pure ?_
    refine .ab ?_
    exact .fin (S225.finN (lC (sB _).lv lN)) rfl
   ·refine .as ?_
    refine .pure ?_
    refine .ab ?_
    exact .fin (S116.finN (lC (sB _).lv lN)) rfl
  ·obtain ⟨s21,c22,h23,q19⟩:=q19
   cases q19
   obtain ⟨H227,e228,S229⟩:=S13.landG (d:=22) (s:=s21) (cs:=[c22]) (by decide) rfl
   erw [e228]
   refine .op ((by kernel_rfl:_=some (.p (.bool true)))) ?_
   refine .ab ?_
   refine .pure ?_
   refine .ab ?_
   refine .cdt rfl ?_
   exact .fin (S229.finN (lC (sB _).lv lN)) rfl
def zl {β:Type} (k:Nat) (kE0:Unit→Option β) (kE1:Bool→Option β) (x0:(List z2w)) (x5:(List z5)) (x8:Int) (x9:Int) (x10:Int) (yg37:z6) (yg55:z6):Option β:=match k with
| 0=>none
| k+1 =>
(bif decide (x10<((x0.length:Int))) then (some (decide (x10<60))) else (some false)).bind fun b75 =>
bif b75 then (
(ix x0 x10).bind fun a80 =>
(z2d a80.I 0 2).bind fun r92 =>
(ix x5 r92).bind fun a97 =>
(z4e k a97 a80.Seq 7 a80.Key (IntKind.wrap .i64 (1+(intBits .and .i64 a80.Size 255)))).bind fun r102 =>
(z55 k r102).bind fun r109 =>
bif decide (a80.Kind>4) then (
(zz k yg37 r92 ((intBits .and .i64 a80.Kind 1)==1) (IntKind.wrap .i64 (x9+(intBits .and .i64 a80.Us 65535)))).bind fun r130 =>
(bif r92==x8 then (some (decide (a80.Kind>4))) else (some false)).bind fun b138 =>
bif b138 then (
(zz k yg55 r92 ((intBits .and .i64 a80.Kind 1)==1) (IntKind.wrap .i64 (x9+(intBits .and .i64 a80.Us 65535)))).bind fun r143 =>
(bif r92==x8 then (some (decide (a80.Kind≤4))) else (some false)).bind fun b151 =>
bif b151 then (
(zr k r143 r92 r109.1 ((r102.length:Int)) (IntKind.wrap .i64 (x9+(intBits .and .i64 a80.Us 65535)))).bind fun r156 =>
(zc r130 x8 (IntKind.wrap .i64 (x9+(intBits .and .i64 a80.Us 65535)))).bind fun r164 =>
(zc r156.2.2 x8 (IntKind.wrap .i64 (x9+(intBits .and .i64 a80.Us 65535)))).bind fun r169 =>
(bif !(r164==r169) then (some true) else ((z8 k r130 x8 (IntKind.wrap .i64 (x9+(intBits .and .i64 a80.Us 65535)))).bind fun r174 =>
(z8 k r156.2.2 x8 (IntKind.wrap .i64 (x9+(intBits .and .i64 a80.Us 65535)))).bind fun r179 =>
some (r174 != r179))).bind fun b184 =>
(bif b184 then (some true) else ((z9 r130 x8).bind fun r188 =>
(z9 r156.2.2 x8).bind fun r193 =>
some (!(r188==r193)))).bind fun b198 =>
(bif b198 then (some true) else ((za r130 x8).bind fun r202 =>
(za r156.2.2 x8).bind fun r207 =>
some (!(r202==r207)))).bind fun b212 =>
bif b212 then (
kE1 false)
else (
zl k kE0 kE1 x0 x5 x8 (IntKind.wrap .i64 (x9+(intBits .and .i64 a80.Us 65535))) (IntKind.wrap .i64 (x10+1)) r130 r156.2.2))
else (
(zc r130 x8 (IntKind.wrap .i64 (x9+(intBits .and .i64 a80.Us 65535)))).bind fun r217 =>
(zc r143 x8 (IntKind.wrap .i64 (x9+(intBits .and .i64 a80.Us 65535)))).bind fun r222 =>
(bif !(r217==r222) then (some true) else ((z8 k r130 x8 (IntKind.wrap .i64 (x9+(intBits .and .i64 a80.Us 65535)))).bind fun r227 =>
(z8 k r143 x8 (IntKind.wrap .i64 (x9+(intBits .and .i64 a80.Us 65535)))).bind fun r232 =>
some (r227 != r232))).bind fun b237 =>
(bif b237 then (some true) else ((z9 r130 x8).bind fun r241 =>
(z9 r143 x8).bind fun r246 =>
some (!(r241==r246)))).bind fun b251 =>
(bif b251 then (some true) else ((za r130 x8).bind fun r255 =>
(za r143 x8).bind fun r260 =>
some (!(r255==r260)))).bind fun b265 =>
bif b265 then (
kE1 false)
else (
zl k kE0 kE1 x0 x5 x8 (IntKind.wrap .i64 (x9+(intBits .and .i64 a80.Us 65535))) (IntKind.wrap .i64 (x10+1)) r130 r143)))
else (
(bif r92==x8 then (some (decide (a80.Kind≤4))) else (some false)).bind fun b270 =>
bif b270 then (
(zr k yg55 r92 r109.1 ((r102.length:Int)) (IntKind.wrap .i64 (x9+(intBits .and .i64 a80.Us 65535)))).bind fun r275 =>
(zc r130 x8 (IntKind.wrap .i64 (x9+(intBits .and .i64 a80.Us 65535)))).bind fun r283 =>
(zc r275.2.2 x8 (IntKind.wrap .i64 (x9+(intBits .and .i64 a80.Us 65535)))).bind fun r288 =>
(bif !(r283==r288) then (some true) else ((z8 k r130 x8 (IntKind.wrap .i64 (x9+(intBits .and .i64 a80.Us 65535)))).bind fun r293 =>
(z8 k r275.2.2 x8 (IntKind.wrap .i64 (x9+(intBits .and .i64 a80.Us 65535)))).bind fun r298 =>
some (r293 != r298))).bind fun b303 =>
(bif b303 then (some true) else ((z9 r130 x8).bind fun r307 =>
(z9 r275.2.2 x8).bind fun r312 =>
some (!(r307==r312)))).bind fun b317 =>
(bif b317 then (some true) else ((za r130 x8).bind fun r321 =>
(za r275.2.2 x8).bind fun r326 =>
some (!(r321==r326)))).bind fun b331 =>
bif b331 then (
kE1 false)
else (
zl k kE0 kE1 x0 x5 x8 (IntKind.wrap .i64 (x9+(intBits .and .i64 a80.Us 65535))) (IntKind.wrap .i64 (x10+1)) r130 r275.2.2))
else (
(zc r130 x8 (IntKind.wrap .i64 (x9+(intBits .and .i64 a80.Us 65535)))).bind fun r336 =>
(zc yg55 x8 (IntKind.wrap .i64 (x9+(intBits .and .i64 a80.Us 65535)))).bind fun r341 =>
(bif !(r336==r341) then (some true) else ((z8 k r130 x8 (IntKind.wrap .i64 (x9+(intBits .and .i64 a80.Us 65535)))).bind fun r346 =>
(z8 k yg55 x8 (IntKind.wrap .i64 (x9+(intBits .and .i64 a80.Us 65535)))).bind fun r351 =>
some (r346 != r351))).bind fun b356 =>
(bif b356 then (some true) else ((z9 r130 x8).bind fun r360 =>
(z9 yg55 x8).bind fun r365 =>
some (!(r360==r365)))).bind fun b370 =>
(bif b370 then (some true) else ((za r130 x8).bind fun r374 =>
(za yg55 x8).bind fun r379 =>
some (!(r374==r379)))).bind fun b384 =>
bif b384 then (
kE1 false)
else (
zl k kE0 kE1 x0 x5 x8 (IntKind.wrap .i64 (x9+(intBits .and .i64 a80.Us 65535))) (IntKind.wrap .i64 (x10+1)) r130 yg55))))
else (
(zr k yg37 r92 r109.1 ((r102.length:Int)) (IntKind.wrap .i64 (x9+(intBits .and .i64 a80.Us 65535)))).bind fun r389 =>
(bif r92==x8 then (some (decide (a80.Kind>4))) else (some false)).bind fun b397 =>
bif b397 then (
(zz k yg55 r92 ((intBits .and .i64 a80.Kind 1)==1) (IntKind.wrap .i64 (x9+(intBits .and .i64 a80.Us 65535)))).bind fun r402 =>
(bif r92==x8 then (some (decide (a80.Kind≤4))) else (some false)).bind fun b410 =>
bif b410 then (
(zr k r402 r92 r109.1 ((r102.length:Int)) (IntKind.wrap .i64 (x9+(intBits .and .i64 a80.Us 65535)))).bind fun r415 =>
(zc r389.2.2 x8 (IntKind.wrap .i64 (x9+(intBits .and .i64 a80.Us 65535)))).bind fun r423 =>
(zc r415.2.2 x8 (IntKind.wrap .i64 (x9+(intBits .and .i64 a80.Us 65535)))).bind fun r428 =>
(bif !(r423==r428) then (some true) else ((z8 k r389.2.2 x8 (IntKind.wrap .i64 (x9+(intBits .and .i64 a80.Us 65535)))).bind fun r433 =>
(z8 k r415.2.2 x8 (IntKind.wrap .i64 (x9+(intBits .and .i64 a80.Us 65535)))).bind fun r438 =>
some (r433 != r438))).bind fun b443 =>
(bif b443 then (some true) else ((z9 r389.2.2 x8).bind fun r447 =>
(z9 r415.2.2 x8).bind fun r452 =>
some (!(r447==r452)))).bind fun b457 =>
(bif b457 then (some true) else ((za r389.2.2 x8).bind fun r461 =>
(za r415.2.2 x8).bind fun r466 =>
some (!(r461==r466)))).bind fun b471 =>
bif b471 then (
kE1 false)
else (
zl k kE0 kE1 x0 x5 x8 (IntKind.wrap .i64 (x9+(intBits .and .i64 a80.Us 65535))) (IntKind.wrap .i64 (x10+1)) r389.2.2 r415.2.2))
else (
(zc r389.2.2 x8 (IntKind.wrap .i64 (x9+(intBits .and .i64 a80.Us 65535)))).bind fun r476 =>
(zc r402 x8 (IntKind.wrap .i64 (x9+(intBits .and .i64 a80.Us 65535)))).bind fun r481 =>
(bif !(r476==r481) then (some true) else ((z8 k r389.2.2 x8 (IntKind.wrap .i64 (x9+(intBits .and .i64 a80.Us 65535)))).bind fun r486 =>
(z8 k r402 x8 (IntKind.wrap .i64 (x9+(intBits .and .i64 a80.Us 65535)))).bind fun r491 =>
some (r486 != r491))).bind fun b496 =>
(bif b496 then (some true) else ((z9 r389.2.2 x8).bind fun r500 =>
(z9 r402 x8).bind fun r505 =>
some (!(r500==r505)))).bind fun b510 =>
(bif b510 then (some true) else ((za r389.2.2 x8).bind fun r514 =>
(za r402 x8).bind fun r519 =>
some (!(r514==r519)))).bind fun b524 =>
bif b524 then (
kE1 false)
else (
zl k kE0 kE1 x0 x5 x8 (IntKind.wrap .i64 (x9+(intBits .and .i64 a80.Us 65535))) (IntKind.wrap .i64 (x10+1)) r389.2.2 r402)))
else (
(bif r92==x8 then (some (decide (a80.Kind≤4))) else (some false)).bind fun b529 =>
bif b529 then (
(zr k yg55 r92 r109.1 ((r102.length:Int)) (IntKind.wrap .i64 (x9+(intBits .and .i64 a80.Us 65535)))).bind fun r534 =>
(zc r389.2.2 x8 (IntKind.wrap .i64 (x9+(intBits .and .i64 a80.Us 65535)))).bind fun r542 =>
(zc r534.2.2 x8 (IntKind.wrap .i64 (x9+(intBits .and .i64 a80.Us 65535)))).bind fun r547 =>
(bif !(r542==r547) then (some true) else ((z8 k r389.2.2 x8 (IntKind.wrap .i64 (x9+(intBits .and .i64 a80.Us 65535)))).bind fun r552 =>
(z8 k r534.2.2 x8 (IntKind.wrap .i64 (x9+(intBits .and .i64 a80.Us 65535)))).bind fun r557 =>
some (r552 != r557))).bind fun b562 =>
(bif b562 then (some true) else ((z9 r389.2.2 x8).bind fun r566 =>
(z9 r534.2.2 x8).bind fun r571 =>
some (!(r566==r571)))).bind fun b576 =>
(bif b576 then (some true) else ((za r389.2.2 x8).bind fun r580 =>
(za r534.2.2 x8).bind fun r585 =>
some (!(r580==r585)))).bind fun b590 =>
bif b590 then (
kE1 false)
else (
zl k kE0 kE1 x0 x5 x8 (IntKind.wrap .i64 (x9+(intBits .and .i64 a80.Us 65535))) (IntKind.wrap .i64 (x10+1)) r389.2.2 r534.2.2))
else (
(zc r389.2.2 x8 (IntKind.wrap .i64 (x9+(intBits .and .i64 a80.Us 65535)))).bind fun r595 =>
(zc yg55 x8 (IntKind.wrap .i64 (x9+(intBits .and .i64 a80.Us 65535)))).bind fun r600 =>
(bif !(r595==r600) then (some true) else ((z8 k r389.2.2 x8 (IntKind.wrap .i64 (x9+(intBits .and .i64 a80.Us 65535)))).bind fun r605 =>
(z8 k yg55 x8 (IntKind.wrap .i64 (x9+(intBits .and .i64 a80.Us 65535)))).bind fun r610 =>
some (r605 != r610))).bind fun b615 =>
(bif b615 then (some true) else ((z9 r389.2.2 x8).bind fun r619 =>
(z9 yg55 x8).bind fun r624 =>
some (!(r619==r624)))).bind fun b629 =>
(bif b629 then (some true) else ((za r389.2.2 x8).bind fun r633 =>
(za yg55 x8).bind fun r638 =>
some (!(r633==r638)))).bind fun b643 =>
bif b643 then (
kE1 false)
else (
zl k kE0 kE1 x0 x5 x8 (IntKind.wrap .i64 (x9+(intBits .and .i64 a80.Us 65535))) (IntKind.wrap .i64 (x10+1)) r389.2.2 yg55)))))
else (
kE0 ())
def z3i (k:Nat) (x0:(List z2w)) (x1:Int):Option (Bool) :=
(z2b k ([((⟨((⟨#[97]⟩:ByteArray)),1,10⟩:z5)),((⟨((⟨#[98]⟩:ByteArray)),2,20⟩:z5)),((⟨((⟨#[99]⟩:ByteArray)),3,30⟩:z5))])).bind fun r2 =>
(match r2 with
| none=>(
(z2b k ([((⟨((⟨#[97]⟩:ByteArray)),1,10⟩:z5)),((⟨((⟨#[98]⟩:ByteArray)),2,20⟩:z5)),((⟨((⟨#[99]⟩:ByteArray)),3,30⟩:z5))])).bind fun r11 =>
(match r11 with
| none=>(
(z2d x1 0 2).bind fun r20 =>
some (false))
| some r16=>(
(z2d x1 0 2).bind fun r29 =>
some (false))))
| some r7=>(
(z2b k ([((⟨((⟨#[97]⟩:ByteArray)),1,10⟩:z5)),((⟨((⟨#[98]⟩:ByteArray)),2,20⟩:z5)),((⟨((⟨#[99]⟩:ByteArray)),3,30⟩:z5))])).bind fun r38 =>
(match r38 with
| none=>(
(z2d x1 0 2).bind fun r47 =>
some (false))
| some r43=>(
(z2d x1 0 2).bind fun r56 =>
zl k (fun (_:Unit) =>
(z5z k).bind fun r655 =>
some (r655)) (fun r660_4 =>
some (r660_4)) x0 ([((⟨((⟨#[97]⟩:ByteArray)),1,10⟩:z5)),((⟨((⟨#[98]⟩:ByteArray)),2,20⟩:z5)),((⟨((⟨#[99]⟩:ByteArray)),3,30⟩:z5))]) r56 0 0 r7 r43))))
theorem z9a {h:H}  {kE0:Unit→Option β} {kE1:Bool→Option β} (hE0:∀ (_u:Unit) (H648:Go.Ev.H) (_:Fm 160 h [] [] [] H648),Sim (kE0 ()) (K ((.exit 0),(envL []),H648)) Q) (hE1:∀ (q4:Bool) (H650:Go.Ev.H) (_:Fm 160 h [] [] [] H650),Sim (kE1 q4) (K (.ret,(envL [(4,(.p (.bool q4)))]),H650)) Q) (k:Nat):∀ (x0:(List z2w)) (x5:(List z5)) (x8:Int) (x9:Int) (x10:Int) (yg37:z6) (yg55:z6) (v63:V) (h64:SlH h z3c x0 v63) (v65:V) (h66:SlF zb x5 v65) (c67:C) (h68:RsC zd yg37.l c67) (s69:Stamp) (c71:C) (h72:RsC zd yg55.l c71) (s73:Stamp) (H61:Go.Ev.H) (_:Fm 160 h [] [(21,s69,[c67]),(23,s73,[c71])] [] H61) {σ:Stamp},Sim (zl k kE0 kE1 x0 x5 x8 x9 x10 yg37 yg55) ((cvL G X0 z15 z16 σ (envL [(0,v63),(5,v65),(6,(.ref ⟨h.length,21,0,s69,[]⟩ 0)),(7,(.ref ⟨h.length,23,0,s73,[]⟩ 0)),(8,(.p (.int .i64 x8))),(9,(.p (.int .i64 x9))),(10,(.p (.int .i64 x10)))]) H61).bind K) Q:=by
 induction k with
 | zero=>intros;exact .no
 | succ k ih =>
  intro x0 x5 x8 x9 x10 yg37 yg55 v63 h64 v65 h66 c67 h68 s69 c71 h72 s73 H61 S62 σ
  rw [zl]
  refine .round (Sim.ext (zb0 _ _ _ _ _ _ _ _ _ _ _) ?_)
  refine .op ((S62.low h64).len) ?_
  refine .ci ?_
  refine .ch (P:=fun r y=>r=y) ?_ (fun b75 y76 h77 h78=>?_)
  ·refine .cq ?_ ?_
   ·exact .ret rfl rfl
   ·exact .ret rfl rfl
  subst h78
  refine .cq ?_ ?_
  ·refine .bd fun a80 h81=>?_
   refine .op ((S62.low h64).iS h81 rfl) ?_
   obtain ⟨w83,h84,hE82⟩:=(S62.low h64).el h81 rfl
   obtain rfl:=z3c.inv h84
   refine .op (hE82.all (by simp)) ?_
   obtain ⟨H85,e86,S87⟩:=S62.al (d:=11) (s:=(4::0::0::1::0::σ)) (z:=[(.p (.int .i64 0)),(.p (.int .i64 0)),(.p (.int .i64 0)),(.p (.int .u16 0)),(.p (.bool false)),(.p (.int .i64 0))]) (by decide) rfl
   refine .op (congrArg some e86) ?_
   obtain ⟨H89,e90,S91⟩:=S87.stGv (i:=0) (j:=0) (own:=false) (σ:=(5::0::0::1::0::σ)) (xs:=[.p (.int .i64 a80.Kind),.p (.int .i64 a80.I),.p (.int .i64 a80.Size),.p (.int .u16 a80.Seq),.p (.bool a80.Key),.p (.int .i64 a80.Us)]) rfl rfl (sC (sI _ _) (sC (sI _ _) (sC (sI _ _) (sC (sI _ _) (sC (sB _) (sC (sI _ _) sN)))))) rfl rfl
   refine .op (sM e90) ?_
   refine .fa ?_
   refine .op ((S91.atG (i:=0) rfl).ld (j:=1) rfl) ?_
   refine .ci ?_
   refine .call (z4v a80.I 0 2) fun r92 cs93 H94 h95 q96=>?_
   cases q96
   refine .ci ?_
   refine .fa ?_
   refine .op ((S91.atG (i:=0) rfl).ld (j:=5) rfl) ?_
   refine .ci ?_
   refine .bd fun a97 h98=>?_
   refine .op ((h66.h H89).iS h98 rfl) ?_
   obtain ⟨w100,h101,hE99⟩:=(h66.h H89).el h98 rfl
   obtain rfl:=zb.inv h101
   refine .op (hE99.all (by simp)) ?_
   refine .fa ?_
   refine .op ((S91.atG (i:=0) rfl).ld (j:=3) rfl) ?_
   refine .ci ?_
   refine .fa ?_
   refine .op ((S91.atG (i:=0) rfl).ld (j:=4) rfl) ?_
   refine .ab ?_
   refine .fa ?_
   refine .op ((S91.atG (i:=0) rfl).ld (j:=2) rfl) ?_
   refine .ci ?_
   refine .call (zaz k a97 (show zb.R a97 [.p (.string a97.Rid),.p (.int .u32 a97.Ssrc),.p (.int .i64 a97.Height)] from (zb.mk)) a80.Seq 7 a80.Key (IntKind.wrap .i64 (1+(intBits .and .i64 a80.Size 255)))) fun r102 cs103 H104 h105 q106=>?_
   obtain ⟨v107,h108,q106⟩:=q106
   cases q106
   refine .call (zc1 k r102 (h108.h H89)) fun r109 cs110 H111 h112 q113=>?_
   obtain ⟨w114,h115,q113⟩:=q113
   cases q113
   obtain ⟨v116,v118,v120,rfl,h117,h119,h121⟩:=z7.inv h115
   refine .or ?_
   refine .or ?_
   refine .ci ?_
   obtain ⟨H122,e123,S124⟩:=S91.al (d:=14) (s:=(5::0::1::1::1::1::0::1::0::σ)) (z:=[(.p (.bool false)),(.p (.int .i64 0)),(.p (.int .u16 0)),(.p (.int .u32 0)),(.p (.int .u32 0)),(.p (.slice none 0 0)),(.p (.int .u16 0)),(.p (.slice none 0 0)),(.p (.slice none 0 0))]) (by decide) rfl
   refine .op (congrArg some e123) ?_
   obtain ⟨H126,e127,S128⟩:=S124.stGv (i:=0) (j:=0) (own:=true) (σ:=(6::0::1::1::1::1::0::1::0::σ)) (xs:=[(.p (.bool r109.1.Marker)),(.p (.int .i64 r109.1.f_Type)),(.p (.int .u16 r109.1.Seq)),(.p (.int .u32 r109.1.Time)),(.p (.int .u32 r109.1.Ssrc)),v116,(.p (.int .u16 r109.1.Profile)),v118,v120]) rfl rfl (sC (sB _) (sC (sI _ _) (sC (sI _ _) (sC (sI _ _) (sC (sI _ _) (sC h117.still (sC (sI _ _) (sC h119.still (sC h121.still sN))))))))) rfl rfl
   refine .op (sM e127) ?_
   refine .fa ?_
   refine .op ((S128.atG (i:=1) rfl).ld (j:=0) rfl) ?_
   refine .ci ?_
   refine .cq ?_ ?_
   ·refine .fa ?_
    refine .op ((S128.atG (i:=1) rfl).ld (j:=0) rfl) ?_
    refine .ci ?_
    refine .call (z20 k yg37 h68 (S128.atG (i:=2) rfl) r92 ((intBits .and .i64 a80.Kind 1)==1) (IntKind.wrap .i64 (x9+(intBits .and .i64 a80.Us 65535)))) fun r130 cs131 H132 h133 q134=>?_
    obtain ⟨c135,h136,q134⟩:=q134
    cases q134
    have S137:=S128.setG (i:=2) (cs':=[c135]) rfl rfl rfl
    refine .ch (P:=fun r y=>r=y) ?_ (fun b138 y139 h140 h141=>?_)
    ·refine .cq ?_ ?_
     ·refine .fa ?_
      refine .op ((S137.atG (i:=1) rfl).ld (j:=0) rfl) ?_
      refine .ci ?_
      exact .ret rfl rfl
     ·exact .ret rfl rfl
    subst h141
    refine .cq ?_ ?_
    ·refine .fa ?_
     refine .op ((S137.atG (i:=1) rfl).ld (j:=0) rfl) ?_
     refine .ci ?_
     refine .call (z20 k yg55 h72 (S137.atG (i:=3) rfl) r92 ((intBits .and .i64 a80.Kind 1)==1) (IntKind.wrap .i64 (x9+(intBits .and .i64 a80.Us 65535)))) fun r143 cs144 H145 h146 q147=>?_
     obtain ⟨c148,h149,q147⟩:=q147
     cases q147
     have S150:=S137.setG (i:=3) (cs':=[c148]) rfl rfl rfl
     refine .ch (P:=fun r y=>r=y) ?_ (fun b151 y152 h153 h154=>?_)
     ·refine .cq ?_ ?_
      ·refine .fa ?_
       refine .op ((S150.atG (i:=1) rfl).ld (j:=0) rfl) ?_
       refine .ci ?_
       exact .ret rfl rfl
      ·exact .ret rfl rfl
     subst h154
     refine .cq ?_ ?_
     ·refine .op ((S150.atG (i:=0) rfl).ldVs (j:=0) (xs:=[(.p (.bool r109.1.Marker)),(.p (.int .i64 r109.1.f_Type)),(.p (.int .u16 r109.1.Seq)),(.p (.int .u32 r109.1.Time)),(.p (.int .u32 r109.1.Ssrc)),v116,(.p (.int .u16 r109.1.Profile)),v118,v120]) rfl rfl (by decide)) ?_
      refine .op ((h108.h (ptC (ptC H126 ⟨h.length,21,0,s69,[]⟩ 0 ([c135])) ⟨h.length,23,0,s73,[]⟩ 0 ([c148]))).len) ?_
      refine .ci ?_
      refine .call (z1i k r143 h149 (S150.atG (i:=3) rfl) r92 r109.1 h115 ((r102.length:Int)) (IntKind.wrap .i64 (x9+(intBits .and .i64 a80.Us 65535)))) fun r156 cs157 H158 h159 q160=>?_
      obtain ⟨c161,h162,q160⟩:=q160
      cases q160
      have S163:=S150.setG (i:=3) (cs':=[c161]) rfl rfl rfl
      refine .call (zh r130 h136 (S163.atG (i:=2) rfl) x8 (IntKind.wrap .i64 (x9+(intBits .and .i64 a80.Us 65535)))) fun r164 cs165 H166 h167 q168=>?_
      cases q168
      refine .ab ?_
      refine .call (zh r156.2.2 h162 (S163.atG (i:=3) rfl) x8 (IntKind.wrap .i64 (x9+(intBits .and .i64 a80.Us 65535)))) fun r169 cs170 H171 h172 q173=>?_
      cases q173
      refine .ab ?_
      refine .ch (P:=fun r y=>(.p (.bool r),(ptC (ptC (ptC H126 ⟨h.length,21,0,s69,[]⟩ 0 ([c135])) ⟨h.length,23,0,s73,[]⟩ 0 ([c148])) ⟨h.length,23,0,s73,[]⟩ 0 ([c161])))=y) ?_ (fun b184 y185 h186 h187=>?_)
      ·refine .cq ?_ ?_
       ·exact .ret rfl rfl
       ·refine .call (ze k r130 h136 (S163.atG (i:=2) rfl) x8 (IntKind.wrap .i64 (x9+(intBits .and .i64 a80.Us 65535)))) fun r174 cs175 H176 h177 q178=>?_
        cases q178
        refine .ci ?_
        refine .call (ze k r156.2.2 h162 (S163.atG (i:=3) rfl) x8 (IntKind.wrap .i64 (x9+(intBits .and .i64 a80.Us 65535)))) fun r179 cs180 H181 h182 q183=>?_
        cases q183
        refine .ci ?_
        exact .ret rfl rfl
      subst h187
      refine .ab ?_
      refine .ch (P:=fun r y=>(.p (.bool r),(ptC (ptC (ptC H126 ⟨h.length,21,0,s69,[]⟩ 0 ([c135])) ⟨h.length,23,0,s73,[]⟩ 0 ([c148])) ⟨h.length,23,0,s73,[]⟩ 0 ([c161])))=y) ?_ (fun b198 y199 h200 h201=>?_)
      ·refine .cq ?_ ?_
       ·exact .ret rfl rfl
       ·refine .call (zf r130 h136 (S163.atG (i:=2) rfl) x8) fun r188 cs189 H190 h191 q192=>?_
        cases q192
        refine .ab ?_
        refine .call (zf r156.2.2 h162 (S163.atG (i:=3) rfl) x8) fun r193 cs194 H195 h196 q197=>?_
        cases q197
        refine .ab ?_
        exact .ret rfl rfl
      subst h201
      refine .ab ?_
      refine .ch (P:=fun r y=>(.p (.bool r),(ptC (ptC (ptC H126 ⟨h.length,21,0,s69,[]⟩ 0 ([c135])) ⟨h.length,23,0,s73,[]⟩ 0 ([c148])) ⟨h.length,23,0,s73,[]⟩ 0 ([c161])))=y) ?_ (fun b212 y213 h214 h215=>?_)
      ·refine .cq ?_ ?_
       ·exact .ret rfl rfl
       ·refine .call (zi r130 h136 (S163.atG (i:=2) rfl) x8) fun r202 cs203 H204 h205 q206=>?_
        cases q206
        refine .ab ?_
        refine .call (zi r156.2.2 h162 (S163.atG (i:=3) rfl) x8) fun r207 cs208 H209 h210 q211=>?_
        cases q211
        refine .ab ?_
        exact .ret rfl rfl
      subst h215
      refine .ab ?_
      refine .cq ?_ ?_
      ·exact hE1 false (ptC (ptC (ptC H126 ⟨h.length,21,0,s69,[]⟩ 0 ([c135])) ⟨h.length,23,0,s73,[]⟩ 0 ([c148])) ⟨h.length,23,0,s73,[]⟩ 0 ([c161])) (S163.wk2 aN aN)
      exact ih x0 x5 x8 (IntKind.wrap .i64 (x9+(intBits .and .i64 a80.Us 65535))) (IntKind.wrap .i64 (x10+1)) r130 r156.2.2 v63 h64 v65 h66 c135 h136 s69 c161 h162 s73 (ptC (ptC (ptC H126 ⟨h.length,21,0,s69,[]⟩ 0 ([c135])) ⟨h.length,23,0,s73,[]⟩ 0 ([c148])) ⟨h.length,23,0,s73,[]⟩ 0 ([c161])) (S163.wk2 (aC (aM 2 rfl) (aC (aM 3 rfl) aN)) aN)
     refine .call (zh r130 h136 (S150.atG (i:=2) rfl) x8 (IntKind.wrap .i64 (x9+(intBits .and .i64 a80.Us 65535)))) fun r217 cs218 H219 h220 q221=>?_
     cases q221
     refine .ab ?_
     refine .call (zh r143 h149 (S150.atG (i:=3) rfl) x8 (IntKind.wrap .i64 (x9+(intBits .and .i64 a80.Us 65535)))) fun r222 cs223 H224 h225 q226=>?_
     cases q226
     refine .ab ?_
     refine .ch (P:=fun r y=>(.p (.bool r),(ptC (ptC H126 ⟨h.length,21,0,s69,[]⟩ 0 ([c135])) ⟨h.length,23,0,s73,[]⟩ 0 ([c148])))=y) ?_ (fun b237 y238 h239 h240=>?_)
     ·refine .cq ?_ ?_
      ·exact .ret rfl rfl
      ·refine .call (ze k r130 h136 (S150.atG (i:=2) rfl) x8 (IntKind.wrap .i64 (x9+(intBits .and .i64 a80.Us 65535)))) fun r227 cs228 H229 h230 q231=>?_
       cases q231
       refine .ci ?_
       refine .call (ze k r143 h149 (S150.atG (i:=3) rfl) x8 (IntKind.wrap .i64 (x9+(intBits .and .i64 a80.Us 65535)))) fun r232 cs233 H234 h235 q236=>?_
       cases q236
       refine .ci ?_
       exact .ret rfl rfl
     subst h240
     refine .ab ?_
     refine .ch (P:=fun r y=>(.p (.bool r),(ptC (ptC H126 ⟨h.length,21,0,s69,[]⟩ 0 ([c135])) ⟨h.length,23,0,s73,[]⟩ 0 ([c148])))=y) ?_ (fun b251 y252 h253 h254=>?_)
     ·refine .cq ?_ ?_
      ·exact .ret rfl rfl
      ·refine .call (zf r130 h136 (S150.atG (i:=2) rfl) x8) fun r241 cs242 H243 h244 q245=>?_
       cases q245
       refine .ab ?_
       refine .call (zf r143 h149 (S150.atG (i:=3) rfl) x8) fun r246 cs247 H248 h249 q250=>?_
       cases q250
       refine .ab ?_
       exact .ret rfl rfl
     subst h254
     refine .ab ?_
     refine .ch (P:=fun r y=>(.p (.bool r),(ptC (ptC H126 ⟨h.length,21,0,s69,[]⟩ 0 ([c135])) ⟨h.length,23,0,s73,[]⟩ 0 ([c148])))=y) ?_ (fun b265 y266 h267 h268=>?_)
     ·refine .cq ?_ ?_
      ·exact .ret rfl rfl
      ·refine .call (zi r130 h136 (S150.atG (i:=2) rfl) x8) fun r255 cs256 H257 h258 q259=>?_
       cases q259
       refine .ab ?_
       refine .call (zi r143 h149 (S150.atG (i:=3) rfl) x8) fun r260 cs261 H262 h263 q264=>?_
       cases q264
       refine .ab ?_
       exact .ret rfl rfl
     subst h268
     refine .ab ?_
     refine .cq ?_ ?_
     ·exact hE1 false (ptC (ptC H126 ⟨h.length,21,0,s69,[]⟩ 0 ([c135])) ⟨h.length,23,0,s73,[]⟩ 0 ([c148])) (S150.wk2 aN aN)
     exact ih x0 x5 x8 (IntKind.wrap .i64 (x9+(intBits .and .i64 a80.Us 65535))) (IntKind.wrap .i64 (x10+1)) r130 r143 v63 h64 v65 h66 c135 h136 s69 c148 h149 s73 (ptC (ptC H126 ⟨h.length,21,0,s69,[]⟩ 0 ([c135])) ⟨h.length,23,0,s73,[]⟩ 0 ([c148])) (S150.wk2 (aC (aM 2 rfl) (aC (aM 3 rfl) aN)) aN)
    refine .ch (P:=fun r y=>r=y) ?_ (fun b270 y271 h272 h273=>?_)
    ·refine .cq ?_ ?_
     ·refine .fa ?_
      refine .op ((S137.atG (i:=1) rfl).ld (j:=0) rfl) ?_
      refine .ci ?_
      exact .ret rfl rfl
     ·exact .ret rfl rfl
    subst h273
    refine .cq ?_ ?_
    ·refine .op ((S137.atG (i:=0) rfl).ldVs (j:=0) (xs:=[(.p (.bool r109.1.Marker)),(.p (.int .i64 r109.1.f_Type)),(.p (.int .u16 r109.1.Seq)),(.p (.int .u32 r109.1.Time)),(.p (.int .u32 r109.1.Ssrc)),v116,(.p (.int .u16 r109.1.Profile)),v118,v120]) rfl rfl (by decide)) ?_
     refine .op ((h108.h (ptC H126 ⟨h.length,21,0,s69,[]⟩ 0 ([c135]))).len) ?_
     refine .ci ?_
     refine .call (z1i k yg55 h72 (S137.atG (i:=3) rfl) r92 r109.1 h115 ((r102.length:Int)) (IntKind.wrap .i64 (x9+(intBits .and .i64 a80.Us 65535)))) fun r275 cs276 H277 h278 q279=>?_
     obtain ⟨c280,h281,q279⟩:=q279
     cases q279
     have S282:=S137.setG (i:=3) (cs':=[c280]) rfl rfl rfl
     refine .call (zh r130 h136 (S282.atG (i:=2) rfl) x8 (IntKind.wrap .i64 (x9+(intBits .and .i64 a80.Us 65535)))) fun r283 cs284 H285 h286 q287=>?_
     cases q287
     refine .ab ?_
     refine .call (zh r275.2.2 h281 (S282.atG (i:=3) rfl) x8 (IntKind.wrap .i64 (x9+(intBits .and .i64 a80.Us 65535)))) fun r288 cs289 H290 h291 q292=>?_
     cases q292
     refine .ab ?_
     refine .ch (P:=fun r y=>(.p (.bool r),(ptC (ptC H126 ⟨h.length,21,0,s69,[]⟩ 0 ([c135])) ⟨h.length,23,0,s73,[]⟩ 0 ([c280])))=y) ?_ (fun b303 y304 h305 h306=>?_)
     ·refine .cq ?_ ?_
      ·exact .ret rfl rfl
      ·refine .call (ze k r130 h136 (S282.atG (i:=2) rfl) x8 (IntKind.wrap .i64 (x9+(intBits .and .i64 a80.Us 65535)))) fun r293 cs294 H295 h296 q297=>?_
       cases q297
       refine .ci ?_
       refine .call (ze k r275.2.2 h281 (S282.atG (i:=3) rfl) x8 (IntKind.wrap .i64 (x9+(intBits .and .i64 a80.Us 65535)))) fun r298 cs299 H300 h301 q302=>?_
       cases q302
       refine .ci ?_
       exact .ret rfl rfl
     subst h306
     refine .ab ?_
     refine .ch (P:=fun r y=>(.p (.bool r),(ptC (ptC H126 ⟨h.length,21,0,s69,[]⟩ 0 ([c135])) ⟨h.length,23,0,s73,[]⟩ 0 ([c280])))=y) ?_ (fun b317 y318 h319 h320=>?_)
     ·refine .cq ?_ ?_
      ·exact .ret rfl rfl
      ·refine .call (zf r130 h136 (S282.atG (i:=2) rfl) x8) fun r307 cs308 H309 h310 q311=>?_
       cases q311
       refine .ab ?_
       refine .call (zf r275.2.2 h281 (S282.atG (i:=3) rfl) x8) fun r312 cs313 H314 h315 q316=>?_
       cases q316
       refine .ab ?_
       exact .ret rfl rfl
     subst h320
     refine .ab ?_
     refine .ch (P:=fun r y=>(.p (.bool r),(ptC (ptC H126 ⟨h.length,21,0,s69,[]⟩ 0 ([c135])) ⟨h.length,23,0,s73,[]⟩ 0 ([c280])))=y) ?_ (fun b331 y332 h333 h334=>?_)
     ·refine .cq ?_ ?_
      ·exact .ret rfl rfl
      ·refine .call (zi r130 h136 (S282.atG (i:=2) rfl) x8) fun r321 cs322 H323 h324 q325=>?_
       cases q325
       refine .ab ?_
       refine .call (zi r275.2.2 h281 (S282.atG (i:=3) rfl) x8) fun r326 cs327 H328 h329 q330=>?_
       cases q330
       refine .ab ?_
       exact .ret rfl rfl
     subst h334
     refine .ab ?_
     refine .cq ?_ ?_
     ·exact hE1 false (ptC (ptC H126 ⟨h.length,21,0,s69,[]⟩ 0 ([c135])) ⟨h.length,23,0,s73,[]⟩ 0 ([c280])) (S282.wk2 aN aN)
     exact ih x0 x5 x8 (IntKind.wrap .i64 (x9+(intBits .and .i64 a80.Us 65535))) (IntKind.wrap .i64 (x10+1)) r130 r275.2.2 v63 h64 v65 h66 c135 h136 s69 c280 h281 s73 (ptC (ptC H126 ⟨h.length,21,0,s69,[]⟩ 0 ([c135])) ⟨h.length,23,0,s73,[]⟩ 0 ([c280])) (S282.wk2 (aC (aM 2 rfl) (aC (aM 3 rfl) aN)) aN)
    refine .call (zh r130 h136 (S137.atG (i:=2) rfl) x8 (IntKind.wrap .i64 (x9+(intBits .and .i64 a80.Us 65535)))) fun r336 cs337 H338 h339 q340=>?_
    cases q340
    refine .ab ?_
    refine .call (zh yg55 h72 (S137.atG (i:=3) rfl) x8 (IntKind.wrap .i64 (x9+(intBits .and .i64 a80.Us 65535)))) fun r341 cs342 H343 h344 q345=>?_
    cases q345
    refine .ab ?_
    refine .ch (P:=fun r y=>(.p (.bool r),(ptC H126 ⟨h.length,21,0,s69,[]⟩ 0 ([c135])))=y) ?_ (fun b356 y357 h358 h359=>?_)
    ·refine .cq ?_ ?_
     ·exact .ret rfl rfl
     ·refine .call (ze k r130 h136 (S137.atG (i:=2) rfl) x8 (IntKind.wrap .i64 (x9+(intBits .and .i64 a80.Us 65535)))) fun r346 cs347 H348 h349 q350=>?_
      cases q350
      refine .ci ?_
      refine .call (ze k yg55 h72 (S137.atG (i:=3) rfl) x8 (IntKind.wrap .i64 (x9+(intBits .and .i64 a80.Us 65535)))) fun r351 cs352 H353 h354 q355=>?_
      cases q355
      refine .ci ?_
      exact .ret rfl rfl
    subst h359
    refine .ab ?_
    refine .ch (P:=fun r y=>(.p (.bool r),(ptC H126 ⟨h.length,21,0,s69,[]⟩ 0 ([c135])))=y) ?_ (fun b370 y371 h372 h373=>?_)
    ·refine .cq ?_ ?_
     ·exact .ret rfl rfl
     ·refine .call (zf r130 h136 (S137.atG (i:=2) rfl) x8) fun r360 cs361 H362 h363 q364=>?_
      cases q364
      refine .ab ?_
      refine .call (zf yg55 h72 (S137.atG (i:=3) rfl) x8) fun r365 cs366 H367 h368 q369=>?_
      cases q369
      refine .ab ?_
      exact .ret rfl rfl
    subst h373
    refine .ab ?_
    refine .ch (P:=fun r y=>(.p (.bool r),(ptC H126 ⟨h.length,21,0,s69,[]⟩ 0 ([c135])))=y) ?_ (fun b384 y385 h386 h387=>?_)
    ·refine .cq ?_ ?_
     ·exact .ret rfl rfl
     ·refine .call (zi r130 h136 (S137.atG (i:=2) rfl) x8) fun r374 cs375 H376 h377 q378=>?_
      cases q378
      refine .ab ?_
      refine .call (zi yg55 h72 (S137.atG (i:=3) rfl) x8) fun r379 cs380 H381 h382 q383=>?_
      cases q383
      refine .ab ?_
      exact .ret rfl rfl
    subst h387
    refine .ab ?_
    refine .cq ?_ ?_
    ·exact hE1 false (ptC H126 ⟨h.length,21,0,s69,[]⟩ 0 ([c135])) (S137.wk2 aN aN)
    exact ih x0 x5 x8 (IntKind.wrap .i64 (x9+(intBits .and .i64 a80.Us 65535))) (IntKind.wrap .i64 (x10+1)) r130 yg55 v63 h64 v65 h66 c135 h136 s69 c71 h72 s73 (ptC H126 ⟨h.length,21,0,s69,[]⟩ 0 ([c135])) (S137.wk2 (aC (aM 2 rfl) (aC (aM 3 rfl) aN)) aN)
   refine .op ((S128.atG (i:=0) rfl).ldVs (j:=0) (xs:=[(.p (.bool r109.1.Marker)),(.p (.int .i64 r109.1.f_Type)),(.p (.int .u16 r109.1.Seq)),(.p (.int .u32 r109.1.Time)),(.p (.int .u32 r109.1.Ssrc)),v116,(.p (.int .u16 r109.1.Profile)),v118,v120]) rfl rfl (by decide)) ?_
   refine .op ((h108.h H126).len) ?_
   refine .ci ?_
   refine .call (z1i k yg37 h68 (S128.atG (i:=2) rfl) r92 r109.1 h115 ((r102.length:Int)) (IntKind.wrap .i64 (x9+(intBits .and .i64 a80.Us 65535)))) fun r389 cs390 H391 h392 q393=>?_
   obtain ⟨c394,h395,q393⟩:=q393
   cases q393
   have S396:=S128.setG (i:=2) (cs':=[c394]) rfl rfl rfl
   refine .ch (P:=fun r y=>r=y) ?_ (fun b397 y398 h399 h400=>?_)
   ·refine .cq ?_ ?_
    ·refine .fa ?_
     refine .op ((S396.atG (i:=1) rfl).ld (j:=0) rfl) ?_
     refine .ci ?_
     exact .ret rfl rfl
    ·exact .ret rfl rfl
   subst h400
   refine .cq ?_ ?_
   ·refine .fa ?_
    refine .op ((S396.atG (i:=1) rfl).ld (j:=0) rfl) ?_
    refine .ci ?_
    refine .call (z20 k yg55 h72 (S396.atG (i:=3) rfl) r92 ((intBits .and .i64 a80.Kind 1)==1) (IntKind.wrap .i64 (x9+(intBits .and .i64 a80.Us 65535)))) fun r402 cs403 H404 h405 q406=>?_
    obtain ⟨c407,h408,q406⟩:=q406
    cases q406
    have S409:=S396.setG (i:=3) (cs':=[c407]) rfl rfl rfl
    refine .ch (P:=fun r y=>r=y) ?_ (fun b410 y411 h412 h413=>?_)
    ·refine .cq ?_ ?_
     ·refine .fa ?_
      refine .op ((S409.atG (i:=1) rfl).ld (j:=0) rfl) ?_
      refine .ci ?_
      exact .ret rfl rfl
     ·exact .ret rfl rfl
    subst h413
    refine .cq ?_ ?_
    ·refine .op ((S409.atG (i:=0) rfl).ldVs (j:=0) (xs:=[(.p (.bool r109.1.Marker)),(.p (.int .i64 r109.1.f_Type)),(.p (.int .u16 r109.1.Seq)),(.p (.int .u32 r109.1.Time)),(.p (.int .u32 r109.1.Ssrc)),v116,(.p (.int .u16 r109.1.Profile)),v118,v120]) rfl rfl (by decide)) ?_
     refine .op ((h108.h (ptC (ptC H126 ⟨h.length,21,0,s69,[]⟩ 0 ([c394])) ⟨h.length,23,0,s73,[]⟩ 0 ([c407]))).len) ?_
     refine .ci ?_
     refine .call (z1i k r402 h408 (S409.atG (i:=3) rfl) r92 r109.1 h115 ((r102.length:Int)) (IntKind.wrap .i64 (x9+(intBits .and .i64 a80.Us 65535)))) fun r415 cs416 H417 h418 q419=>?_
     obtain ⟨c420,h421,q419⟩:=q419
     cases q419
     have S422:=S409.setG (i:=3) (cs':=[c420]) rfl rfl rfl
     refine .call (zh r389.2.2 h395 (S422.atG (i:=2) rfl) x8 (IntKind.wrap .i64 (x9+(intBits .and .i64 a80.Us 65535)))) fun r423 cs424 H425 h426 q427=>?_
     cases q427
     refine .ab ?_
     refine .call (zh r415.2.2 h421 (S422.atG (i:=3) rfl) x8 (IntKind.wrap .i64 (x9+(intBits .and .i64 a80.Us 65535)))) fun r428 cs429 H430 h431 q432=>?_
     cases q432
     refine .ab ?_
     refine .ch (P:=fun r y=>(.p (.bool r),(ptC (ptC (ptC H126 ⟨h.length,21,0,s69,[]⟩ 0 ([c394])) ⟨h.length,23,0,s73,[]⟩ 0 ([c407])) ⟨h.length,23,0,s73,[]⟩ 0 ([c420])))=y) ?_ (fun b443 y444 h445 h446=>?_)
     ·refine .cq ?_ ?_
      ·exact .ret rfl rfl
      ·refine .call (ze k r389.2.2 h395 (S422.atG (i:=2) rfl) x8 (IntKind.wrap .i64 (x9+(intBits .and .i64 a80.Us 65535)))) fun r433 cs434 H435 h436 q437=>?_
       cases q437
       refine .ci ?_
       refine .call (ze k r415.2.2 h421 (S422.atG (i:=3) rfl) x8 (IntKind.wrap .i64 (x9+(intBits .and .i64 a80.Us 65535)))) fun r438 cs439 H440 h441 q442=>?_
       cases q442
       refine .ci ?_
       exact .ret rfl rfl
     subst h446
     refine .ab ?_
     refine .ch (P:=fun r y=>(.p (.bool r),(ptC (ptC (ptC H126 ⟨h.length,21,0,s69,[]⟩ 0 ([c394])) ⟨h.length,23,0,s73,[]⟩ 0 ([c407])) ⟨h.length,23,0,s73,[]⟩ 0 ([c420])))=y) ?_ (fun b457 y458 h459 h460=>?_)
     ·refine .cq ?_ ?_
      ·exact .ret rfl rfl
      ·refine .call (zf r389.2.2 h395 (S422.atG (i:=2) rfl) x8) fun r447 cs448 H449 h450 q451=>?_
       cases q451
       refine .ab ?_
       refine .call (zf r415.2.2 h421 (S422.atG (i:=3) rfl) x8) fun r452 cs453 H454 h455 q456=>?_
       cases q456
       refine .ab ?_
       exact .ret rfl rfl
     subst h460
     refine .ab ?_
     refine .ch (P:=fun r y=>(.p (.bool r),(ptC (ptC (ptC H126 ⟨h.length,21,0,s69,[]⟩ 0 ([c394])) ⟨h.length,23,0,s73,[]⟩ 0 ([c407])) ⟨h.length,23,0,s73,[]⟩ 0 ([c420])))=y) ?_ (fun b471 y472 h473 h474=>?_)
     ·refine .cq ?_ ?_
      ·exact .ret rfl rfl
      ·refine .call (zi r389.2.2 h395 (S422.atG (i:=2) rfl) x8) fun r461 cs462 H463 h464 q465=>?_
       cases q465
       refine .ab ?_
       refine .call (zi r415.2.2 h421 (S422.atG (i:=3) rfl) x8) fun r466 cs467 H468 h469 q470=>?_
       cases q470
       refine .ab ?_
       exact .ret rfl rfl
     subst h474
     refine .ab ?_
     refine .cq ?_ ?_
     ·exact hE1 false (ptC (ptC (ptC H126 ⟨h.length,21,0,s69,[]⟩ 0 ([c394])) ⟨h.length,23,0,s73,[]⟩ 0 ([c407])) ⟨h.length,23,0,s73,[]⟩ 0 ([c420])) (S422.wk2 aN aN)
     exact ih x0 x5 x8 (IntKind.wrap .i64 (x9+(intBits .and .i64 a80.Us 65535))) (IntKind.wrap .i64 (x10+1)) r389.2.2 r415.2.2 v63 h64 v65 h66 c394 h395 s69 c420 h421 s73 (ptC (ptC (ptC H126 ⟨h.length,21,0,s69,[]⟩ 0 ([c394])) ⟨h.length,23,0,s73,[]⟩ 0 ([c407])) ⟨h.length,23,0,s73,[]⟩ 0 ([c420])) (S422.wk2 (aC (aM 2 rfl) (aC (aM 3 rfl) aN)) aN)
    refine .call (zh r389.2.2 h395 (S409.atG (i:=2) rfl) x8 (IntKind.wrap .i64 (x9+(intBits .and .i64 a80.Us 65535)))) fun r476 cs477 H478 h479 q480=>?_
    cases q480
    refine .ab ?_
    refine .call (zh r402 h408 (S409.atG (i:=3) rfl) x8 (IntKind.wrap .i64 (x9+(intBits .and .i64 a80.Us 65535)))) fun r481 cs482 H483 h484 q485=>?_
    cases q485
    refine .ab ?_
    refine .ch (P:=fun r y=>(.p (.bool r),(ptC (ptC H126 ⟨h.length,21,0,s69,[]⟩ 0 ([c394])) ⟨h.length,23,0,s73,[]⟩ 0 ([c407])))=y) ?_ (fun b496 y497 h498 h499=>?_)
    ·refine .cq ?_ ?_
     ·exact .ret rfl rfl
     ·refine .call (ze k r389.2.2 h395 (S409.atG (i:=2) rfl) x8 (IntKind.wrap .i64 (x9+(intBits .and .i64 a80.Us 65535)))) fun r486 cs487 H488 h489 q490=>?_
      cases q490
      refine .ci ?_
      refine .call (ze k r402 h408 (S409.atG (i:=3) rfl) x8 (IntKind.wrap .i64 (x9+(intBits .and .i64 a80.Us 65535)))) fun r491 cs492 H493 h494 q495=>?_
      cases q495
      refine .ci ?_
      exact .ret rfl rfl
    subst h499
    refine .ab ?_
    refine .ch (P:=fun r y=>(.p (.bool r),(ptC (ptC H126 ⟨h.length,21,0,s69,[]⟩ 0 ([c394])) ⟨h.length,23,0,s73,[]⟩ 0 ([c407])))=y) ?_ (fun b510 y511 h512 h513=>?_)
    ·refine .cq ?_ ?_
     ·exact .ret rfl rfl
     ·refine .call (zf r389.2.2 h395 (S409.atG (i:=2) rfl) x8) fun r500 cs501 H502 h503 q504=>?_
      cases q504
      refine .ab ?_
      refine .call (zf r402 h408 (S409.atG (i:=3) rfl) x8) fun r505 cs506 H507 h508 q509=>?_
      cases q509
      refine .ab ?_
      exact .ret rfl rfl
    subst h513
    refine .ab ?_
    refine .ch (P:=fun r y=>(.p (.bool r),(ptC (ptC H126 ⟨h.length,21,0,s69,[]⟩ 0 ([c394])) ⟨h.length,23,0,s73,[]⟩ 0 ([c407])))=y) ?_ (fun b524 y525 h526 h527=>?_)
    ·refine .cq ?_ ?_
     ·exact .ret rfl rfl
     ·refine .call (zi r389.2.2 h395 (S409.atG (i:=2) rfl) x8) fun r514 cs515 H516 h517 q518=>?_
      cases q518
      refine .ab ?_
      refine .call (zi r402 h408 (S409.atG (i:=3) rfl) x8) fun r519 cs520 H521 h522 q523=>?_
      cases q523
      refine .ab ?_
      exact .ret rfl rfl
    subst h527
    refine .ab ?_
    refine .cq ?_ ?_
    ·exact hE1 false (ptC (ptC H126 ⟨h.length,21,0,s69,[]⟩ 0 ([c394])) ⟨h.length,23,0,s73,[]⟩ 0 ([c407])) (S409.wk2 aN aN)
    exact ih x0 x5 x8 (IntKind.wrap .i64 (x9+(intBits .and .i64 a80.Us 65535))) (IntKind.wrap .i64 (x10+1)) r389.2.2 r402 v63 h64 v65 h66 c394 h395 s69 c407 h408 s73 (ptC (ptC H126 ⟨h.length,21,0,s69,[]⟩ 0 ([c394])) ⟨h.length,23,0,s73,[]⟩ 0 ([c407])) (S409.wk2 (aC (aM 2 rfl) (aC (aM 3 rfl) aN)) aN)
   refine .ch (P:=fun r y=>r=y) ?_ (fun b529 y530 h531 h532=>?_)
   ·refine .cq ?_ ?_
    ·refine .fa ?_
     refine .op ((S396.atG (i:=1) rfl).ld (j:=0) rfl) ?_
     refine .ci ?_
     exact .ret rfl rfl
    ·exact .ret rfl rfl
   subst h532
   refine .cq ?_ ?_
   ·refine .op ((S396.atG (i:=0) rfl).ldVs (j:=0) (xs:=[(.p (.bool r109.1.Marker)),(.p (.int .i64 r109.1.f_Type)),(.p (.int .u16 r109.1.Seq)),(.p (.int .u32 r109.1.Time)),(.p (.int .u32 r109.1.Ssrc)),v116,(.p (.int .u16 r109.1.Profile)),v118,v120]) rfl rfl (by decide)) ?_
    refine .op ((h108.h (ptC H126 ⟨h.length,21,0,s69,[]⟩ 0 ([c394]))).len) ?_
    refine .ci ?_
    refine .call (z1i k yg55 h72 (S396.atG (i:=3) rfl) r92 r109.1 h115 ((r102.length:Int)) (IntKind.wrap .i64 (x9+(intBits .and .i64 a80.Us 65535)))) fun r534 cs535 H536 h537 q538=>?_
    obtain ⟨c539,h540,q538⟩:=q538
    cases q538
    have S541:=S396.setG (i:=3) (cs':=[c539]) rfl rfl rfl
    refine .call (zh r389.2.2 h395 (S541.atG (i:=2) rfl) x8 (IntKind.wrap .i64 (x9+(intBits .and .i64 a80.Us 65535)))) fun r542 cs543 H544 h545 q546=>?_
    cases q546
    refine .ab ?_
    refine .call (zh r534.2.2 h540 (S541.atG (i:=3) rfl) x8 (IntKind.wrap .i64 (x9+(intBits .and .i64 a80.Us 65535)))) fun r547 cs548 H549 h550 q551=>?_
    cases q551
    refine .ab ?_
    refine .ch (P:=fun r y=>(.p (.bool r),(ptC (ptC H126 ⟨h.length,21,0,s69,[]⟩ 0 ([c394])) ⟨h.length,23,0,s73,[]⟩ 0 ([c539])))=y) ?_ (fun b562 y563 h564 h565=>?_)
    ·refine .cq ?_ ?_
     ·exact .ret rfl rfl
     ·refine .call (ze k r389.2.2 h395 (S541.atG (i:=2) rfl) x8 (IntKind.wrap .i64 (x9+(intBits .and .i64 a80.Us 65535)))) fun r552 cs553 H554 h555 q556=>?_
      cases q556
      refine .ci ?_
      refine .call (ze k r534.2.2 h540 (S541.atG (i:=3) rfl) x8 (IntKind.wrap .i64 (x9+(intBits .and .i64 a80.Us 65535)))) fun r557 cs558 H559 h560 q561=>?_
      cases q561
      refine .ci ?_
      exact .ret rfl rfl
    subst h565
    refine .ab ?_
    refine .ch (P:=fun r y=>(.p (.bool r),(ptC (ptC H126 ⟨h.length,21,0,s69,[]⟩ 0 ([c394])) ⟨h.length,23,0,s73,[]⟩ 0 ([c539])))=y) ?_ (fun b576 y577 h578 h579=>?_)
    ·refine .cq ?_ ?_
     ·exact .ret rfl rfl
     ·refine .call (zf r389.2.2 h395 (S541.atG (i:=2) rfl) x8) fun r566 cs567 H568 h569 q570=>?_
      cases q570
      refine .ab ?_
      refine .call (zf r534.2.2 h540 (S541.atG (i:=3) rfl) x8) fun r571 cs572 H573 h574 q575=>?_
      cases q575
      refine .ab ?_
      exact .ret rfl rfl
    subst h579
    refine .ab ?_
    refine .ch (P:=fun r y=>(.p (.bool r),(ptC (ptC H126 ⟨h.length,21,0,s69,[]⟩ 0 ([c394])) ⟨h.length,23,0,s73,[]⟩ 0 ([c539])))=y) ?_ (fun b590 y591 h592 h593=>?_)
    ·refine .cq ?_ ?_
     ·exact .ret rfl rfl
     ·refine .call (zi r389.2.2 h395 (S541.atG (i:=2) rfl) x8) fun r580 cs581 H582 h583 q584=>?_
      cases q584
      refine .ab ?_
      refine .call (zi r534.2.2 h540 (S541.atG (i:=3) rfl) x8) fun r585 cs586 H587 h588 q589=>?_
      cases q589
      refine .ab ?_
      exact .ret rfl rfl
    subst h593
    refine .ab ?_
    refine .cq ?_ ?_
    ·exact hE1 false (ptC (ptC H126 ⟨h.length,21,0,s69,[]⟩ 0 ([c394])) ⟨h.length,23,0,s73,[]⟩ 0 ([c539])) (S541.wk2 aN aN)
    exact ih x0 x5 x8 (IntKind.wrap .i64 (x9+(intBits .and .i64 a80.Us 65535))) (IntKind.wrap .i64 (x10+1)) r389.2.2 r534.2.2 v63 h64 v65 h66 c394 h395 s69 c539 h540 s73 (ptC (ptC H126 ⟨h.length,21,0,s69,[]⟩ 0 ([c394])) ⟨h.length,23,0,s73,[]⟩ 0 ([c539])) (S541.wk2 (aC (aM 2 rfl) (aC (aM 3 rfl) aN)) aN)
   refine .call (zh r389.2.2 h395 (S396.atG (i:=2) rfl) x8 (IntKind.wrap .i64 (x9+(intBits .and .i64 a80.Us 65535)))) fun r595 cs596 H597 h598 q599=>?_
   cases q599
   refine .ab ?_
   refine .call (zh yg55 h72 (S396.atG (i:=3) rfl) x8 (IntKind.wrap .i64 (x9+(intBits .and .i64 a80.Us 65535)))) fun r600 cs601 H602 h603 q604=>?_
   cases q604
   refine .ab ?_
   refine .ch (P:=fun r y=>(.p (.bool r),(ptC H126 ⟨h.length,21,0,s69,[]⟩ 0 ([c394])))=y) ?_ (fun b615 y616 h617 h618=>?_)
   ·refine .cq ?_ ?_
    ·exact .ret rfl rfl
    ·refine .call (ze k r389.2.2 h395 (S396.atG (i:=2) rfl) x8 (IntKind.wrap .i64 (x9+(intBits .and .i64 a80.Us 65535)))) fun r605 cs606 H607 h608 q609=>?_
     cases q609
     refine .ci ?_
     refine .call (ze k yg55 h72 (S396.atG (i:=3) rfl) x8 (IntKind.wrap .i64 (x9+(intBits .and .i64 a80.Us 65535)))) fun r610 cs611 H612 h613 q614=>?_
     cases q614
     refine .ci ?_
     exact .ret rfl rfl
   subst h618
   refine .ab ?_
   refine .ch (P:=fun r y=>(.p (.bool r),(ptC H126 ⟨h.length,21,0,s69,[]⟩ 0 ([c394])))=y) ?_ (fun b629 y630 h631 h632=>?_)
   ·refine .cq ?_ ?_
    ·exact .ret rfl rfl
    ·refine .call (zf r389.2.2 h395 (S396.atG (i:=2) rfl) x8) fun r619 cs620 H621 h622 q623=>?_
     cases q623
     refine .ab ?_
     refine .call (zf yg55 h72 (S396.atG (i:=3) rfl) x8) fun r624 cs625 H626 h627 q628=>?_
     cases q628
     refine .ab ?_
     exact .ret rfl rfl
   subst h632
   refine .ab ?_
   refine .ch (P:=fun r y=>(.p (.bool r),(ptC H126 ⟨h.length,21,0,s69,[]⟩ 0 ([c394])))=y) ?_ (fun b643 y644 h645 h646=>?_)
   ·refine .cq ?_ ?_
    ·exact .ret rfl rfl
    ·refine .call (zi r389.2.2 h395 (S396.atG (i:=2) rfl) x8) fun r633 cs634 H635 h636 q637=>?_
     cases q637
     refine .ab ?_
     refine .call (zi yg55 h72 (S396.atG (i:=3) rfl) x8) fun r638 cs639 H640 h641 q642=>?_
     cases q642
     refine .ab ?_
     exact .ret rfl rfl
   subst h646
   refine .ab ?_
   refine .cq ?_ ?_
   ·exact hE1 false (ptC H126 ⟨h.length,21,0,s69,[]⟩ 0 ([c394])) (S396.wk2 aN aN)
   exact ih x0 x5 x8 (IntKind.wrap .i64 (x9+(intBits .and .i64 a80.Us 65535))) (IntKind.wrap .i64 (x10+1)) r389.2.2 yg55 v63 h64 v65 h66 c394 h395 s69 c71 h72 s73 (ptC H126 ⟨h.length,21,0,s69,[]⟩ 0 ([c394])) (S396.wk2 (aC (aM 2 rfl) (aC (aM 3 rfl) aN)) aN)
  exact hE0 () H61 (S62.wk2 aN aN)
theorem zam (k:Nat) {h:H} {σ:Stamp} (x0:List z2w) {u0:V} (hu0:SlH h z3c x0 u0) (x1:Int):Sim (z3i k x0 x1) (ev G X0 14 σ [u0,(.p (.int .i64 x1))] h) (fun r s=>s=([.v (.p (.bool r))],h)):=by
 refine .ev rfl (Sim.ext (z93 _ _ _ _ _ _) ?_)
 rw [z3i]
 have S0:Fm 160 h [] [] [] (List.replicate 160 []::h):=Fm.start0
 refine .op (bldV (pC rfl (pC rfl (pC rfl pN))) (by kernel_rfl:_=some (.agg [.p (.string ((⟨#[97]⟩:ByteArray))),.p (.int .u32 1),.p (.int .i64 10)]))) ?_
 refine .op (bldV (pC rfl (pC rfl (pC rfl pN))) (by kernel_rfl:_=some (.agg [.p (.string ((⟨#[98]⟩:ByteArray))),.p (.int .u32 2),.p (.int .i64 20)]))) ?_
 refine .op (bldV (pC rfl (pC rfl (pC rfl pN))) (by kernel_rfl:_=some (.agg [.p (.string ((⟨#[99]⟩:ByteArray))),.p (.int .u32 3),.p (.int .i64 30)]))) ?_
 have h1:SlF zb [((⟨((⟨#[97]⟩:ByteArray)),1,10⟩:z5)),((⟨((⟨#[98]⟩:ByteArray)),2,20⟩:z5)),((⟨((⟨#[99]⟩:ByteArray)),3,30⟩:z5))] (.fz [(.p (.string ((⟨#[97]⟩:ByteArray)))),(.p (.int .u32 1)),(.p (.int .i64 10)),(.p (.string ((⟨#[98]⟩:ByteArray)))),(.p (.int .u32 2)),(.p (.int .i64 20)),(.p (.string ((⟨#[99]⟩:ByteArray)))),(.p (.int .u32 3)),(.p (.int .i64 30))] 3 3 true):=SlF.lit (cs:=[(.p (.string ((⟨#[97]⟩:ByteArray)))),(.p (.int .u32 1)),(.p (.int .i64 10)),(.p (.string ((⟨#[98]⟩:ByteArray)))),(.p (.int .u32 2)),(.p (.int .i64 20)),(.p (.string ((⟨#[99]⟩:ByteArray)))),(.p (.int .u32 3)),(.p (.int .i64 30))]) (RL.cons (show zb.R ((⟨((⟨#[97]⟩:ByteArray)),1,10⟩:z5)) [.p (.string ((⟨#[97]⟩:ByteArray))),.p (.int .u32 1),.p (.int .i64 10)] from (zb.mk)) (RL.cons (show zb.R ((⟨((⟨#[98]⟩:ByteArray)),2,20⟩:z5)) [.p (.string ((⟨#[98]⟩:ByteArray))),.p (.int .u32 2),.p (.int .i64 20)] from (zb.mk)) (RL.cons (show zb.R ((⟨((⟨#[99]⟩:ByteArray)),3,30⟩:z5)) [.p (.string ((⟨#[99]⟩:ByteArray))),.p (.int .u32 3),.p (.int .i64 30)] from (zb.mk)) RL.nil))) rfl rfl true
 refine .op (bldS (pC (c:=[.p (.string ((⟨#[97]⟩:ByteArray))),.p (.int .u32 1),.p (.int .i64 10)]) rfl (pC (c:=[.p (.string ((⟨#[98]⟩:ByteArray))),.p (.int .u32 2),.p (.int .i64 20)]) rfl (pC (c:=[.p (.string ((⟨#[99]⟩:ByteArray))),.p (.int .u32 3),.p (.int .i64 30)]) rfl pN))) (by kernel_rfl:_=some (vOf h1))) ?_
 refine .call (z4n k ([((⟨((⟨#[97]⟩:ByteArray)),1,10⟩:z5)),((⟨((⟨#[98]⟩:ByteArray)),2,20⟩:z5)),((⟨((⟨#[99]⟩:ByteArray)),3,30⟩:z5))]) (h1.h (List.replicate 160 []::h))) fun r2 cs3 H4 h5 q6=>?_
 rcases r2 with _ | r7
 ·cases (show (cs3,H4)=([.v (.p (.pointer none))],(List.replicate 160 []::h)) from q6)
  refine .call (z4n k ([((⟨((⟨#[97]⟩:ByteArray)),1,10⟩:z5)),((⟨((⟨#[98]⟩:ByteArray)),2,20⟩:z5)),((⟨((⟨#[99]⟩:ByteArray)),3,30⟩:z5))]) (h1.h (List.replicate 160 []::h))) fun r11 cs12 H13 h14 q15=>?_
  rcases r11 with _ | r16
  ·cases (show (cs12,H13)=([.v (.p (.pointer none))],(List.replicate 160 []::h)) from q15)
   refine .call (z4v x1 0 2) fun r20 cs21 H22 h23 q24=>?_
   cases q24
   refine .ci ?_
   refine .op ((by kernel_rfl:_=some (.p (.bool true)))) ?_
   refine .ab ?_
   refine .asT ?_
   refine .pure ?_
   refine .cdt rfl ?_
   exact .fin (S0.finN (lC (sB _).lv lN)) rfl
  ·obtain ⟨s17,c18,h19,q15⟩:=q15
   cases q15
   obtain ⟨H25,e26,S27⟩:=S0.landG (d:=23) (s:=s17) (cs:=[c18]) (by decide) rfl
   erw [e26]
   refine .call (z4v x1 0 2) fun r29 cs30 H31 h32 q33=>?_
   cases q33
   refine .ci ?_
   refine .op ((by kernel_rfl:_=some (.p (.bool true)))) ?_
   refine .ab ?_
   refine .asT ?_
   refine .pure ?_
   refine .cdt rfl ?_
   exact .fin (S27.finN (lC (sB _).lv lN)) rfl
 ·obtain ⟨s8,c9,h10,q6⟩:=q6
  cases q6
  obtain ⟨H34,e35,S36⟩:=S0.landG (d:=21) (s:=s8) (cs:=[c9]) (by decide) rfl
  erw [e35]
  refine .call (z4n k ([((⟨((⟨#[97]⟩:ByteArray)),1,10⟩:z5)),((⟨((⟨#[98]⟩:ByteArray)),2,20⟩:z5)),((⟨((⟨#[99]⟩:ByteArray)),3,30⟩:z5))]) (h1.h H34)) fun r38 cs39 H40 h41 q42=>?_
  rcases r38 with _ | r43
  ·cases (show (cs39,H40)=([.v (.p (.pointer none))],H34) from q42)
   refine .call (z4v x1 0 2) fun r47 cs48 H49 h50 q51=>?_
   cases q51
   refine .ci ?_
   refine .op ((by kernel_rfl:_=some (.p (.bool false)))) ?_
   refine .ab ?_
   refine .asF ?_
   refine .op ((by kernel_rfl:_=some (.p (.bool true)))) ?_
   refine .ab ?_
   refine .pure ?_
   refine .cdt rfl ?_
   exact .fin (S36.finN (lC (sB _).lv lN)) rfl
  ·obtain ⟨s44,c45,h46,q42⟩:=q42
   cases q42
   obtain ⟨H52,e53,S54⟩:=S36.landG (d:=23) (s:=s44) (cs:=[c45]) (by decide) rfl
   erw [e53]
   refine .call (z4v x1 0 2) fun r56 cs57 H58 h59 q60=>?_
   cases q60
   refine .ci ?_
   refine .op ((by kernel_rfl:_=some (.p (.bool false)))) ?_
   refine .ab ?_
   refine .asF ?_
   refine .op ((by kernel_rfl:_=some (.p (.bool false)))) ?_
   refine .ab ?_
   refine .pure ?_
   refine .cdf rfl ?_
   refine .as (z9a ?_ ?_ k x0 ([((⟨((⟨#[97]⟩:ByteArray)),1,10⟩:z5)),((⟨((⟨#[98]⟩:ByteArray)),2,20⟩:z5)),((⟨((⟨#[99]⟩:ByteArray)),3,30⟩:z5))]) r56 0 0 r7 r43 u0 hu0 (.fz [(.p (.string ((⟨#[97]⟩:ByteArray)))),(.p (.int .u32 1)),(.p (.int .i64 10)),(.p (.string ((⟨#[98]⟩:ByteArray)))),(.p (.int .u32 2)),(.p (.int .i64 20)),(.p (.string ((⟨#[99]⟩:ByteArray)))),(.p (.int .u32 3)),(.p (.int .i64 30))] 3 3 true) h1 c9 h10 s8 c45 h46 s44 H52 (S54.wk2 (aC (aM 1 rfl) (aC (aM 0 rfl) aN)) aN))
   ·intro _u H653 S654
    refine .ext (z9g _ _ _ _) ?_
    refine .call (zfs k ) fun r655 cs656 H657 h658 q659=>?_
    cases q659
    refine .ab ?_
    exact .fin (S654.finN (lC (sB _).lv lN)) rfl
   ·intro r660_4 H661 S662
    refine .ext (z8r _ _ _ _ _) ?_
    exact .fin (S662.finN (lC (sB _).lv lN)) rfl
end
end Go.Ev
namespace Go.Ev
namespace Lay
abbrev Ask:=z2w
def lay3:List z5:=[⟨⟨#[97]⟩,1,10⟩,⟨⟨#[98]⟩,2,20⟩,⟨⟨#[99]⟩,3,30⟩]
theorem zkb:∀ l∈lay3,HasExt l:=fun l hl=>by
 have h:l=⟨⟨#[97]⟩,1,10⟩∨l=⟨⟨#[98]⟩,2,20⟩∨l=⟨⟨#[99]⟩,3,30⟩:=by simpa [lay3] using hl
 rcases h with rfl | rfl | rfl
 ·exact ⟨[16,97,0,0],rfl,fun j=>by kernel_rfl⟩
 ·exact ⟨[16,98,0,0],rfl,fun j=>by kernel_rfl⟩
 ·exact ⟨[16,99,0,0],rfl,fun j=>by kernel_rfl⟩
structure Tw (X Y:Ly) (k8:Int):Prop where
 lx:X.l.length=3
 ly:Y.l.length=3
 ox:∀ e∈X.l,OkE e
 oy:∀ e∈Y.l,OkE e
 eq:ix X.l k8=ix Y.l k8
theorem ix_lt {α:Type} {l:List α} {i:Int} (h0:0≤i) (h1:i<l.length):∃ e,ix l i=some e∧e∈l:=by
 obtain ⟨n,rfl⟩:∃ n:Nat,i=n:=⟨i.toNat,by omega⟩
 have hn:n<l.length:=by omega
 exact ⟨l[n],ix_at (List.getElem?_eq_getElem hn),List.getElem_mem hn⟩
theorem set_ok {l:List One} {i:Nat} {e:One} (h:∀ x∈l,OkE x) (he:OkE e):∀ x∈l.set i e,OkE x:=fun x hx=>by
 rcases List.mem_or_eq_of_mem_set hx with h1 | rfl
 ·exact h x h1
 ·exact he
theorem Tw.both {X Y:Ly} {k8:Int} (h:Tw X Y k8) {e':One} (he:OkE e') (h0:0≤k8) (h3:k8<3):Tw ⟨X.l.set k8.toNat e'⟩ ⟨Y.l.set k8.toNat e'⟩ k8:=by
 obtain ⟨x,hx,_⟩:=ix_lt (l:=X.l) h0 (by rw [h.lx];exact h3)
 obtain ⟨y,hy,_⟩:=ix_lt (l:=Y.l) h0 (by rw [h.ly];exact h3)
 exact ⟨by simp [h.lx],by simp [h.ly],set_ok h.ox he,set_ok h.oy he,by simp only;rw [ix_set hx,ix_set hy]⟩
theorem Tw.one {X Y:Ly} {k8 n:Int} (h:Tw X Y k8) {e':One} (he:OkE e') (h0:0≤n) (hne:n≠k8):Tw ⟨X.l.set n.toNat e'⟩ Y k8 :=
 ⟨by simp [h.lx],h.ly,set_ok h.ox he,h.oy,by simp only;rw [zk9 h0 hne,h.eq]⟩
theorem zbf {X Y:Ly} {k8 now:Int} (h:Tw X Y k8) (h0:0≤k8) (h3:k8<3) (n0:0≤now) (n1:now<1152921504606846976) {k:Nat} (hk:10≤k) (kE1:Bool→Option Bool) (C:Option Bool) :
  ((zc X k8 now).bind fun r164=>(zc Y k8 now).bind fun r169 =>
   (bif !(r164==r169) then (some true) else ((z8 k X k8 now).bind fun r174=>(z8 k Y k8 now).bind fun r179=>some (r174 != r179))).bind fun b184 =>
   (bif b184 then (some true) else ((z9 X k8).bind fun r188=>(z9 Y k8).bind fun r193=>some (!(r188==r193)))).bind fun b198 =>
   (bif b198 then (some true) else ((za X k8).bind fun r202=>(za Y k8).bind fun r207=>some (!(r202==r207)))).bind fun b212 =>
   bif b212 then kE1 false else C)=C:=by
 obtain ⟨e,hx,hm⟩:=ix_lt (l:=X.l) h0 (by rw [h.lx];exact h3)
 have hy:ix Y.l k8=some e:=by rw [← h.eq];exact hx
 obtain ⟨c,hc⟩:=zio (i:=k8) (now:=now) (h.ox e hm) n0 n1 hk
 have b1:∀ b:Bool,(!(b==b))=false:=fun b=>by simp
 have b2:∀ n:Int,(n != n)=false:=fun n=>by simp
 rw [zic hx,Option.bind_some,zic hy,Option.bind_some,b1,cond_false,hc X hx,Option.bind_some,hc Y hy,Option.bind_some,b2,Option.bind_some,cond_false,zd3 hx,Option.bind_some,zd3 hy,Option.bind_some,b1,Option.bind_some,cond_false,zh9 hx,Option.bind_some,zh9 hy,Option.bind_some,b1,Option.bind_some,cond_false]
theorem zl0 {xs:List Ask} (hq:∀ a∈xs,0≤a.Seq∧a.Seq<65536) {k8:Int} (h0:0≤k8) (h3:k8<3) (kE0:Unit→Option Bool) (kE1:Bool→Option Bool):∀ m i k:Nat,∀ (now:Int) (X Y:Ly),i+m=min xs.length 60→m+100≤k→0≤now→now≤i*65536→Tw X Y k8 →
  zl k kE0 kE1 xs lay3 k8 now (i:Int) X Y=kE0 ():=by
 intro m
 induction m with
 | zero =>
  intro i k now X Y hi hk n0 n1 h
  obtain ⟨k,rfl⟩:∃ j,k=j+1:=⟨k-1,by omega⟩
  rw [zl]
  by_cases hl:i<xs.length
  ·rw [decide_eq_true (by omega),cond_true,decide_eq_false (by omega),Option.bind_some,cond_false]
  ·rw [decide_eq_false (by omega),cond_false,Option.bind_some,cond_false]
 | succ m ih =>
  intro i k now X Y hi hk n0 n1 h
  obtain ⟨k,rfl⟩:∃ j,k=j+1:=⟨k-1,by omega⟩
  have hil:i<xs.length:=by omega
  have hix:ix xs (i:Int)=some xs[i]:=ix_at (List.getElem?_eq_getElem hil)
  have ha:=hq _ (List.getElem_mem hil)
  have hw:IntKind.wrap .i64 ((i:Int)+1)=((i+1:Nat):Int):=wrap_i64 (by omega) (by omega)
  rw [zl,decide_eq_true (by omega),cond_true,decide_eq_true (by omega),Option.bind_some,cond_true,hix,Option.bind_some,hw]
  generalize xs[i]=a at *
  obtain ⟨n,hn,hn0,hn2⟩:=zf3 (x:=a.I) (hi:=2) (by omega) (by omega)
  obtain ⟨l,hl,hlm⟩:=ix_lt (l:=lay3) (i:=n) hn0 (by show n<3;omega)
  have m1:intBits .and .i64 a.Size 255=a.Size % 2^8:=zh3 (k:=.i64) (n:=8) (m:=255) _ rfl (by decide)
  have m2:intBits .and .i64 a.Us 65535=a.Us % 2^16:=zh3 (k:=.i64) (n:=16) (m:=65535) _ rfl (by decide)
  rw [hn,Option.bind_some,hl,Option.bind_some,m1,m2,wrap_i64 (n:=1+a.Size % 2^8) (by omega) (by omega),wrap_i64 (n:=now+a.Us % 2^16) (by omega) (by omega)]
  obtain ⟨E,pay,hE,hp,hpk⟩:=zjq (k:=k) (by omega) (zkb l hlm) (seq:=a.Seq) (stamp:=7) (size:=1+a.Size % 2^8) (key:=a.Key) (by omega) (by omega)
  rw [hpk,Option.bind_some]
  obtain ⟨p,hrd,hps⟩:=z98 (k:=k) (by omega) (seq:=a.Seq) (stamp:=7) (ssrc:=l.Ssrc) (E:=E) (pay:=pay) hE (by omega) ha
  rw [hrd,Option.bind_some]
  obtain ⟨t,ht⟩:∃ t,t=now+a.Us % 2^16:=⟨_,rfl⟩
  have t0:0≤t∧t≤(i+1:Nat)*65536:=by rw [ht];constructor<;>omega
  have t1:t<1152921504606846976:=by omega
  rw [← ht]
  generalize ((pkt a.Seq 7 l.Ssrc E pay).length:Int)=sz
  obtain ⟨e,hxe,hxm⟩:=ix_lt (l:=X.l) (i:=n) hn0 (by rw [h.lx];show n<3;omega)
  have nx:∀ X' Y',Tw X' Y' k8→zl k kE0 kE1 xs lay3 k8 t ((i+1:Nat):Int) X' Y'=kE0 ():=fun X' Y' h'=>ih (i+1) k t X' Y' (by omega) (by omega) t0.1 t0.2 h'
  by_cases hK:a.Kind>4
  ·obtain ⟨e',he',hr⟩:=zln (i:=n) (now:=t) (on:=intBits .and .i64 a.Kind 1==1) (h.ox e hxm) t0.1 t1 (k:=k) (by omega)
   have d2:decide (a.Kind≤4)=false:=decide_eq_false (by omega)
   rw [decide_eq_true hK,cond_true,hr X hxe,Option.bind_some]
   by_cases hnk:n=k8
   ·subst hnk
    rw [beq_self_eq_true,cond_true,Option.bind_some,cond_true,hr Y (by rw [← h.eq];exact hxe),Option.bind_some,cond_true,d2,Option.bind_some,cond_false]
    have h':=h.both he' h0 h3
    exact Eq.trans (zbf h' h0 h3 t0.1 t1 (by omega) kE1 _) (nx _ _ h')
   ·rw [beq_eq_false_iff_ne.2 hnk,cond_false,Option.bind_some,cond_false,cond_false,Option.bind_some,cond_false]
    have h':=h.one he' hn0 hnk
    exact Eq.trans (zbf h' h0 h3 t0.1 t1 (by omega) kE1 _) (nx _ _ h')
  ·obtain ⟨r,b,e',he',hr⟩:=zk1 (i:=n) (now:=t) (size:=sz) (p:=p) (h.ox e hxm) (by rw [hps];exact ha) t0.1 t1 (k:=k) (by omega)
   have d2:decide (a.Kind≤4)=true:=decide_eq_true (by omega)
   rw [decide_eq_false hK,cond_false,hr X hxe,Option.bind_some]
   by_cases hnk:n=k8
   ·subst hnk
    rw [beq_self_eq_true,cond_true,Option.bind_some,cond_false,cond_true,d2,Option.bind_some,cond_true,hr Y (by rw [← h.eq];exact hxe),Option.bind_some]
    have h':=h.both he' h0 h3
    exact Eq.trans (zbf h' h0 h3 t0.1 t1 (by omega) kE1 _) (nx _ _ h')
   ·rw [beq_eq_false_iff_ne.2 hnk,cond_false,Option.bind_some,cond_false,cond_false,Option.bind_some,cond_false]
    have h':=h.one he' hn0 hnk
    exact Eq.trans (zbf h' h0 h3 t0.1 t1 (by omega) kE1 _) (nx _ _ h')
theorem zkt:z5z 300=some true:=by kernel_rfl
def ly3:Ly:=⟨lay3.map fun l=>⟨l,⟨-1,-1,0,0⟩,⟨[0,0,0,0,0],0,0⟩,false,0,false,false,0⟩⟩
theorem new300:z2b 300 lay3=some (some ly3):=by kernel_rfl
theorem ly3_ok:∀ e∈ly3.l,OkE e:=fun e he=>by
 obtain ⟨l,_,rfl⟩:=List.mem_map.1 he
 exact ⟨by simp only;omega,by simp only;omega,by simp only;omega,by simp only;omega⟩
theorem layerApart_p {xs:List Ask} (hq:∀ a∈xs,0≤a.Seq∧a.Seq<65536) (w:Int):z3i 300 xs w=some true:=by
 obtain ⟨k8,hk8,g0,g2⟩:=zf3 (x:=w) (hi:=2) (by omega) (by omega)
 have hnew:z2b 300 [⟨⟨#[97]⟩,1,10⟩,⟨⟨#[98]⟩,2,20⟩,⟨⟨#[99]⟩,3,30⟩]=some (some ly3):=new300
 unfold z3i
 rw [hnew,Option.bind_some]
 simp only
 rw [Option.bind_some]
 simp only
 rw [hk8,Option.bind_some]
 refine Eq.trans (zl0 hq g0 (by omega) _ _ (min xs.length 60) 0 300 0 ly3 ly3 (by omega) (by omega) (Int.le_refl 0) (by omega) ⟨rfl,rfl,ly3_ok,ly3_ok,rfl⟩) ?_
 rw [zkt];rfl
end Lay
def tAskY:DT:=.strct (.pair (.int .i64) (.pair (.int .i64) (.pair (.int .i64) (.pair (.int .u16) (.pair .bool (.pair (.int .i64) .unit))))))
def ofAskY (x:tAskY.D):z2w:=⟨x.1,x.2.1,x.2.2.1,x.2.2.2.1,x.2.2.2.2.1,x.2.2.2.2.2.1⟩
theorem zkv (x:tAskY.D):z3c.R (ofAskY x) (tAskY.cells x):=by
 obtain ⟨a,b,c,d,e,f,u⟩:=x
 exact z3c.mk
theorem layerApart_ev (a0:(DT.slice 40 tAskY).D) (a1:Int) (w0:(DT.slice 40 tAskY).ok a0) (_:(DT.int .i64).ok a1):ev G X0 14 [] [(DT.slice 40 tAskY).val a0,(DT.int .i64).val a1] []=some ([.v (bV true)],[]):=by
 have h1:∀ a∈(Option.getD a0 []).map ofAskY,0≤a.Seq∧a.Seq<65536:=by
  cases a0 with
  | none=>exact fun a ha=>(by cases ha)
  | some l =>
   obtain ⟨q1,q2⟩:=w0
   intro a ha
   obtain ⟨x,hx,rfl⟩:=List.mem_map.1 ha
   obtain ⟨_,_,_,h4,_⟩:=q2 x hx
   exact wf_u16 h4
 obtain ⟨_,h3,rfl⟩:=zam 300 (h:=[]) (σ:=[]) ((Option.getD a0 []).map ofAskY) ((zlc (b:=40) (t:=tAskY) (d:=z3c) ofAskY zkv rfl a0).h []) a1 _ (Lay.layerApart_p h1 a1)
 exact h3
end Go.Ev
