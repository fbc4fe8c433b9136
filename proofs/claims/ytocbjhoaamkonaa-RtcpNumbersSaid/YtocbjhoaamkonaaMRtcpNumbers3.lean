/- A part of the proof that follows: Chapter 6's runs: reports of sixty tapes, each thing of them turned; bytes cut off, each byte turned; reports of each type and count. -/
import Derived.Test.YtocbjhoaamkonaaMRtcpNumbers2
namespace Go.Ev
open Go.Proofs
set_option linter.unusedVariables false
set_option linter.unusedSimpArgs false
set_option maxRecDepth 100000
noncomputable section
abbrev KT13:=Exit→Env→H→Option (List C × H)
variable (rec : CallF) (loop : LoopV) (σ : Stamp)
def rtcp_body_c0 : Code:=(codeAt (bodyOf Try.f56) [1,1,1,0,1,0,1,0,0,1,0,0])
def rtcp_body_l0 : Lv:=⟨6,28,[(1,6),(0,2)]⟩
def rtcp_body_k0 : KT13:=(kBlock 1 (kSeq G rec loop (codeAt (bodyOf Try.f56) [1,1,1,0,1,0,1,0,1]) ⟨2,28,[(0,2)]⟩ (1::1::0::1::1::1::0::σ) (kBlock 0 (kSeq G rec loop (codeAt (bodyOf Try.f56) [1,1,1,1]) ⟨28,28,[]⟩ (1::1::1::0::σ) (finC G true Try.f56 (1::σ))))))
def rtcp_body_c1 : Code:=(codeAt (bodyOf Try.f56) [1,1,1,0,1,0,1,1,1,1,1,0,0,1,0,0])
def rtcp_body_l1 : Lv:=⟨4,28,[(3,4),(0,2)]⟩
def rtcp_body_k1 : KT13:=(kBlock 3 (kSeq G rec loop (codeAt (bodyOf Try.f56) [1,1,1,0,1,0,1,1,1,1,1,0,1]) ⟨2,28,[(0,2)]⟩ (1::1::1::1::0::1::1::1::0::σ) (kBlock 0 (kSeq G rec loop (codeAt (bodyOf Try.f56) [1,1,1,1]) ⟨28,28,[]⟩ (1::1::1::0::σ) (finC G true Try.f56 (1::σ))))))
def rtcp_body_c2 : Code:=(codeAt (bodyOf Try.f56) [1,1,1,0,1,0,1,1,1,1,1,1,1,0,1,1,0,1,0,0])
def rtcp_body_l2 : Lv:=⟨4,28,[(5,4),(0,2)]⟩
def rtcp_body_k2 : KT13:=(kBlock 5 (kSeq G rec loop (codeAt (bodyOf Try.f56) [1,1,1,0,1,0,1,1,1,1,1,1,1,0,1,1,1]) ⟨2,28,[(0,2)]⟩ (1::1::1::1::1::1::1::0::1::1::1::0::σ) (kBlock 0 (kSeq G rec loop (codeAt (bodyOf Try.f56) [1,1,1,1]) ⟨28,28,[]⟩ (1::1::1::0::σ) (finC G true Try.f56 (1::σ))))))
theorem rtcp_body_entry (x0 : V) (h : H) : cvBody G rec loop 56 σ [x0] h =
(boxO false (0::0::0::σ) 1 (List.replicate 120 []::h) x0).bind fun q1 =>
(fA q1.1 1).bind fun t2 =>
(ldO false 1 q1.2 t2).bind fun t3 =>
(castI .u32 t3).bind fun n4 =>
(callO rec 57 (3::0::1::0::σ) [(.p (.slice .none 0 0)),(.p (.int .u64 (IntKind.wrap .u64 n4))),(.p (.int .i64 4))] q1.2 (some 14)).bind fun q5 =>
(fA q1.1 0).bind fun t6 =>
(ldO false 1 q5.2 t6).bind fun t7 =>
(castI .i64 t7).bind fun n8 =>
(bif n8 != 3 then ((fA q1.1 0).bind fun t9 =>
(ldO false 1 q5.2 t9).bind fun t10 =>
(castI .i64 t10).bind fun n11 =>
some (n11 != 6)) else (some false)).bind fun b12 =>
bif b12 then (
(callO rec 57 (1::1::0::1::1::0::σ) [q5.1,(.p (.int .u64 0)),(.p (.int .i64 4))] q5.2 (some 24)).bind fun q13 =>
(fA q1.1 0).bind fun t14 =>
(ldO false 1 q13.2 t14).bind fun t15 =>
(castI .i64 t15).bind fun n16 =>
bif n16 == 1 then (
bif n16 == 1 then (
(fA q1.1 3).bind fun t17 =>
(ldO false 1 q13.2 t17).bind fun t18 =>
(lenO t18).bind fun t19 =>
(castI .i64 t19).bind fun n20 =>
(loop rtcp_body_c0 rtcp_body_l0 (1::0::1::1::0::1::1::1::0::σ) (envL [(1,q1.1),(2,q13.1),(31,t18),(32,(.p (.int .i64 n20))),(33,(.p (.int .i64 0)))]) q13.2).bind fun r21 => rtcp_body_k0 rec loop σ r21.1 r21.2.1 r21.2.2)
else (
bif n16 == 3 then (
(fA q1.1 2).bind fun t22 =>
(ldO false 1 q13.2 t22).bind fun t23 =>
(castI .u32 t23).bind fun n24 =>
(callO rec 57 (4::0::1::1::1::0::1::1::1::0::σ) [q13.1,(.p (.int .u64 (IntKind.wrap .u64 n24))),(.p (.int .i64 4))] q13.2 (some 61)).bind fun q25 =>
fin true σ q25.2 [q25.1,(.p (.int .i64 206)),(.p (.int .i64 1))])
else (
bif n16 == 4 then (
(fA q1.1 4).bind fun t26 =>
(ldO false 1 q13.2 t26).bind fun t27 =>
(lenO t27).bind fun t28 =>
(castI .i64 t28).bind fun n29 =>
(loop rtcp_body_c1 rtcp_body_l1 (1::0::1::1::1::1::0::1::1::1::0::σ) (envL [(1,q1.1),(2,q13.1),(65,t27),(66,(.p (.int .i64 n29))),(67,(.p (.int .i64 0)))]) q13.2).bind fun r30 => rtcp_body_k1 rec loop σ r30.1 r30.2.1 r30.2.2)
else (
bif n16 == 5 then (
(fA q1.1 4).bind fun t31 =>
(ldO false 1 q13.2 t31).bind fun t32 =>
(lenO t32).bind fun t33 =>
(castI .i64 t33).bind fun n34 =>
(apO true 1 1 (1::0::1::1::1::1::1::0::1::1::1::0::σ) 89 q13.2 q13.1 (.p (.string ((⟨#[82,69,77,66]⟩ : ByteArray))))).bind fun q35 =>
need ((some (.p (.int .u64 (IntKind.wrap .u64 n34))) : Option V) = some (.p (.int .u64 (IntKind.wrap .u64 n34)))) (
need (ldO false 1 q35.2 t31 = some t32) (
(callO rec 57 (6::0::1::1::1::1::1::0::1::1::1::0::σ) [q35.1,(.p (.int .u64 (IntKind.wrap .u64 n34))),(.p (.int .i64 1))] q35.2 (some 94)).bind fun q36 =>
(fA q1.1 6).bind fun t37 =>
(ldO false 1 q36.2 t37).bind fun t38 =>
(castI .u64 t38).bind fun n39 =>
(callO rec 94 (3::0::1::1::1::1::1::1::0::1::1::1::0::σ) [(.p (.int .u64 n39)),(.p (.int .i64 18)),(.p (.int .i64 0)),(.p (.int .u64 0))] q36.2 (some 98)).bind fun q40 =>
(castI .u64 q40.1).bind fun n41 =>
(callO rec 57 (4::0::1::1::1::1::1::1::0::1::1::1::0::σ) [q36.1,(.p (.int .u64 n41)),(.p (.int .i64 3))] q40.2 (some 99)).bind fun q42 =>
(fA q1.1 4).bind fun t43 =>
(ldO false 1 q42.2 t43).bind fun t44 =>
(lenO t44).bind fun t45 =>
(castI .i64 t45).bind fun n46 =>
(loop rtcp_body_c2 rtcp_body_l2 (1::0::1::1::1::1::1::1::1::0::1::1::1::0::σ) (envL [(2,q42.1),(101,t44),(102,(.p (.int .i64 n46))),(103,(.p (.int .i64 0)))]) q42.2).bind fun r47 => rtcp_body_k2 rec loop σ r47.1 r47.2.1 r47.2.2)))
else (
(fA q1.1 9).bind fun t48 =>
(ldO false 1 q13.2 t48).bind fun t49 =>
(fA q1.1 7).bind fun t50 =>
(ldO false 1 q13.2 t50).bind fun t51 =>
(castI .i64 t51).bind fun n52 =>
(fA q1.1 8).bind fun t53 =>
(ldO false 1 q13.2 t53).bind fun t54 =>
(castI .i64 t54).bind fun n55 =>
(callO rec 95 (2::0::1::1::1::1::0::σ) [t49] q13.2 (some 115)).bind fun q56 =>
need (ldO false 1 q56.2 t53 = some (.p (.int .i64 n55))) (
need (ldO false 1 q56.2 t50 = some (.p (.int .i64 n52))) (
fin true σ q56.2 [q56.1,(.p (.int .i64 n52)),(.p (.int .i64 n55))])))))))
else (
bif n16 == 2 then (
(fA q1.1 3).bind fun t57 =>
(ldO false 1 q13.2 t57).bind fun t58 =>
(lenO t58).bind fun t59 =>
(castI .i64 t59).bind fun n60 =>
(loop rtcp_body_c0 rtcp_body_l0 (1::0::1::1::0::1::1::1::0::σ) (envL [(1,q1.1),(2,q13.1),(31,t58),(32,(.p (.int .i64 n60))),(33,(.p (.int .i64 0)))]) q13.2).bind fun r61 => rtcp_body_k0 rec loop σ r61.1 r61.2.1 r61.2.2)
else (
bif n16 == 3 then (
(fA q1.1 2).bind fun t62 =>
(ldO false 1 q13.2 t62).bind fun t63 =>
(castI .u32 t63).bind fun n64 =>
(callO rec 57 (4::0::1::1::1::0::1::1::1::0::σ) [q13.1,(.p (.int .u64 (IntKind.wrap .u64 n64))),(.p (.int .i64 4))] q13.2 (some 61)).bind fun q65 =>
fin true σ q65.2 [q65.1,(.p (.int .i64 206)),(.p (.int .i64 1))])
else (
bif n16 == 4 then (
(fA q1.1 4).bind fun t66 =>
(ldO false 1 q13.2 t66).bind fun t67 =>
(lenO t67).bind fun t68 =>
(castI .i64 t68).bind fun n69 =>
(loop rtcp_body_c1 rtcp_body_l1 (1::0::1::1::1::1::0::1::1::1::0::σ) (envL [(1,q1.1),(2,q13.1),(65,t67),(66,(.p (.int .i64 n69))),(67,(.p (.int .i64 0)))]) q13.2).bind fun r70 => rtcp_body_k1 rec loop σ r70.1 r70.2.1 r70.2.2)
else (
bif n16 == 5 then (
(fA q1.1 4).bind fun t71 =>
(ldO false 1 q13.2 t71).bind fun t72 =>
(lenO t72).bind fun t73 =>
(castI .i64 t73).bind fun n74 =>
(apO true 1 1 (1::0::1::1::1::1::1::0::1::1::1::0::σ) 89 q13.2 q13.1 (.p (.string ((⟨#[82,69,77,66]⟩ : ByteArray))))).bind fun q75 =>
need ((some (.p (.int .u64 (IntKind.wrap .u64 n74))) : Option V) = some (.p (.int .u64 (IntKind.wrap .u64 n74)))) (
need (ldO false 1 q75.2 t71 = some t72) (
(callO rec 57 (6::0::1::1::1::1::1::0::1::1::1::0::σ) [q75.1,(.p (.int .u64 (IntKind.wrap .u64 n74))),(.p (.int .i64 1))] q75.2 (some 94)).bind fun q76 =>
(fA q1.1 6).bind fun t77 =>
(ldO false 1 q76.2 t77).bind fun t78 =>
(castI .u64 t78).bind fun n79 =>
(callO rec 94 (3::0::1::1::1::1::1::1::0::1::1::1::0::σ) [(.p (.int .u64 n79)),(.p (.int .i64 18)),(.p (.int .i64 0)),(.p (.int .u64 0))] q76.2 (some 98)).bind fun q80 =>
(castI .u64 q80.1).bind fun n81 =>
(callO rec 57 (4::0::1::1::1::1::1::1::0::1::1::1::0::σ) [q76.1,(.p (.int .u64 n81)),(.p (.int .i64 3))] q80.2 (some 99)).bind fun q82 =>
(fA q1.1 4).bind fun t83 =>
(ldO false 1 q82.2 t83).bind fun t84 =>
(lenO t84).bind fun t85 =>
(castI .i64 t85).bind fun n86 =>
(loop rtcp_body_c2 rtcp_body_l2 (1::0::1::1::1::1::1::1::1::0::1::1::1::0::σ) (envL [(2,q82.1),(101,t84),(102,(.p (.int .i64 n86))),(103,(.p (.int .i64 0)))]) q82.2).bind fun r87 => rtcp_body_k2 rec loop σ r87.1 r87.2.1 r87.2.2)))
else (
(fA q1.1 9).bind fun t88 =>
(ldO false 1 q13.2 t88).bind fun t89 =>
(fA q1.1 7).bind fun t90 =>
(ldO false 1 q13.2 t90).bind fun t91 =>
(castI .i64 t91).bind fun n92 =>
(fA q1.1 8).bind fun t93 =>
(ldO false 1 q13.2 t93).bind fun t94 =>
(castI .i64 t94).bind fun n95 =>
(callO rec 95 (2::0::1::1::1::1::0::σ) [t89] q13.2 (some 115)).bind fun q96 =>
need (ldO false 1 q96.2 t93 = some (.p (.int .i64 n95))) (
need (ldO false 1 q96.2 t90 = some (.p (.int .i64 n92))) (
fin true σ q96.2 [q96.1,(.p (.int .i64 n92)),(.p (.int .i64 n95))]))))))))
else (
(fA q1.1 0).bind fun t97 =>
(ldO false 1 q5.2 t97).bind fun t98 =>
(castI .i64 t98).bind fun n99 =>
bif n99 == 1 then (
bif n99 == 1 then (
(fA q1.1 3).bind fun t100 =>
(ldO false 1 q5.2 t100).bind fun t101 =>
(lenO t101).bind fun t102 =>
(castI .i64 t102).bind fun n103 =>
(loop rtcp_body_c0 rtcp_body_l0 (1::0::1::1::0::1::1::1::0::σ) (envL [(1,q1.1),(2,q5.1),(31,t101),(32,(.p (.int .i64 n103))),(33,(.p (.int .i64 0)))]) q5.2).bind fun r104 => rtcp_body_k0 rec loop σ r104.1 r104.2.1 r104.2.2)
else (
bif n99 == 3 then (
(fA q1.1 2).bind fun t105 =>
(ldO false 1 q5.2 t105).bind fun t106 =>
(castI .u32 t106).bind fun n107 =>
(callO rec 57 (4::0::1::1::1::0::1::1::1::0::σ) [q5.1,(.p (.int .u64 (IntKind.wrap .u64 n107))),(.p (.int .i64 4))] q5.2 (some 61)).bind fun q108 =>
fin true σ q108.2 [q108.1,(.p (.int .i64 206)),(.p (.int .i64 1))])
else (
bif n99 == 4 then (
(fA q1.1 4).bind fun t109 =>
(ldO false 1 q5.2 t109).bind fun t110 =>
(lenO t110).bind fun t111 =>
(castI .i64 t111).bind fun n112 =>
(loop rtcp_body_c1 rtcp_body_l1 (1::0::1::1::1::1::0::1::1::1::0::σ) (envL [(1,q1.1),(2,q5.1),(65,t110),(66,(.p (.int .i64 n112))),(67,(.p (.int .i64 0)))]) q5.2).bind fun r113 => rtcp_body_k1 rec loop σ r113.1 r113.2.1 r113.2.2)
else (
bif n99 == 5 then (
(fA q1.1 4).bind fun t114 =>
(ldO false 1 q5.2 t114).bind fun t115 =>
(lenO t115).bind fun t116 =>
(castI .i64 t116).bind fun n117 =>
(apO true 1 1 (1::0::1::1::1::1::1::0::1::1::1::0::σ) 89 q5.2 q5.1 (.p (.string ((⟨#[82,69,77,66]⟩ : ByteArray))))).bind fun q118 =>
need ((some (.p (.int .u64 (IntKind.wrap .u64 n117))) : Option V) = some (.p (.int .u64 (IntKind.wrap .u64 n117)))) (
need (ldO false 1 q118.2 t114 = some t115) (
(callO rec 57 (6::0::1::1::1::1::1::0::1::1::1::0::σ) [q118.1,(.p (.int .u64 (IntKind.wrap .u64 n117))),(.p (.int .i64 1))] q118.2 (some 94)).bind fun q119 =>
(fA q1.1 6).bind fun t120 =>
(ldO false 1 q119.2 t120).bind fun t121 =>
(castI .u64 t121).bind fun n122 =>
(callO rec 94 (3::0::1::1::1::1::1::1::0::1::1::1::0::σ) [(.p (.int .u64 n122)),(.p (.int .i64 18)),(.p (.int .i64 0)),(.p (.int .u64 0))] q119.2 (some 98)).bind fun q123 =>
(castI .u64 q123.1).bind fun n124 =>
(callO rec 57 (4::0::1::1::1::1::1::1::0::1::1::1::0::σ) [q119.1,(.p (.int .u64 n124)),(.p (.int .i64 3))] q123.2 (some 99)).bind fun q125 =>
(fA q1.1 4).bind fun t126 =>
(ldO false 1 q125.2 t126).bind fun t127 =>
(lenO t127).bind fun t128 =>
(castI .i64 t128).bind fun n129 =>
(loop rtcp_body_c2 rtcp_body_l2 (1::0::1::1::1::1::1::1::1::0::1::1::1::0::σ) (envL [(2,q125.1),(101,t127),(102,(.p (.int .i64 n129))),(103,(.p (.int .i64 0)))]) q125.2).bind fun r130 => rtcp_body_k2 rec loop σ r130.1 r130.2.1 r130.2.2)))
else (
(fA q1.1 9).bind fun t131 =>
(ldO false 1 q5.2 t131).bind fun t132 =>
(fA q1.1 7).bind fun t133 =>
(ldO false 1 q5.2 t133).bind fun t134 =>
(castI .i64 t134).bind fun n135 =>
(fA q1.1 8).bind fun t136 =>
(ldO false 1 q5.2 t136).bind fun t137 =>
(castI .i64 t137).bind fun n138 =>
(callO rec 95 (2::0::1::1::1::1::0::σ) [t132] q5.2 (some 115)).bind fun q139 =>
need (ldO false 1 q139.2 t136 = some (.p (.int .i64 n138))) (
need (ldO false 1 q139.2 t133 = some (.p (.int .i64 n135))) (
fin true σ q139.2 [q139.1,(.p (.int .i64 n135)),(.p (.int .i64 n138))])))))))
else (
bif n99 == 2 then (
(fA q1.1 3).bind fun t140 =>
(ldO false 1 q5.2 t140).bind fun t141 =>
(lenO t141).bind fun t142 =>
(castI .i64 t142).bind fun n143 =>
(loop rtcp_body_c0 rtcp_body_l0 (1::0::1::1::0::1::1::1::0::σ) (envL [(1,q1.1),(2,q5.1),(31,t141),(32,(.p (.int .i64 n143))),(33,(.p (.int .i64 0)))]) q5.2).bind fun r144 => rtcp_body_k0 rec loop σ r144.1 r144.2.1 r144.2.2)
else (
bif n99 == 3 then (
(fA q1.1 2).bind fun t145 =>
(ldO false 1 q5.2 t145).bind fun t146 =>
(castI .u32 t146).bind fun n147 =>
(callO rec 57 (4::0::1::1::1::0::1::1::1::0::σ) [q5.1,(.p (.int .u64 (IntKind.wrap .u64 n147))),(.p (.int .i64 4))] q5.2 (some 61)).bind fun q148 =>
fin true σ q148.2 [q148.1,(.p (.int .i64 206)),(.p (.int .i64 1))])
else (
bif n99 == 4 then (
(fA q1.1 4).bind fun t149 =>
(ldO false 1 q5.2 t149).bind fun t150 =>
(lenO t150).bind fun t151 =>
(castI .i64 t151).bind fun n152 =>
(loop rtcp_body_c1 rtcp_body_l1 (1::0::1::1::1::1::0::1::1::1::0::σ) (envL [(1,q1.1),(2,q5.1),(65,t150),(66,(.p (.int .i64 n152))),(67,(.p (.int .i64 0)))]) q5.2).bind fun r153 => rtcp_body_k1 rec loop σ r153.1 r153.2.1 r153.2.2)
else (
bif n99 == 5 then (
(fA q1.1 4).bind fun t154 =>
(ldO false 1 q5.2 t154).bind fun t155 =>
(lenO t155).bind fun t156 =>
(castI .i64 t156).bind fun n157 =>
(apO true 1 1 (1::0::1::1::1::1::1::0::1::1::1::0::σ) 89 q5.2 q5.1 (.p (.string ((⟨#[82,69,77,66]⟩ : ByteArray))))).bind fun q158 =>
need ((some (.p (.int .u64 (IntKind.wrap .u64 n157))) : Option V) = some (.p (.int .u64 (IntKind.wrap .u64 n157)))) (
need (ldO false 1 q158.2 t154 = some t155) (
(callO rec 57 (6::0::1::1::1::1::1::0::1::1::1::0::σ) [q158.1,(.p (.int .u64 (IntKind.wrap .u64 n157))),(.p (.int .i64 1))] q158.2 (some 94)).bind fun q159 =>
(fA q1.1 6).bind fun t160 =>
(ldO false 1 q159.2 t160).bind fun t161 =>
(castI .u64 t161).bind fun n162 =>
(callO rec 94 (3::0::1::1::1::1::1::1::0::1::1::1::0::σ) [(.p (.int .u64 n162)),(.p (.int .i64 18)),(.p (.int .i64 0)),(.p (.int .u64 0))] q159.2 (some 98)).bind fun q163 =>
(castI .u64 q163.1).bind fun n164 =>
(callO rec 57 (4::0::1::1::1::1::1::1::0::1::1::1::0::σ) [q159.1,(.p (.int .u64 n164)),(.p (.int .i64 3))] q163.2 (some 99)).bind fun q165 =>
(fA q1.1 4).bind fun t166 =>
(ldO false 1 q165.2 t166).bind fun t167 =>
(lenO t167).bind fun t168 =>
(castI .i64 t168).bind fun n169 =>
(loop rtcp_body_c2 rtcp_body_l2 (1::0::1::1::1::1::1::1::1::0::1::1::1::0::σ) (envL [(2,q165.1),(101,t167),(102,(.p (.int .i64 n169))),(103,(.p (.int .i64 0)))]) q165.2).bind fun r170 => rtcp_body_k2 rec loop σ r170.1 r170.2.1 r170.2.2)))
else (
(fA q1.1 9).bind fun t171 =>
(ldO false 1 q5.2 t171).bind fun t172 =>
(fA q1.1 7).bind fun t173 =>
(ldO false 1 q5.2 t173).bind fun t174 =>
(castI .i64 t174).bind fun n175 =>
(fA q1.1 8).bind fun t176 =>
(ldO false 1 q5.2 t176).bind fun t177 =>
(castI .i64 t177).bind fun n178 =>
(callO rec 95 (2::0::1::1::1::1::0::σ) [t172] q5.2 (some 115)).bind fun q179 =>
need (ldO false 1 q179.2 t176 = some (.p (.int .i64 n178))) (
need (ldO false 1 q179.2 t173 = some (.p (.int .i64 n175))) (
fin true σ q179.2 [q179.1,(.p (.int .i64 n175)),(.p (.int .i64 n178))])))))))):=by kernel_rfl
theorem rtcp_body_r0 (x1 : V) (x2 : V) (x31 : V) (x32 : Int) (x33 : Int) (h : H) : cvRound G rec loop rtcp_body_c0 rtcp_body_l0 σ (envL [(1,x1),(2,x2),(31,x31),(32,(.p (.int .i64 x32))),(33,(.p (.int .i64 x33)))]) h =
bif decide (x33 < x32) then (
(iS 3 x31 x33).bind fun t180 =>
(ldO true 3 h t180).bind fun t181 =>
(some (alO [.p (.int .u32 0),.p (.int .u64 0),.p (.int .i64 0)] (2::0::0::1::1::0::σ) 6 h)).bind fun q182 =>
((stO false 3 (3::0::0::1::1::0::σ) q182.2 q182.1 t181).map fun h => (udf,h)).bind fun q183 =>
(fA q182.1 0).bind fun t184 =>
(ldO false 1 q183.2 t184).bind fun t185 =>
(castI .u32 t185).bind fun n186 =>
(fA q182.1 1).bind fun t187 =>
(ldO false 1 q183.2 t187).bind fun t188 =>
(castI .u64 t188).bind fun n189 =>
(fA q182.1 2).bind fun t190 =>
(ldO false 1 q183.2 t190).bind fun t191 =>
(castI .i64 t191).bind fun n192 =>
(callO rec 57 (4::1::0::1::1::0::σ) [x2,(.p (.int .u64 (IntKind.wrap .u64 n186))),(.p (.int .i64 4))] q183.2 (some 41)).bind fun q193 =>
need ((some (.p (.int .u64 (IntKind.wrap .u64 n192))) : Option V) = some (.p (.int .u64 (IntKind.wrap .u64 n192)))) (
need (ldO false 1 q193.2 t190 = some (.p (.int .i64 n192))) (
need (ldO false 1 q193.2 t187 = some (.p (.int .u64 n189))) (
(callO rec 94 (10::1::0::1::1::0::σ) [(.p (.int .u64 n189)),(.p (.int .i64 17)),(.p (.int .i64 9)),(.p (.int .u64 (IntKind.wrap .u64 n192)))] q193.2 (some 47)).bind fun q194 =>
(castI .u64 q194.1).bind fun n195 =>
(callO rec 57 (11::1::0::1::1::0::σ) [q193.1,(.p (.int .u64 n195)),(.p (.int .i64 4))] q194.2 (some 48)).bind fun q196 =>
loop rtcp_body_c0 rtcp_body_l0 (1::σ) (envL [(1,x1),(2,q196.1),(31,x31),(32,(.p (.int .i64 x32))),(33,(.p (.int .i64 (IntKind.wrap .i64 (x33 + 1)))))]) q196.2))))
else (
some ((.exit 1),(envL [(1,x1),(2,x2)]),h)):=by kernel_rfl
theorem rtcp_body_a0_1 (x1 : V) (x2 : V) (h : H) : rtcp_body_k0 rec loop σ (.exit 1) (envL [(1,x1),(2,x2)]) h =
(fA x1 0).bind fun t197 =>
(ldO false 1 h t197).bind fun t198 =>
(castI .i64 t198).bind fun n199 =>
fin true σ h [x2,(.p (.int .i64 205)),(.p (.int .i64 (IntKind.wrap .i64 ((IntKind.wrap .i64 (3 + n199)) - 1))))]:=by kernel_rfl
theorem rtcp_body_r1 (x1 : V) (x2 : V) (x65 : V) (x66 : Int) (x67 : Int) (h : H) : cvRound G rec loop rtcp_body_c1 rtcp_body_l1 σ (envL [(1,x1),(2,x2),(65,x65),(66,(.p (.int .i64 x66))),(67,(.p (.int .i64 x67)))]) h =
bif decide (x67 < x66) then (
(iS 1 x65 x67).bind fun t200 =>
(ldO false 1 h t200).bind fun t201 =>
(castI .u32 t201).bind fun n202 =>
(fA x1 5).bind fun t203 =>
(ldO false 1 h t203).bind fun t204 =>
(iS 1 t204 x67).bind fun t205 =>
(ldO false 1 h t205).bind fun t206 =>
(castI .i64 t206).bind fun n207 =>
(callO rec 57 (3::1::0::1::1::0::σ) [x2,(.p (.int .u64 (IntKind.wrap .u64 n202))),(.p (.int .i64 4))] h (some 75)).bind fun q208 =>
need ((some (.p (.int .u64 (IntKind.wrap .u64 n207))) : Option V) = some (.p (.int .u64 (IntKind.wrap .u64 n207)))) (
need (ldO false 1 q208.2 t205 = some (.p (.int .i64 n207))) (
need (ldO false 1 q208.2 t203 = some t204) (
(callO rec 57 (10::1::0::1::1::0::σ) [q208.1,(.p (.int .u64 (IntKind.wrap .u64 n207))),(.p (.int .i64 1))] q208.2 (some 82)).bind fun q209 =>
(callO rec 57 (11::1::0::1::1::0::σ) [q209.1,(.p (.int .u64 0)),(.p (.int .i64 3))] q209.2 (some 83)).bind fun q210 =>
loop rtcp_body_c1 rtcp_body_l1 (1::σ) (envL [(1,x1),(2,q210.1),(65,x65),(66,(.p (.int .i64 x66))),(67,(.p (.int .i64 (IntKind.wrap .i64 (x67 + 1)))))]) q210.2))))
else (
some ((.exit 3),(envL [(2,x2)]),h)):=by kernel_rfl
theorem rtcp_body_a1_3 (x2 : V) (h : H) : rtcp_body_k1 rec loop σ (.exit 3) (envL [(2,x2)]) h =
fin true σ h [x2,(.p (.int .i64 206)),(.p (.int .i64 4))]:=by kernel_rfl
theorem rtcp_body_r2 (x2 : V) (x101 : V) (x102 : Int) (x103 : Int) (h : H) : cvRound G rec loop rtcp_body_c2 rtcp_body_l2 σ (envL [(2,x2),(101,x101),(102,(.p (.int .i64 x102))),(103,(.p (.int .i64 x103)))]) h =
bif decide (x103 < x102) then (
(iS 1 x101 x103).bind fun t211 =>
(ldO false 1 h t211).bind fun t212 =>
(castI .u32 t212).bind fun n213 =>
(callO rec 57 (3::1::0::1::1::0::σ) [x2,(.p (.int .u64 (IntKind.wrap .u64 n213))),(.p (.int .i64 4))] h (some 110)).bind fun q214 =>
loop rtcp_body_c2 rtcp_body_l2 (1::σ) (envL [(2,q214.1),(101,x101),(102,(.p (.int .i64 x102))),(103,(.p (.int .i64 (IntKind.wrap .i64 (x103 + 1)))))]) q214.2)
else (
some ((.exit 5),(envL [(2,x2)]),h)):=by kernel_rfl
theorem rtcp_body_a2_5 (x2 : V) (h : H) : rtcp_body_k2 rec loop σ (.exit 5) (envL [(2,x2)]) h =
fin true σ h [x2,(.p (.int .i64 206)),(.p (.int .i64 15))]:=by kernel_rfl
theorem rtcp_packed_entry (x0 : Int) (x1 : Int) (x2 : Int) (x3 : Int) (h : H) : cvBody G rec loop 94 σ [(.p (.int .u64 x0)),(.p (.int .i64 x1)),(.p (.int .i64 x2)),(.p (.int .u64 x3))] h =
(callO rec 128 (2::0::1::0::σ) [(.p (.int .u64 x0)),(.p (.int .i64 x1))] (List.replicate 30 []::h) (some 14)).bind fun q1 =>
(extV q1.1 0).bind fun t2 =>
(castI .i64 t2).bind fun n3 =>
(extV q1.1 1).bind fun t4 =>
(castI .u32 t4).bind fun n5 =>
(shiftV .shl .u64 (IntKind.wrap .u64 n3) (IntKind.wrap .i64 (x1 + x2))).bind fun t6 =>
(castI .u64 t6).bind fun n7 =>
(shiftV .shl .u64 (IntKind.wrap .u64 n5) x2).bind fun t8 =>
(castI .u64 t8).bind fun n9 =>
fin false σ q1.2 [(.p (.int .u64 (intBits .or .u64 (intBits .or .u64 n7 n9) x3)))]:=by kernel_rfl
end
end Go.Ev
namespace Go.Ev
open Go.Proofs
set_option linter.unusedVariables false
set_option linter.unusedSimpArgs false
set_option maxRecDepth 100000
def p_rtcp_packed (k : Nat) (x0 : Int) (x1 : Int) (x2 : Int) (x3 : Int) : Option (Int) :=
(p_rate_Pack k x0 x1).bind fun r1 =>
(shP .shl .u64 (IntKind.wrap .u64 r1.1) (IntKind.wrap .i64 (x1 + x2))).bind fun n6 =>
(shP .shl .u64 (IntKind.wrap .u64 r1.2) x2).bind fun n8 =>
some ((intBits .or .u64 (intBits .or .u64 n6 n8) x3))
theorem rtcp_packed_ok (k : Nat) {h : H} {σ : Stamp} (x0 : Int) (x1 : Int) (x2 : Int) (x3 : Int) : Sim (p_rtcp_packed k x0 x1 x2 x3) (ev G X0 94 σ [(.p (.int .u64 x0)),(.p (.int .i64 x1)),(.p (.int .i64 x2)),(.p (.int .u64 x3))] h) (fun r s => s = ([.v (.p (.int .u64 r))],h)):=by
  refine Sim.ev rfl (Sim.ext (rtcp_packed_entry _ _ _ _ _ _ _ _) ?_)
  rw [p_rtcp_packed]
  have S0 : Fm 30 h [] [] [] (List.replicate 30 []::h):=Fm.start0
  refine Sim.call (rate_Pack_ok k x0 x1) fun r1 cs2 H3 h4 q5 => ?_
  cases q5
  refine Sim.or ?_
  refine Sim.ci ?_
  refine Sim.or ?_
  refine Sim.ci ?_
  refine Sim.bd fun n6 h7 => ?_
  refine Sim.op (shP_ok h7) ?_
  refine Sim.ci ?_
  refine Sim.bd fun n8 h9 => ?_
  refine Sim.op (shP_ok h9) ?_
  refine Sim.ci ?_
  exact Sim.fin (S0.finN (lC (sI _ _).lv lN)) rfl
def p_rtcp_body_l0 {β : Type} (k : Nat) (kE0 : (List Int)→TaiReport→Option β) (x2 : (List Int)) (x31 : (List TaiTuple)) (x32 : Int) (x33 : Int) (yg12 : TaiReport) : Option β:=match k with
| 0 => none
| k + 1 =>
bif decide (x33 < x32) then (
(ix x31 x33).bind fun a64 =>
(p_octet_Put k x2 (IntKind.wrap .u64 a64.Owner) 4).bind fun r76 =>
(p_rtcp_packed k a64.Rate 17 9 (IntKind.wrap .u64 a64.Over)).bind fun r90 =>
(p_octet_Put k r76 r90 4).bind fun r95 =>
p_rtcp_body_l0 k kE0 r95 x31 x32 (IntKind.wrap .i64 (x33 + 1)) yg12)
else (
kE0 x2 yg12)
def p_rtcp_body_l1 {β : Type} (k : Nat) (kE0 : (List Int)→Option β) (x2 : (List Int)) (x65 : (List Int)) (x66 : Int) (x67 : Int) (yg12 : TaiReport) : Option β:=match k with
| 0 => none
| k + 1 =>
bif decide (x67 < x66) then (
(ix x65 x67).bind fun a206 =>
(ix yg12.Numbers x67).bind fun a209 =>
(p_octet_Put k x2 (IntKind.wrap .u64 a206) 4).bind fun r212 =>
(p_octet_Put k r212 (IntKind.wrap .u64 a209) 1).bind fun r227 =>
(p_octet_Put k r227 0 3).bind fun r241 =>
p_rtcp_body_l1 k kE0 r241 x65 x66 (IntKind.wrap .i64 (x67 + 1)) yg12)
else (
kE0 x2)
def p_rtcp_body_l2 {β : Type} (k : Nat) (kE0 : (List Int)→Option β) (x2 : (List Int)) (x101 : (List Int)) (x102 : Int) (x103 : Int) : Option β:=match k with
| 0 => none
| k + 1 =>
bif decide (x103 < x102) then (
(ix x101 x103).bind fun a318 =>
(p_octet_Put k x2 (IntKind.wrap .u64 a318) 4).bind fun r321 =>
p_rtcp_body_l2 k kE0 r321 x101 x102 (IntKind.wrap .i64 (x103 + 1)))
else (
kE0 x2)
def p_rtcp_body (k : Nat) (x0 : TaiReport) : Option ((List Int) × Int × Int) :=
(p_octet_Put k (([] : List Int)) (IntKind.wrap .u64 x0.From) 4).bind fun r13 =>
(bif x0.Kind != 3 then (some (x0.Kind != 6)) else (some false)).bind fun b27 =>
bif b27 then (
(p_octet_Put k r13 0 4).bind fun r32 =>
bif x0.Kind == 1 then (
p_rtcp_body_l0 k (fun r124_2 yg62 =>
some (r124_2,205,(IntKind.wrap .i64 ((IntKind.wrap .i64 (3 + yg62.Kind)) - 1)))) r32 x0.Tuples ((x0.Tuples.length : Int)) 0 x0)
else (
bif x0.Kind == 2 then (
p_rtcp_body_l0 k (fun r146_2 yg62 =>
some (r146_2,205,(IntKind.wrap .i64 ((IntKind.wrap .i64 (3 + yg62.Kind)) - 1)))) r32 x0.Tuples ((x0.Tuples.length : Int)) 0 x0)
else (
bif x0.Kind == 3 then (
(p_octet_Put k r32 (IntKind.wrap .u64 x0.About) 4).bind fun r168 =>
some (r168,206,1))
else (
bif x0.Kind == 4 then (
p_rtcp_body_l1 k (fun r260_2 =>
some (r260_2,206,4)) r32 x0.Abouts ((x0.Abouts.length : Int)) 0 x0)
else (
bif x0.Kind == 5 then (
(ap 1 r32 (bytesS ((⟨#[82,69,77,66]⟩ : ByteArray)))).bind fun a272 =>
(p_octet_Put k a272 (IntKind.wrap .u64 ((x0.Abouts.length : Int))) 1).bind fun r278 =>
(p_rtcp_packed k x0.Rate 18 0 0).bind fun r292 =>
(p_octet_Put k r278 r292 3).bind fun r297 =>
p_rtcp_body_l2 k (fun r340_2 =>
some (r340_2,206,15)) r297 x0.Abouts ((x0.Abouts.length : Int)) 0)
else (
(p_clone 1 x0.Body).bind fun r351 =>
some (r351,x0.f_Type,x0.Count)))))))
else (
bif x0.Kind == 1 then (
p_rtcp_body_l0 k (fun r372_2 yg62 =>
some (r372_2,205,(IntKind.wrap .i64 ((IntKind.wrap .i64 (3 + yg62.Kind)) - 1)))) r13 x0.Tuples ((x0.Tuples.length : Int)) 0 x0)
else (
bif x0.Kind == 2 then (
p_rtcp_body_l0 k (fun r394_2 yg62 =>
some (r394_2,205,(IntKind.wrap .i64 ((IntKind.wrap .i64 (3 + yg62.Kind)) - 1)))) r13 x0.Tuples ((x0.Tuples.length : Int)) 0 x0)
else (
bif x0.Kind == 3 then (
(p_octet_Put k r13 (IntKind.wrap .u64 x0.About) 4).bind fun r416 =>
some (r416,206,1))
else (
bif x0.Kind == 4 then (
p_rtcp_body_l1 k (fun r437_2 =>
some (r437_2,206,4)) r13 x0.Abouts ((x0.Abouts.length : Int)) 0 x0)
else (
bif x0.Kind == 5 then (
(ap 1 r13 (bytesS ((⟨#[82,69,77,66]⟩ : ByteArray)))).bind fun a449 =>
(p_octet_Put k a449 (IntKind.wrap .u64 ((x0.Abouts.length : Int))) 1).bind fun r455 =>
(p_rtcp_packed k x0.Rate 18 0 0).bind fun r469 =>
(p_octet_Put k r455 r469 3).bind fun r474 =>
p_rtcp_body_l2 k (fun r488_2 =>
some (r488_2,206,15)) r474 x0.Abouts ((x0.Abouts.length : Int)) 0)
else (
(p_clone 1 x0.Body).bind fun r499 =>
some (r499,x0.f_Type,x0.Count)))))))
theorem rtcp_body_l0_ok {h : H}  {β α : Type} {Q : β→α→Prop} {K : Exit × Env × H→Option α} {kE0 : (List Int)→TaiReport→Option β} (hE0 : ∀ (q2 : (List Int)) (yg62 : TaiReport) (v112 : V) (v114 : V) (h115 : SlF dTaiTuple yg62.Tuples v114) (v116 : V) (h117 : SlF (dI .u32) yg62.Abouts v116) (v118 : V) (h119 : SlF (dI .i64) yg62.Numbers v118) (v120 : V) (h121 : SlF (dI .u8) yg62.Body v120) (s122 : Stamp) (H110 : Go.Ev.H) (_ : Fm 120 h [] [(1,s122,List.map C.v [(.p (.int .i64 yg62.Kind)),(.p (.int .u32 yg62.From)),(.p (.int .u32 yg62.About)),v114,v116,v118,(.p (.int .u64 yg62.Rate)),(.p (.int .i64 yg62.f_Type)),(.p (.int .i64 yg62.Count)),v120])] [⟨[14,24,48],v112,(dI .u8),q2⟩] H110),Sim (kE0 q2 yg62) (K ((.exit 1),(envL [(1,(.ref ⟨h.length,1,0,s122,[]⟩ 0)),(2,v112)]),H110)) Q) (k : Nat) : ∀ (x2 : (List Int)) (x31 : (List TaiTuple)) (x32 : Int) (x33 : Int) (yg12 : TaiReport) (v49 : V) (v51 : V) (h52 : SlF dTaiTuple x31 v51) (v53 : V) (h54 : SlF dTaiTuple yg12.Tuples v53) (v55 : V) (h56 : SlF (dI .u32) yg12.Abouts v55) (v57 : V) (h58 : SlF (dI .i64) yg12.Numbers v57) (v59 : V) (h60 : SlF (dI .u8) yg12.Body v59) (s61 : Stamp) (H47 : Go.Ev.H) (_ : Fm 120 h [] [(1,s61,List.map C.v [(.p (.int .i64 yg12.Kind)),(.p (.int .u32 yg12.From)),(.p (.int .u32 yg12.About)),v53,v55,v57,(.p (.int .u64 yg12.Rate)),(.p (.int .i64 yg12.f_Type)),(.p (.int .i64 yg12.Count)),v59])] [⟨[14,24,48],v49,(dI .u8),x2⟩] H47) {σ : Stamp},Sim (p_rtcp_body_l0 k kE0 x2 x31 x32 x33 yg12) ((cvL G X0 rtcp_body_c0 rtcp_body_l0 σ (envL [(1,(.ref ⟨h.length,1,0,s61,[]⟩ 0)),(2,v49),(31,v51),(32,(.p (.int .i64 x32))),(33,(.p (.int .i64 x33)))]) H47).bind K) Q:=by
  induction k with
  | zero => intros; exact Sim.no
  | succ k ih =>
    intro x2 x31 x32 x33 yg12 v49 v51 h52 v53 h54 v55 h56 v57 h58 v59 h60 s61 H47 S48 σ
    rw [p_rtcp_body_l0]
    refine Sim.round (Sim.ext (rtcp_body_r0 _ _ _ _ _ _ _ _ _) ?_)
    refine Sim.cq ?_ ?_
    · refine Sim.bd fun a64 h65 => ?_
      refine Sim.op ((h52.h H47).iS h65 rfl) ?_
      obtain ⟨w67,h68,hE66⟩:=(h52.h H47).el h65 rfl
      obtain rfl:=dTaiTuple.inv h68
      refine Sim.op (hE66.all (by simp)) ?_
      obtain ⟨H69,e70,S71⟩:=S48.al (d:=6) (s:=(2::0::0::1::1::0::σ)) (z:=[(.p (.int .u32 0)),(.p (.int .u64 0)),(.p (.int .i64 0))]) (by decide) rfl
      refine Sim.op (congrArg some e70) ?_
      obtain ⟨H73,e74,S75⟩:=S71.stGv (i:=0) (j:=0) (own:=false) (σ:=(3::0::0::1::1::0::σ)) (xs:=[.p (.int .u32 a64.Owner),.p (.int .u64 a64.Rate),.p (.int .i64 a64.Over)]) rfl rfl (sC (sI _ _) (sC (sI _ _) (sC (sI _ _) sN))) rfl rfl
      refine Sim.op (sM e74) ?_
      refine Sim.fa ?_
      refine Sim.op ((S75.atG (i:=0) rfl).ld (j:=0) rfl) ?_
      refine Sim.ci ?_
      refine Sim.fa ?_
      refine Sim.op ((S75.atG (i:=0) rfl).ld (j:=1) rfl) ?_
      refine Sim.ci ?_
      refine Sim.fa ?_
      refine Sim.op ((S75.atG (i:=0) rfl).ld (j:=2) rfl) ?_
      refine Sim.ci ?_
      refine Sim.call (octet_Put_ok k x2 (S75.sl (i:=0) rfl) (IntKind.wrap .u64 a64.Owner) 4) fun r76 cs77 H78 h79 q80 => ?_
      obtain ⟨c81,cs82,h83,h84,q80⟩:=q80
      cases q80
      obtain ⟨v85,H86,e87,S88⟩:=S75.land (dt:=(dI .u8)) (d:=41) (e:=0) (n:=0) h83 h84 (by decide) rfl
      erw [e87]
      refine Sim.nd (rfl) ?_
      refine Sim.nd ((S88.atG (i:=0) rfl).ld (j:=2) rfl) ?_
      refine Sim.nd ((S88.atG (i:=0) rfl).ld (j:=1) rfl) ?_
      refine Sim.call (rtcp_packed_ok k a64.Rate 17 9 (IntKind.wrap .u64 a64.Over)) fun r90 cs91 H92 h93 q94 => ?_
      cases q94
      refine Sim.ci ?_
      refine Sim.call (octet_Put_ok k r76 (S88.sl (i:=0) rfl) r90 4) fun r95 cs96 H97 h98 q99 => ?_
      obtain ⟨c100,cs101,h102,h103,q99⟩:=q99
      cases q99
      have S104:=Fm.wk S88 (aC (aM 0 rfl) (aC (aM 1 rfl) aN)) (aC (aM 0 rfl) aN)
      obtain ⟨v105,H106,e107,S108⟩:=S104.land (dt:=(dI .u8)) (d:=48) (e:=0) (n:=0) h102 h103 (by decide) rfl
      erw [e107]
      exact ih r95 x31 x32 (IntKind.wrap .i64 (x33 + 1)) yg12 v105 v51 h52 v53 h54 v55 h56 v57 h58 v59 h60 s61 H106 (S108.wk2 (aC (aM 1 rfl) aN) (aC ⟨[48],by simp,aM 0 rfl⟩ aN))
    exact hE0 x2 yg12 v49 v53 h54 v55 h56 v57 h58 v59 h60 s61 H47 (S48.wk2 (aC (aM 0 rfl) aN) (aC ⟨[14,24,48],by simp,aM 0 rfl⟩ aN))
theorem rtcp_body_l1_ok {h : H}  {β α : Type} {Q : β→α→Prop} {K : Exit × Env × H→Option α} {kE0 : (List Int)→Option β} (hE0 : ∀ (q2 : (List Int)) (v258 : V) (H256 : Go.Ev.H) (_ : Fm 120 h [] [] [⟨[14,24,83],v258,(dI .u8),q2⟩] H256),Sim (kE0 q2) (K ((.exit 3),(envL [(2,v258)]),H256)) Q) (k : Nat) : ∀ (x2 : (List Int)) (x65 : (List Int)) (x66 : Int) (x67 : Int) (yg12 : TaiReport) (v191 : V) (v193 : V) (h194 : SlF (dI .u32) x65 v193) (v195 : V) (h196 : SlF dTaiTuple yg12.Tuples v195) (v197 : V) (h198 : SlF (dI .u32) yg12.Abouts v197) (v199 : V) (h200 : SlF (dI .i64) yg12.Numbers v199) (v201 : V) (h202 : SlF (dI .u8) yg12.Body v201) (s203 : Stamp) (H189 : Go.Ev.H) (_ : Fm 120 h [] [(1,s203,List.map C.v [(.p (.int .i64 yg12.Kind)),(.p (.int .u32 yg12.From)),(.p (.int .u32 yg12.About)),v195,v197,v199,(.p (.int .u64 yg12.Rate)),(.p (.int .i64 yg12.f_Type)),(.p (.int .i64 yg12.Count)),v201])] [⟨[14,24,83],v191,(dI .u8),x2⟩] H189) {σ : Stamp},Sim (p_rtcp_body_l1 k kE0 x2 x65 x66 x67 yg12) ((cvL G X0 rtcp_body_c1 rtcp_body_l1 σ (envL [(1,(.ref ⟨h.length,1,0,s203,[]⟩ 0)),(2,v191),(65,v193),(66,(.p (.int .i64 x66))),(67,(.p (.int .i64 x67)))]) H189).bind K) Q:=by
  induction k with
  | zero => intros; exact Sim.no
  | succ k ih =>
    intro x2 x65 x66 x67 yg12 v191 v193 h194 v195 h196 v197 h198 v199 h200 v201 h202 s203 H189 S190 σ
    rw [p_rtcp_body_l1]
    refine Sim.round (Sim.ext (rtcp_body_r1 _ _ _ _ _ _ _ _ _) ?_)
    refine Sim.cq ?_ ?_
    · refine Sim.bd fun a206 h207 => ?_
      refine Sim.op ((h194.h H189).iS h207 rfl) ?_
      obtain ⟨_,rfl,hE208⟩:=(h194.h H189).el h207 rfl
      refine Sim.op (hE208.ld (j:=0) rfl) ?_
      refine Sim.ci ?_
      refine Sim.fa ?_
      refine Sim.op ((S190.atG (i:=0) rfl).ld (j:=5) rfl) ?_
      refine Sim.bd fun a209 h210 => ?_
      refine Sim.op ((h200.h H189).iS h210 rfl) ?_
      obtain ⟨_,rfl,hE211⟩:=(h200.h H189).el h210 rfl
      refine Sim.op (hE211.ld (j:=0) rfl) ?_
      refine Sim.ci ?_
      refine Sim.call (octet_Put_ok k x2 (S190.sl (i:=0) rfl) (IntKind.wrap .u64 a206) 4) fun r212 cs213 H214 h215 q216 => ?_
      obtain ⟨c217,cs218,h219,h220,q216⟩:=q216
      cases q216
      obtain ⟨v221,H222,e223,S224⟩:=S190.land (dt:=(dI .u8)) (d:=75) (e:=0) (n:=0) h219 h220 (by decide) rfl
      erw [e223]
      refine Sim.nd (rfl) ?_
      obtain ⟨_,rfl,hE226⟩:=(h200.h H222).el h210 rfl
      refine Sim.nd (hE226.ld (j:=0) rfl) ?_
      refine Sim.nd ((S224.atG (i:=0) rfl).ld (j:=5) rfl) ?_
      refine Sim.call (octet_Put_ok k r212 (S224.sl (i:=0) rfl) (IntKind.wrap .u64 a209) 1) fun r227 cs228 H229 h230 q231 => ?_
      obtain ⟨c232,cs233,h234,h235,q231⟩:=q231
      cases q231
      obtain ⟨v236,H237,e238,S239⟩:=S224.land (dt:=(dI .u8)) (d:=82) (e:=0) (n:=0) h234 h235 (by decide) rfl
      erw [e238]
      refine Sim.call (octet_Put_ok k r227 (S239.sl (i:=0) rfl) 0 3) fun r241 cs242 H243 h244 q245 => ?_
      obtain ⟨c246,cs247,h248,h249,q245⟩:=q245
      cases q245
      have S250:=Fm.wk S239 (aC (aM 0 rfl) aN) (aC (aM 0 rfl) (aC (aM 1 rfl) aN))
      obtain ⟨v251,H252,e253,S254⟩:=S250.land (dt:=(dI .u8)) (d:=83) (e:=0) (n:=0) h248 h249 (by decide) rfl
      erw [e253]
      exact ih r241 x65 x66 (IntKind.wrap .i64 (x67 + 1)) yg12 v251 v193 h194 v195 h196 v197 h198 v199 h200 v201 h202 s203 H252 (S254.wk2 (aC (aM 0 rfl) aN) (aC ⟨[83],by simp,aM 0 rfl⟩ aN))
    exact hE0 x2 v191 H189 (S190.wk2 aN (aC ⟨[14,24,83],by simp,aM 0 rfl⟩ aN))
theorem rtcp_body_l2_ok {h : H}  {β α : Type} {Q : β→α→Prop} {K : Exit × Env × H→Option α} {kE0 : (List Int)→Option β} (hE0 : ∀ (q2 : (List Int)) (v338 : V) (H336 : Go.Ev.H) (_ : Fm 120 h [] [] [⟨[99,110],v338,(dI .u8),q2⟩] H336),Sim (kE0 q2) (K ((.exit 5),(envL [(2,v338)]),H336)) Q) (k : Nat) : ∀ (x2 : (List Int)) (x101 : (List Int)) (x102 : Int) (x103 : Int) (v313 : V) (v315 : V) (h316 : SlF (dI .u32) x101 v315) (H311 : Go.Ev.H) (_ : Fm 120 h [] [] [⟨[99,110],v313,(dI .u8),x2⟩] H311) {σ : Stamp},Sim (p_rtcp_body_l2 k kE0 x2 x101 x102 x103) ((cvL G X0 rtcp_body_c2 rtcp_body_l2 σ (envL [(2,v313),(101,v315),(102,(.p (.int .i64 x102))),(103,(.p (.int .i64 x103)))]) H311).bind K) Q:=by
  induction k with
  | zero => intros; exact Sim.no
  | succ k ih =>
    intro x2 x101 x102 x103 v313 v315 h316 H311 S312 σ
    rw [p_rtcp_body_l2]
    refine Sim.round (Sim.ext (rtcp_body_r2 _ _ _ _ _ _ _ _) ?_)
    refine Sim.cq ?_ ?_
    · refine Sim.bd fun a318 h319 => ?_
      refine Sim.op ((h316.h H311).iS h319 rfl) ?_
      obtain ⟨_,rfl,hE320⟩:=(h316.h H311).el h319 rfl
      refine Sim.op (hE320.ld (j:=0) rfl) ?_
      refine Sim.ci ?_
      refine Sim.call (octet_Put_ok k x2 (S312.sl (i:=0) rfl) (IntKind.wrap .u64 a318) 4) fun r321 cs322 H323 h324 q325 => ?_
      obtain ⟨c326,cs327,h328,h329,q325⟩:=q325
      cases q325
      have S330:=Fm.wk S312 aN aN
      obtain ⟨v331,H332,e333,S334⟩:=S330.land (dt:=(dI .u8)) (d:=110) (e:=0) (n:=0) h328 h329 (by decide) rfl
      erw [e333]
      exact ih r321 x101 x102 (IntKind.wrap .i64 (x103 + 1)) v331 v315 h316 H332 (S334.wk2 aN (aC ⟨[110],by simp,aM 0 rfl⟩ aN))
    exact hE0 x2 v313 H311 (S312.wk2 aN (aC ⟨[99,110],by simp,aM 0 rfl⟩ aN))
theorem rtcp_body_ok (k : Nat) {h : H} {σ : Stamp} (x0 : TaiReport) {u0 : List V} (hu0 : dTaiReport.R x0 u0) : Sim (p_rtcp_body k x0) (ev G X0 56 σ [(.agg u0)] h) (fun r s => ∃ (v0 : V),SlF (dI .u8) r.1 v0∧s = ([.v v0,.v (.p (.int .i64 r.2.1)),.v (.p (.int .i64 r.2.2))],h)):=by
  refine Sim.ev rfl (Sim.ext (rtcp_body_entry _ _ _ _ _) ?_)
  rw [p_rtcp_body]
  obtain ⟨v1,v3,v5,v7,rfl,h2,h4,h6,h8⟩:=dTaiReport.inv hu0
  have S0 : Fm 120 h [] [] [] (List.replicate 120 []::h):=Fm.start0
  obtain ⟨H9,e10,S11⟩:=S0.box (own:=false) (d:=1) (s:=(0::0::0::σ)) (xs:=[(.p (.int .i64 x0.Kind)),(.p (.int .u32 x0.From)),(.p (.int .u32 x0.About)),v1,v3,v5,(.p (.int .u64 x0.Rate)),(.p (.int .i64 x0.f_Type)),(.p (.int .i64 x0.Count)),v7]) (sC (sI _ _) (sC (sI _ _) (sC (sI _ _) (sC h2.still (sC h4.still (sC h6.still (sC (sI _ _) (sC (sI _ _) (sC (sI _ _) (sC h8.still sN)))))))))) (by decide) rfl
  refine Sim.op (e10) ?_
  refine Sim.fa ?_
  refine Sim.op ((S11.atG (i:=0) rfl).ld (j:=1) rfl) ?_
  refine Sim.ci ?_
  refine Sim.call (octet_Put_ok k (([] : List Int)) ((SlF.nil (dI .u8)).h H9) (IntKind.wrap .u64 x0.From) 4) fun r13 cs14 H15 h16 q17 => ?_
  obtain ⟨c18,cs19,h20,h21,q17⟩:=q17
  cases q17
  obtain ⟨v22,H23,e24,S25⟩:=S11.land (dt:=(dI .u8)) (d:=14) (e:=0) (n:=0) h20 h21 (by decide) rfl
  erw [e24]
  refine Sim.fa ?_
  refine Sim.op ((S25.atG (i:=0) rfl).ld (j:=0) rfl) ?_
  refine Sim.ci ?_
  refine Sim.ch (P:=fun r y => r = y) ?_ (fun b27 y28 h29 h30 => ?_)
  · refine Sim.cq ?_ ?_
    · refine Sim.fa ?_
      refine Sim.op ((S25.atG (i:=0) rfl).ld (j:=0) rfl) ?_
      refine Sim.ci ?_
      exact Sim.ret rfl rfl
    · exact Sim.ret rfl rfl
  subst h30
  refine Sim.cq ?_ ?_
  · refine Sim.call (octet_Put_ok k r13 (S25.sl (i:=0) rfl) 0 4) fun r32 cs33 H34 h35 q36 => ?_
    obtain ⟨c37,cs38,h39,h40,q36⟩:=q36
    cases q36
    obtain ⟨v41,H42,e43,S44⟩:=S25.land (dt:=(dI .u8)) (d:=24) (e:=0) (n:=0) h39 h40 (by decide) rfl
    erw [e43]
    refine Sim.fa ?_
    refine Sim.op ((S44.atG (i:=0) rfl).ld (j:=0) rfl) ?_
    refine Sim.ci ?_
    refine Sim.cd (fun hc46 => ?_) (fun hc46 => ?_)
    · refine Sim.cdt (eqT (beq_iff_eq.1 hc46)) ?_
      refine Sim.fa ?_
      refine Sim.op ((S44.atG (i:=0) rfl).ld (j:=3) rfl) ?_
      refine Sim.op ((h2.h H42).len) ?_
      refine Sim.ci ?_
      refine Sim.as (rtcp_body_l0_ok ?_ k r32 x0.Tuples ((x0.Tuples.length : Int)) 0 x0 v41 v1 h2 v1 h2 v3 h4 v5 h6 v7 h8 (0::0::0::σ) H42 (S44.wk2 (aC (aM 0 rfl) aN) (aC ⟨[24],by simp,aM 0 rfl⟩ aN)))
      · intro r124_2 yg62 v127 v129 h130 v131 h132 v133 h134 v135 h136 s137 H125 S126
        refine Sim.ext (rtcp_body_a0_1 _ _ _ _ _ _) ?_
        refine Sim.fa ?_
        refine Sim.op ((S126.atG (i:=0) rfl).ld (j:=0) rfl) ?_
        refine Sim.ci ?_
        obtain ⟨v144,H139,e140,h142,S141⟩:=S126.expFrz (i:=0) (τ:=0::1::σ) rfl rfl
        exact Sim.fin (S141.finE (Ex.st e140 (Ex.pl (sI _ _).lv (Ex.pl (sI _ _).lv Ex.nil)))) ⟨v144,h142,rfl⟩
    refine Sim.cq ?_ ?_
    · refine Sim.fa ?_
      refine Sim.op ((S44.atG (i:=0) rfl).ld (j:=3) rfl) ?_
      refine Sim.op ((h2.h H42).len) ?_
      refine Sim.ci ?_
      refine Sim.as (rtcp_body_l0_ok ?_ k r32 x0.Tuples ((x0.Tuples.length : Int)) 0 x0 v41 v1 h2 v1 h2 v3 h4 v5 h6 v7 h8 (0::0::0::σ) H42 (S44.wk2 (aC (aM 0 rfl) aN) (aC ⟨[24],by simp,aM 0 rfl⟩ aN)))
      · intro r146_2 yg62 v149 v151 h152 v153 h154 v155 h156 v157 h158 s159 H147 S148
        refine Sim.ext (rtcp_body_a0_1 _ _ _ _ _ _) ?_
        refine Sim.fa ?_
        refine Sim.op ((S148.atG (i:=0) rfl).ld (j:=0) rfl) ?_
        refine Sim.ci ?_
        obtain ⟨v166,H161,e162,h164,S163⟩:=S148.expFrz (i:=0) (τ:=0::1::σ) rfl rfl
        exact Sim.fin (S163.finE (Ex.st e162 (Ex.pl (sI _ _).lv (Ex.pl (sI _ _).lv Ex.nil)))) ⟨v166,h164,rfl⟩
    refine Sim.cq ?_ ?_
    · refine Sim.fa ?_
      refine Sim.op ((S44.atG (i:=0) rfl).ld (j:=2) rfl) ?_
      refine Sim.ci ?_
      refine Sim.call (octet_Put_ok k r32 (S44.sl (i:=0) rfl) (IntKind.wrap .u64 x0.About) 4) fun r168 cs169 H170 h171 q172 => ?_
      obtain ⟨c173,cs174,h175,h176,q172⟩:=q172
      cases q172
      obtain ⟨v177,H178,e179,S180⟩:=S44.land (dt:=(dI .u8)) (d:=61) (e:=0) (n:=0) h175 h176 (by decide) rfl
      erw [e179]
      obtain ⟨v187,H182,e183,h185,S184⟩:=S180.expFrz (i:=0) (τ:=0::1::σ) rfl rfl
      exact Sim.fin (S184.finE (Ex.st e183 (Ex.pl (sI _ _).lv (Ex.pl (sI _ _).lv Ex.nil)))) ⟨v187,h185,rfl⟩
    refine Sim.cq ?_ ?_
    · refine Sim.fa ?_
      refine Sim.op ((S44.atG (i:=0) rfl).ld (j:=4) rfl) ?_
      refine Sim.op ((h4.h H42).len) ?_
      refine Sim.ci ?_
      refine Sim.as (rtcp_body_l1_ok ?_ k r32 x0.Abouts ((x0.Abouts.length : Int)) 0 x0 v41 v3 h4 v1 h2 v3 h4 v5 h6 v7 h8 (0::0::0::σ) H42 (S44.wk2 (aC (aM 0 rfl) aN) (aC ⟨[24],by simp,aM 0 rfl⟩ aN)))
      · intro r260_2 v263 H261 S262
        refine Sim.ext (rtcp_body_a1_3 _ _ _ _ _) ?_
        obtain ⟨v270,H265,e266,h268,S267⟩:=S262.expFrz (i:=0) (τ:=0::1::σ) rfl rfl
        exact Sim.fin (S267.finE (Ex.st e266 (Ex.pl (sI _ _).lv (Ex.pl (sI _ _).lv Ex.nil)))) ⟨v270,h268,rfl⟩
    refine Sim.cq ?_ ?_
    · refine Sim.fa ?_
      refine Sim.op ((S44.atG (i:=0) rfl).ld (j:=4) rfl) ?_
      refine Sim.op ((h4.h H42).len) ?_
      refine Sim.ci ?_
      refine Sim.bd fun a272 h273 => ?_
      obtain ⟨v274,H275,e276,S277⟩:=S44.app (i:=0) (d:=89) (e:=1) (own:=true) (σ:=(1::0::1::1::1::1::1::0::1::1::1::0::σ)) rfl (ysS H42 ((⟨#[82,69,77,66]⟩ : ByteArray))) h273 rfl (by decide) (by decide) rfl
      refine Sim.op (e276) ?_
      refine Sim.nd (rfl) ?_
      refine Sim.nd ((S277.atG (i:=0) rfl).ld (j:=4) rfl) ?_
      refine Sim.call (octet_Put_ok k a272 (S277.sl (i:=0) rfl) (IntKind.wrap .u64 ((x0.Abouts.length : Int))) 1) fun r278 cs279 H280 h281 q282 => ?_
      obtain ⟨c283,cs284,h285,h286,q282⟩:=q282
      cases q282
      obtain ⟨v287,H288,e289,S290⟩:=S277.land (dt:=(dI .u8)) (d:=94) (e:=0) (n:=0) h285 h286 (by decide) rfl
      erw [e289]
      refine Sim.fa ?_
      refine Sim.op ((S290.atG (i:=0) rfl).ld (j:=6) rfl) ?_
      refine Sim.ci ?_
      refine Sim.call (rtcp_packed_ok k x0.Rate 18 0 0) fun r292 cs293 H294 h295 q296 => ?_
      cases q296
      refine Sim.ci ?_
      refine Sim.call (octet_Put_ok k r278 (S290.sl (i:=0) rfl) r292 3) fun r297 cs298 H299 h300 q301 => ?_
      obtain ⟨c302,cs303,h304,h305,q301⟩:=q301
      cases q301
      obtain ⟨v306,H307,e308,S309⟩:=S290.land (dt:=(dI .u8)) (d:=99) (e:=0) (n:=0) h304 h305 (by decide) rfl
      erw [e308]
      refine Sim.fa ?_
      refine Sim.op ((S309.atG (i:=0) rfl).ld (j:=4) rfl) ?_
      refine Sim.op ((h4.h H307).len) ?_
      refine Sim.ci ?_
      refine Sim.as (rtcp_body_l2_ok ?_ k r297 x0.Abouts ((x0.Abouts.length : Int)) 0 v306 v3 h4 H307 (S309.wk2 aN (aC ⟨[99],by simp,aM 0 rfl⟩ aN)))
      · intro r340_2 v343 H341 S342
        refine Sim.ext (rtcp_body_a2_5 _ _ _ _ _) ?_
        obtain ⟨v350,H345,e346,h348,S347⟩:=S342.expFrz (i:=0) (τ:=0::1::σ) rfl rfl
        exact Sim.fin (S347.finE (Ex.st e346 (Ex.pl (sI _ _).lv (Ex.pl (sI _ _).lv Ex.nil)))) ⟨v350,h348,rfl⟩
    refine Sim.fa ?_
    refine Sim.op ((S44.atG (i:=0) rfl).ld (j:=9) rfl) ?_
    refine Sim.fa ?_
    refine Sim.op ((S44.atG (i:=0) rfl).ld (j:=7) rfl) ?_
    refine Sim.ci ?_
    refine Sim.fa ?_
    refine Sim.op ((S44.atG (i:=0) rfl).ld (j:=8) rfl) ?_
    refine Sim.ci ?_
    refine Sim.call (clone_ok (b:=1) (f:=95) (tt:=5) (e:=1) (τ:=fun σ => _::_::_::_::_::σ) (fun x h => slices_Clone_Lbyte_byte_entry _ _ _ x h) (h8.h H42) rfl (by decide) (by decide) (by decide) (by kernel_rfl) (by kernel_rfl) rfl) fun r351 cs352 H353 h354 q355 => ?_
    obtain ⟨c356,cs357,h358,h359,q355⟩:=q355
    cases q355
    obtain ⟨v360,H361,e362,S363⟩:=S44.land (dt:=(dI .u8)) (d:=115) (e:=0) (n:=0) h358 h359 (by decide) rfl
    erw [e362]
    refine Sim.nd ((S363.atG (i:=0) rfl).ld (j:=8) rfl) ?_
    refine Sim.nd ((S363.atG (i:=0) rfl).ld (j:=7) rfl) ?_
    obtain ⟨v370,H365,e366,h368,S367⟩:=S363.expFrz (i:=0) (τ:=0::1::σ) rfl rfl
    exact Sim.fin (S367.finE (Ex.st e366 (Ex.pl (sI _ _).lv (Ex.pl (sI _ _).lv Ex.nil)))) ⟨v370,h368,rfl⟩
  refine Sim.fa ?_
  refine Sim.op ((S25.atG (i:=0) rfl).ld (j:=0) rfl) ?_
  refine Sim.ci ?_
  refine Sim.cd (fun hc371 => ?_) (fun hc371 => ?_)
  · refine Sim.cdt (eqT (beq_iff_eq.1 hc371)) ?_
    refine Sim.fa ?_
    refine Sim.op ((S25.atG (i:=0) rfl).ld (j:=3) rfl) ?_
    refine Sim.op ((h2.h H23).len) ?_
    refine Sim.ci ?_
    refine Sim.as (rtcp_body_l0_ok ?_ k r13 x0.Tuples ((x0.Tuples.length : Int)) 0 x0 v22 v1 h2 v1 h2 v3 h4 v5 h6 v7 h8 (0::0::0::σ) H23 (S25.wk2 (aC (aM 0 rfl) aN) (aC ⟨[14],by simp,aM 0 rfl⟩ aN)))
    · intro r372_2 yg62 v375 v377 h378 v379 h380 v381 h382 v383 h384 s385 H373 S374
      refine Sim.ext (rtcp_body_a0_1 _ _ _ _ _ _) ?_
      refine Sim.fa ?_
      refine Sim.op ((S374.atG (i:=0) rfl).ld (j:=0) rfl) ?_
      refine Sim.ci ?_
      obtain ⟨v392,H387,e388,h390,S389⟩:=S374.expFrz (i:=0) (τ:=0::1::σ) rfl rfl
      exact Sim.fin (S389.finE (Ex.st e388 (Ex.pl (sI _ _).lv (Ex.pl (sI _ _).lv Ex.nil)))) ⟨v392,h390,rfl⟩
  refine Sim.cq ?_ ?_
  · refine Sim.fa ?_
    refine Sim.op ((S25.atG (i:=0) rfl).ld (j:=3) rfl) ?_
    refine Sim.op ((h2.h H23).len) ?_
    refine Sim.ci ?_
    refine Sim.as (rtcp_body_l0_ok ?_ k r13 x0.Tuples ((x0.Tuples.length : Int)) 0 x0 v22 v1 h2 v1 h2 v3 h4 v5 h6 v7 h8 (0::0::0::σ) H23 (S25.wk2 (aC (aM 0 rfl) aN) (aC ⟨[14],by simp,aM 0 rfl⟩ aN)))
    · intro r394_2 yg62 v397 v399 h400 v401 h402 v403 h404 v405 h406 s407 H395 S396
      refine Sim.ext (rtcp_body_a0_1 _ _ _ _ _ _) ?_
      refine Sim.fa ?_
      refine Sim.op ((S396.atG (i:=0) rfl).ld (j:=0) rfl) ?_
      refine Sim.ci ?_
      obtain ⟨v414,H409,e410,h412,S411⟩:=S396.expFrz (i:=0) (τ:=0::1::σ) rfl rfl
      exact Sim.fin (S411.finE (Ex.st e410 (Ex.pl (sI _ _).lv (Ex.pl (sI _ _).lv Ex.nil)))) ⟨v414,h412,rfl⟩
  refine Sim.cq ?_ ?_
  · refine Sim.fa ?_
    refine Sim.op ((S25.atG (i:=0) rfl).ld (j:=2) rfl) ?_
    refine Sim.ci ?_
    refine Sim.call (octet_Put_ok k r13 (S25.sl (i:=0) rfl) (IntKind.wrap .u64 x0.About) 4) fun r416 cs417 H418 h419 q420 => ?_
    obtain ⟨c421,cs422,h423,h424,q420⟩:=q420
    cases q420
    obtain ⟨v425,H426,e427,S428⟩:=S25.land (dt:=(dI .u8)) (d:=61) (e:=0) (n:=0) h423 h424 (by decide) rfl
    erw [e427]
    obtain ⟨v435,H430,e431,h433,S432⟩:=S428.expFrz (i:=0) (τ:=0::1::σ) rfl rfl
    exact Sim.fin (S432.finE (Ex.st e431 (Ex.pl (sI _ _).lv (Ex.pl (sI _ _).lv Ex.nil)))) ⟨v435,h433,rfl⟩
  refine Sim.cq ?_ ?_
  · refine Sim.fa ?_
    refine Sim.op ((S25.atG (i:=0) rfl).ld (j:=4) rfl) ?_
    refine Sim.op ((h4.h H23).len) ?_
    refine Sim.ci ?_
    refine Sim.as (rtcp_body_l1_ok ?_ k r13 x0.Abouts ((x0.Abouts.length : Int)) 0 x0 v22 v3 h4 v1 h2 v3 h4 v5 h6 v7 h8 (0::0::0::σ) H23 (S25.wk2 (aC (aM 0 rfl) aN) (aC ⟨[14],by simp,aM 0 rfl⟩ aN)))
    · intro r437_2 v440 H438 S439
      refine Sim.ext (rtcp_body_a1_3 _ _ _ _ _) ?_
      obtain ⟨v447,H442,e443,h445,S444⟩:=S439.expFrz (i:=0) (τ:=0::1::σ) rfl rfl
      exact Sim.fin (S444.finE (Ex.st e443 (Ex.pl (sI _ _).lv (Ex.pl (sI _ _).lv Ex.nil)))) ⟨v447,h445,rfl⟩
  refine Sim.cq ?_ ?_
  · refine Sim.fa ?_
    refine Sim.op ((S25.atG (i:=0) rfl).ld (j:=4) rfl) ?_
    refine Sim.op ((h4.h H23).len) ?_
    refine Sim.ci ?_
    refine Sim.bd fun a449 h450 => ?_
    obtain ⟨v451,H452,e453,S454⟩:=S25.app (i:=0) (d:=89) (e:=1) (own:=true) (σ:=(1::0::1::1::1::1::1::0::1::1::1::0::σ)) rfl (ysS H23 ((⟨#[82,69,77,66]⟩ : ByteArray))) h450 rfl (by decide) (by decide) rfl
    refine Sim.op (e453) ?_
    refine Sim.nd (rfl) ?_
    refine Sim.nd ((S454.atG (i:=0) rfl).ld (j:=4) rfl) ?_
    refine Sim.call (octet_Put_ok k a449 (S454.sl (i:=0) rfl) (IntKind.wrap .u64 ((x0.Abouts.length : Int))) 1) fun r455 cs456 H457 h458 q459 => ?_
    obtain ⟨c460,cs461,h462,h463,q459⟩:=q459
    cases q459
    obtain ⟨v464,H465,e466,S467⟩:=S454.land (dt:=(dI .u8)) (d:=94) (e:=0) (n:=0) h462 h463 (by decide) rfl
    erw [e466]
    refine Sim.fa ?_
    refine Sim.op ((S467.atG (i:=0) rfl).ld (j:=6) rfl) ?_
    refine Sim.ci ?_
    refine Sim.call (rtcp_packed_ok k x0.Rate 18 0 0) fun r469 cs470 H471 h472 q473 => ?_
    cases q473
    refine Sim.ci ?_
    refine Sim.call (octet_Put_ok k r455 (S467.sl (i:=0) rfl) r469 3) fun r474 cs475 H476 h477 q478 => ?_
    obtain ⟨c479,cs480,h481,h482,q478⟩:=q478
    cases q478
    obtain ⟨v483,H484,e485,S486⟩:=S467.land (dt:=(dI .u8)) (d:=99) (e:=0) (n:=0) h481 h482 (by decide) rfl
    erw [e485]
    refine Sim.fa ?_
    refine Sim.op ((S486.atG (i:=0) rfl).ld (j:=4) rfl) ?_
    refine Sim.op ((h4.h H484).len) ?_
    refine Sim.ci ?_
    refine Sim.as (rtcp_body_l2_ok ?_ k r474 x0.Abouts ((x0.Abouts.length : Int)) 0 v483 v3 h4 H484 (S486.wk2 aN (aC ⟨[99],by simp,aM 0 rfl⟩ aN)))
    · intro r488_2 v491 H489 S490
      refine Sim.ext (rtcp_body_a2_5 _ _ _ _ _) ?_
      obtain ⟨v498,H493,e494,h496,S495⟩:=S490.expFrz (i:=0) (τ:=0::1::σ) rfl rfl
      exact Sim.fin (S495.finE (Ex.st e494 (Ex.pl (sI _ _).lv (Ex.pl (sI _ _).lv Ex.nil)))) ⟨v498,h496,rfl⟩
  refine Sim.fa ?_
  refine Sim.op ((S25.atG (i:=0) rfl).ld (j:=9) rfl) ?_
  refine Sim.fa ?_
  refine Sim.op ((S25.atG (i:=0) rfl).ld (j:=7) rfl) ?_
  refine Sim.ci ?_
  refine Sim.fa ?_
  refine Sim.op ((S25.atG (i:=0) rfl).ld (j:=8) rfl) ?_
  refine Sim.ci ?_
  refine Sim.call (clone_ok (b:=1) (f:=95) (tt:=5) (e:=1) (τ:=fun σ => _::_::_::_::_::σ) (fun x h => slices_Clone_Lbyte_byte_entry _ _ _ x h) (h8.h H23) rfl (by decide) (by decide) (by decide) (by kernel_rfl) (by kernel_rfl) rfl) fun r499 cs500 H501 h502 q503 => ?_
  obtain ⟨c504,cs505,h506,h507,q503⟩:=q503
  cases q503
  obtain ⟨v508,H509,e510,S511⟩:=S25.land (dt:=(dI .u8)) (d:=115) (e:=0) (n:=0) h506 h507 (by decide) rfl
  erw [e510]
  refine Sim.nd ((S511.atG (i:=0) rfl).ld (j:=8) rfl) ?_
  refine Sim.nd ((S511.atG (i:=0) rfl).ld (j:=7) rfl) ?_
  obtain ⟨v518,H513,e514,h516,S515⟩:=S511.expFrz (i:=0) (τ:=0::1::σ) rfl rfl
  exact Sim.fin (S515.finE (Ex.st e514 (Ex.pl (sI _ _).lv (Ex.pl (sI _ _).lv Ex.nil)))) ⟨v518,h516,rfl⟩
def p_rtcp_Bytes_l0 {β : Type} (k : Nat) (kE0 : (List TaiReport)→Option β) (kE1 : Int→Option β) (x0 : (List TaiReport)) (x16 : (List TaiReport)) (x17 : Int) (x18 : Int) : Option β:=match k with
| 0 => none
| k + 1 =>
bif decide (x18 < x17) then (
(ix x16 x18).bind fun a9 =>
(p_rtcp_Right k a9).bind fun r29 =>
bif r29 != 0 then (
kE1 r29)
else (
p_rtcp_Bytes_l0 k kE0 kE1 x0 x16 x17 (IntKind.wrap .i64 (x18 + 1))))
else (
kE0 x0)
def p_rtcp_Bytes_l1 {β : Type} (k : Nat) (kE0 : (List Int)→Option β) (kE1 : Int→Option β) (x4 : (List Int)) (x28 : (List TaiReport)) (x29 : Int) (x30 : Int) : Option β:=match k with
| 0 => none
| k + 1 =>
bif decide (x30 < x29) then (
(ix x28 x30).bind fun a55 =>
(p_rtcp_body k a55).bind fun r75 =>
(ap 1 x4 ([(IntKind.wrap .u8 (intBits .or .i64 128 r75.2.2)),(IntKind.wrap .u8 r75.2.1)])).bind fun a83 =>
(p_octet_Put k a83 (IntKind.wrap .u64 (IntKind.wrap .i64 (Int.tdiv ((r75.1.length : Int)) 4))) 2).bind fun r89 =>
(ap 1 r89 r75.1).bind fun a104 =>
bif decide (((a104.length : Int)) > 1500) then (
kE1 3)
else (
p_rtcp_Bytes_l1 k kE0 kE1 a104 x28 x29 (IntKind.wrap .i64 (x30 + 1))))
else (
kE0 x4)
def p_rtcp_Bytes (k : Nat) (x0 : (List TaiReport)) : Option ((List Int) × Int) :=
bif ((x0.length : Int)) == 0 then (
some ((([] : List Int)),1))
else (
p_rtcp_Bytes_l0 k (fun r41_0 =>
p_rtcp_Bytes_l1 k (fun r119_4 =>
some (r119_4,0)) (fun r133_3 =>
some ((([] : List Int)),r133_3)) (([] : List Int)) r41_0 ((r41_0.length : Int)) 0) (fun r136_3 =>
some ((([] : List Int)),r136_3)) x0 x0 ((x0.length : Int)) 0)
theorem rtcp_Bytes_l0_ok {h : H}  {β α : Type} {Q : β→α→Prop} {K : Exit × Env × H→Option α} {kE0 : (List TaiReport)→Option β} {kE1 : Int→Option β} (hE0 : ∀ (q0 : (List TaiReport)) (v37 : V) (h38 : SlH h dTaiReport q0 v37) (H35 : Go.Ev.H) (_ : Fm 62 h [] [] [] H35),Sim (kE0 q0) (K ((.exit 0),(envL [(0,v37),(4,(.p (.slice none 0 0)))]),H35)) Q) (hE1 : ∀ (q3 : Int) (H39 : Go.Ev.H) (_ : Fm 62 h [] [] [] H39),Sim (kE1 q3) (K (.ret,(envL [(2,(.p (.slice none 0 0))),(3,(.p (.int .i64 q3)))]),H39)) Q) (k : Nat) : ∀ (x0 : (List TaiReport)) (x16 : (List TaiReport)) (x17 : Int) (x18 : Int) (v4 : V) (h5 : SlH h dTaiReport x0 v4) (v6 : V) (h7 : SlH h dTaiReport x16 v6) (H2 : Go.Ev.H) (_ : Fm 62 h [] [] [] H2) {σ : Stamp},Sim (p_rtcp_Bytes_l0 k kE0 kE1 x0 x16 x17 x18) ((cvL G X0 rtcp_Bytes_c0 rtcp_Bytes_l0 σ (envL [(0,v4),(4,(.p (.slice none 0 0))),(16,v6),(17,(.p (.int .i64 x17))),(18,(.p (.int .i64 x18)))]) H2).bind K) Q:=by
  induction k with
  | zero => intros; exact Sim.no
  | succ k ih =>
    intro x0 x16 x17 x18 v4 h5 v6 h7 H2 S3 σ
    rw [p_rtcp_Bytes_l0]
    refine Sim.round (Sim.ext (rtcp_Bytes_r0 _ _ _ _ _ _ _ _ _) ?_)
    refine Sim.cq ?_ ?_
    · refine Sim.bd fun a9 h10 => ?_
      refine Sim.op ((S3.low h7).iS h10 rfl) ?_
      obtain ⟨w12,h13,hE11⟩:=(S3.low h7).el h10 rfl
      obtain ⟨v14,v16,v18,v20,rfl,h15,h17,h19,h21⟩:=dTaiReport.inv h13
      refine Sim.op (hE11.all (by simp)) ?_
      obtain ⟨H22,e23,S24⟩:=S3.al (d:=6) (s:=(2::0::0::1::1::0::σ)) (z:=[(.p (.int .i64 0)),(.p (.int .u32 0)),(.p (.int .u32 0)),(.p (.slice none 0 0)),(.p (.slice none 0 0)),(.p (.slice none 0 0)),(.p (.int .u64 0)),(.p (.int .i64 0)),(.p (.int .i64 0)),(.p (.slice none 0 0))]) (by decide) rfl
      refine Sim.op (congrArg some e23) ?_
      obtain ⟨H26,e27,S28⟩:=S24.stGv (i:=0) (j:=0) (own:=false) (σ:=(3::0::0::1::1::0::σ)) (xs:=[.p (.int .i64 a9.Kind),.p (.int .u32 a9.From),.p (.int .u32 a9.About),v14,v16,v18,.p (.int .u64 a9.Rate),.p (.int .i64 a9.f_Type),.p (.int .i64 a9.Count),v20]) rfl rfl (sC (sI _ _) (sC (sI _ _) (sC (sI _ _) (sC h15.still (sC h17.still (sC h19.still (sC (sI _ _) (sC (sI _ _) (sC (sI _ _) (sC h21.still sN)))))))))) rfl rfl
      refine Sim.op (sM e27) ?_
      refine Sim.op ((S28.atG (i:=0) rfl).ldVs (j:=0) (xs:=[.p (.int .i64 a9.Kind),.p (.int .u32 a9.From),.p (.int .u32 a9.About),v14,v16,v18,.p (.int .u64 a9.Rate),.p (.int .i64 a9.f_Type),.p (.int .i64 a9.Count),v20]) rfl rfl (by decide)) ?_
      refine Sim.call (rtcp_Right_ok k a9 (show dTaiReport.R a9 [.p (.int .i64 a9.Kind),.p (.int .u32 a9.From),.p (.int .u32 a9.About),v14,v16,v18,.p (.int .u64 a9.Rate),.p (.int .i64 a9.f_Type),.p (.int .i64 a9.Count),v20] from (dTaiReport.mk h15 h17 h19 h21))) fun r29 cs30 H31 h32 q33 => ?_
      cases q33
      refine Sim.ci ?_
      refine Sim.cq ?_ ?_
      · exact hE1 r29 H26 (S28.wk2 aN aN)
      exact ih x0 x16 x17 (IntKind.wrap .i64 (x18 + 1)) v4 h5 v6 h7 H26 (S28.wk2 aN aN)
    exact hE0 x0 v4 h5 H2 (S3.wk2 aN aN)
theorem rtcp_Bytes_l1_ok {h : H}  {β α : Type} {Q : β→α→Prop} {K : Exit × Env × H→Option α} {kE0 : (List Int)→Option β} {kE1 : Int→Option β} (hE0 : ∀ (q4 : (List Int)) (v113 : V) (H111 : Go.Ev.H) (_ : Fm 62 h [] [] [⟨[53,55],v113,(dI .u8),q4⟩] H111),Sim (kE0 q4) (K ((.exit 2),(envL [(4,v113)]),H111)) Q) (hE1 : ∀ (q3 : Int) (H115 : Go.Ev.H) (_ : Fm 62 h [] [] [] H115),Sim (kE1 q3) (K (.ret,(envL [(2,(.p (.slice none 0 0))),(3,(.p (.int .i64 q3)))]),H115)) Q) (k : Nat) : ∀ (x4 : (List Int)) (x28 : (List TaiReport)) (x29 : Int) (x30 : Int) (v50 : V) (v52 : V) (h53 : SlH h dTaiReport x28 v52) (H48 : Go.Ev.H) (_ : Fm 62 h [] [] [⟨[53,55],v50,(dI .u8),x4⟩] H48) {σ : Stamp},Sim (p_rtcp_Bytes_l1 k kE0 kE1 x4 x28 x29 x30) ((cvL G X0 rtcp_Bytes_c1 rtcp_Bytes_l1 σ (envL [(4,v50),(28,v52),(29,(.p (.int .i64 x29))),(30,(.p (.int .i64 x30)))]) H48).bind K) Q:=by
  induction k with
  | zero => intros; exact Sim.no
  | succ k ih =>
    intro x4 x28 x29 x30 v50 v52 h53 H48 S49 σ
    rw [p_rtcp_Bytes_l1]
    refine Sim.round (Sim.ext (rtcp_Bytes_r1 _ _ _ _ _ _ _ _) ?_)
    refine Sim.cq ?_ ?_
    · refine Sim.bd fun a55 h56 => ?_
      refine Sim.op ((S49.low h53).iS h56 rfl) ?_
      obtain ⟨w58,h59,hE57⟩:=(S49.low h53).el h56 rfl
      obtain ⟨v60,v62,v64,v66,rfl,h61,h63,h65,h67⟩:=dTaiReport.inv h59
      refine Sim.op (hE57.all (by simp)) ?_
      obtain ⟨H68,e69,S70⟩:=S49.al (d:=9) (s:=(2::0::0::1::1::0::σ)) (z:=[(.p (.int .i64 0)),(.p (.int .u32 0)),(.p (.int .u32 0)),(.p (.slice none 0 0)),(.p (.slice none 0 0)),(.p (.slice none 0 0)),(.p (.int .u64 0)),(.p (.int .i64 0)),(.p (.int .i64 0)),(.p (.slice none 0 0))]) (by decide) rfl
      refine Sim.op (congrArg some e69) ?_
      obtain ⟨H72,e73,S74⟩:=S70.stGv (i:=0) (j:=0) (own:=false) (σ:=(3::0::0::1::1::0::σ)) (xs:=[.p (.int .i64 a55.Kind),.p (.int .u32 a55.From),.p (.int .u32 a55.About),v60,v62,v64,.p (.int .u64 a55.Rate),.p (.int .i64 a55.f_Type),.p (.int .i64 a55.Count),v66]) rfl rfl (sC (sI _ _) (sC (sI _ _) (sC (sI _ _) (sC h61.still (sC h63.still (sC h65.still (sC (sI _ _) (sC (sI _ _) (sC (sI _ _) (sC h67.still sN)))))))))) rfl rfl
      refine Sim.op (sM e73) ?_
      refine Sim.op ((S74.atG (i:=0) rfl).ldVs (j:=0) (xs:=[.p (.int .i64 a55.Kind),.p (.int .u32 a55.From),.p (.int .u32 a55.About),v60,v62,v64,.p (.int .u64 a55.Rate),.p (.int .i64 a55.f_Type),.p (.int .i64 a55.Count),v66]) rfl rfl (by decide)) ?_
      refine Sim.call (rtcp_body_ok k a55 (show dTaiReport.R a55 [.p (.int .i64 a55.Kind),.p (.int .u32 a55.From),.p (.int .u32 a55.About),v60,v62,v64,.p (.int .u64 a55.Rate),.p (.int .i64 a55.f_Type),.p (.int .i64 a55.Count),v66] from (dTaiReport.mk h61 h63 h65 h67))) fun r75 cs76 H77 h78 q79 => ?_
      obtain ⟨v80,h81,q79⟩:=q79
      cases q79
      refine Sim.or ?_
      refine Sim.or ?_
      refine Sim.ci ?_
      refine Sim.or ?_
      refine Sim.ci ?_
      have h82 : SlF (dI .u8) [(IntKind.wrap .u8 (intBits .or .i64 128 r75.2.2)),(IntKind.wrap .u8 r75.2.1)] (.fz [(.p (.int .u8 (IntKind.wrap .u8 (intBits .or .i64 128 r75.2.2)))),(.p (.int .u8 (IntKind.wrap .u8 r75.2.1)))] 2 1 true):=SlF.lit (cs:=[(.p (.int .u8 (IntKind.wrap .u8 (intBits .or .i64 128 r75.2.2)))),(.p (.int .u8 (IntKind.wrap .u8 r75.2.1)))]) (RL.cons (show (dI .u8).R (IntKind.wrap .u8 (intBits .or .i64 128 r75.2.2)) [(.p (.int .u8 (IntKind.wrap .u8 (intBits .or .i64 128 r75.2.2))))] from rfl) (RL.cons (show (dI .u8).R (IntKind.wrap .u8 r75.2.1) [(.p (.int .u8 (IntKind.wrap .u8 r75.2.1)))] from rfl) RL.nil)) rfl rfl true
      refine Sim.op (bldS (pC rfl (pC rfl pN)) (by kernel_rfl : _ = some (vOf h82))) ?_
      refine Sim.bd fun a83 h84 => ?_
      obtain ⟨v85,H86,e87,S88⟩:=S74.app (i:=0) (d:=47) (e:=1) (own:=true) (σ:=(7::0::1::1::0::1::1::0::σ)) rfl (h82.h H72).y h84 rfl (by decide) (by decide) rfl
      refine Sim.op (e87) ?_
      refine Sim.op ((h81.h H86).len) ?_
      refine Sim.ci ?_
      refine Sim.call (octet_Put_ok k a83 (S88.sl (i:=0) rfl) (IntKind.wrap .u64 (IntKind.wrap .i64 (Int.tdiv ((r75.1.length : Int)) 4))) 2) fun r89 cs90 H91 h92 q93 => ?_
      obtain ⟨c94,cs95,h96,h97,q93⟩:=q93
      cases q93
      have S98:=Fm.wk S88 (aC (aM 0 rfl) aN) aN
      obtain ⟨v99,H100,e101,S102⟩:=S98.land (dt:=(dI .u8)) (d:=53) (e:=0) (n:=0) h96 h97 (by decide) rfl
      erw [e101]
      refine Sim.bd fun a104 h105 => ?_
      obtain ⟨v106,H107,e108,S109⟩:=S102.app (i:=0) (d:=55) (e:=1) (own:=true) (σ:=(7::0::1::1::1::0::1::1::0::σ)) rfl (h81.h H100).y h105 rfl (by decide) (by decide) rfl
      refine Sim.op (e108) ?_
      refine Sim.op ((S109.sl (i:=0) rfl).len) ?_
      refine Sim.ci ?_
      refine Sim.cq ?_ ?_
      · exact hE1 3 H107 (S109.wk2 aN aN)
      exact ih a104 x28 x29 (IntKind.wrap .i64 (x30 + 1)) v106 v52 h53 H107 (S109.wk2 aN (aC ⟨[55,53],by simp,aM 0 rfl⟩ aN))
    exact hE0 x4 v50 H48 (S49.wk2 aN (aC ⟨[53,55],by simp,aM 0 rfl⟩ aN))
theorem rtcp_Bytes_ok (k : Nat) {h : H} {σ : Stamp} (x0 : List TaiReport) {u0 : V} (hu0 : SlH h dTaiReport x0 u0) : Sim (p_rtcp_Bytes k x0) (ev G X0 24 σ [u0] h) (fun r s => ∃ (v0 : V),SlF (dI .u8) r.1 v0∧s = ([.v v0,.v (.p (.int .i64 r.2))],h)):=by
  refine Sim.ev rfl (Sim.ext (rtcp_Bytes_entry _ _ _ _ _) ?_)
  rw [p_rtcp_Bytes]
  have S0 : Fm 62 h [] [] [] (List.replicate 62 []::h):=Fm.start0
  refine Sim.op ((S0.low hu0).len) ?_
  refine Sim.ci ?_
  refine Sim.cq ?_ ?_
  · exact Sim.fin (S0.finN (lC (SlF.nil (dI .u8)).still.lv (lC (sI _ _).lv lN))) ⟨(.p (.slice none 0 0)),(SlF.nil (dI .u8)),rfl⟩
  refine Sim.op ((S0.low hu0).len) ?_
  refine Sim.ci ?_
  refine Sim.as (rtcp_Bytes_l0_ok ?_ ?_ k x0 x0 ((x0.length : Int)) 0 u0 hu0 u0 hu0 (List.replicate 62 []::h) (S0.wk2 aN aN))
  · intro r41_0 v44 h45 H42 S43
    refine Sim.ext (rtcp_Bytes_a0_0 _ _ _ _ _ _) ?_
    refine Sim.op ((S43.low h45).len) ?_
    refine Sim.ci ?_
    have S118:=S43.nil (dI .u8) []
    refine Sim.as (rtcp_Bytes_l1_ok ?_ ?_ k (([] : List Int)) r41_0 ((r41_0.length : Int)) 0 (.p (.slice none 0 0)) v44 h45 H42 (S118.wk2 aN (aC ⟨[],by simp,aM 0 rfl⟩ aN)))
    · intro r119_4 v122 H120 S121
      refine Sim.ext (rtcp_Bytes_a1_2 _ _ _ _ _) ?_
      obtain ⟨v124,e125,S126⟩:=clip_D (G:=G) (X:=X0) (i:=0) (f:=58) (fun x h => slices_Clip_Lbyte_byte_entry _ _ _ x h) S121 rfl rfl rfl
      refine Sim.op (e125) ?_
      obtain ⟨v132,H127,e128,h130,S129⟩:=S126.expFrz (i:=0) (τ:=0::1::σ) rfl rfl
      exact Sim.fin (S129.finE (Ex.st e128 (Ex.pl (sI _ _).lv Ex.nil))) ⟨v132,h130,rfl⟩
    · intro r133_3 H134 S135
      refine Sim.ext (rtcp_Bytes_a1_ret _ _ _ _ _ _) ?_
      exact Sim.fin (S135.finN (lC (SlF.nil (dI .u8)).still.lv (lC (sI _ _).lv lN))) ⟨(.p (.slice none 0 0)),(SlF.nil (dI .u8)),rfl⟩
  · intro r136_3 H137 S138
    refine Sim.ext (rtcp_Bytes_a0_ret _ _ _ _ _ _) ?_
    exact Sim.fin (S138.finN (lC (SlF.nil (dI .u8)).still.lv (lC (sI _ _).lv lN))) ⟨(.p (.slice none 0 0)),(SlF.nil (dI .u8)),rfl⟩
end Go.Ev
namespace Go.Ev
open Go.Proofs
set_option linter.unusedVariables false
set_option linter.unusedSimpArgs false
set_option maxRecDepth 100000
noncomputable section
abbrev KT14:=Exit→Env→H→Option (List C × H)
variable (rec : CallF) (loop : LoopV) (σ : Stamp)
theorem rtcp_Is_entry (x0 : V) (h : H) : cvBody G rec loop 29 σ [x0] h =
(lenO x0).bind fun t1 =>
(castI .i64 t1).bind fun n2 =>
(bif decide (n2 ≥ 2) then ((iS 1 x0 1).bind fun t3 =>
(ldO false 1 (List.replicate 18 []::h) t3).bind fun t4 =>
(castI .u8 t4).bind fun n5 =>
some (decide (n5 ≥ 192))) else (some false)).bind fun b6 =>
(bif b6 then ((iS 1 x0 1).bind fun t7 =>
(ldO false 1 (List.replicate 18 []::h) t7).bind fun t8 =>
(castI .u8 t8).bind fun n9 =>
some (decide (n9 ≤ 223))) else (some false)).bind fun b10 =>
fin false σ (List.replicate 18 []::h) [(.p (.bool b10))]:=by kernel_rfl
end
end Go.Ev
namespace Go.Ev
open Go.Proofs
set_option linter.unusedVariables false
set_option linter.unusedSimpArgs false
set_option maxRecDepth 100000
def p_rtcp_Is (x0 : (List Int)) : Option (Bool) :=
(bif decide (((x0.length : Int)) ≥ 2) then ((ix x0 1).bind fun a1 =>
some (decide (a1 ≥ 192))) else (some false)).bind fun b4 =>
(bif b4 then ((ix x0 1).bind fun a8 =>
some (decide (a8 ≤ 223))) else (some false)).bind fun b11 =>
some (b11)
theorem rtcp_Is_ok {h : H} {σ : Stamp} (x0 : List Int) {u0 : V} (hu0 : SlH h (dI .u8) x0 u0) : Sim (p_rtcp_Is x0) (ev G X0 29 σ [u0] h) (fun r s => s = ([.v (.p (.bool r))],h)):=by
  refine Sim.ev rfl (Sim.ext (rtcp_Is_entry _ _ _ _ _) ?_)
  rw [p_rtcp_Is]
  have S0 : Fm 18 h [] [] [] (List.replicate 18 []::h):=Fm.start0
  refine Sim.op ((S0.low hu0).len) ?_
  refine Sim.ci ?_
  refine Sim.ch (P:=fun r y => r = y) ?_ (fun b4 y5 h6 h7 => ?_)
  · refine Sim.cq ?_ ?_
    · refine Sim.bd fun a1 h2 => ?_
      refine Sim.op ((S0.low hu0).iS h2 rfl) ?_
      obtain ⟨_,rfl,hE3⟩:=(S0.low hu0).el h2 rfl
      refine Sim.op (hE3.ld (j:=0) rfl) ?_
      refine Sim.ci ?_
      exact Sim.ret rfl rfl
    · exact Sim.ret rfl rfl
  subst h7
  refine Sim.ch (P:=fun r y => r = y) ?_ (fun b11 y12 h13 h14 => ?_)
  · refine Sim.cq ?_ ?_
    · refine Sim.bd fun a8 h9 => ?_
      refine Sim.op ((S0.low hu0).iS h9 rfl) ?_
      obtain ⟨_,rfl,hE10⟩:=(S0.low hu0).el h9 rfl
      refine Sim.op (hE10.ld (j:=0) rfl) ?_
      refine Sim.ci ?_
      exact Sim.ret rfl rfl
    · exact Sim.ret rfl rfl
  subst h14
  exact Sim.fin (S0.finN (lC (sB _).lv lN)) rfl
end Go.Ev
namespace Go.Ev
open Go.Proofs
set_option linter.unusedVariables false
set_option linter.unusedSimpArgs false
set_option maxRecDepth 100000
noncomputable section
abbrev KT15:=Exit→Env→H→Option (List C × H)
variable (rec : CallF) (loop : LoopV) (σ : Stamp)
def rtcp_Read_c0 : Code:=(codeAt (bodyOf Try.f25) [1,1,1,0,1,0,0])
def rtcp_Read_l0 : Lv:=⟨16,12,[(1,16)]⟩
def rtcp_Read_k0 : KT15:=(kBlock 1 (kSeq G rec loop (codeAt (bodyOf Try.f25) [1,1,1,1]) ⟨12,12,[]⟩ (1::1::1::0::σ) (finC G true Try.f25 (1::σ))))
theorem rtcp_Read_entry (x0 : V) (h : H) : cvBody G rec loop 25 σ [x0] h =
(lenO x0).bind fun t1 =>
(castI .i64 t1).bind fun n2 =>
bif decide (n2 > 1500) then (
fin true σ (List.replicate 41 []::h) [(.p (.slice .none 0 0)),(.p (.int .i64 3))])
else (
(lenO x0).bind fun t3 =>
(castI .i64 t3).bind fun n4 =>
bif n4 == 0 then (
fin true σ (List.replicate 41 []::h) [(.p (.slice .none 0 0)),(.p (.int .i64 13))])
else (
(loop rtcp_Read_c0 rtcp_Read_l0 (1::0::1::1::1::0::σ) (envL [(0,x0),(4,(.p (.slice .none 0 0))),(5,(.p (.int .i64 0)))]) (List.replicate 41 []::h)).bind fun r5 => rtcp_Read_k0 rec loop σ r5.1 r5.2.1 r5.2.2)):=by kernel_rfl
theorem rtcp_Read_r0 (x0 : V) (x4 : V) (x5 : Int) (h : H) : cvRound G rec loop rtcp_Read_c0 rtcp_Read_l0 σ (envL [(0,x0),(4,x4),(5,(.p (.int .i64 x5)))]) h =
(lenO x0).bind fun t6 =>
(castI .i64 t6).bind fun n7 =>
bif decide (x5 < n7) then (
(slS 1 x0 (some x5) none none).bind fun t8 =>
(callO rec 59 (3::0::1::0::σ) [t8] h (some 25)).bind fun q9 =>
(extV q9.1 0).bind fun t10 =>
(extV q9.1 1).bind fun t11 =>
(castI .i64 t11).bind fun n12 =>
(extV q9.1 2).bind fun t13 =>
(castI .i64 t13).bind fun n14 =>
(some (alO [.p (.int .i64 0),.p (.int .u32 0),.p (.int .u32 0),.p (.slice none 0 0),.p (.slice none 0 0),.p (.slice none 0 0),.p (.int .u64 0),.p (.int .i64 0),.p (.int .i64 0),.p (.slice none 0 0)] (8::0::1::0::σ) 6 q9.2)).bind fun q15 =>
((stO false 10 (9::0::1::0::σ) q15.2 q15.1 t10).map fun h => (udf,h)).bind fun q16 =>
bif n14 != 0 then (
some (.ret,(envL [(2,(.p (.slice .none 0 0))),(3,(.p (.int .i64 n14)))]),q16.2))
else (
(ldO true 10 q16.2 q15.1).bind fun t17 =>
(bSV Try.prog 36 1 [(0,t17)]).bind fun t18 =>
(apO false 10 136 (3::0::1::1::1::0::σ) 35 q16.2 x4 t18).bind fun q19 =>
loop rtcp_Read_c0 rtcp_Read_l0 (1::σ) (envL [(0,x0),(4,q19.1),(5,(.p (.int .i64 (IntKind.wrap .i64 (x5 + n12)))))]) q19.2))
else (
some ((.exit 1),(envL [(4,x4)]),h)):=by kernel_rfl
theorem rtcp_Read_a0_1 (x4 : V) (h : H) : rtcp_Read_k0 rec loop σ (.exit 1) (envL [(4,x4)]) h =
(callO rec 60 (1::0::1::1::1::1::0::σ) [x4] h (some 40)).bind fun q20 =>
fin true σ q20.2 [q20.1,(.p (.int .i64 0))]:=by kernel_rfl
theorem rtcp_Read_a0_ret (x2 : V) (x3 : Int) (h : H) : rtcp_Read_k0 rec loop σ .ret (envL [(2,x2),(3,(.p (.int .i64 x3)))]) h =
fin true σ h [x2,(.p (.int .i64 x3))]:=by kernel_rfl
theorem slices_Clip_Lapi_Report_api_Report_entry (x0 : V) (h : H) : cvBody G rec loop 60 σ [x0] h =
(lenO x0).bind fun t1 =>
(castI .i64 t1).bind fun n2 =>
(lenO x0).bind fun t3 =>
(castI .i64 t3).bind fun n4 =>
(slS 10 x0 none (some n2) (some n4)).bind fun t5 =>
fin false σ (List.replicate 9 []::h) [t5]:=by kernel_rfl
theorem rtcp_one_entry (x0 : V) (h : H) : cvBody G rec loop 59 σ [x0] h =
(some (alO [.p (.int .i64 0),.p (.int .u32 0),.p (.int .u32 0),.p (.slice none 0 0),.p (.slice none 0 0),.p (.slice none 0 0),.p (.int .u64 0),.p (.int .i64 0),.p (.int .i64 0),.p (.slice none 0 0)] (0::0::0::σ) 2 (List.replicate 76 []::h))).bind fun q1 =>
(lenO x0).bind fun t2 =>
(castI .i64 t2).bind fun n3 =>
bif decide (n3 < 4) then (
(buildV Try.prog 33 []).bind fun t4 =>
((stO false 10 (1::0::1::0::1::0::σ) q1.2 q1.1 t4).map fun h => (udf,h)).bind fun q5 =>
((ldO true 10 q5.2 q1.1).bind fun t6 => (((some []).map ((.p (.int .i64 13))::·)).map ((.p (.int .i64 0))::·)).map (t6::·)).bind fun t7 => fin false σ q5.2 t7)
else (
(callO rec 96 (1::0::1::1::0::σ) [x0,(.p (.int .i64 2)),(.p (.int .i64 2))] q1.2 (some 16)).bind fun q8 =>
(extV q8.1 0).bind fun t9 =>
(castI .u64 t9).bind fun n10 =>
(extV q8.1 1).bind fun t11 =>
(asB t11).bind fun b12 =>
(lenO x0).bind fun t13 =>
(castI .i64 t13).bind fun n14 =>
bif decide ((IntKind.wrap .i64 (4 + (IntKind.wrap .i64 (4 * (IntKind.wrap .i64 n10))))) > n14) then (
(buildV Try.prog 33 []).bind fun t15 =>
((stO false 10 (1::0::1::0::1::1::1::1::0::σ) q8.2 q1.1 t15).map fun h => (udf,h)).bind fun q16 =>
((ldO true 10 q16.2 q1.1).bind fun t17 => (((some []).map ((.p (.int .i64 13))::·)).map ((.p (.int .i64 0))::·)).map (t17::·)).bind fun t18 => fin false σ q16.2 t18)
else (
(iS 1 x0 0).bind fun t19 =>
(ldO false 1 q8.2 t19).bind fun t20 =>
(castI .u8 t20).bind fun n21 =>
(bif (intBits .and .u8 n21 192) != 128 then (some true) else ((iS 1 x0 0).bind fun t22 =>
(ldO false 1 q8.2 t22).bind fun t23 =>
(castI .u8 t23).bind fun n24 =>
some ((intBits .and .u8 n24 32) != 0))).bind fun b25 =>
(bif b25 then (some true) else ((iS 1 x0 1).bind fun t26 =>
(ldO false 1 q8.2 t26).bind fun t27 =>
(castI .u8 t27).bind fun n28 =>
some (decide (n28 < 192)))).bind fun b29 =>
(bif b29 then (some true) else ((iS 1 x0 1).bind fun t30 =>
(ldO false 1 q8.2 t30).bind fun t31 =>
(castI .u8 t31).bind fun n32 =>
some (decide (n32 > 223)))).bind fun b33 =>
bif b33 then (
(buildV Try.prog 33 []).bind fun t34 =>
((stO false 10 (1::0::1::1::0::1::1::1::1::0::σ) q8.2 q1.1 t34).map fun h => (udf,h)).bind fun q35 =>
((ldO true 10 q35.2 q1.1).bind fun t36 => (((some []).map ((.p (.int .i64 12))::·)).map ((.p (.int .i64 0))::·)).map (t36::·)).bind fun t37 => fin false σ q35.2 t37)
else (
need (∃ z,tzero Try.prog 33 = some z∧slotOf (alO [.p (.int .i64 0),.p (.int .u32 0),.p (.int .u32 0),.p (.slice none 0 0),.p (.slice none 0 0),.p (.slice none 0 0),.p (.int .u64 0),.p (.int .i64 0),.p (.int .i64 0),.p (.slice none 0 0)] (16::0::1::1::1::1::1::0::σ) 8 q8.2).2 8 = some [.own (16::0::1::1::1::1::1::0::σ) (z.map .v)]) (
(iS 1 x0 1).bind fun t38 =>
(ldO false 1 (alO [.p (.int .i64 0),.p (.int .u32 0),.p (.int .u32 0),.p (.slice none 0 0),.p (.slice none 0 0),.p (.slice none 0 0),.p (.int .u64 0),.p (.int .i64 0),.p (.int .i64 0),.p (.slice none 0 0)] (16::0::1::1::1::1::1::0::σ) 8 q8.2).2 t38).bind fun t39 =>
(castI .u8 t39).bind fun n40 =>
(iS 1 x0 0).bind fun t41 =>
(ldO false 1 (alO [.p (.int .i64 0),.p (.int .u32 0),.p (.int .u32 0),.p (.slice none 0 0),.p (.slice none 0 0),.p (.slice none 0 0),.p (.int .u64 0),.p (.int .i64 0),.p (.int .i64 0),.p (.slice none 0 0)] (16::0::1::1::1::1::1::0::σ) 8 q8.2).2 t41).bind fun t42 =>
(castI .u8 t42).bind fun n43 =>
(slS 1 x0 (some 4) (some (IntKind.wrap .i64 (4 + (IntKind.wrap .i64 (4 * (IntKind.wrap .i64 n10)))))) none).bind fun t44 =>
(callO rec 97 (12::0::1::1::1::1::1::0::σ) [(.p (.int .i64 (IntKind.wrap .i64 n40))),(.p (.int .i64 (IntKind.wrap .i64 (intBits .and .u8 n43 31)))),t44] (alO [.p (.int .i64 0),.p (.int .u32 0),.p (.int .u32 0),.p (.slice none 0 0),.p (.slice none 0 0),.p (.slice none 0 0),.p (.int .u64 0),.p (.int .i64 0),.p (.int .i64 0),.p (.slice none 0 0)] (16::0::1::1::1::1::1::0::σ) 8 q8.2).2 (some 68)).bind fun q45 =>
need (∃ z,tzero Try.prog 33 = some z∧slotOf q45.2 8 = some [.own (16::0::1::1::1::1::1::0::σ) (z.map .v)]) (
(extV q45.1 0).bind fun t46 =>
(extV q45.1 1).bind fun t47 =>
(asB t47).bind fun b48 =>
((stO false 10 (17::0::1::1::1::1::1::0::σ) q45.2 (.ref (newLoc (alO [.p (.int .i64 0),.p (.int .u32 0),.p (.int .u32 0),.p (.slice none 0 0),.p (.slice none 0 0),.p (.slice none 0 0),.p (.int .u64 0),.p (.int .i64 0),.p (.int .i64 0),.p (.slice none 0 0)] (16::0::1::1::1::1::1::0::σ) 8 q8.2).2 8 (16::0::1::1::1::1::1::0::σ)) 0) t46).map fun h => (udf,h)).bind fun q49 =>
bif !b48 then (
(buildV Try.prog 33 []).bind fun t50 =>
((stO false 10 (1::0::1::0::1::1::1::1::1::1::0::σ) q49.2 q1.1 t50).map fun h => (udf,h)).bind fun q51 =>
((ldO true 10 q51.2 q1.1).bind fun t52 => (((some []).map ((.p (.int .i64 12))::·)).map ((.p (.int .i64 0))::·)).map (t52::·)).bind fun t53 => fin false σ q51.2 t53)
else (
(ldO true 10 q49.2 (.ref (newLoc (alO [.p (.int .i64 0),.p (.int .u32 0),.p (.int .u32 0),.p (.slice none 0 0),.p (.slice none 0 0),.p (.slice none 0 0),.p (.int .u64 0),.p (.int .i64 0),.p (.int .i64 0),.p (.slice none 0 0)] (16::0::1::1::1::1::1::0::σ) 8 q8.2).2 8 (16::0::1::1::1::1::1::0::σ)) 0)).bind fun t54 =>
((stO false 10 (2::0::1::1::1::1::1::1::1::0::σ) q49.2 q1.1 t54).map fun h => (udf,h)).bind fun q55 =>
((ldO true 10 q55.2 q1.1).bind fun t56 => (((some []).map ((.p (.int .i64 0))::·)).map ((.p (.int .i64 (IntKind.wrap .i64 (4 + (IntKind.wrap .i64 (4 * (IntKind.wrap .i64 n10)))))))::·)).map (t56::·)).bind fun t57 => fin false σ q55.2 t57)))))):=by kernel_rfl
def octet_Get_c0 : Code:=(codeAt (bodyOf Try.f96) [1,1,1,1,0,1,0,0])
def octet_Get_l0 : Lv:=⟨1024,192,[(0,1024)]⟩
def octet_Get_k0 : KT15:=(kBlock 0 (kSeq G rec loop (codeAt (bodyOf Try.f96) [1,1,1,1,1]) ⟨192,192,[]⟩ (1::1::1::1::0::σ) (finC G false Try.f96 (1::σ))))
theorem octet_Get_entry (x0 : V) (x1 : Int) (x2 : Int) (h : H) : cvBody G rec loop 96 σ [x0,(.p (.int .i64 x1)),(.p (.int .i64 x2))] h =
(callO rec 129 (3::0::1::0::σ) [x0,(.p (.int .i64 x1)),(.p (.int .i64 x2))] (List.replicate 43 []::h) (some 17)).bind fun q1 =>
(extV q1.1 0).bind fun t2 =>
(extV q1.1 1).bind fun t3 =>
(asB t3).bind fun b4 =>
(bif !b4 then (some true) else (some (decide (x2 < 1)))).bind fun b5 =>
(bif b5 then (some true) else (some (decide (x2 > 8)))).bind fun b6 =>
bif b6 then (
fin false σ q1.2 [(.p (.int .u64 0)),(.p (.bool false))])
else (
(lenO t2).bind fun t7 =>
(castI .i64 t7).bind fun n8 =>
(loop octet_Get_c0 octet_Get_l0 (1::0::1::1::1::1::0::σ) (envL [(10,(.p (.int .u64 0))),(30,t2),(31,(.p (.int .i64 n8))),(32,(.p (.int .i64 0)))]) q1.2).bind fun r9 => octet_Get_k0 rec loop σ r9.1 r9.2.1 r9.2.2):=by kernel_rfl
theorem octet_Get_r0 (x10 : Int) (x30 : V) (x31 : Int) (x32 : Int) (h : H) : cvRound G rec loop octet_Get_c0 octet_Get_l0 σ (envL [(10,(.p (.int .u64 x10))),(30,x30),(31,(.p (.int .i64 x31))),(32,(.p (.int .i64 x32)))]) h =
bif decide (x32 < x31) then (
(iS 1 x30 x32).bind fun t10 =>
(ldO false 1 h t10).bind fun t11 =>
(castI .u8 t11).bind fun n12 =>
loop octet_Get_c0 octet_Get_l0 (1::σ) (envL [(10,(.p (.int .u64 (intBits .or .u64 (IntKind.wrap .u64 (x10 * 2 ^ 8)) (IntKind.wrap .u64 n12))))),(30,x30),(31,(.p (.int .i64 x31))),(32,(.p (.int .i64 (IntKind.wrap .i64 (x32 + 1)))))]) h)
else (
some ((.exit 0),(envL [(10,(.p (.int .u64 x10)))]),h)):=by kernel_rfl
theorem octet_Get_a0_0 (x10 : Int) (h : H) : octet_Get_k0 rec loop σ (.exit 0) (envL [(10,(.p (.int .u64 x10)))]) h =
fin false σ h [(.p (.int .u64 x10)),(.p (.bool true))]:=by kernel_rfl
theorem octet_Cut_entry (x0 : V) (x1 : Int) (x2 : Int) (h : H) : cvBody G rec loop 129 σ [x0,(.p (.int .i64 x1)),(.p (.int .i64 x2))] h =
(bif decide (x1 < 0) then (some true) else (some (decide (x2 < 0)))).bind fun b1 =>
(bif b1 then (some true) else ((lenO x0).bind fun t2 =>
(castI .i64 t2).bind fun n3 =>
some (decide (x1 > n3)))).bind fun b4 =>
(bif b4 then (some true) else ((lenO x0).bind fun t5 =>
(castI .i64 t5).bind fun n6 =>
some (decide (x2 > (IntKind.wrap .i64 (n6 - x1)))))).bind fun b7 =>
bif b7 then (
fin true σ (List.replicate 35 []::h) [(.p (.slice .none 0 0)),(.p (.bool false))])
else (
(slS 1 x0 (some x1) (some (IntKind.wrap .i64 (x1 + x2))) none).bind fun t8 =>
(callO rec 95 (6::0::1::1::0::σ) [t8] (List.replicate 35 []::h) (some 34)).bind fun q9 =>
fin true σ q9.2 [q9.1,(.p (.bool true))]):=by kernel_rfl
end
end Go.Ev
namespace Go.Ev
open Go.Proofs
set_option linter.unusedVariables false
set_option linter.unusedSimpArgs false
set_option maxRecDepth 100000
def p_octet_Cut (x0 : (List Int)) (x1 : Int) (x2 : Int) : Option ((List Int) × Bool) :=
(bif decide (x1 < 0) then (some true) else (some (decide (x2 < 0)))).bind fun b1 =>
(bif b1 then (some true) else (some (decide (x1 > ((x0.length : Int)))))).bind fun b5 =>
(bif b5 then (some true) else (some (decide (x2 > (IntKind.wrap .i64 (((x0.length : Int)) - x1)))))).bind fun b9 =>
bif b9 then (
some ((([] : List Int)),false))
else (
(sub x0 x1 (IntKind.wrap .i64 (x1 + x2))).bind fun a14 =>
(p_clone 1 a14).bind fun r16 =>
some (r16,true))
theorem octet_Cut_ok {h : H} {σ : Stamp} (x0 : List Int) {u0 : V} (hu0 : SlH h (dI .u8) x0 u0) (x1 : Int) (x2 : Int) : Sim (p_octet_Cut x0 x1 x2) (ev G X0 129 σ [u0,(.p (.int .i64 x1)),(.p (.int .i64 x2))] h) (fun r s => ∃ (v0 : V),SlF (dI .u8) r.1 v0∧s = ([.v v0,.v (.p (.bool r.2))],h)):=by
  refine Sim.ev rfl (Sim.ext (octet_Cut_entry _ _ _ _ _ _ _) ?_)
  rw [p_octet_Cut]
  have S0 : Fm 35 h [] [] [] (List.replicate 35 []::h):=Fm.start0
  refine Sim.ch (P:=fun r y => r = y) ?_ (fun b1 y2 h3 h4 => ?_)
  · refine Sim.cq ?_ ?_
    · exact Sim.ret rfl rfl
    · exact Sim.ret rfl rfl
  subst h4
  refine Sim.ch (P:=fun r y => r = y) ?_ (fun b5 y6 h7 h8 => ?_)
  · refine Sim.cq ?_ ?_
    · exact Sim.ret rfl rfl
    · refine Sim.op ((S0.low hu0).len) ?_
      refine Sim.ci ?_
      exact Sim.ret rfl rfl
  subst h8
  refine Sim.ch (P:=fun r y => r = y) ?_ (fun b9 y10 h11 h12 => ?_)
  · refine Sim.cq ?_ ?_
    · exact Sim.ret rfl rfl
    · refine Sim.op ((S0.low hu0).len) ?_
      refine Sim.ci ?_
      exact Sim.ret rfl rfl
  subst h12
  refine Sim.cq ?_ ?_
  · exact Sim.fin (S0.finN (lC (SlF.nil (dI .u8)).still.lv (lC (sB _).lv lN))) ⟨(.p (.slice none 0 0)),(SlF.nil (dI .u8)),rfl⟩
  refine Sim.bd fun a14 h15 => ?_
  refine Sim.op ((S0.low hu0).slS h15 rfl rfl rfl) ?_
  refine Sim.call (clone_ok (b:=1) (f:=95) (tt:=5) (e:=1) (τ:=fun σ => _::_::_::_::_::σ) (fun x h => slices_Clone_Lbyte_byte_entry _ _ _ x h) ((S0.low hu0).sub h15 (e:=1) rfl) rfl (by decide) (by decide) (by decide) (by kernel_rfl) (by kernel_rfl) rfl) fun r16 cs17 H18 h19 q20 => ?_
  obtain ⟨c21,cs22,h23,h24,q20⟩:=q20
  cases q20
  obtain ⟨v25,H26,e27,S28⟩:=S0.land (dt:=(dI .u8)) (d:=34) (e:=0) (n:=0) h23 h24 (by decide) rfl
  erw [e27]
  obtain ⟨v35,H30,e31,h33,S32⟩:=S28.expFrz (i:=0) (τ:=0::1::σ) rfl rfl
  exact Sim.fin (S32.finE (Ex.st e31 (Ex.pl (sB _).lv Ex.nil))) ⟨v35,h33,rfl⟩
def p_octet_Get_l0 {β : Type} (k : Nat) (kE0 : Int→Option β) (x10 : Int) (x30 : (List Int)) (x31 : Int) (x32 : Int) : Option β:=match k with
| 0 => none
| k + 1 =>
bif decide (x32 < x31) then (
(ix x30 x32).bind fun a22 =>
p_octet_Get_l0 k kE0 (intBits .or .u64 (IntKind.wrap .u64 (x10 * 2 ^ 8)) (IntKind.wrap .u64 a22)) x30 x31 (IntKind.wrap .i64 (x32 + 1)))
else (
kE0 x10)
def p_octet_Get (k : Nat) (x0 : (List Int)) (x1 : Int) (x2 : Int) : Option (Int × Bool) :=
(p_octet_Cut x0 x1 x2).bind fun r1 =>
(bif !r1.2 then (some true) else (some (decide (x2 < 1)))).bind fun b8 =>
(bif b8 then (some true) else (some (decide (x2 > 8)))).bind fun b12 =>
bif b12 then (
some (0,false))
else (
p_octet_Get_l0 k (fun r27_10 =>
some (r27_10,true)) 0 r1.1 ((r1.1.length : Int)) 0)
theorem octet_Get_l0_ok {h : H}  {β α : Type} {Q : β→α→Prop} {K : Exit × Env × H→Option α} {kE0 : Int→Option β} (hE0 : ∀ (q10 : Int) (H25 : Go.Ev.H) (_ : Fm 43 h [] [] [] H25),Sim (kE0 q10) (K ((.exit 0),(envL [(10,(.p (.int .u64 q10)))]),H25)) Q) (k : Nat) : ∀ (x10 : Int) (x30 : (List Int)) (x31 : Int) (x32 : Int) (v19 : V) (h20 : SlF (dI .u8) x30 v19) (H17 : Go.Ev.H) (_ : Fm 43 h [] [] [] H17) {σ : Stamp},Sim (p_octet_Get_l0 k kE0 x10 x30 x31 x32) ((cvL G X0 octet_Get_c0 octet_Get_l0 σ (envL [(10,(.p (.int .u64 x10))),(30,v19),(31,(.p (.int .i64 x31))),(32,(.p (.int .i64 x32)))]) H17).bind K) Q:=by
  induction k with
  | zero => intros; exact Sim.no
  | succ k ih =>
    intro x10 x30 x31 x32 v19 h20 H17 S18 σ
    rw [p_octet_Get_l0]
    refine Sim.round (Sim.ext (octet_Get_r0 _ _ _ _ _ _ _ _) ?_)
    refine Sim.cq ?_ ?_
    · refine Sim.bd fun a22 h23 => ?_
      refine Sim.op ((h20.h H17).iS h23 rfl) ?_
      obtain ⟨_,rfl,hE24⟩:=(h20.h H17).el h23 rfl
      refine Sim.op (hE24.ld (j:=0) rfl) ?_
      refine Sim.ci ?_
      exact ih (intBits .or .u64 (IntKind.wrap .u64 (x10 * 2 ^ 8)) (IntKind.wrap .u64 a22)) x30 x31 (IntKind.wrap .i64 (x32 + 1)) v19 h20 H17 (S18.wk2 aN aN)
    exact hE0 x10 H17 (S18.wk2 aN aN)
theorem octet_Get_ok (k : Nat) {h : H} {σ : Stamp} (x0 : List Int) {u0 : V} (hu0 : SlH h (dI .u8) x0 u0) (x1 : Int) (x2 : Int) : Sim (p_octet_Get k x0 x1 x2) (ev G X0 96 σ [u0,(.p (.int .i64 x1)),(.p (.int .i64 x2))] h) (fun r s => s = ([.v (.p (.int .u64 r.1)),.v (.p (.bool r.2))],h)):=by
  refine Sim.ev rfl (Sim.ext (octet_Get_entry _ _ _ _ _ _ _) ?_)
  rw [p_octet_Get]
  have S0 : Fm 43 h [] [] [] (List.replicate 43 []::h):=Fm.start0
  refine Sim.call (octet_Cut_ok x0 (S0.low hu0) x1 x2) fun r1 cs2 H3 h4 q5 => ?_
  obtain ⟨v6,h7,q5⟩:=q5
  cases q5
  refine Sim.or ?_
  refine Sim.or ?_
  refine Sim.ab ?_
  refine Sim.ch (P:=fun r y => r = y) ?_ (fun b8 y9 h10 h11 => ?_)
  · refine Sim.cq ?_ ?_
    · exact Sim.ret rfl rfl
    · exact Sim.ret rfl rfl
  subst h11
  refine Sim.ch (P:=fun r y => r = y) ?_ (fun b12 y13 h14 h15 => ?_)
  · refine Sim.cq ?_ ?_
    · exact Sim.ret rfl rfl
    · exact Sim.ret rfl rfl
  subst h15
  refine Sim.cq ?_ ?_
  · exact Sim.fin (S0.finN (lC (sI _ _).lv (lC (sB _).lv lN))) rfl
  refine Sim.op ((h7.h (List.replicate 43 []::h)).len) ?_
  refine Sim.ci ?_
  refine Sim.as (octet_Get_l0_ok ?_ k 0 r1.1 ((r1.1.length : Int)) 0 v6 h7 (List.replicate 43 []::h) (S0.wk2 aN aN))
  · intro r27_10 H28 S29
    refine Sim.ext (octet_Get_a0_0 _ _ _ _ _) ?_
    exact Sim.fin (S29.finN (lC (sI _ _).lv (lC (sB _).lv lN))) rfl
end Go.Ev
namespace Go.Ev
open Go.Proofs
set_option linter.unusedVariables false
set_option linter.unusedSimpArgs false
set_option maxRecDepth 100000
noncomputable section
abbrev KT16:=Exit→Env→H→Option (List C × H)
variable (rec : CallF) (loop : LoopV) (σ : Stamp)
def rtcp_parse_c0 : Code:=(codeAt (bodyOf Try.f97) [1,1,1,1,1,1,0,1,0,1,0,0,0,0])
def rtcp_parse_l0 : Lv:=⟨836,192,[(1,836),(0,836)]⟩
def rtcp_parse_k0 : KT16:=(kBlock 1 (kSeq G rec loop (codeAt (bodyOf Try.f97) [1,1,1,1,1,1,0,1,0,1,0,1]) ⟨836,192,[(0,836)]⟩ (1::1::0::1::1::1::1::1::1::0::σ) (kBlock 0 (kSeq G rec loop (codeAt (bodyOf Try.f97) [1,1,1,1,1,1,1]) ⟨192,192,[]⟩ (1::1::1::1::1::1::0::σ) (finC G false Try.f97 (1::σ))))))
def rtcp_parse_c1 : Code:=(codeAt (bodyOf Try.f97) [1,1,1,1,1,1,0,1,0,1,1,1,1,1,0,0,0,0])
def rtcp_parse_l1 : Lv:=⟨836,192,[(3,836),(0,836)]⟩
def rtcp_parse_k1 : KT16:=(kBlock 3 (kSeq G rec loop (codeAt (bodyOf Try.f97) [1,1,1,1,1,1,0,1,0,1,1,1,1,1,0,1]) ⟨836,192,[(0,836)]⟩ (1::1::1::1::0::1::1::1::1::1::1::0::σ) (kBlock 0 (kSeq G rec loop (codeAt (bodyOf Try.f97) [1,1,1,1,1,1,1]) ⟨192,192,[]⟩ (1::1::1::1::1::1::0::σ) (finC G false Try.f97 (1::σ))))))
theorem rtcp_parse_entry (x0 : Int) (x1 : Int) (x2 : V) (h : H) : cvBody G rec loop 97 σ [(.p (.int .i64 x0)),(.p (.int .i64 x1)),x2] h =
(some (alO [.p (.int .i64 0),.p (.int .u32 0),.p (.int .u32 0),.p (.slice none 0 0),.p (.slice none 0 0),.p (.slice none 0 0),.p (.int .u64 0),.p (.int .i64 0),.p (.int .i64 0),.p (.slice none 0 0)] (0::0::0::σ) 6 (List.replicate 130 []::h))).bind fun q1 =>
(callO rec 103 (2::0::1::0::σ) [(.p (.int .i64 x0)),(.p (.int .i64 x1))] q1.2 (some 12)).bind fun q2 =>
(castI .i64 q2.1).bind fun n3 =>
(buildV Try.prog 33 [(0,(.p (.int .i64 n3)))]).bind fun t4 =>
(some (alO [.p (.int .i64 0),.p (.int .u32 0),.p (.int .u32 0),.p (.slice none 0 0),.p (.slice none 0 0),.p (.slice none 0 0),.p (.int .u64 0),.p (.int .i64 0),.p (.int .i64 0),.p (.slice none 0 0)] (4::0::1::0::σ) 8 q2.2)).bind fun q5 =>
((stO false 10 (5::0::1::0::σ) q5.2 q5.1 t4).map fun h => (udf,h)).bind fun q6 =>
(fA q5.1 0).bind fun t7 =>
(ldO false 1 q6.2 t7).bind fun t8 =>
(castI .i64 t8).bind fun n9 =>
bif n9 == 6 then (
(callO rec 95 (3::0::1::0::1::1::0::σ) [x2] q6.2 (some 20)).bind fun q10 =>
(fA q5.1 7).bind fun t11 =>
((stO true 1 (5::0::1::0::1::1::0::σ) q10.2 t11 (.p (.int .i64 x0))).map fun h => (udf,h)).bind fun q12 =>
(fA q5.1 8).bind fun t13 =>
((stO true 1 (7::0::1::0::1::1::0::σ) q12.2 t13 (.p (.int .i64 x1))).map fun h => (udf,h)).bind fun q14 =>
(fA q5.1 9).bind fun t15 =>
((stO true 1 (9::0::1::0::1::1::0::σ) q14.2 t15 q10.1).map fun h => (udf,h)).bind fun q16 =>
(ldO true 10 q16.2 q5.1).bind fun t17 =>
((stO false 10 (1::0::1::1::0::1::1::0::σ) q16.2 q1.1 t17).map fun h => (udf,h)).bind fun q18 =>
((ldO true 10 q18.2 q1.1).bind fun t19 => ((some []).map ((.p (.bool true))::·)).map (t19::·)).bind fun t20 => fin false σ q18.2 t20)
else (
(buildV Try.prog 155 [(0,x2)]).bind fun t21 =>
(boxO false (2::0::1::1::1::0::σ) 27 q6.2 t21).bind fun q22 =>
(callO rec 130 (1::0::1::1::1::1::0::σ) [q22.1,(.p (.int .i64 4))] q22.2 (some 29)).bind fun q23 =>
(castI .u64 q23.1).bind fun n24 =>
(fA q5.1 1).bind fun t25 =>
((stO true 1 (4::0::1::1::1::1::0::σ) q23.2 t25 (.p (.int .u32 (IntKind.wrap .u32 n24)))).map fun h => (udf,h)).bind fun q26 =>
(fA q5.1 0).bind fun t27 =>
(ldO false 1 q26.2 t27).bind fun t28 =>
(castI .i64 t28).bind fun n29 =>
bif n29 != 3 then (
(callO rec 131 (1::1::0::1::1::1::1::1::0::σ) [q22.1,(.p (.int .i64 4))] q26.2 (some 36)).bind fun q30 =>
(fA q5.1 0).bind fun t31 =>
(ldO false 1 q30.2 t31).bind fun t32 =>
(castI .i64 t32).bind fun n33 =>
bif n33 == 1 then (
bif n33 == 1 then (
(loop rtcp_parse_c0 rtcp_parse_l0 (0::1::1::0::1::1::1::1::1::1::0::σ) (envL [(2,x2),(6,q1.1),(8,q5.1),(9,q22.1)]) q30.2).bind fun r34 => rtcp_parse_k0 rec loop σ r34.1 r34.2.1 r34.2.2)
else (
bif n33 == 3 then (
(callO rec 130 (1::1::1::1::0::1::1::1::1::1::1::0::σ) [q22.1,(.p (.int .i64 4))] q30.2 (some 67)).bind fun q35 =>
(castI .u64 q35.1).bind fun n36 =>
(fA q5.1 2).bind fun t37 =>
((stO true 1 (4::1::1::1::0::1::1::1::1::1::1::0::σ) q35.2 t37 (.p (.int .u32 (IntKind.wrap .u32 n36)))).map fun h => (udf,h)).bind fun q38 =>
(ldO true 10 q38.2 q5.1).bind fun t39 =>
(nilChk q22.1).bind fun t40 =>
(fA t40 2).bind fun t41 =>
(ldO false 1 q38.2 t41).bind fun t42 =>
(asB t42).bind fun b43 =>
bif !b43 then ((nilChk q22.1).bind fun t44 =>
(fA t44 1).bind fun t45 =>
(ldO false 1 q38.2 t45).bind fun t46 =>
(castI .i64 t46).bind fun n47 =>
(lenO x2).bind fun t48 =>
(castI .i64 t48).bind fun n49 =>
(some (n47 == n49)).bind fun b50 =>
((stO false 10 (15::0::1::1::1::1::1::1::1::0::σ) q38.2 q1.1 t39).map fun h => (udf,h)).bind fun q51 =>
need ((some (.p (.bool (n47 == n49))) : Option V) = some (.p (.bool (n47 == n49)))) (
need (ldO false 1 q51.2 t45 = some (.p (.int .i64 n47))) (
((ldO true 10 q51.2 q1.1).bind fun t52 => ((some []).map ((.p (.bool b50))::·)).map (t52::·)).bind fun t53 => fin false σ q51.2 t53))) else ((some false).bind fun b54 =>
((stO false 10 (15::0::1::1::1::1::1::1::1::0::σ) q38.2 q1.1 t39).map fun h => (udf,h)).bind fun q55 =>
((ldO true 10 q55.2 q1.1).bind fun t56 => ((some []).map ((.p (.bool b54))::·)).map (t56::·)).bind fun t57 => fin false σ q55.2 t57))
else (
bif n33 == 4 then (
(loop rtcp_parse_c1 rtcp_parse_l1 (0::1::1::1::1::0::1::1::1::1::1::1::0::σ) (envL [(2,x2),(6,q1.1),(8,q5.1),(9,q22.1)]) q30.2).bind fun r58 => rtcp_parse_k1 rec loop σ r58.1 r58.2.1 r58.2.2)
else (
bif n33 == 5 then (
(callO rec 134 (1::1::1::1::1::1::0::1::1::1::1::1::1::0::σ) [q22.1,q5.1] q30.2 (some 114)).bind fun q59 =>
(ldO true 10 q59.2 q5.1).bind fun t60 =>
(nilChk q22.1).bind fun t61 =>
(fA t61 2).bind fun t62 =>
(ldO false 1 q59.2 t62).bind fun t63 =>
(asB t63).bind fun b64 =>
bif !b64 then ((nilChk q22.1).bind fun t65 =>
(fA t65 1).bind fun t66 =>
(ldO false 1 q59.2 t66).bind fun t67 =>
(castI .i64 t67).bind fun n68 =>
(lenO x2).bind fun t69 =>
(castI .i64 t69).bind fun n70 =>
(some (n68 == n70)).bind fun b71 =>
((stO false 10 (15::0::1::1::1::1::1::1::1::0::σ) q59.2 q1.1 t60).map fun h => (udf,h)).bind fun q72 =>
need ((some (.p (.bool (n68 == n70))) : Option V) = some (.p (.bool (n68 == n70)))) (
need (ldO false 1 q72.2 t66 = some (.p (.int .i64 n68))) (
((ldO true 10 q72.2 q1.1).bind fun t73 => ((some []).map ((.p (.bool b71))::·)).map (t73::·)).bind fun t74 => fin false σ q72.2 t74))) else ((some false).bind fun b75 =>
((stO false 10 (15::0::1::1::1::1::1::1::1::0::σ) q59.2 q1.1 t60).map fun h => (udf,h)).bind fun q76 =>
((ldO true 10 q76.2 q1.1).bind fun t77 => ((some []).map ((.p (.bool b75))::·)).map (t77::·)).bind fun t78 => fin false σ q76.2 t78))
else (
(ldO true 10 q30.2 q5.1).bind fun t79 =>
(nilChk q22.1).bind fun t80 =>
(fA t80 2).bind fun t81 =>
(ldO false 1 q30.2 t81).bind fun t82 =>
(asB t82).bind fun b83 =>
bif !b83 then ((nilChk q22.1).bind fun t84 =>
(fA t84 1).bind fun t85 =>
(ldO false 1 q30.2 t85).bind fun t86 =>
(castI .i64 t86).bind fun n87 =>
(lenO x2).bind fun t88 =>
(castI .i64 t88).bind fun n89 =>
(some (n87 == n89)).bind fun b90 =>
((stO false 10 (15::0::1::1::1::1::1::1::1::0::σ) q30.2 q1.1 t79).map fun h => (udf,h)).bind fun q91 =>
need ((some (.p (.bool (n87 == n89))) : Option V) = some (.p (.bool (n87 == n89)))) (
need (ldO false 1 q91.2 t85 = some (.p (.int .i64 n87))) (
((ldO true 10 q91.2 q1.1).bind fun t92 => ((some []).map ((.p (.bool b90))::·)).map (t92::·)).bind fun t93 => fin false σ q91.2 t93))) else ((some false).bind fun b94 =>
((stO false 10 (15::0::1::1::1::1::1::1::1::0::σ) q30.2 q1.1 t79).map fun h => (udf,h)).bind fun q95 =>
((ldO true 10 q95.2 q1.1).bind fun t96 => ((some []).map ((.p (.bool b94))::·)).map (t96::·)).bind fun t97 => fin false σ q95.2 t97))))))
else (
bif n33 == 2 then (
(loop rtcp_parse_c0 rtcp_parse_l0 (0::1::1::0::1::1::1::1::1::1::0::σ) (envL [(2,x2),(6,q1.1),(8,q5.1),(9,q22.1)]) q30.2).bind fun r98 => rtcp_parse_k0 rec loop σ r98.1 r98.2.1 r98.2.2)
else (
bif n33 == 3 then (
(callO rec 130 (1::1::1::1::0::1::1::1::1::1::1::0::σ) [q22.1,(.p (.int .i64 4))] q30.2 (some 67)).bind fun q99 =>
(castI .u64 q99.1).bind fun n100 =>
(fA q5.1 2).bind fun t101 =>
((stO true 1 (4::1::1::1::0::1::1::1::1::1::1::0::σ) q99.2 t101 (.p (.int .u32 (IntKind.wrap .u32 n100)))).map fun h => (udf,h)).bind fun q102 =>
(ldO true 10 q102.2 q5.1).bind fun t103 =>
(nilChk q22.1).bind fun t104 =>
(fA t104 2).bind fun t105 =>
(ldO false 1 q102.2 t105).bind fun t106 =>
(asB t106).bind fun b107 =>
bif !b107 then ((nilChk q22.1).bind fun t108 =>
(fA t108 1).bind fun t109 =>
(ldO false 1 q102.2 t109).bind fun t110 =>
(castI .i64 t110).bind fun n111 =>
(lenO x2).bind fun t112 =>
(castI .i64 t112).bind fun n113 =>
(some (n111 == n113)).bind fun b114 =>
((stO false 10 (15::0::1::1::1::1::1::1::1::0::σ) q102.2 q1.1 t103).map fun h => (udf,h)).bind fun q115 =>
need ((some (.p (.bool (n111 == n113))) : Option V) = some (.p (.bool (n111 == n113)))) (
need (ldO false 1 q115.2 t109 = some (.p (.int .i64 n111))) (
((ldO true 10 q115.2 q1.1).bind fun t116 => ((some []).map ((.p (.bool b114))::·)).map (t116::·)).bind fun t117 => fin false σ q115.2 t117))) else ((some false).bind fun b118 =>
((stO false 10 (15::0::1::1::1::1::1::1::1::0::σ) q102.2 q1.1 t103).map fun h => (udf,h)).bind fun q119 =>
((ldO true 10 q119.2 q1.1).bind fun t120 => ((some []).map ((.p (.bool b118))::·)).map (t120::·)).bind fun t121 => fin false σ q119.2 t121))
else (
bif n33 == 4 then (
(loop rtcp_parse_c1 rtcp_parse_l1 (0::1::1::1::1::0::1::1::1::1::1::1::0::σ) (envL [(2,x2),(6,q1.1),(8,q5.1),(9,q22.1)]) q30.2).bind fun r122 => rtcp_parse_k1 rec loop σ r122.1 r122.2.1 r122.2.2)
else (
bif n33 == 5 then (
(callO rec 134 (1::1::1::1::1::1::0::1::1::1::1::1::1::0::σ) [q22.1,q5.1] q30.2 (some 114)).bind fun q123 =>
(ldO true 10 q123.2 q5.1).bind fun t124 =>
(nilChk q22.1).bind fun t125 =>
(fA t125 2).bind fun t126 =>
(ldO false 1 q123.2 t126).bind fun t127 =>
(asB t127).bind fun b128 =>
bif !b128 then ((nilChk q22.1).bind fun t129 =>
(fA t129 1).bind fun t130 =>
(ldO false 1 q123.2 t130).bind fun t131 =>
(castI .i64 t131).bind fun n132 =>
(lenO x2).bind fun t133 =>
(castI .i64 t133).bind fun n134 =>
(some (n132 == n134)).bind fun b135 =>
((stO false 10 (15::0::1::1::1::1::1::1::1::0::σ) q123.2 q1.1 t124).map fun h => (udf,h)).bind fun q136 =>
need ((some (.p (.bool (n132 == n134))) : Option V) = some (.p (.bool (n132 == n134)))) (
need (ldO false 1 q136.2 t130 = some (.p (.int .i64 n132))) (
((ldO true 10 q136.2 q1.1).bind fun t137 => ((some []).map ((.p (.bool b135))::·)).map (t137::·)).bind fun t138 => fin false σ q136.2 t138))) else ((some false).bind fun b139 =>
((stO false 10 (15::0::1::1::1::1::1::1::1::0::σ) q123.2 q1.1 t124).map fun h => (udf,h)).bind fun q140 =>
((ldO true 10 q140.2 q1.1).bind fun t141 => ((some []).map ((.p (.bool b139))::·)).map (t141::·)).bind fun t142 => fin false σ q140.2 t142))
else (
(ldO true 10 q30.2 q5.1).bind fun t143 =>
(nilChk q22.1).bind fun t144 =>
(fA t144 2).bind fun t145 =>
(ldO false 1 q30.2 t145).bind fun t146 =>
(asB t146).bind fun b147 =>
bif !b147 then ((nilChk q22.1).bind fun t148 =>
(fA t148 1).bind fun t149 =>
(ldO false 1 q30.2 t149).bind fun t150 =>
(castI .i64 t150).bind fun n151 =>
(lenO x2).bind fun t152 =>
(castI .i64 t152).bind fun n153 =>
(some (n151 == n153)).bind fun b154 =>
((stO false 10 (15::0::1::1::1::1::1::1::1::0::σ) q30.2 q1.1 t143).map fun h => (udf,h)).bind fun q155 =>
need ((some (.p (.bool (n151 == n153))) : Option V) = some (.p (.bool (n151 == n153)))) (
need (ldO false 1 q155.2 t149 = some (.p (.int .i64 n151))) (
((ldO true 10 q155.2 q1.1).bind fun t156 => ((some []).map ((.p (.bool b154))::·)).map (t156::·)).bind fun t157 => fin false σ q155.2 t157))) else ((some false).bind fun b158 =>
((stO false 10 (15::0::1::1::1::1::1::1::1::0::σ) q30.2 q1.1 t143).map fun h => (udf,h)).bind fun q159 =>
((ldO true 10 q159.2 q1.1).bind fun t160 => ((some []).map ((.p (.bool b158))::·)).map (t160::·)).bind fun t161 => fin false σ q159.2 t161)))))))
else (
(fA q5.1 0).bind fun t162 =>
(ldO false 1 q26.2 t162).bind fun t163 =>
(castI .i64 t163).bind fun n164 =>
bif n164 == 1 then (
bif n164 == 1 then (
(loop rtcp_parse_c0 rtcp_parse_l0 (0::1::1::0::1::1::1::1::1::1::0::σ) (envL [(2,x2),(6,q1.1),(8,q5.1),(9,q22.1)]) q26.2).bind fun r165 => rtcp_parse_k0 rec loop σ r165.1 r165.2.1 r165.2.2)
else (
bif n164 == 3 then (
(callO rec 130 (1::1::1::1::0::1::1::1::1::1::1::0::σ) [q22.1,(.p (.int .i64 4))] q26.2 (some 67)).bind fun q166 =>
(castI .u64 q166.1).bind fun n167 =>
(fA q5.1 2).bind fun t168 =>
((stO true 1 (4::1::1::1::0::1::1::1::1::1::1::0::σ) q166.2 t168 (.p (.int .u32 (IntKind.wrap .u32 n167)))).map fun h => (udf,h)).bind fun q169 =>
(ldO true 10 q169.2 q5.1).bind fun t170 =>
(nilChk q22.1).bind fun t171 =>
(fA t171 2).bind fun t172 =>
(ldO false 1 q169.2 t172).bind fun t173 =>
(asB t173).bind fun b174 =>
bif !b174 then ((nilChk q22.1).bind fun t175 =>
(fA t175 1).bind fun t176 =>
(ldO false 1 q169.2 t176).bind fun t177 =>
(castI .i64 t177).bind fun n178 =>
(lenO x2).bind fun t179 =>
(castI .i64 t179).bind fun n180 =>
(some (n178 == n180)).bind fun b181 =>
((stO false 10 (15::0::1::1::1::1::1::1::1::0::σ) q169.2 q1.1 t170).map fun h => (udf,h)).bind fun q182 =>
need ((some (.p (.bool (n178 == n180))) : Option V) = some (.p (.bool (n178 == n180)))) (
need (ldO false 1 q182.2 t176 = some (.p (.int .i64 n178))) (
((ldO true 10 q182.2 q1.1).bind fun t183 => ((some []).map ((.p (.bool b181))::·)).map (t183::·)).bind fun t184 => fin false σ q182.2 t184))) else ((some false).bind fun b185 =>
((stO false 10 (15::0::1::1::1::1::1::1::1::0::σ) q169.2 q1.1 t170).map fun h => (udf,h)).bind fun q186 =>
((ldO true 10 q186.2 q1.1).bind fun t187 => ((some []).map ((.p (.bool b185))::·)).map (t187::·)).bind fun t188 => fin false σ q186.2 t188))
else (
bif n164 == 4 then (
(loop rtcp_parse_c1 rtcp_parse_l1 (0::1::1::1::1::0::1::1::1::1::1::1::0::σ) (envL [(2,x2),(6,q1.1),(8,q5.1),(9,q22.1)]) q26.2).bind fun r189 => rtcp_parse_k1 rec loop σ r189.1 r189.2.1 r189.2.2)
else (
bif n164 == 5 then (
(callO rec 134 (1::1::1::1::1::1::0::1::1::1::1::1::1::0::σ) [q22.1,q5.1] q26.2 (some 114)).bind fun q190 =>
(ldO true 10 q190.2 q5.1).bind fun t191 =>
(nilChk q22.1).bind fun t192 =>
(fA t192 2).bind fun t193 =>
(ldO false 1 q190.2 t193).bind fun t194 =>
(asB t194).bind fun b195 =>
bif !b195 then ((nilChk q22.1).bind fun t196 =>
(fA t196 1).bind fun t197 =>
(ldO false 1 q190.2 t197).bind fun t198 =>
(castI .i64 t198).bind fun n199 =>
(lenO x2).bind fun t200 =>
(castI .i64 t200).bind fun n201 =>
(some (n199 == n201)).bind fun b202 =>
((stO false 10 (15::0::1::1::1::1::1::1::1::0::σ) q190.2 q1.1 t191).map fun h => (udf,h)).bind fun q203 =>
need ((some (.p (.bool (n199 == n201))) : Option V) = some (.p (.bool (n199 == n201)))) (
need (ldO false 1 q203.2 t197 = some (.p (.int .i64 n199))) (
((ldO true 10 q203.2 q1.1).bind fun t204 => ((some []).map ((.p (.bool b202))::·)).map (t204::·)).bind fun t205 => fin false σ q203.2 t205))) else ((some false).bind fun b206 =>
((stO false 10 (15::0::1::1::1::1::1::1::1::0::σ) q190.2 q1.1 t191).map fun h => (udf,h)).bind fun q207 =>
((ldO true 10 q207.2 q1.1).bind fun t208 => ((some []).map ((.p (.bool b206))::·)).map (t208::·)).bind fun t209 => fin false σ q207.2 t209))
else (
(ldO true 10 q26.2 q5.1).bind fun t210 =>
(nilChk q22.1).bind fun t211 =>
(fA t211 2).bind fun t212 =>
(ldO false 1 q26.2 t212).bind fun t213 =>
(asB t213).bind fun b214 =>
bif !b214 then ((nilChk q22.1).bind fun t215 =>
(fA t215 1).bind fun t216 =>
(ldO false 1 q26.2 t216).bind fun t217 =>
(castI .i64 t217).bind fun n218 =>
(lenO x2).bind fun t219 =>
(castI .i64 t219).bind fun n220 =>
(some (n218 == n220)).bind fun b221 =>
((stO false 10 (15::0::1::1::1::1::1::1::1::0::σ) q26.2 q1.1 t210).map fun h => (udf,h)).bind fun q222 =>
need ((some (.p (.bool (n218 == n220))) : Option V) = some (.p (.bool (n218 == n220)))) (
need (ldO false 1 q222.2 t216 = some (.p (.int .i64 n218))) (
((ldO true 10 q222.2 q1.1).bind fun t223 => ((some []).map ((.p (.bool b221))::·)).map (t223::·)).bind fun t224 => fin false σ q222.2 t224))) else ((some false).bind fun b225 =>
((stO false 10 (15::0::1::1::1::1::1::1::1::0::σ) q26.2 q1.1 t210).map fun h => (udf,h)).bind fun q226 =>
((ldO true 10 q226.2 q1.1).bind fun t227 => ((some []).map ((.p (.bool b225))::·)).map (t227::·)).bind fun t228 => fin false σ q226.2 t228))))))
else (
bif n164 == 2 then (
(loop rtcp_parse_c0 rtcp_parse_l0 (0::1::1::0::1::1::1::1::1::1::0::σ) (envL [(2,x2),(6,q1.1),(8,q5.1),(9,q22.1)]) q26.2).bind fun r229 => rtcp_parse_k0 rec loop σ r229.1 r229.2.1 r229.2.2)
else (
bif n164 == 3 then (
(callO rec 130 (1::1::1::1::0::1::1::1::1::1::1::0::σ) [q22.1,(.p (.int .i64 4))] q26.2 (some 67)).bind fun q230 =>
(castI .u64 q230.1).bind fun n231 =>
(fA q5.1 2).bind fun t232 =>
((stO true 1 (4::1::1::1::0::1::1::1::1::1::1::0::σ) q230.2 t232 (.p (.int .u32 (IntKind.wrap .u32 n231)))).map fun h => (udf,h)).bind fun q233 =>
(ldO true 10 q233.2 q5.1).bind fun t234 =>
(nilChk q22.1).bind fun t235 =>
(fA t235 2).bind fun t236 =>
(ldO false 1 q233.2 t236).bind fun t237 =>
(asB t237).bind fun b238 =>
bif !b238 then ((nilChk q22.1).bind fun t239 =>
(fA t239 1).bind fun t240 =>
(ldO false 1 q233.2 t240).bind fun t241 =>
(castI .i64 t241).bind fun n242 =>
(lenO x2).bind fun t243 =>
(castI .i64 t243).bind fun n244 =>
(some (n242 == n244)).bind fun b245 =>
((stO false 10 (15::0::1::1::1::1::1::1::1::0::σ) q233.2 q1.1 t234).map fun h => (udf,h)).bind fun q246 =>
need ((some (.p (.bool (n242 == n244))) : Option V) = some (.p (.bool (n242 == n244)))) (
need (ldO false 1 q246.2 t240 = some (.p (.int .i64 n242))) (
((ldO true 10 q246.2 q1.1).bind fun t247 => ((some []).map ((.p (.bool b245))::·)).map (t247::·)).bind fun t248 => fin false σ q246.2 t248))) else ((some false).bind fun b249 =>
((stO false 10 (15::0::1::1::1::1::1::1::1::0::σ) q233.2 q1.1 t234).map fun h => (udf,h)).bind fun q250 =>
((ldO true 10 q250.2 q1.1).bind fun t251 => ((some []).map ((.p (.bool b249))::·)).map (t251::·)).bind fun t252 => fin false σ q250.2 t252))
else (
bif n164 == 4 then (
(loop rtcp_parse_c1 rtcp_parse_l1 (0::1::1::1::1::0::1::1::1::1::1::1::0::σ) (envL [(2,x2),(6,q1.1),(8,q5.1),(9,q22.1)]) q26.2).bind fun r253 => rtcp_parse_k1 rec loop σ r253.1 r253.2.1 r253.2.2)
else (
bif n164 == 5 then (
(callO rec 134 (1::1::1::1::1::1::0::1::1::1::1::1::1::0::σ) [q22.1,q5.1] q26.2 (some 114)).bind fun q254 =>
(ldO true 10 q254.2 q5.1).bind fun t255 =>
(nilChk q22.1).bind fun t256 =>
(fA t256 2).bind fun t257 =>
(ldO false 1 q254.2 t257).bind fun t258 =>
(asB t258).bind fun b259 =>
bif !b259 then ((nilChk q22.1).bind fun t260 =>
(fA t260 1).bind fun t261 =>
(ldO false 1 q254.2 t261).bind fun t262 =>
(castI .i64 t262).bind fun n263 =>
(lenO x2).bind fun t264 =>
(castI .i64 t264).bind fun n265 =>
(some (n263 == n265)).bind fun b266 =>
((stO false 10 (15::0::1::1::1::1::1::1::1::0::σ) q254.2 q1.1 t255).map fun h => (udf,h)).bind fun q267 =>
need ((some (.p (.bool (n263 == n265))) : Option V) = some (.p (.bool (n263 == n265)))) (
need (ldO false 1 q267.2 t261 = some (.p (.int .i64 n263))) (
((ldO true 10 q267.2 q1.1).bind fun t268 => ((some []).map ((.p (.bool b266))::·)).map (t268::·)).bind fun t269 => fin false σ q267.2 t269))) else ((some false).bind fun b270 =>
((stO false 10 (15::0::1::1::1::1::1::1::1::0::σ) q254.2 q1.1 t255).map fun h => (udf,h)).bind fun q271 =>
((ldO true 10 q271.2 q1.1).bind fun t272 => ((some []).map ((.p (.bool b270))::·)).map (t272::·)).bind fun t273 => fin false σ q271.2 t273))
else (
(ldO true 10 q26.2 q5.1).bind fun t274 =>
(nilChk q22.1).bind fun t275 =>
(fA t275 2).bind fun t276 =>
(ldO false 1 q26.2 t276).bind fun t277 =>
(asB t277).bind fun b278 =>
bif !b278 then ((nilChk q22.1).bind fun t279 =>
(fA t279 1).bind fun t280 =>
(ldO false 1 q26.2 t280).bind fun t281 =>
(castI .i64 t281).bind fun n282 =>
(lenO x2).bind fun t283 =>
(castI .i64 t283).bind fun n284 =>
(some (n282 == n284)).bind fun b285 =>
((stO false 10 (15::0::1::1::1::1::1::1::1::0::σ) q26.2 q1.1 t274).map fun h => (udf,h)).bind fun q286 =>
need ((some (.p (.bool (n282 == n284))) : Option V) = some (.p (.bool (n282 == n284)))) (
need (ldO false 1 q286.2 t280 = some (.p (.int .i64 n282))) (
((ldO true 10 q286.2 q1.1).bind fun t287 => ((some []).map ((.p (.bool b285))::·)).map (t287::·)).bind fun t288 => fin false σ q286.2 t288))) else ((some false).bind fun b289 =>
((stO false 10 (15::0::1::1::1::1::1::1::1::0::σ) q26.2 q1.1 t274).map fun h => (udf,h)).bind fun q290 =>
((ldO true 10 q290.2 q1.1).bind fun t291 => ((some []).map ((.p (.bool b289))::·)).map (t291::·)).bind fun t292 => fin false σ q290.2 t292)))))))):=by kernel_rfl
theorem rtcp_parse_r0 (x2 : V) (x6 : V) (x8 : V) (x9 : V) (h : H) : cvRound G rec loop rtcp_parse_c0 rtcp_parse_l0 σ (envL [(2,x2),(6,x6),(8,x8),(9,x9)]) h =
(callO rec 132 (1::0::0::0::σ) [x9] h (some 43)).bind fun q293 =>
(asB q293.1).bind fun b294 =>
bif b294 then (
(fA x8 3).bind fun t295 =>
(ldO false 1 q293.2 t295).bind fun t296 =>
(callO rec 133 (3::1::0::σ) [x9] q293.2 (some 47)).bind fun q297 =>
need (ldO false 1 q297.2 t295 = some t296) (
(bSV Try.prog 28 1 [(0,q297.1)]).bind fun t298 =>
(apO false 3 24 (5::1::0::σ) 49 q297.2 t296 t298).bind fun q299 =>
(fA x8 3).bind fun t300 =>
((stO true 1 (7::1::0::σ) q299.2 t300 q299.1).map fun h => (udf,h)).bind fun q301 =>
loop rtcp_parse_c0 rtcp_parse_l0 (1::σ) (envL [(2,x2),(6,x6),(8,x8),(9,x9)]) q301.2))
else (
some ((.exit 1),(envL [(2,x2),(6,x6),(8,x8),(9,x9)]),q293.2)):=by kernel_rfl
theorem rtcp_parse_a0_1 (x2 : V) (x6 : V) (x8 : V) (x9 : V) (h : H) : rtcp_parse_k0 rec loop σ (.exit 1) (envL [(2,x2),(6,x6),(8,x8),(9,x9)]) h =
(nilChk x9).bind fun t302 =>
(fA t302 2).bind fun t303 =>
(ldO false 1 h t303).bind fun t304 =>
(asB t304).bind fun b305 =>
(bif b305 then (some true) else ((fA x8 3).bind fun t306 =>
(ldO false 1 h t306).bind fun t307 =>
(lenO t307).bind fun t308 =>
(castI .i64 t308).bind fun n309 =>
some (decide (n309 > 6)))).bind fun b310 =>
(nilChk x9).bind fun t311 =>
(fA t311 2).bind fun t312 =>
((stO true 1 (13::1::1::1::0::1::1::1::1::1::1::0::σ) h t312 (.p (.bool b310))).map fun h => (udf,h)).bind fun q313 =>
(ldO true 10 q313.2 x8).bind fun t314 =>
(nilChk x9).bind fun t315 =>
(fA t315 2).bind fun t316 =>
(ldO false 1 q313.2 t316).bind fun t317 =>
(asB t317).bind fun b318 =>
bif !b318 then ((nilChk x9).bind fun t319 =>
(fA t319 1).bind fun t320 =>
(ldO false 1 q313.2 t320).bind fun t321 =>
(castI .i64 t321).bind fun n322 =>
(lenO x2).bind fun t323 =>
(castI .i64 t323).bind fun n324 =>
(some (n322 == n324)).bind fun b325 =>
((stO false 10 (15::0::1::1::1::1::1::1::1::0::σ) q313.2 x6 t314).map fun h => (udf,h)).bind fun q326 =>
need ((some (.p (.bool (n322 == n324))) : Option V) = some (.p (.bool (n322 == n324)))) (
need (ldO false 1 q326.2 t320 = some (.p (.int .i64 n322))) (
((ldO true 10 q326.2 x6).bind fun t327 => ((some []).map ((.p (.bool b325))::·)).map (t327::·)).bind fun t328 => fin false σ q326.2 t328))) else ((some false).bind fun b329 =>
((stO false 10 (15::0::1::1::1::1::1::1::1::0::σ) q313.2 x6 t314).map fun h => (udf,h)).bind fun q330 =>
((ldO true 10 q330.2 x6).bind fun t331 => ((some []).map ((.p (.bool b329))::·)).map (t331::·)).bind fun t332 => fin false σ q330.2 t332):=by kernel_rfl
theorem rtcp_parse_r1 (x2 : V) (x6 : V) (x8 : V) (x9 : V) (h : H) : cvRound G rec loop rtcp_parse_c1 rtcp_parse_l1 σ (envL [(2,x2),(6,x6),(8,x8),(9,x9)]) h =
(callO rec 132 (1::0::0::0::σ) [x9] h (some 73)).bind fun q333 =>
(asB q333.1).bind fun b334 =>
bif b334 then (
(fA x8 4).bind fun t335 =>
(ldO false 1 q333.2 t335).bind fun t336 =>
(callO rec 130 (3::0::1::0::σ) [x9,(.p (.int .i64 4))] q333.2 (some 77)).bind fun q337 =>
(castI .u64 q337.1).bind fun n338 =>
need (ldO false 1 q337.2 t335 = some t336) (
(bSV Try.prog 29 1 [(0,(.p (.int .u32 (IntKind.wrap .u32 n338))))]).bind fun t339 =>
(apO true 1 4 (6::0::1::0::σ) 80 q337.2 t336 t339).bind fun q340 =>
(fA x8 4).bind fun t341 =>
((stO true 1 (8::0::1::0::σ) q340.2 t341 q340.1).map fun h => (udf,h)).bind fun q342 =>
(fA x8 5).bind fun t343 =>
(ldO false 1 q342.2 t343).bind fun t344 =>
(callO rec 130 (3::0::1::1::0::σ) [x9,(.p (.int .i64 1))] q342.2 (some 85)).bind fun q345 =>
(castI .u64 q345.1).bind fun n346 =>
need (ldO false 1 q345.2 t343 = some t344) (
(bSV Try.prog 23 1 [(0,(.p (.int .i64 (IntKind.wrap .i64 n346))))]).bind fun t347 =>
(apO true 1 8 (6::0::1::1::0::σ) 88 q345.2 t344 t347).bind fun q348 =>
(fA x8 5).bind fun t349 =>
((stO true 1 (8::0::1::1::0::σ) q348.2 t349 q348.1).map fun h => (udf,h)).bind fun q350 =>
(callO rec 131 (1::1::1::1::0::σ) [x9,(.p (.int .i64 3))] q350.2 (some 91)).bind fun q351 =>
loop rtcp_parse_c1 rtcp_parse_l1 (1::σ) (envL [(2,x2),(6,x6),(8,x8),(9,x9)]) q351.2)))
else (
some ((.exit 3),(envL [(2,x2),(6,x6),(8,x8),(9,x9)]),q333.2)):=by kernel_rfl
theorem rtcp_parse_a1_3 (x2 : V) (x6 : V) (x8 : V) (x9 : V) (h : H) : rtcp_parse_k1 rec loop σ (.exit 3) (envL [(2,x2),(6,x6),(8,x8),(9,x9)]) h =
(nilChk x9).bind fun t352 =>
(fA t352 2).bind fun t353 =>
(ldO false 1 h t353).bind fun t354 =>
(asB t354).bind fun b355 =>
(bif b355 then (some true) else ((fA x8 4).bind fun t356 =>
(ldO false 1 h t356).bind fun t357 =>
(lenO t357).bind fun t358 =>
(castI .i64 t358).bind fun n359 =>
some (decide (n359 < 1)))).bind fun b360 =>
(bif b360 then (some true) else ((fA x8 4).bind fun t361 =>
(ldO false 1 h t361).bind fun t362 =>
(lenO t362).bind fun t363 =>
(castI .i64 t363).bind fun n364 =>
some (decide (n364 > 16)))).bind fun b365 =>
(nilChk x9).bind fun t366 =>
(fA t366 2).bind fun t367 =>
((stO true 1 (19::1::1::1::1::1::0::1::1::1::1::1::1::0::σ) h t367 (.p (.bool b365))).map fun h => (udf,h)).bind fun q368 =>
(ldO true 10 q368.2 x8).bind fun t369 =>
(nilChk x9).bind fun t370 =>
(fA t370 2).bind fun t371 =>
(ldO false 1 q368.2 t371).bind fun t372 =>
(asB t372).bind fun b373 =>
bif !b373 then ((nilChk x9).bind fun t374 =>
(fA t374 1).bind fun t375 =>
(ldO false 1 q368.2 t375).bind fun t376 =>
(castI .i64 t376).bind fun n377 =>
(lenO x2).bind fun t378 =>
(castI .i64 t378).bind fun n379 =>
(some (n377 == n379)).bind fun b380 =>
((stO false 10 (15::0::1::1::1::1::1::1::1::0::σ) q368.2 x6 t369).map fun h => (udf,h)).bind fun q381 =>
need ((some (.p (.bool (n377 == n379))) : Option V) = some (.p (.bool (n377 == n379)))) (
need (ldO false 1 q381.2 t375 = some (.p (.int .i64 n377))) (
((ldO true 10 q381.2 x6).bind fun t382 => ((some []).map ((.p (.bool b380))::·)).map (t382::·)).bind fun t383 => fin false σ q381.2 t383))) else ((some false).bind fun b384 =>
((stO false 10 (15::0::1::1::1::1::1::1::1::0::σ) q368.2 x6 t369).map fun h => (udf,h)).bind fun q385 =>
((ldO true 10 q385.2 x6).bind fun t386 => ((some []).map ((.p (.bool b384))::·)).map (t386::·)).bind fun t387 => fin false σ q385.2 t387):=by kernel_rfl
theorem rtcp_reader_left_entry (x0 : V) (h : H) : cvBody G rec loop 132 σ [x0] h =
(nilChk x0).bind fun t1 =>
(fA t1 2).bind fun t2 =>
(ldO false 1 (List.replicate 20 []::h) t2).bind fun t3 =>
(asB t3).bind fun b4 =>
(bif !b4 then ((nilChk x0).bind fun t5 =>
(fA t5 1).bind fun t6 =>
(ldO false 1 (List.replicate 20 []::h) t6).bind fun t7 =>
(castI .i64 t7).bind fun n8 =>
(nilChk x0).bind fun t9 =>
(fA t9 0).bind fun t10 =>
(ldO false 1 (List.replicate 20 []::h) t10).bind fun t11 =>
(lenO t11).bind fun t12 =>
(castI .i64 t12).bind fun n13 =>
some (decide (n8 < n13))) else (some false)).bind fun b14 =>
fin false σ (List.replicate 20 []::h) [(.p (.bool b14))]:=by kernel_rfl
end
end Go.Ev
namespace Go.Ev
open Go.Proofs
set_option linter.unusedVariables false
set_option linter.unusedSimpArgs false
set_option maxRecDepth 100000
def p_rtcp_reader_left (x0 : T_rtcp_reader) : Option (Bool) :=
(bif !x0.bad then (some (decide (x0.f_at < ((x0.b.length : Int))))) else (some false)).bind fun b1 =>
some (b1)
theorem rtcp_reader_left_ok {h : H} {σ : Stamp} (x0 : T_rtcp_reader) {u0_0 : V} (hu0_0 : SlF (dI .u8) x0.b u0_0) {l0 : Loc} {o0 : Nat} (ha0 : AtC h l0 o0 (List.map C.v [u0_0,(.p (.int .i64 x0.f_at)),(.p (.bool x0.bad))])) : Sim (p_rtcp_reader_left x0) (ev G X0 132 σ [(.ref l0 o0)] h) (fun r s => s = ([.v (.p (.bool r))],h)):=by
  refine Sim.ev rfl (Sim.ext (rtcp_reader_left_entry _ _ _ _ _) ?_)
  rw [p_rtcp_reader_left]
  have S0 : Fm 20 h [] [] [] (List.replicate 20 []::h):=Fm.start0
  refine Sim.nc ?_
  refine Sim.fa ?_
  refine Sim.op ((S0.lowA ha0).ld (j:=2) rfl) ?_
  refine Sim.ab ?_
  refine Sim.ch (P:=fun r y => r = y) ?_ (fun b1 y2 h3 h4 => ?_)
  · refine Sim.cq ?_ ?_
    · refine Sim.nc ?_
      refine Sim.fa ?_
      refine Sim.op ((S0.lowA ha0).ld (j:=1) rfl) ?_
      refine Sim.ci ?_
      refine Sim.nc ?_
      refine Sim.fa ?_
      refine Sim.op ((S0.lowA ha0).ld (j:=0) rfl) ?_
      refine Sim.op ((hu0_0.h (List.replicate 20 []::h)).len) ?_
      refine Sim.ci ?_
      exact Sim.ret rfl rfl
    · exact Sim.ret rfl rfl
  subst h4
  exact Sim.fin (S0.finN (lC (sB _).lv lN)) rfl
end Go.Ev
namespace Go.Ev
open Go.Proofs
set_option linter.unusedVariables false
set_option linter.unusedSimpArgs false
set_option maxRecDepth 100000
noncomputable section
abbrev KT17:=Exit→Env→H→Option (List C × H)
variable (rec : CallF) (loop : LoopV) (σ : Stamp)
theorem rtcp_reader_nought_entry (x0 : V) (x1 : Int) (h : H) : cvBody G rec loop 131 σ [x0,(.p (.int .i64 x1))] h =
(callO rec 130 (3::0::σ) [x0,(.p (.int .i64 x1))] (List.replicate 17 []::h) (some 7)).bind fun q1 =>
(castI .u64 q1.1).bind fun n2 =>
(bif n2 != 0 then (some true) else ((nilChk x0).bind fun t3 =>
(fA t3 2).bind fun t4 =>
(ldO false 1 q1.2 t4).bind fun t5 =>
(asB t5).bind fun b6 =>
some b6)).bind fun b7 =>
(nilChk x0).bind fun t8 =>
(fA t8 2).bind fun t9 =>
((stO true 1 (13::0::σ) q1.2 t9 (.p (.bool b7))).map fun h => (udf,h)).bind fun q10 =>
fin false σ q10.2 []:=by kernel_rfl
theorem rtcp_reader_num_entry (x0 : V) (x1 : Int) (h : H) : cvBody G rec loop 130 σ [x0,(.p (.int .i64 x1))] h =
(nilChk x0).bind fun t1 =>
(fA t1 0).bind fun t2 =>
(ldO false 1 (List.replicate 40 []::h) t2).bind fun t3 =>
(nilChk x0).bind fun t4 =>
(fA t4 1).bind fun t5 =>
(ldO false 1 (List.replicate 40 []::h) t5).bind fun t6 =>
(castI .i64 t6).bind fun n7 =>
(callO rec 96 (9::0::1::0::σ) [t3,(.p (.int .i64 n7)),(.p (.int .i64 x1))] (List.replicate 40 []::h) (some 17)).bind fun q8 =>
(extV q8.1 0).bind fun t9 =>
(castI .u64 t9).bind fun n10 =>
(extV q8.1 1).bind fun t11 =>
(asB t11).bind fun b12 =>
(nilChk x0).bind fun t13 =>
(fA t13 2).bind fun t14 =>
(ldO false 1 q8.2 t14).bind fun t15 =>
(asB t15).bind fun b16 =>
(bif b16 then (some true) else (some (!b12))).bind fun b17 =>
(nilChk x0).bind fun t18 =>
(fA t18 2).bind fun t19 =>
((stO true 1 (11::0::1::1::0::σ) q8.2 t19 (.p (.bool b17))).map fun h => (udf,h)).bind fun q20 =>
(nilChk x0).bind fun t21 =>
(fA t21 1).bind fun t22 =>
(ldO false 1 q20.2 t22).bind fun t23 =>
(castI .i64 t23).bind fun n24 =>
(nilChk x0).bind fun t25 =>
(fA t25 1).bind fun t26 =>
((stO true 1 (8::0::1::1::1::0::σ) q20.2 t26 (.p (.int .i64 (IntKind.wrap .i64 (n24 + x1))))).map fun h => (udf,h)).bind fun q27 =>
fin false σ q27.2 [(.p (.int .u64 n10))]:=by kernel_rfl
end
end Go.Ev
namespace Go.Ev
open Go.Proofs
set_option linter.unusedVariables false
set_option linter.unusedSimpArgs false
set_option maxRecDepth 100000
def p_rtcp_reader_num (k : Nat) (x0 : T_rtcp_reader) (x1 : Int) : Option (Int × T_rtcp_reader) :=
(p_octet_Get k x0.b x0.f_at x1).bind fun r1 =>
(bif x0.bad then (some true) else (some (!r1.2))).bind fun b6 =>
some (r1.1,(⟨x0.b,(IntKind.wrap .i64 (x0.f_at + x1)),b6⟩ : T_rtcp_reader))
theorem rtcp_reader_num_ok (k : Nat) {h : H} {σ : Stamp} (x0 : T_rtcp_reader) {u0_0 : V} (hu0_0 : SlF (dI .u8) x0.b u0_0) {l0 : Loc} {o0 : Nat} (ha0 : AtC h l0 o0 (List.map C.v [u0_0,(.p (.int .i64 x0.f_at)),(.p (.bool x0.bad))])) (x1 : Int) : Sim (p_rtcp_reader_num k x0 x1) (ev G X0 130 σ [(.ref l0 o0),(.p (.int .i64 x1))] h) (fun r s => ∃ (vb0_0 : V),SlF (dI .u8) r.2.b vb0_0∧s = ([.v (.p (.int .u64 r.1))],pts h [⟨l0,o0,[.v vb0_0,.v (.p (.int .i64 r.2.f_at)),.v (.p (.bool r.2.bad))]⟩])):=by
  refine Sim.ev rfl (Sim.ext (rtcp_reader_num_entry _ _ _ _ _ _) ?_)
  rw [p_rtcp_reader_num]
  have S0 : Fm 40 h [⟨l0,o0,List.map C.v [u0_0,(.p (.int .i64 x0.f_at)),(.p (.bool x0.bad))]⟩] [] [] (List.replicate 40 []::h):=Fm.start1 ha0
  refine Sim.nc ?_
  refine Sim.fa ?_
  refine Sim.op ((S0.atB (i:=0) rfl).ld (j:=0) rfl) ?_
  refine Sim.nc ?_
  refine Sim.fa ?_
  refine Sim.op ((S0.atB (i:=0) rfl).ld (j:=1) rfl) ?_
  refine Sim.ci ?_
  refine Sim.call (octet_Get_ok k x0.b (hu0_0.h (List.replicate 40 []::h)) x0.f_at x1) fun r1 cs2 H3 h4 q5 => ?_
  cases q5
  refine Sim.or ?_
  refine Sim.ci ?_
  refine Sim.or ?_
  refine Sim.ab ?_
  refine Sim.nc ?_
  refine Sim.fa ?_
  refine Sim.op ((S0.atB (i:=0) rfl).ld (j:=2) rfl) ?_
  refine Sim.ab ?_
  refine Sim.ch (P:=fun r y => r = y) ?_ (fun b6 y7 h8 h9 => ?_)
  · refine Sim.cq ?_ ?_
    · exact Sim.ret rfl rfl
    · exact Sim.ret rfl rfl
  subst h9
  refine Sim.nc ?_
  refine Sim.fa ?_
  obtain ⟨H10,e11,S12⟩:=S0.stB (i:=0) (j:=2) (own:=true) (σ:=(11::0::1::1::0::σ)) (x:=(.p (.bool b6))) rfl (sB _) rfl
  refine Sim.op (sM e11) ?_
  refine Sim.nc ?_
  refine Sim.fa ?_
  refine Sim.op ((S12.atB (i:=0) rfl).ld (j:=1) rfl) ?_
  refine Sim.ci ?_
  refine Sim.nc ?_
  refine Sim.fa ?_
  obtain ⟨H13,e14,S15⟩:=S12.stB (i:=0) (j:=1) (own:=true) (σ:=(8::0::1::1::1::0::σ)) (x:=(.p (.int .i64 (IntKind.wrap .i64 (x0.f_at + x1))))) rfl (sI _ _) rfl
  refine Sim.op (sM e14) ?_
  exact Sim.fin (S15.finN (lC (sI _ _).lv lN)) ⟨u0_0,hu0_0,rfl⟩
def p_rtcp_reader_nought (k : Nat) (x0 : T_rtcp_reader) (x1 : Int) : Option (T_rtcp_reader) :=
(p_rtcp_reader_num k x0 x1).bind fun r1 =>
(bif r1.1 != 0 then (some true) else (some r1.2.bad)).bind fun b9 =>
some ((⟨r1.2.b,r1.2.f_at,b9⟩ : T_rtcp_reader))
theorem rtcp_reader_nought_ok (k : Nat) {h : H} {σ : Stamp} (x0 : T_rtcp_reader) {u0_0 : V} (hu0_0 : SlF (dI .u8) x0.b u0_0) {l0 : Loc} {o0 : Nat} (ha0 : AtC h l0 o0 (List.map C.v [u0_0,(.p (.int .i64 x0.f_at)),(.p (.bool x0.bad))])) (x1 : Int) : Sim (p_rtcp_reader_nought k x0 x1) (ev G X0 131 σ [(.ref l0 o0),(.p (.int .i64 x1))] h) (fun r s => ∃ (vb0_0 : V),SlF (dI .u8) r.b vb0_0∧s = ([],pts h [⟨l0,o0,[.v vb0_0,.v (.p (.int .i64 r.f_at)),.v (.p (.bool r.bad))]⟩])):=by
  refine Sim.ev rfl (Sim.ext (rtcp_reader_nought_entry _ _ _ _ _ _) ?_)
  rw [p_rtcp_reader_nought]
  have S0 : Fm 17 h [⟨l0,o0,List.map C.v [u0_0,(.p (.int .i64 x0.f_at)),(.p (.bool x0.bad))]⟩] [] [] (List.replicate 17 []::h):=Fm.start1 ha0
  refine Sim.call (rtcp_reader_num_ok k x0 hu0_0 (S0.atB (i:=0) rfl) x1) fun r1 cs2 H3 h4 q5 => ?_
  obtain ⟨v6,h7,q5⟩:=q5
  cases q5
  have S8:=S0.setB (i:=0) (cs:=List.map C.v [v6,(.p (.int .i64 r1.2.f_at)),(.p (.bool r1.2.bad))]) rfl rfl
  refine Sim.ci ?_
  refine Sim.ch (P:=fun r y => r = y) ?_ (fun b9 y10 h11 h12 => ?_)
  · refine Sim.cq ?_ ?_
    · exact Sim.ret rfl rfl
    · refine Sim.nc ?_
      refine Sim.fa ?_
      refine Sim.op ((S8.atB (i:=0) rfl).ld (j:=2) rfl) ?_
      refine Sim.ab ?_
      exact Sim.ret rfl rfl
  subst h12
  refine Sim.nc ?_
  refine Sim.fa ?_
  obtain ⟨H13,e14,S15⟩:=S8.stB (i:=0) (j:=2) (own:=true) (σ:=(13::0::σ)) (x:=(.p (.bool b9))) rfl (sB _) rfl
  refine Sim.op (sM e14) ?_
  exact Sim.fin (S15.finN lN) ⟨v6,h7,rfl⟩
end Go.Ev
namespace Go.Ev
open Go.Proofs
set_option linter.unusedVariables false
set_option linter.unusedSimpArgs false
set_option maxRecDepth 100000
noncomputable section
abbrev KT18:=Exit→Env→H→Option (List C × H)
variable (rec : CallF) (loop : LoopV) (σ : Stamp)
def rtcp_reader_remb_c0 : Code:=(codeAt (bodyOf Try.f134) [1,1,1,1,0,0,0])
def rtcp_reader_remb_l0 : Lv:=⟨19,0,[(0,19)]⟩
def rtcp_reader_remb_k0 : KT18:=(kBlock 0 (kSeq G rec loop (codeAt (bodyOf Try.f134) [1,1,1,1,1]) ⟨0,0,[]⟩ (1::1::1::1::0::σ) (finC G false Try.f134 (1::σ))))
theorem rtcp_reader_remb_entry (x0 : V) (x1 : V) (h : H) : cvBody G rec loop 134 σ [x0,x1] h =
(iStr ((⟨#[82,69,77,66]⟩ : ByteArray)) 0).bind fun t1 =>
(castI .u8 t1).bind fun n2 =>
(iStr ((⟨#[82,69,77,66]⟩ : ByteArray)) 1).bind fun t3 =>
(castI .u8 t3).bind fun n4 =>
(iStr ((⟨#[82,69,77,66]⟩ : ByteArray)) 2).bind fun t5 =>
(castI .u8 t5).bind fun n6 =>
(iStr ((⟨#[82,69,77,66]⟩ : ByteArray)) 3).bind fun t7 =>
(castI .u8 t7).bind fun n8 =>
(callO rec 130 (2::0::0::σ) [x0,(.p (.int .i64 4))] (List.replicate 77 []::h) (some 8)).bind fun q9 =>
(castI .u64 q9.1).bind fun n10 =>
need ((some (.p (.int .u64 (IntKind.wrap .u64 n8))) : Option V) = some (.p (.int .u64 (IntKind.wrap .u64 n8)))) (
need ((some (.p (.int .u64 (IntKind.wrap .u64 n6))) : Option V) = some (.p (.int .u64 (IntKind.wrap .u64 n6)))) (
need ((some (.p (.int .u64 (IntKind.wrap .u64 n4))) : Option V) = some (.p (.int .u64 (IntKind.wrap .u64 n4)))) (
need ((some (.p (.int .u64 (IntKind.wrap .u64 n2))) : Option V) = some (.p (.int .u64 (IntKind.wrap .u64 n2)))) (
(bif n10 != (intBits .or .u64 (intBits .or .u64 (intBits .or .u64 (IntKind.wrap .u64 ((IntKind.wrap .u64 n2) * 2 ^ 24)) (IntKind.wrap .u64 ((IntKind.wrap .u64 n4) * 2 ^ 16))) (IntKind.wrap .u64 ((IntKind.wrap .u64 n6) * 2 ^ 8))) (IntKind.wrap .u64 n8)) then (some true) else ((nilChk x0).bind fun t11 =>
(fA t11 2).bind fun t12 =>
(ldO false 1 q9.2 t12).bind fun t13 =>
(asB t13).bind fun b14 =>
some b14)).bind fun b15 =>
(nilChk x0).bind fun t16 =>
(fA t16 2).bind fun t17 =>
((stO true 1 (26::0::0::σ) q9.2 t17 (.p (.bool b15))).map fun h => (udf,h)).bind fun q18 =>
(callO rec 130 (1::0::1::0::σ) [x0,(.p (.int .i64 1))] q18.2 (some 33)).bind fun q19 =>
(castI .u64 q19.1).bind fun n20 =>
(callO rec 130 (1::0::1::1::0::σ) [x0,(.p (.int .i64 3))] q19.2 (some 35)).bind fun q21 =>
(castI .u64 q21.1).bind fun n22 =>
(callO rec 151 (3::0::1::1::1::0::σ) [x0,(.p (.int .u64 n22)),(.p (.int .i64 18))] q21.2 (some 39)).bind fun q23 =>
(castI .u64 q23.1).bind fun n24 =>
(nilChk x1).bind fun t25 =>
(fA t25 6).bind fun t26 =>
((stO true 1 (6::0::1::1::1::0::σ) q23.2 t26 (.p (.int .u64 n24))).map fun h => (udf,h)).bind fun q27 =>
(loop rtcp_reader_remb_c0 rtcp_reader_remb_l0 (0::1::1::1::1::0::σ) (envL [(0,x0),(1,x1),(4,(.p (.int .u64 n20)))]) q27.2).bind fun r28 => rtcp_reader_remb_k0 rec loop σ r28.1 r28.2.1 r28.2.2)))):=by kernel_rfl
theorem rtcp_reader_remb_r0 (x0 : V) (x1 : V) (x4 : Int) (h : H) : cvRound G rec loop rtcp_reader_remb_c0 rtcp_reader_remb_l0 σ (envL [(0,x0),(1,x1),(4,(.p (.int .u64 x4)))]) h =
(callO rec 132 (1::0::0::0::σ) [x0] h (some 43)).bind fun q29 =>
(asB q29.1).bind fun b30 =>
bif b30 then (
(nilChk x1).bind fun t31 =>
(fA t31 4).bind fun t32 =>
(ldO false 1 q29.2 t32).bind fun t33 =>
(callO rec 130 (6::1::0::σ) [x0,(.p (.int .i64 4))] q29.2 (some 50)).bind fun q34 =>
(castI .u64 q34.1).bind fun n35 =>
need (ldO false 1 q34.2 t32 = some t33) (
(bSV Try.prog 29 1 [(0,(.p (.int .u32 (IntKind.wrap .u32 n35))))]).bind fun t36 =>
(apO true 1 4 (9::1::0::σ) 53 q34.2 t33 t36).bind fun q37 =>
(nilChk x1).bind fun t38 =>
(fA t38 4).bind fun t39 =>
((stO true 1 (12::1::0::σ) q37.2 t39 q37.1).map fun h => (udf,h)).bind fun q40 =>
loop rtcp_reader_remb_c0 rtcp_reader_remb_l0 (1::σ) (envL [(0,x0),(1,x1),(4,(.p (.int .u64 x4)))]) q40.2))
else (
some ((.exit 0),(envL [(0,x0),(1,x1),(4,(.p (.int .u64 x4)))]),q29.2)):=by kernel_rfl
theorem rtcp_reader_remb_a0_0 (x0 : V) (x1 : V) (x4 : Int) (h : H) : rtcp_reader_remb_k0 rec loop σ (.exit 0) (envL [(0,x0),(1,x1),(4,(.p (.int .u64 x4)))]) h =
(nilChk x0).bind fun t41 =>
(fA t41 2).bind fun t42 =>
(ldO false 1 h t42).bind fun t43 =>
(asB t43).bind fun b44 =>
(bif b44 then (some true) else ((nilChk x1).bind fun t45 =>
(fA t45 4).bind fun t46 =>
(ldO false 1 h t46).bind fun t47 =>
(lenO t47).bind fun t48 =>
(castI .i64 t48).bind fun n49 =>
some (x4 != (IntKind.wrap .u64 n49)))).bind fun b50 =>
(bif b50 then (some true) else (some (decide (x4 > 16)))).bind fun b51 =>
(nilChk x0).bind fun t52 =>
(fA t52 2).bind fun t53 =>
((stO true 1 (21::1::1::1::1::1::0::σ) h t53 (.p (.bool b51))).map fun h => (udf,h)).bind fun q54 =>
fin false σ q54.2 []:=by kernel_rfl
theorem rtcp_reader_rate_entry (x0 : V) (x1 : Int) (x2 : Int) (h : H) : cvBody G rec loop 151 σ [x0,(.p (.int .u64 x1)),(.p (.int .i64 x2))] h =
(shiftV .shr .u64 x1 x2).bind fun t1 =>
(castI .u64 t1).bind fun n2 =>
(shiftV .shl .u64 1 x2).bind fun t3 =>
(castI .u64 t3).bind fun n4 =>
(callO rec 135 (3::0::1::1::0::σ) [(.p (.int .i64 (IntKind.wrap .i64 n2))),(.p (.int .u32 (IntKind.wrap .u32 (intBits .and .u64 x1 (IntKind.wrap .u64 (n4 - 1)))))),(.p (.int .i64 x2))] (List.replicate 40 []::h) (some 23)).bind fun q5 =>
(castI .u64 q5.1).bind fun n6 =>
(nilChk x0).bind fun t7 =>
(fA t7 2).bind fun t8 =>
(ldO false 1 q5.2 t8).bind fun t9 =>
(asB t9).bind fun b10 =>
(bif b10 then (some true) else ((shiftV .shr .u64 n6 (IntKind.wrap .i64 n2)).bind fun t11 =>
(castI .u64 t11).bind fun n12 =>
some (n12 != (IntKind.wrap .u64 (IntKind.wrap .u32 (intBits .and .u64 x1 (IntKind.wrap .u64 (n4 - 1)))))))).bind fun b13 =>
(nilChk x0).bind fun t14 =>
(fA t14 2).bind fun t15 =>
((stO true 1 (15::0::1::1::1::0::σ) q5.2 t15 (.p (.bool b13))).map fun h => (udf,h)).bind fun q16 =>
fin false σ q16.2 [(.p (.int .u64 n6))]:=by kernel_rfl
end
end Go.Ev
namespace Go.Ev
open Go.Proofs
set_option linter.unusedVariables false
set_option linter.unusedSimpArgs false
set_option maxRecDepth 100000
def p_rtcp_reader_rate (x0 : T_rtcp_reader) (x1 : Int) (x2 : Int) : Option (Int × T_rtcp_reader) :=
(shP .shr .u64 x1 x2).bind fun n1 =>
(shP .shl .u64 1 x2).bind fun n3 =>
(p_rate_Open (IntKind.wrap .i64 n1) (IntKind.wrap .u32 (intBits .and .u64 x1 (IntKind.wrap .u64 (n3 - 1)))) x2).bind fun r5 =>
(bif x0.bad then (some true) else ((shP .shr .u64 r5 (IntKind.wrap .i64 n1)).bind fun n10 =>
some (n10 != (IntKind.wrap .u64 (IntKind.wrap .u32 (intBits .and .u64 x1 (IntKind.wrap .u64 (n3 - 1)))))))).bind fun b12 =>
some (r5,(⟨x0.b,x0.f_at,b12⟩ : T_rtcp_reader))
theorem rtcp_reader_rate_ok {h : H} {σ : Stamp} (x0 : T_rtcp_reader) {u0_0 : V} (hu0_0 : SlF (dI .u8) x0.b u0_0) {l0 : Loc} {o0 : Nat} (ha0 : AtC h l0 o0 (List.map C.v [u0_0,(.p (.int .i64 x0.f_at)),(.p (.bool x0.bad))])) (x1 : Int) (x2 : Int) : Sim (p_rtcp_reader_rate x0 x1 x2) (ev G X0 151 σ [(.ref l0 o0),(.p (.int .u64 x1)),(.p (.int .i64 x2))] h) (fun r s => ∃ (vb0_0 : V),SlF (dI .u8) r.2.b vb0_0∧s = ([.v (.p (.int .u64 r.1))],pts h [⟨l0,o0,[.v vb0_0,.v (.p (.int .i64 r.2.f_at)),.v (.p (.bool r.2.bad))]⟩])):=by
  refine Sim.ev rfl (Sim.ext (rtcp_reader_rate_entry _ _ _ _ _ _ _) ?_)
  rw [p_rtcp_reader_rate]
  have S0 : Fm 40 h [⟨l0,o0,List.map C.v [u0_0,(.p (.int .i64 x0.f_at)),(.p (.bool x0.bad))]⟩] [] [] (List.replicate 40 []::h):=Fm.start1 ha0
  refine Sim.bd fun n1 h2 => ?_
  refine Sim.op (shP_ok h2) ?_
  refine Sim.ci ?_
  refine Sim.bd fun n3 h4 => ?_
  refine Sim.op (shP_ok h4) ?_
  refine Sim.ci ?_
  refine Sim.call (rate_Open_ok (IntKind.wrap .i64 n1) (IntKind.wrap .u32 (intBits .and .u64 x1 (IntKind.wrap .u64 (n3 - 1)))) x2) fun r5 cs6 H7 h8 q9 => ?_
  cases q9
  refine Sim.ci ?_
  refine Sim.nc ?_
  refine Sim.fa ?_
  refine Sim.op ((S0.atB (i:=0) rfl).ld (j:=2) rfl) ?_
  refine Sim.ab ?_
  refine Sim.ch (P:=fun r y => r = y) ?_ (fun b12 y13 h14 h15 => ?_)
  · refine Sim.cq ?_ ?_
    · exact Sim.ret rfl rfl
    · refine Sim.bd fun n10 h11 => ?_
      refine Sim.op (shP_ok h11) ?_
      refine Sim.ci ?_
      exact Sim.ret rfl rfl
  subst h15
  refine Sim.nc ?_
  refine Sim.fa ?_
  obtain ⟨H16,e17,S18⟩:=S0.stB (i:=0) (j:=2) (own:=true) (σ:=(15::0::1::1::1::0::σ)) (x:=(.p (.bool b12))) rfl (sB _) rfl
  refine Sim.op (sM e17) ?_
  exact Sim.fin (S18.finN (lC (sI _ _).lv lN)) ⟨u0_0,hu0_0,rfl⟩
def p_rtcp_reader_remb_l0 {β : Type} (k : Nat) (kE0 : Int→T_rtcp_reader→TaiReport→Option β) (x4 : Int) (zp0 : T_rtcp_reader) (zp1 : TaiReport) : Option β:=match k with
| 0 => none
| k + 1 =>
(p_rtcp_reader_left zp0).bind fun r64 =>
bif r64 then (
(p_rtcp_reader_num k zp0 4).bind fun r70 =>
(ap 4 zp1.Abouts ([(IntKind.wrap .u32 r70.1)])).bind fun a79 =>
p_rtcp_reader_remb_l0 k kE0 x4 r70.2 ((⟨zp1.Kind,zp1.From,zp1.About,zp1.Tuples,a79,zp1.Numbers,zp1.Rate,zp1.f_Type,zp1.Count,zp1.Body⟩ : TaiReport)))
else (
kE0 x4 zp0 zp1)
def p_rtcp_reader_remb (k : Nat) (x0 : T_rtcp_reader) (x1 : TaiReport) : Option (T_rtcp_reader × TaiReport) :=
(ixS ((⟨#[82,69,77,66]⟩ : ByteArray)) 0).bind fun n1 =>
(ixS ((⟨#[82,69,77,66]⟩ : ByteArray)) 1).bind fun n3 =>
(ixS ((⟨#[82,69,77,66]⟩ : ByteArray)) 2).bind fun n5 =>
(ixS ((⟨#[82,69,77,66]⟩ : ByteArray)) 3).bind fun n7 =>
(p_rtcp_reader_num k x0 4).bind fun r9 =>
(bif r9.1 != (intBits .or .u64 (intBits .or .u64 (intBits .or .u64 (IntKind.wrap .u64 ((IntKind.wrap .u64 n1) * 2 ^ 24)) (IntKind.wrap .u64 ((IntKind.wrap .u64 n3) * 2 ^ 16))) (IntKind.wrap .u64 ((IntKind.wrap .u64 n5) * 2 ^ 8))) (IntKind.wrap .u64 n7)) then (some true) else (some r9.2.bad)).bind fun b17 =>
(p_rtcp_reader_num k (⟨r9.2.b,r9.2.f_at,b17⟩ : T_rtcp_reader) 1).bind fun r24 =>
(p_rtcp_reader_num k r24.2 3).bind fun r32 =>
(p_rtcp_reader_rate r32.2 r32.1 18).bind fun r40 =>
p_rtcp_reader_remb_l0 k (fun r106_4 zp0 zp1 =>
(bif zp0.bad then (some true) else (some (r106_4 != (IntKind.wrap .u64 ((zp1.Abouts.length : Int)))))).bind fun b120 =>
(bif b120 then (some true) else (some (decide (r106_4 > 16)))).bind fun b124 =>
some ((⟨zp0.b,zp0.f_at,b124⟩ : T_rtcp_reader),zp1)) r24.1 r40.2 ((⟨x1.Kind,x1.From,x1.About,x1.Tuples,x1.Abouts,x1.Numbers,r40.1,x1.f_Type,x1.Count,x1.Body⟩ : TaiReport))
theorem rtcp_reader_remb_l0_ok {h : H} {l0 : Loc} {o0 : Nat} {l1 : Loc} {o1 : Nat} {β α : Type} {Q : β→α→Prop} {K : Exit × Env × H→Option α} {kE0 : Int→T_rtcp_reader→TaiReport→Option β} (hE0 : ∀ (q4 : Int) (zp0 : T_rtcp_reader) (zp1 : TaiReport) (v95 : V) (h96 : SlF (dI .u8) zp0.b v95) (v97 : V) (h98 : SlF dTaiTuple zp1.Tuples v97) (c99 : C) (h100 : SoC (dI .u32) zp1.Abouts c99) (h101 : ∀ v,c99 = .v v→v = .p (.slice none 0 0) ∨ v = .fz [] 0 1 true) (v102 : V) (h103 : SlF (dI .i64) zp1.Numbers v102) (v104 : V) (h105 : SlF (dI .u8) zp1.Body v104) (H93 : Go.Ev.H) (_ : Fm 77 h [⟨l0,o0,List.map C.v [v95,(.p (.int .i64 zp0.f_at)),(.p (.bool zp0.bad))]⟩,⟨l1,o1,[.v (.p (.int .i64 zp1.Kind)),.v (.p (.int .u32 zp1.From)),.v (.p (.int .u32 zp1.About)),.v v97,c99,.v v102,.v (.p (.int .u64 zp1.Rate)),.v (.p (.int .i64 zp1.f_Type)),.v (.p (.int .i64 zp1.Count)),.v v104]⟩] [] [] H93),Sim (kE0 q4 zp0 zp1) (K ((.exit 0),(envL [(0,(.ref l0 o0)),(1,(.ref l1 o1)),(4,(.p (.int .u64 q4)))]),H93)) Q) (k : Nat) : ∀ (x4 : Int) (zp0 : T_rtcp_reader) (zp1 : TaiReport) (v53 : V) (h54 : SlF (dI .u8) zp0.b v53) (v55 : V) (h56 : SlF dTaiTuple zp1.Tuples v55) (c57 : C) (h58 : SoC (dI .u32) zp1.Abouts c57) (h59 : ∀ v,c57 = .v v→v = .p (.slice none 0 0) ∨ v = .fz [] 0 1 true) (v60 : V) (h61 : SlF (dI .i64) zp1.Numbers v60) (v62 : V) (h63 : SlF (dI .u8) zp1.Body v62) (H51 : Go.Ev.H) (_ : Fm 77 h [⟨l0,o0,List.map C.v [v53,(.p (.int .i64 zp0.f_at)),(.p (.bool zp0.bad))]⟩,⟨l1,o1,[.v (.p (.int .i64 zp1.Kind)),.v (.p (.int .u32 zp1.From)),.v (.p (.int .u32 zp1.About)),.v v55,c57,.v v60,.v (.p (.int .u64 zp1.Rate)),.v (.p (.int .i64 zp1.f_Type)),.v (.p (.int .i64 zp1.Count)),.v v62]⟩] [] [] H51) {σ : Stamp},Sim (p_rtcp_reader_remb_l0 k kE0 x4 zp0 zp1) ((cvL G X0 rtcp_reader_remb_c0 rtcp_reader_remb_l0 σ (envL [(0,(.ref l0 o0)),(1,(.ref l1 o1)),(4,(.p (.int .u64 x4)))]) H51).bind K) Q:=by
  induction k with
  | zero => intros; exact Sim.no
  | succ k ih =>
    intro x4 zp0 zp1 v53 h54 v55 h56 c57 h58 h59 v60 h61 v62 h63 H51 S52 σ
    rw [p_rtcp_reader_remb_l0]
    refine Sim.round (Sim.ext (rtcp_reader_remb_r0 _ _ _ _ _ _ _) ?_)
    refine Sim.call (rtcp_reader_left_ok zp0 h54 (S52.atB (i:=0) rfl)) fun r64 cs65 H66 h67 q68 => ?_
    cases q68
    refine Sim.ab ?_
    refine Sim.cq ?_ ?_
    · refine Sim.nc ?_
      refine Sim.fa ?_
      refine Sim.op (h58.ld (S52.atB (i:=1) rfl) (j:=4) rfl) ?_
      refine Sim.call (rtcp_reader_num_ok k zp0 h54 (S52.atB (i:=0) rfl) 4) fun r70 cs71 H72 h73 q74 => ?_
      obtain ⟨v75,h76,q74⟩:=q74
      cases q74
      have S77:=S52.setB (i:=0) (cs:=List.map C.v [v75,(.p (.int .i64 r70.2.f_at)),(.p (.bool r70.2.bad))]) rfl rfl
      refine Sim.ci ?_
      refine Sim.nd (h58.ld (S77.atB (i:=1) rfl) (j:=4) rfl) ?_
      have h78:=SlF.int1 .u32 (IntKind.wrap .u32 r70.1)
      refine Sim.op (bldS (pC rfl pN) (by kernel_rfl : _ = some (vOf h78))) ?_
      refine Sim.bd fun a79 h80 => ?_
      obtain ⟨v81,c82,H83,e84,S85⟩:=S77.appB (i:=1) (j:=4) (d:=53) (e:=1) (own:=true) (σ:=(9::1::0::σ)) rfl rfl h58 h59 (h78.h (ptC H51 l0 o0 (List.map C.v [v75,(.p (.int .i64 r70.2.f_at)),(.p (.bool r70.2.bad))]))).y h80 (by simp) rfl (by decide) (by decide) rfl
      refine Sim.op (e84) ?_
      refine Sim.nc ?_
      refine Sim.fa ?_
      obtain ⟨c90,H87,e88,h91,h92,S89⟩:=S85.mvB (i:=1) (j:=4) (k:=0) (σ:=(12::1::0::σ)) rfl rfl rfl rfl rfl
      refine Sim.op (sM e88) ?_
      exact ih x4 r70.2 ((⟨zp1.Kind,zp1.From,zp1.About,zp1.Tuples,a79,zp1.Numbers,zp1.Rate,zp1.f_Type,zp1.Count,zp1.Body⟩ : TaiReport)) v75 h76 v55 h56 c90 h91 h92 v60 h61 v62 h63 H87 (S89.wk2 aN aN)
    exact hE0 x4 zp0 zp1 v53 h54 v55 h56 c57 h58 h59 v60 h61 v62 h63 H51 (S52.wk2 aN aN)
theorem rtcp_reader_remb_ok (k : Nat) {h : H} {σ : Stamp} (x0 : T_rtcp_reader) {u0_0 : V} (hu0_0 : SlF (dI .u8) x0.b u0_0) {l0 : Loc} {o0 : Nat} (ha0 : AtC h l0 o0 (List.map C.v [u0_0,(.p (.int .i64 x0.f_at)),(.p (.bool x0.bad))])) (x1 : TaiReport) {u1_3 : V} (hu1_3 : SlF dTaiTuple x1.Tuples u1_3) {c1_4 : C} (hc1_4 : SoC (dI .u32) x1.Abouts c1_4) (hn1_4 : ∀ v,c1_4 = .v v→v = .p (.slice none 0 0) ∨ v = .fz [] 0 1 true) {u1_5 : V} (hu1_5 : SlF (dI .i64) x1.Numbers u1_5) {u1_9 : V} (hu1_9 : SlF (dI .u8) x1.Body u1_9) {l1 : Loc} {o1 : Nat} (ha1 : AtC h l1 o1 ([.v (.p (.int .i64 x1.Kind)),.v (.p (.int .u32 x1.From)),.v (.p (.int .u32 x1.About)),.v u1_3,c1_4,.v u1_5,.v (.p (.int .u64 x1.Rate)),.v (.p (.int .i64 x1.f_Type)),.v (.p (.int .i64 x1.Count)),.v u1_9])) (hk : l1.key ≠ l0.key) : Sim (p_rtcp_reader_remb k x0 x1) (ev G X0 134 σ [(.ref l0 o0),(.ref l1 o1)] h) (fun r s => ∃ (vb0_0 : V),∃ (vb1_3 : V),∃ (cb1_4 : C),∃ (vb1_5 : V),∃ (vb1_9 : V),SlF (dI .u8) r.1.b vb0_0∧SlF dTaiTuple r.2.Tuples vb1_3∧SoC (dI .u32) r.2.Abouts cb1_4∧(∀ v,cb1_4 = .v v→v = .p (.slice none 0 0) ∨ v = .fz [] 0 1 true)∧SlF (dI .i64) r.2.Numbers vb1_5∧SlF (dI .u8) r.2.Body vb1_9∧s = ([],pts h [⟨l0,o0,[.v vb0_0,.v (.p (.int .i64 r.1.f_at)),.v (.p (.bool r.1.bad))]⟩,⟨l1,o1,[.v (.p (.int .i64 r.2.Kind)),.v (.p (.int .u32 r.2.From)),.v (.p (.int .u32 r.2.About)),.v vb1_3,cb1_4,.v vb1_5,.v (.p (.int .u64 r.2.Rate)),.v (.p (.int .i64 r.2.f_Type)),.v (.p (.int .i64 r.2.Count)),.v vb1_9]⟩])):=by
  refine Sim.ev rfl (Sim.ext (rtcp_reader_remb_entry _ _ _ _ _ _) ?_)
  rw [p_rtcp_reader_remb]
  have S0 : Fm 77 h [⟨l0,o0,List.map C.v [u0_0,(.p (.int .i64 x0.f_at)),(.p (.bool x0.bad))]⟩,⟨l1,o1,[.v (.p (.int .i64 x1.Kind)),.v (.p (.int .u32 x1.From)),.v (.p (.int .u32 x1.About)),.v u1_3,c1_4,.v u1_5,.v (.p (.int .u64 x1.Rate)),.v (.p (.int .i64 x1.f_Type)),.v (.p (.int .i64 x1.Count)),.v u1_9]⟩] [] [] (List.replicate 77 []::h):=Fm.start2 ha0 ha1 hk
  refine Sim.bd fun n1 h2 => ?_
  refine Sim.op (ixS_ok h2) ?_
  refine Sim.ci ?_
  refine Sim.bd fun n3 h4 => ?_
  refine Sim.op (ixS_ok h4) ?_
  refine Sim.ci ?_
  refine Sim.bd fun n5 h6 => ?_
  refine Sim.op (ixS_ok h6) ?_
  refine Sim.ci ?_
  refine Sim.bd fun n7 h8 => ?_
  refine Sim.op (ixS_ok h8) ?_
  refine Sim.ci ?_
  refine Sim.call (rtcp_reader_num_ok k x0 hu0_0 (S0.atB (i:=0) rfl) 4) fun r9 cs10 H11 h12 q13 => ?_
  obtain ⟨v14,h15,q13⟩:=q13
  cases q13
  have S16:=S0.setB (i:=0) (cs:=List.map C.v [v14,(.p (.int .i64 r9.2.f_at)),(.p (.bool r9.2.bad))]) rfl rfl
  refine Sim.ci ?_
  refine Sim.nd (rfl) ?_
  refine Sim.nd (rfl) ?_
  refine Sim.nd (rfl) ?_
  refine Sim.nd (rfl) ?_
  refine Sim.ch (P:=fun r y => r = y) ?_ (fun b17 y18 h19 h20 => ?_)
  · refine Sim.cq ?_ ?_
    · exact Sim.ret rfl rfl
    · refine Sim.nc ?_
      refine Sim.fa ?_
      refine Sim.op ((S16.atB (i:=0) rfl).ld (j:=2) rfl) ?_
      refine Sim.ab ?_
      exact Sim.ret rfl rfl
  subst h20
  refine Sim.nc ?_
  refine Sim.fa ?_
  obtain ⟨H21,e22,S23⟩:=S16.stB (i:=0) (j:=2) (own:=true) (σ:=(26::0::0::σ)) (x:=(.p (.bool b17))) rfl (sB _) rfl
  refine Sim.op (sM e22) ?_
  refine Sim.call (rtcp_reader_num_ok k (⟨r9.2.b,r9.2.f_at,b17⟩ : T_rtcp_reader) h15 (S23.atB (i:=0) rfl) 1) fun r24 cs25 H26 h27 q28 => ?_
  obtain ⟨v29,h30,q28⟩:=q28
  cases q28
  have S31:=S23.setB (i:=0) (cs:=List.map C.v [v29,(.p (.int .i64 r24.2.f_at)),(.p (.bool r24.2.bad))]) rfl rfl
  refine Sim.ci ?_
  refine Sim.call (rtcp_reader_num_ok k r24.2 h30 (S31.atB (i:=0) rfl) 3) fun r32 cs33 H34 h35 q36 => ?_
  obtain ⟨v37,h38,q36⟩:=q36
  cases q36
  have S39:=S31.setB (i:=0) (cs:=List.map C.v [v37,(.p (.int .i64 r32.2.f_at)),(.p (.bool r32.2.bad))]) rfl rfl
  refine Sim.ci ?_
  refine Sim.call (rtcp_reader_rate_ok r32.2 h38 (S39.atB (i:=0) rfl) r32.1 18) fun r40 cs41 H42 h43 q44 => ?_
  obtain ⟨v45,h46,q44⟩:=q44
  cases q44
  have S47:=S39.setB (i:=0) (cs:=List.map C.v [v45,(.p (.int .i64 r40.2.f_at)),(.p (.bool r40.2.bad))]) rfl rfl
  refine Sim.ci ?_
  refine Sim.nc ?_
  refine Sim.fa ?_
  obtain ⟨H48,e49,S50⟩:=S47.stB (i:=1) (j:=6) (own:=true) (σ:=(6::0::1::1::1::0::σ)) (x:=(.p (.int .u64 r40.1))) rfl (sI _ _) rfl
  refine Sim.op (sM e49) ?_
  refine Sim.as (rtcp_reader_remb_l0_ok ?_ k r24.1 r40.2 ((⟨x1.Kind,x1.From,x1.About,x1.Tuples,x1.Abouts,x1.Numbers,r40.1,x1.f_Type,x1.Count,x1.Body⟩ : TaiReport)) v45 h46 u1_3 hu1_3 c1_4 hc1_4 hn1_4 u1_5 hu1_5 u1_9 hu1_9 H48 (S50.wk2 aN aN))
  · intro r106_4 zp0 zp1 v109 h110 v111 h112 c113 h114 h115 v116 h117 v118 h119 H107 S108
    refine Sim.ext (rtcp_reader_remb_a0_0 _ _ _ _ _ _ _) ?_
    refine Sim.nc ?_
    refine Sim.fa ?_
    refine Sim.op ((S108.atB (i:=0) rfl).ld (j:=2) rfl) ?_
    refine Sim.ab ?_
    refine Sim.ch (P:=fun r y => r = y) ?_ (fun b120 y121 h122 h123 => ?_)
    · refine Sim.cq ?_ ?_
      · exact Sim.ret rfl rfl
      · refine Sim.nc ?_
        refine Sim.fa ?_
        refine Sim.op (h114.ld (S108.atB (i:=1) rfl) (j:=4) rfl) ?_
        refine Sim.op ((h114.sl (S108.atB (i:=1) rfl) (j:=4) rfl).len) ?_
        refine Sim.ci ?_
        exact Sim.ret rfl rfl
    subst h123
    refine Sim.ch (P:=fun r y => r = y) ?_ (fun b124 y125 h126 h127 => ?_)
    · refine Sim.cq ?_ ?_
      · exact Sim.ret rfl rfl
      · exact Sim.ret rfl rfl
    subst h127
    refine Sim.nc ?_
    refine Sim.fa ?_
    obtain ⟨H128,e129,S130⟩:=S108.stB (i:=0) (j:=2) (own:=true) (σ:=(21::1::1::1::1::1::0::σ)) (x:=(.p (.bool b124))) rfl (sB _) rfl
    refine Sim.op (sM e129) ?_
    exact Sim.fin (S130.finN lN) ⟨v109,v111,c113,v116,v118,h110,h112,h114,h115,h117,h119,rfl⟩
end Go.Ev
namespace Go.Ev
open Go.Proofs
set_option linter.unusedVariables false
set_option linter.unusedSimpArgs false
set_option maxRecDepth 100000
noncomputable section
abbrev KT19:=Exit→Env→H→Option (List C × H)
variable (rec : CallF) (loop : LoopV) (σ : Stamp)
theorem rtcp_reader_tuple_entry (x0 : V) (h : H) : cvBody G rec loop 133 σ [x0] h =
(some (alO [.p (.int .u32 0),.p (.int .u64 0),.p (.int .i64 0)] (0::0::0::σ) 2 (List.replicate 21 []::h))).bind fun q1 =>
(callO rec 130 (1::0::1::0::σ) [x0,(.p (.int .i64 4))] q1.2 (some 6)).bind fun q2 =>
(castI .u64 q2.1).bind fun n3 =>
(buildV Try.prog 57 [(0,(.p (.int .u32 (IntKind.wrap .u32 n3))))]).bind fun t4 =>
(some (alO [.p (.int .u32 0),.p (.int .u64 0),.p (.int .i64 0)] (4::0::1::0::σ) 3 q2.2)).bind fun q5 =>
((stO false 3 (5::0::1::0::σ) q5.2 q5.1 t4).map fun h => (udf,h)).bind fun q6 =>
(callO rec 130 (1::0::1::1::0::σ) [x0,(.p (.int .i64 4))] q6.2 (some 10)).bind fun q7 =>
(castI .u64 q7.1).bind fun n8 =>
(fA q5.1 2).bind fun t9 =>
((stO true 1 (4::0::1::1::1::0::σ) q7.2 t9 (.p (.int .i64 (IntKind.wrap .i64 (intBits .and .u64 n8 511))))).map fun h => (udf,h)).bind fun q10 =>
(callO rec 151 (3::0::1::1::1::1::0::σ) [x0,(.p (.int .u64 (Int.fdiv n8 (2 ^ 9)))),(.p (.int .i64 17))] q10.2 (some 18)).bind fun q11 =>
(castI .u64 q11.1).bind fun n12 =>
(fA q5.1 1).bind fun t13 =>
((stO true 1 (5::0::1::1::1::1::0::σ) q11.2 t13 (.p (.int .u64 n12))).map fun h => (udf,h)).bind fun q14 =>
(ldO true 3 q14.2 q5.1).bind fun t15 =>
((stO false 3 (1::0::1::1::1::1::1::0::σ) q14.2 q1.1 t15).map fun h => (udf,h)).bind fun q16 =>
((ldO true 3 q16.2 q1.1).bind fun t17 => (some []).map (t17::·)).bind fun t18 => fin false σ q16.2 t18:=by kernel_rfl
end
end Go.Ev
namespace Go.Ev
open Go.Proofs
set_option linter.unusedVariables false
set_option linter.unusedSimpArgs false
set_option maxRecDepth 100000
def p_rtcp_reader_tuple (k : Nat) (x0 : T_rtcp_reader) : Option (TaiTuple × T_rtcp_reader) :=
(p_rtcp_reader_num k x0 4).bind fun r5 =>
(p_rtcp_reader_num k r5.2 4).bind fun r20 =>
(p_rtcp_reader_rate r20.2 (Int.fdiv r20.1 (2 ^ 9)) 17).bind fun r31 =>
some (((⟨(IntKind.wrap .u32 r5.1),r31.1,(IntKind.wrap .i64 (intBits .and .u64 r20.1 511))⟩ : TaiTuple)),r31.2)
theorem rtcp_reader_tuple_ok (k : Nat) {h : H} {σ : Stamp} (x0 : T_rtcp_reader) {u0_0 : V} (hu0_0 : SlF (dI .u8) x0.b u0_0) {l0 : Loc} {o0 : Nat} (ha0 : AtC h l0 o0 (List.map C.v [u0_0,(.p (.int .i64 x0.f_at)),(.p (.bool x0.bad))])) : Sim (p_rtcp_reader_tuple k x0) (ev G X0 133 σ [(.ref l0 o0)] h) (fun r s => ∃ (w0 : List V),∃ (vb0_0 : V),dTaiTuple.R r.1 w0∧SlF (dI .u8) r.2.b vb0_0∧s = ([.v (.agg w0)],pts h [⟨l0,o0,[.v vb0_0,.v (.p (.int .i64 r.2.f_at)),.v (.p (.bool r.2.bad))]⟩])):=by
  refine Sim.ev rfl (Sim.ext (rtcp_reader_tuple_entry _ _ _ _ _) ?_)
  rw [p_rtcp_reader_tuple]
  have S0 : Fm 21 h [⟨l0,o0,List.map C.v [u0_0,(.p (.int .i64 x0.f_at)),(.p (.bool x0.bad))]⟩] [] [] (List.replicate 21 []::h):=Fm.start1 ha0
  obtain ⟨H1,e2,S3⟩:=S0.al (d:=2) (s:=(0::0::0::σ)) (z:=[(.p (.int .u32 0)),(.p (.int .u64 0)),(.p (.int .i64 0))]) (by decide) rfl
  refine Sim.op (congrArg some e2) ?_
  refine Sim.call (rtcp_reader_num_ok k x0 hu0_0 (S3.atB (i:=0) rfl) 4) fun r5 cs6 H7 h8 q9 => ?_
  obtain ⟨v10,h11,q9⟩:=q9
  cases q9
  have S12:=S3.setB (i:=0) (cs:=List.map C.v [v10,(.p (.int .i64 r5.2.f_at)),(.p (.bool r5.2.bad))]) rfl rfl
  refine Sim.ci ?_
  refine Sim.op (bldV (pC rfl pN) (by kernel_rfl : _ = some (.agg [.p (.int .u32 (IntKind.wrap .u32 r5.1)),.p (.int .u64 0),.p (.int .i64 0)]))) ?_
  obtain ⟨H13,e14,S15⟩:=S12.al (d:=3) (s:=(4::0::1::0::σ)) (z:=[(.p (.int .u32 0)),(.p (.int .u64 0)),(.p (.int .i64 0))]) (by decide) rfl
  refine Sim.op (congrArg some e14) ?_
  obtain ⟨H17,e18,S19⟩:=S15.stGv (i:=0) (j:=0) (own:=false) (σ:=(5::0::1::0::σ)) (xs:=[.p (.int .u32 (IntKind.wrap .u32 r5.1)),.p (.int .u64 0),.p (.int .i64 0)]) rfl rfl (sC (sI _ _) (sC (sI _ _) (sC (sI _ _) sN))) rfl rfl
  refine Sim.op (sM e18) ?_
  refine Sim.call (rtcp_reader_num_ok k r5.2 h11 (S19.atB (i:=0) rfl) 4) fun r20 cs21 H22 h23 q24 => ?_
  obtain ⟨v25,h26,q24⟩:=q24
  cases q24
  have S27:=S19.setB (i:=0) (cs:=List.map C.v [v25,(.p (.int .i64 r20.2.f_at)),(.p (.bool r20.2.bad))]) rfl rfl
  refine Sim.ci ?_
  refine Sim.fa ?_
  obtain ⟨H28,e29,S30⟩:=S27.stG (i:=0) (j:=2) (own:=true) (σ:=(4::0::1::1::1::0::σ)) (x:=(.p (.int .i64 (IntKind.wrap .i64 (intBits .and .u64 r20.1 511))))) rfl rfl (sI _ _) rfl
  refine Sim.op (sM e29) ?_
  refine Sim.call (rtcp_reader_rate_ok r20.2 h26 (S30.atB (i:=0) rfl) (Int.fdiv r20.1 (2 ^ 9)) 17) fun r31 cs32 H33 h34 q35 => ?_
  obtain ⟨v36,h37,q35⟩:=q35
  cases q35
  have S38:=S30.setB (i:=0) (cs:=List.map C.v [v36,(.p (.int .i64 r31.2.f_at)),(.p (.bool r31.2.bad))]) rfl rfl
  refine Sim.ci ?_
  refine Sim.fa ?_
  obtain ⟨H39,e40,S41⟩:=S38.stG (i:=0) (j:=1) (own:=true) (σ:=(5::0::1::1::1::1::0::σ)) (x:=(.p (.int .u64 r31.1))) rfl rfl (sI _ _) rfl
  refine Sim.op (sM e40) ?_
  refine Sim.op ((S41.atG (i:=0) rfl).ldVs (j:=0) (xs:=[.p (.int .u32 (IntKind.wrap .u32 r5.1)),.p (.int .u64 r31.1),.p (.int .i64 (IntKind.wrap .i64 (intBits .and .u64 r20.1 511)))]) rfl rfl (by decide)) ?_
  obtain ⟨H42,e43,S44⟩:=S41.stGv (i:=1) (j:=0) (own:=false) (σ:=(1::0::1::1::1::1::1::0::σ)) (xs:=[.p (.int .u32 (IntKind.wrap .u32 r5.1)),.p (.int .u64 r31.1),.p (.int .i64 (IntKind.wrap .i64 (intBits .and .u64 r20.1 511)))]) rfl rfl (sC (sI _ _) (sC (sI _ _) (sC (sI _ _) sN))) rfl rfl
  refine Sim.op (sM e43) ?_
  have e45 : ldO true 3 H42 (.ref ⟨h.length,2,0,(0::0::0::σ),[]⟩ 0) = some (.agg [.p (.int .u32 (IntKind.wrap .u32 r5.1)),.p (.int .u64 r31.1),.p (.int .i64 (IntKind.wrap .i64 (intBits .and .u64 r20.1 511)))]):=(S44.atG (i:=1) rfl).ldVs (j:=0) rfl rfl (by decide)
  refine Sim.op (congrArg (Option.bind · _) e45) ?_
  exact Sim.fin (S44.finN (lC (Stills.lv (dTaiTuple.still (dTaiTuple.mk))) lN)) ⟨_,v36,(dTaiTuple.mk),h37,rfl⟩
def p_rtcp_parse_l0 {β : Type} (k : Nat) (kE0 : (List Int)→TaiReport→TaiReport→T_rtcp_reader→Option β) (x2 : (List Int)) (yg4 : TaiReport) (yg13 : TaiReport) (yg61 : T_rtcp_reader) : Option β:=match k with
| 0 => none
| k + 1 =>
(p_rtcp_reader_left yg61).bind fun r112 =>
bif r112 then (
(p_rtcp_reader_tuple k yg61).bind fun r118 =>
(ap 24 yg13.Tuples ([r118.1])).bind fun a129 =>
p_rtcp_parse_l0 k kE0 x2 yg4 ((⟨yg13.Kind,yg13.From,yg13.About,a129,yg13.Abouts,yg13.Numbers,yg13.Rate,yg13.f_Type,yg13.Count,yg13.Body⟩ : TaiReport)) r118.2)
else (
kE0 x2 yg4 yg13 yg61)
def p_rtcp_parse_l1 {β : Type} (k : Nat) (kE0 : (List Int)→TaiReport→TaiReport→T_rtcp_reader→Option β) (x2 : (List Int)) (yg4 : TaiReport) (yg13 : TaiReport) (yg61 : T_rtcp_reader) : Option β:=match k with
| 0 => none
| k + 1 =>
(p_rtcp_reader_left yg61).bind fun r314 =>
bif r314 then (
(p_rtcp_reader_num k yg61 4).bind fun r320 =>
(ap 4 yg13.Abouts ([(IntKind.wrap .u32 r320.1)])).bind fun a329 =>
(p_rtcp_reader_num k r320.2 1).bind fun r343 =>
(ap 8 yg13.Numbers ([(IntKind.wrap .i64 r343.1)])).bind fun a352 =>
(p_rtcp_reader_nought k r343.2 3).bind fun r366 =>
p_rtcp_parse_l1 k kE0 x2 yg4 ((⟨yg13.Kind,yg13.From,yg13.About,yg13.Tuples,a329,a352,yg13.Rate,yg13.f_Type,yg13.Count,yg13.Body⟩ : TaiReport)) r366)
else (
kE0 x2 yg4 yg13 yg61)
def p_rtcp_parse (k : Nat) (x0 : Int) (x1 : Int) (x2 : (List Int)) : Option (TaiReport × Bool) :=
(p_rtcp_kind x0 x1).bind fun r5 =>
bif r5 == 6 then (
(p_clone 1 x2).bind fun r18 =>
some (((⟨r5,0,0,(([] : List TaiTuple)),(([] : List Int)),(([] : List Int)),0,x0,x1,r18⟩ : TaiReport)),true))
else (
(p_rtcp_reader_num k (⟨x2,0,false⟩ : T_rtcp_reader) 4).bind fun r62 =>
bif r5 != 3 then (
(p_rtcp_reader_nought k r62.2 4).bind fun r74 =>
bif r5 == 1 then (
p_rtcp_parse_l0 k (fun r172_2 yg96 yg107 yg111 =>
(bif yg111.bad then (some true) else (some (decide (((yg107.Tuples.length : Int)) > 6)))).bind fun b202 =>
bif !b202 then (
some (yg107,(yg111.f_at == ((r172_2.length : Int)))))
else (
some (yg107,false))) x2 ((⟨0,0,0,(([] : List TaiTuple)),(([] : List Int)),(([] : List Int)),0,0,0,(([] : List Int))⟩ : TaiReport)) ((⟨r5,(IntKind.wrap .u32 r62.1),0,(([] : List TaiTuple)),(([] : List Int)),(([] : List Int)),0,0,0,(([] : List Int))⟩ : TaiReport)) r74)
else (
bif r5 == 2 then (
p_rtcp_parse_l0 k (fun r228_2 yg96 yg107 yg111 =>
(bif yg111.bad then (some true) else (some (decide (((yg107.Tuples.length : Int)) > 6)))).bind fun b258 =>
bif !b258 then (
some (yg107,(yg111.f_at == ((r228_2.length : Int)))))
else (
some (yg107,false))) x2 ((⟨0,0,0,(([] : List TaiTuple)),(([] : List Int)),(([] : List Int)),0,0,0,(([] : List Int))⟩ : TaiReport)) ((⟨r5,(IntKind.wrap .u32 r62.1),0,(([] : List TaiTuple)),(([] : List Int)),(([] : List Int)),0,0,0,(([] : List Int))⟩ : TaiReport)) r74)
else (
bif r5 == 4 then (
p_rtcp_parse_l1 k (fun r404_2 yg297 yg309 yg313 =>
(bif yg313.bad then (some true) else (some (decide (((yg309.Abouts.length : Int)) < 1)))).bind fun b435 =>
(bif b435 then (some true) else (some (decide (((yg309.Abouts.length : Int)) > 16)))).bind fun b439 =>
bif !b439 then (
some (yg309,(yg313.f_at == ((r404_2.length : Int)))))
else (
some (yg309,false))) x2 ((⟨0,0,0,(([] : List TaiTuple)),(([] : List Int)),(([] : List Int)),0,0,0,(([] : List Int))⟩ : TaiReport)) ((⟨r5,(IntKind.wrap .u32 r62.1),0,(([] : List TaiTuple)),(([] : List Int)),(([] : List Int)),0,0,0,(([] : List Int))⟩ : TaiReport)) r74)
else (
bif r5 == 5 then (
(p_rtcp_reader_remb k r74 (⟨r5,(IntKind.wrap .u32 r62.1),0,(([] : List TaiTuple)),(([] : List Int)),(([] : List Int)),0,0,0,(([] : List Int))⟩ : TaiReport)).bind fun r468 =>
bif !r468.1.bad then (
some (r468.2,(r468.1.f_at == ((x2.length : Int)))))
else (
some (r468.2,false)))
else (
bif !r74.bad then (
some (((⟨r5,(IntKind.wrap .u32 r62.1),0,(([] : List TaiTuple)),(([] : List Int)),(([] : List Int)),0,0,0,(([] : List Int))⟩ : TaiReport)),(r74.f_at == ((x2.length : Int)))))
else (
some (((⟨r5,(IntKind.wrap .u32 r62.1),0,(([] : List TaiTuple)),(([] : List Int)),(([] : List Int)),0,0,0,(([] : List Int))⟩ : TaiReport)),false)))))))
else (
(p_rtcp_reader_num k r62.2 4).bind fun r512 =>
bif !r512.2.bad then (
some (((⟨r5,(IntKind.wrap .u32 r62.1),(IntKind.wrap .u32 r512.1),(([] : List TaiTuple)),(([] : List Int)),(([] : List Int)),0,0,0,(([] : List Int))⟩ : TaiReport)),(r512.2.f_at == ((x2.length : Int)))))
else (
some (((⟨r5,(IntKind.wrap .u32 r62.1),(IntKind.wrap .u32 r512.1),(([] : List TaiTuple)),(([] : List Int)),(([] : List Int)),0,0,0,(([] : List Int))⟩ : TaiReport)),false))))
theorem rtcp_parse_l0_ok {h : H}  {β α : Type} {Q : β→α→Prop} {K : Exit × Env × H→Option α} {kE0 : (List Int)→TaiReport→TaiReport→T_rtcp_reader→Option β} (hE0 : ∀ (q2 : (List Int)) (yg96 : TaiReport) (yg107 : TaiReport) (yg111 : T_rtcp_reader) (v145 : V) (h146 : SlF (dI .u8) q2 v145) (v147 : V) (h148 : SlF dTaiTuple yg96.Tuples v147) (v149 : V) (h150 : SlF (dI .u32) yg96.Abouts v149) (v151 : V) (h152 : SlF (dI .i64) yg96.Numbers v151) (v153 : V) (h154 : SlF (dI .u8) yg96.Body v153) (s155 : Stamp) (c157 : C) (h158 : SoC dTaiTuple yg107.Tuples c157) (h159 : ∀ v,c157 = .v v→v = .p (.slice none 0 0) ∨ v = .fz [] 0 3 true) (v160 : V) (h161 : SlF (dI .u32) yg107.Abouts v160) (v162 : V) (h163 : SlF (dI .i64) yg107.Numbers v162) (v164 : V) (h165 : SlF (dI .u8) yg107.Body v164) (s166 : Stamp) (v168 : V) (h169 : SlF (dI .u8) yg111.b v168) (s170 : Stamp) (H143 : Go.Ev.H) (_ : Fm 130 h [] [(6,s155,List.map C.v [(.p (.int .i64 yg96.Kind)),(.p (.int .u32 yg96.From)),(.p (.int .u32 yg96.About)),v147,v149,v151,(.p (.int .u64 yg96.Rate)),(.p (.int .i64 yg96.f_Type)),(.p (.int .i64 yg96.Count)),v153]),(8,s166,[.v (.p (.int .i64 yg107.Kind)),.v (.p (.int .u32 yg107.From)),.v (.p (.int .u32 yg107.About)),c157,.v v160,.v v162,.v (.p (.int .u64 yg107.Rate)),.v (.p (.int .i64 yg107.f_Type)),.v (.p (.int .i64 yg107.Count)),.v v164]),(27,s170,List.map C.v [v168,(.p (.int .i64 yg111.f_at)),(.p (.bool yg111.bad))])] [] H143),Sim (kE0 q2 yg96 yg107 yg111) (K ((.exit 1),(envL [(2,v145),(6,(.ref ⟨h.length,6,0,s155,[]⟩ 0)),(8,(.ref ⟨h.length,8,0,s166,[]⟩ 0)),(9,(.ref ⟨h.length,27,0,s170,[]⟩ 0))]),H143)) Q) (k : Nat) : ∀ (x2 : (List Int)) (yg4 : TaiReport) (yg13 : TaiReport) (yg61 : T_rtcp_reader) (v85 : V) (h86 : SlF (dI .u8) x2 v85) (v87 : V) (h88 : SlF dTaiTuple yg4.Tuples v87) (v89 : V) (h90 : SlF (dI .u32) yg4.Abouts v89) (v91 : V) (h92 : SlF (dI .i64) yg4.Numbers v91) (v93 : V) (h94 : SlF (dI .u8) yg4.Body v93) (s95 : Stamp) (c97 : C) (h98 : SoC dTaiTuple yg13.Tuples c97) (h99 : ∀ v,c97 = .v v→v = .p (.slice none 0 0) ∨ v = .fz [] 0 3 true) (v100 : V) (h101 : SlF (dI .u32) yg13.Abouts v100) (v102 : V) (h103 : SlF (dI .i64) yg13.Numbers v102) (v104 : V) (h105 : SlF (dI .u8) yg13.Body v104) (s106 : Stamp) (v108 : V) (h109 : SlF (dI .u8) yg61.b v108) (s110 : Stamp) (H83 : Go.Ev.H) (_ : Fm 130 h [] [(6,s95,List.map C.v [(.p (.int .i64 yg4.Kind)),(.p (.int .u32 yg4.From)),(.p (.int .u32 yg4.About)),v87,v89,v91,(.p (.int .u64 yg4.Rate)),(.p (.int .i64 yg4.f_Type)),(.p (.int .i64 yg4.Count)),v93]),(8,s106,[.v (.p (.int .i64 yg13.Kind)),.v (.p (.int .u32 yg13.From)),.v (.p (.int .u32 yg13.About)),c97,.v v100,.v v102,.v (.p (.int .u64 yg13.Rate)),.v (.p (.int .i64 yg13.f_Type)),.v (.p (.int .i64 yg13.Count)),.v v104]),(27,s110,List.map C.v [v108,(.p (.int .i64 yg61.f_at)),(.p (.bool yg61.bad))])] [] H83) {σ : Stamp},Sim (p_rtcp_parse_l0 k kE0 x2 yg4 yg13 yg61) ((cvL G X0 rtcp_parse_c0 rtcp_parse_l0 σ (envL [(2,v85),(6,(.ref ⟨h.length,6,0,s95,[]⟩ 0)),(8,(.ref ⟨h.length,8,0,s106,[]⟩ 0)),(9,(.ref ⟨h.length,27,0,s110,[]⟩ 0))]) H83).bind K) Q:=by
  induction k with
  | zero => intros; exact Sim.no
  | succ k ih =>
    intro x2 yg4 yg13 yg61 v85 h86 v87 h88 v89 h90 v91 h92 v93 h94 s95 c97 h98 h99 v100 h101 v102 h103 v104 h105 s106 v108 h109 s110 H83 S84 σ
    rw [p_rtcp_parse_l0]
    refine Sim.round (Sim.ext (rtcp_parse_r0 _ _ _ _ _ _ _ _) ?_)
    refine Sim.call (rtcp_reader_left_ok yg61 h109 (S84.atG (i:=2) rfl)) fun r112 cs113 H114 h115 q116 => ?_
    cases q116
    refine Sim.ab ?_
    refine Sim.cq ?_ ?_
    · refine Sim.fa ?_
      refine Sim.op (h98.ld (S84.atG (i:=1) rfl) (j:=3) rfl) ?_
      refine Sim.call (rtcp_reader_tuple_ok k yg61 h109 (S84.atG (i:=2) rfl)) fun r118 cs119 H120 h121 q122 => ?_
      obtain ⟨w123,v125,h124,h126,q122⟩:=q122
      cases q122
      obtain rfl:=dTaiTuple.inv h124
      have S127:=S84.setG (i:=2) (cs':=List.map C.v [v125,(.p (.int .i64 r118.2.f_at)),(.p (.bool r118.2.bad))]) rfl rfl rfl
      refine Sim.nd (h98.ld (S127.atG (i:=1) rfl) (j:=3) rfl) ?_
      have h128 : SlF dTaiTuple [r118.1] (.fz [(.p (.int .u32 r118.1.Owner)),(.p (.int .u64 r118.1.Rate)),(.p (.int .i64 r118.1.Over))] 1 3 true):=SlF.lit (cs:=[(.p (.int .u32 r118.1.Owner)),(.p (.int .u64 r118.1.Rate)),(.p (.int .i64 r118.1.Over))]) (RL.cons h124 RL.nil) rfl rfl true
      refine Sim.op (bldS (pC (c:=[(.p (.int .u32 r118.1.Owner)),(.p (.int .u64 r118.1.Rate)),(.p (.int .i64 r118.1.Over))]) rfl pN) (by kernel_rfl : _ = some (vOf h128))) ?_
      refine Sim.bd fun a129 h130 => ?_
      obtain ⟨v131,c132,H133,e134,S135⟩:=S127.appG (i:=1) (j:=3) (d:=49) (e:=3) (own:=false) (σ:=(5::1::0::σ)) rfl rfl h98 h99 (h128.h (ptC H83 ⟨h.length,27,0,s110,[]⟩ 0 (List.map C.v [v125,(.p (.int .i64 r118.2.f_at)),(.p (.bool r118.2.bad))]))).y h130 (by simp) rfl (by decide) (by decide) rfl rfl
      refine Sim.op (e134) ?_
      refine Sim.fa ?_
      obtain ⟨c140,H137,e138,h141,h142,S139⟩:=S135.mvG (i:=1) (j:=3) (k:=0) (σ:=(7::1::0::σ)) rfl rfl rfl rfl rfl rfl
      refine Sim.op (sM e138) ?_
      exact ih x2 yg4 ((⟨yg13.Kind,yg13.From,yg13.About,a129,yg13.Abouts,yg13.Numbers,yg13.Rate,yg13.f_Type,yg13.Count,yg13.Body⟩ : TaiReport)) r118.2 v85 h86 v87 h88 v89 h90 v91 h92 v93 h94 s95 c140 h141 h142 v100 h101 v102 h103 v104 h105 s106 v125 h126 s110 H137 (S139.wk2 (aC (aM 0 rfl) (aC (aM 1 rfl) (aC (aM 2 rfl) aN))) aN)
    exact hE0 x2 yg4 yg13 yg61 v85 h86 v87 h88 v89 h90 v91 h92 v93 h94 s95 c97 h98 h99 v100 h101 v102 h103 v104 h105 s106 v108 h109 s110 H83 (S84.wk2 (aC (aM 0 rfl) (aC (aM 1 rfl) (aC (aM 2 rfl) aN))) aN)
theorem rtcp_parse_l1_ok {h : H}  {β α : Type} {Q : β→α→Prop} {K : Exit × Env × H→Option α} {kE0 : (List Int)→TaiReport→TaiReport→T_rtcp_reader→Option β} (hE0 : ∀ (q2 : (List Int)) (yg297 : TaiReport) (yg309 : TaiReport) (yg313 : T_rtcp_reader) (v376 : V) (h377 : SlF (dI .u8) q2 v376) (v378 : V) (h379 : SlF dTaiTuple yg297.Tuples v378) (v380 : V) (h381 : SlF (dI .u32) yg297.Abouts v380) (v382 : V) (h383 : SlF (dI .i64) yg297.Numbers v382) (v384 : V) (h385 : SlF (dI .u8) yg297.Body v384) (s386 : Stamp) (v388 : V) (h389 : SlF dTaiTuple yg309.Tuples v388) (c390 : C) (h391 : SoC (dI .u32) yg309.Abouts c390) (h392 : ∀ v,c390 = .v v→v = .p (.slice none 0 0) ∨ v = .fz [] 0 1 true) (c393 : C) (h394 : SoC (dI .i64) yg309.Numbers c393) (h395 : ∀ v,c393 = .v v→v = .p (.slice none 0 0) ∨ v = .fz [] 0 1 true) (v396 : V) (h397 : SlF (dI .u8) yg309.Body v396) (s398 : Stamp) (v400 : V) (h401 : SlF (dI .u8) yg313.b v400) (s402 : Stamp) (H374 : Go.Ev.H) (_ : Fm 130 h [] [(6,s386,List.map C.v [(.p (.int .i64 yg297.Kind)),(.p (.int .u32 yg297.From)),(.p (.int .u32 yg297.About)),v378,v380,v382,(.p (.int .u64 yg297.Rate)),(.p (.int .i64 yg297.f_Type)),(.p (.int .i64 yg297.Count)),v384]),(8,s398,[.v (.p (.int .i64 yg309.Kind)),.v (.p (.int .u32 yg309.From)),.v (.p (.int .u32 yg309.About)),.v v388,c390,c393,.v (.p (.int .u64 yg309.Rate)),.v (.p (.int .i64 yg309.f_Type)),.v (.p (.int .i64 yg309.Count)),.v v396]),(27,s402,List.map C.v [v400,(.p (.int .i64 yg313.f_at)),(.p (.bool yg313.bad))])] [] H374),Sim (kE0 q2 yg297 yg309 yg313) (K ((.exit 3),(envL [(2,v376),(6,(.ref ⟨h.length,6,0,s386,[]⟩ 0)),(8,(.ref ⟨h.length,8,0,s398,[]⟩ 0)),(9,(.ref ⟨h.length,27,0,s402,[]⟩ 0))]),H374)) Q) (k : Nat) : ∀ (x2 : (List Int)) (yg4 : TaiReport) (yg13 : TaiReport) (yg61 : T_rtcp_reader) (v286 : V) (h287 : SlF (dI .u8) x2 v286) (v288 : V) (h289 : SlF dTaiTuple yg4.Tuples v288) (v290 : V) (h291 : SlF (dI .u32) yg4.Abouts v290) (v292 : V) (h293 : SlF (dI .i64) yg4.Numbers v292) (v294 : V) (h295 : SlF (dI .u8) yg4.Body v294) (s296 : Stamp) (v298 : V) (h299 : SlF dTaiTuple yg13.Tuples v298) (c300 : C) (h301 : SoC (dI .u32) yg13.Abouts c300) (h302 : ∀ v,c300 = .v v→v = .p (.slice none 0 0) ∨ v = .fz [] 0 1 true) (c303 : C) (h304 : SoC (dI .i64) yg13.Numbers c303) (h305 : ∀ v,c303 = .v v→v = .p (.slice none 0 0) ∨ v = .fz [] 0 1 true) (v306 : V) (h307 : SlF (dI .u8) yg13.Body v306) (s308 : Stamp) (v310 : V) (h311 : SlF (dI .u8) yg61.b v310) (s312 : Stamp) (H284 : Go.Ev.H) (_ : Fm 130 h [] [(6,s296,List.map C.v [(.p (.int .i64 yg4.Kind)),(.p (.int .u32 yg4.From)),(.p (.int .u32 yg4.About)),v288,v290,v292,(.p (.int .u64 yg4.Rate)),(.p (.int .i64 yg4.f_Type)),(.p (.int .i64 yg4.Count)),v294]),(8,s308,[.v (.p (.int .i64 yg13.Kind)),.v (.p (.int .u32 yg13.From)),.v (.p (.int .u32 yg13.About)),.v v298,c300,c303,.v (.p (.int .u64 yg13.Rate)),.v (.p (.int .i64 yg13.f_Type)),.v (.p (.int .i64 yg13.Count)),.v v306]),(27,s312,List.map C.v [v310,(.p (.int .i64 yg61.f_at)),(.p (.bool yg61.bad))])] [] H284) {σ : Stamp},Sim (p_rtcp_parse_l1 k kE0 x2 yg4 yg13 yg61) ((cvL G X0 rtcp_parse_c1 rtcp_parse_l1 σ (envL [(2,v286),(6,(.ref ⟨h.length,6,0,s296,[]⟩ 0)),(8,(.ref ⟨h.length,8,0,s308,[]⟩ 0)),(9,(.ref ⟨h.length,27,0,s312,[]⟩ 0))]) H284).bind K) Q:=by
  induction k with
  | zero => intros; exact Sim.no
  | succ k ih =>
    intro x2 yg4 yg13 yg61 v286 h287 v288 h289 v290 h291 v292 h293 v294 h295 s296 v298 h299 c300 h301 h302 c303 h304 h305 v306 h307 s308 v310 h311 s312 H284 S285 σ
    rw [p_rtcp_parse_l1]
    refine Sim.round (Sim.ext (rtcp_parse_r1 _ _ _ _ _ _ _ _) ?_)
    refine Sim.call (rtcp_reader_left_ok yg61 h311 (S285.atG (i:=2) rfl)) fun r314 cs315 H316 h317 q318 => ?_
    cases q318
    refine Sim.ab ?_
    refine Sim.cq ?_ ?_
    · refine Sim.fa ?_
      refine Sim.op (h301.ld (S285.atG (i:=1) rfl) (j:=4) rfl) ?_
      refine Sim.call (rtcp_reader_num_ok k yg61 h311 (S285.atG (i:=2) rfl) 4) fun r320 cs321 H322 h323 q324 => ?_
      obtain ⟨v325,h326,q324⟩:=q324
      cases q324
      have S327:=S285.setG (i:=2) (cs':=List.map C.v [v325,(.p (.int .i64 r320.2.f_at)),(.p (.bool r320.2.bad))]) rfl rfl rfl
      refine Sim.ci ?_
      refine Sim.nd (h301.ld (S327.atG (i:=1) rfl) (j:=4) rfl) ?_
      have h328:=SlF.int1 .u32 (IntKind.wrap .u32 r320.1)
      refine Sim.op (bldS (pC rfl pN) (by kernel_rfl : _ = some (vOf h328))) ?_
      refine Sim.bd fun a329 h330 => ?_
      obtain ⟨v331,c332,H333,e334,S335⟩:=S327.appG (i:=1) (j:=4) (d:=80) (e:=1) (own:=true) (σ:=(6::0::1::0::σ)) rfl rfl h301 h302 (h328.h (ptC H284 ⟨h.length,27,0,s312,[]⟩ 0 (List.map C.v [v325,(.p (.int .i64 r320.2.f_at)),(.p (.bool r320.2.bad))]))).y h330 (by simp) rfl (by decide) (by decide) rfl rfl
      refine Sim.op (e334) ?_
      refine Sim.fa ?_
      obtain ⟨c340,H337,e338,h341,h342,S339⟩:=S335.mvG (i:=1) (j:=4) (k:=0) (σ:=(8::0::1::0::σ)) rfl rfl rfl rfl rfl rfl
      refine Sim.op (sM e338) ?_
      refine Sim.fa ?_
      refine Sim.op (h304.ld (S339.atG (i:=1) rfl) (j:=5) rfl) ?_
      refine Sim.call (rtcp_reader_num_ok k r320.2 h326 (S339.atG (i:=2) rfl) 1) fun r343 cs344 H345 h346 q347 => ?_
      obtain ⟨v348,h349,q347⟩:=q347
      cases q347
      have S350:=S339.setG (i:=2) (cs':=List.map C.v [v348,(.p (.int .i64 r343.2.f_at)),(.p (.bool r343.2.bad))]) rfl rfl rfl
      refine Sim.ci ?_
      refine Sim.nd (h304.ld (S350.atG (i:=1) rfl) (j:=5) rfl) ?_
      have h351:=SlF.int1 .i64 (IntKind.wrap .i64 r343.1)
      refine Sim.op (bldS (pC rfl pN) (by kernel_rfl : _ = some (vOf h351))) ?_
      refine Sim.bd fun a352 h353 => ?_
      obtain ⟨v354,c355,H356,e357,S358⟩:=S350.appG (i:=1) (j:=5) (d:=88) (e:=1) (own:=true) (σ:=(6::0::1::1::0::σ)) rfl rfl h304 h305 (h351.h (ptC H337 ⟨h.length,27,0,s312,[]⟩ 0 (List.map C.v [v348,(.p (.int .i64 r343.2.f_at)),(.p (.bool r343.2.bad))]))).y h353 (by simp) rfl (by decide) (by decide) rfl rfl
      refine Sim.op (e357) ?_
      refine Sim.fa ?_
      obtain ⟨c363,H360,e361,h364,h365,S362⟩:=S358.mvG (i:=1) (j:=5) (k:=0) (σ:=(8::0::1::1::0::σ)) rfl rfl rfl rfl rfl rfl
      refine Sim.op (sM e361) ?_
      refine Sim.call (rtcp_reader_nought_ok k r343.2 h349 (S362.atG (i:=2) rfl) 3) fun r366 cs367 H368 h369 q370 => ?_
      obtain ⟨v371,h372,q370⟩:=q370
      cases q370
      have S373:=S362.setG (i:=2) (cs':=List.map C.v [v371,(.p (.int .i64 r366.f_at)),(.p (.bool r366.bad))]) rfl rfl rfl
      exact ih x2 yg4 ((⟨yg13.Kind,yg13.From,yg13.About,yg13.Tuples,a329,a352,yg13.Rate,yg13.f_Type,yg13.Count,yg13.Body⟩ : TaiReport)) r366 v286 h287 v288 h289 v290 h291 v292 h293 v294 h295 s296 v298 h299 c340 h341 h342 c363 h364 h365 v306 h307 s308 v371 h372 s312 (ptC H360 ⟨h.length,27,0,s312,[]⟩ 0 (List.map C.v [v371,(.p (.int .i64 r366.f_at)),(.p (.bool r366.bad))])) (S373.wk2 (aC (aM 0 rfl) (aC (aM 1 rfl) (aC (aM 2 rfl) aN))) aN)
    exact hE0 x2 yg4 yg13 yg61 v286 h287 v288 h289 v290 h291 v292 h293 v294 h295 s296 v298 h299 c300 h301 h302 c303 h304 h305 v306 h307 s308 v310 h311 s312 H284 (S285.wk2 (aC (aM 0 rfl) (aC (aM 1 rfl) (aC (aM 2 rfl) aN))) aN)
theorem rtcp_parse_ok (k : Nat) {h : H} {σ : Stamp} (x0 : Int) (x1 : Int) (x2 : List Int) {u2 : V} (hu2 : SlF (dI .u8) x2 u2) : Sim (p_rtcp_parse k x0 x1 x2) (ev G X0 97 σ [(.p (.int .i64 x0)),(.p (.int .i64 x1)),u2] h) (fun r s => ∃ (w0 : List V),dTaiReport.R r.1 w0∧s = ([.v (.agg w0),.v (.p (.bool r.2))],h)):=by
  refine Sim.ev rfl (Sim.ext (rtcp_parse_entry _ _ _ _ _ _ _) ?_)
  rw [p_rtcp_parse]
  have S0 : Fm 130 h [] [] [] (List.replicate 130 []::h):=Fm.start0
  obtain ⟨H1,e2,S3⟩:=S0.al (d:=6) (s:=(0::0::0::σ)) (z:=[(.p (.int .i64 0)),(.p (.int .u32 0)),(.p (.int .u32 0)),(.p (.slice none 0 0)),(.p (.slice none 0 0)),(.p (.slice none 0 0)),(.p (.int .u64 0)),(.p (.int .i64 0)),(.p (.int .i64 0)),(.p (.slice none 0 0))]) (by decide) rfl
  refine Sim.op (congrArg some e2) ?_
  refine Sim.call (rtcp_kind_ok x0 x1) fun r5 cs6 H7 h8 q9 => ?_
  cases q9
  refine Sim.ci ?_
  refine Sim.op (bldV (pC rfl pN) (by kernel_rfl : _ = some (.agg [.p (.int .i64 r5),.p (.int .u32 0),.p (.int .u32 0),.p (.slice none 0 0),.p (.slice none 0 0),.p (.slice none 0 0),.p (.int .u64 0),.p (.int .i64 0),.p (.int .i64 0),.p (.slice none 0 0)]))) ?_
  obtain ⟨H10,e11,S12⟩:=S3.al (d:=8) (s:=(4::0::1::0::σ)) (z:=[(.p (.int .i64 0)),(.p (.int .u32 0)),(.p (.int .u32 0)),(.p (.slice none 0 0)),(.p (.slice none 0 0)),(.p (.slice none 0 0)),(.p (.int .u64 0)),(.p (.int .i64 0)),(.p (.int .i64 0)),(.p (.slice none 0 0))]) (by decide) rfl
  refine Sim.op (congrArg some e11) ?_
  obtain ⟨H14,e15,S16⟩:=S12.stGv (i:=0) (j:=0) (own:=false) (σ:=(5::0::1::0::σ)) (xs:=[.p (.int .i64 r5),.p (.int .u32 0),.p (.int .u32 0),.p (.slice none 0 0),.p (.slice none 0 0),.p (.slice none 0 0),.p (.int .u64 0),.p (.int .i64 0),.p (.int .i64 0),.p (.slice none 0 0)]) rfl rfl (sC (sI _ _) (sC (sI _ _) (sC (sI _ _) (sC (SlF.nil dTaiTuple).still (sC (SlF.nil (dI .u32)).still (sC (SlF.nil (dI .i64)).still (sC (sI _ _) (sC (sI _ _) (sC (sI _ _) (sC (SlF.nil (dI .u8)).still sN)))))))))) rfl rfl
  refine Sim.op (sM e15) ?_
  refine Sim.fa ?_
  refine Sim.op ((S16.atG (i:=0) rfl).ld (j:=0) rfl) ?_
  refine Sim.ci ?_
  refine Sim.cq ?_ ?_
  · refine Sim.call (clone_ok (b:=1) (f:=95) (tt:=5) (e:=1) (τ:=fun σ => _::_::_::_::_::σ) (fun x h => slices_Clone_Lbyte_byte_entry _ _ _ x h) (hu2.h H14) rfl (by decide) (by decide) (by decide) (by kernel_rfl) (by kernel_rfl) rfl) fun r18 cs19 H20 h21 q22 => ?_
    obtain ⟨c23,cs24,h25,h26,q22⟩:=q22
    cases q22
    obtain ⟨v27,H28,e29,S30⟩:=S16.land (dt:=(dI .u8)) (d:=20) (e:=0) (n:=0) h25 h26 (by decide) rfl
    erw [e29]
    refine Sim.fa ?_
    obtain ⟨H32,e33,S34⟩:=S30.stG (i:=0) (j:=7) (own:=true) (σ:=(5::0::1::0::1::1::0::σ)) (x:=(.p (.int .i64 x0))) rfl rfl (sI _ _) rfl
    refine Sim.op (sM e33) ?_
    refine Sim.fa ?_
    obtain ⟨H35,e36,S37⟩:=S34.stG (i:=0) (j:=8) (own:=true) (σ:=(7::0::1::0::1::1::0::σ)) (x:=(.p (.int .i64 x1))) rfl rfl (sI _ _) rfl
    refine Sim.op (sM e36) ?_
    refine Sim.fa ?_
    obtain ⟨c41,H38,e39,h42,h43,S40⟩:=S37.mvG (i:=0) (j:=9) (k:=0) (σ:=(9::0::1::0::1::1::0::σ)) rfl rfl rfl rfl rfl rfl
    refine Sim.op (sM e39) ?_
    obtain ⟨v44,h45,h46⟩:=h42.fr
    obtain ⟨w47,H48,h53,e49,e50,e51,S52⟩:=S40.frzV (i:=0) (n:=10) (ys:=[(.p (.int .i64 r5)),(.p (.int .u32 0)),(.p (.int .u32 0)),(.p (.slice none 0 0)),(.p (.slice none 0 0)),(.p (.slice none 0 0)),(.p (.int .u64 0)),(.p (.int .i64 x0)),(.p (.int .i64 x1)),v44]) rfl rfl ⟨(FrC.v (sI _ _)),⟨(FrC.v (sI _ _)),⟨(FrC.v (sI _ _)),⟨(FrC.v (SlF.nil dTaiTuple).still),⟨(FrC.v (SlF.nil (dI .u32)).still),⟨(FrC.v (SlF.nil (dI .i64)).still),⟨(FrC.v (sI _ _)),⟨(FrC.v (sI _ _)),⟨(FrC.v (sI _ _)),⟨h45,trivial⟩⟩⟩⟩⟩⟩⟩⟩⟩⟩ rfl (by decide)
    refine Sim.op (e49) ?_
    obtain ⟨H54,e55,S56⟩:=Fm.stFrz (S0:=S40) (i0:=1) (i:=1) (j:=0) (n:=10) (σ:=(1::0::1::1::0::1::1::0::σ)) S52 rfl e51 rfl rfl h53 rfl rfl
    refine Sim.op (sM e55) ?_
    have e57 : ldO true 10 H54 (.ref ⟨h.length,6,0,(0::0::0::σ),[]⟩ 0) = some (.agg [.p (.int .i64 r5),.p (.int .u32 0),.p (.int .u32 0),.p (.slice none 0 0),.p (.slice none 0 0),.p (.slice none 0 0),.p (.int .u64 0),.p (.int .i64 x0),.p (.int .i64 x1),v44]):=(S56.atG (i:=1) rfl).ldVs (j:=0) rfl rfl (by decide)
    refine Sim.op (congrArg (Option.bind · _) e57) ?_
    exact Sim.fin (S56.finN (lC (Stills.lv (dTaiReport.still (dTaiReport.mk (SlF.nil dTaiTuple) (SlF.nil (dI .u32)) (SlF.nil (dI .i64)) h46))) (lC (sB _).lv lN))) ⟨_,(dTaiReport.mk (SlF.nil dTaiTuple) (SlF.nil (dI .u32)) (SlF.nil (dI .i64)) h46),rfl⟩
  refine Sim.op (bldV (pC hu2.still.cells pN) (by kernel_rfl : _ = some (.agg [u2,.p (.int .i64 0),.p (.bool false)]))) ?_
  obtain ⟨H58,e59,S60⟩:=S16.box (own:=false) (d:=27) (s:=(2::0::1::1::1::0::σ)) (xs:=[u2,.p (.int .i64 0),.p (.bool false)]) (sC hu2.still (sC (sI _ _) (sC (sB _) sN))) (by decide) rfl
  refine Sim.op (e59) ?_
  refine Sim.call (rtcp_reader_num_ok k (⟨x2,0,false⟩ : T_rtcp_reader) hu2 (S60.atG (i:=0) rfl) 4) fun r62 cs63 H64 h65 q66 => ?_
  obtain ⟨v67,h68,q66⟩:=q66
  cases q66
  have S69:=S60.setG (i:=0) (cs':=List.map C.v [v67,(.p (.int .i64 r62.2.f_at)),(.p (.bool r62.2.bad))]) rfl rfl rfl
  refine Sim.ci ?_
  refine Sim.fa ?_
  obtain ⟨H70,e71,S72⟩:=S69.stG (i:=1) (j:=1) (own:=true) (σ:=(4::0::1::1::1::1::0::σ)) (x:=(.p (.int .u32 (IntKind.wrap .u32 r62.1)))) rfl rfl (sI _ _) rfl
  refine Sim.op (sM e71) ?_
  refine Sim.fa ?_
  refine Sim.op ((S72.atG (i:=1) rfl).ld (j:=0) rfl) ?_
  refine Sim.ci ?_
  refine Sim.cd (fun hc73 => ?_) (fun hc73 => ?_)
  · refine Sim.call (rtcp_reader_nought_ok k r62.2 h68 (S72.atG (i:=0) rfl) 4) fun r74 cs75 H76 h77 q78 => ?_
    obtain ⟨v79,h80,q78⟩:=q78
    cases q78
    have S81:=S72.setG (i:=0) (cs':=List.map C.v [v79,(.p (.int .i64 r74.f_at)),(.p (.bool r74.bad))]) rfl rfl rfl
    refine Sim.fa ?_
    refine Sim.op ((S81.atG (i:=1) rfl).ld (j:=0) rfl) ?_
    refine Sim.ci ?_
    refine Sim.cd (fun hc82 => ?_) (fun hc82 => ?_)
    · refine Sim.cdt (eqT (beq_iff_eq.1 hc82)) ?_
      refine Sim.as (rtcp_parse_l0_ok ?_ k x2 ((⟨0,0,0,(([] : List TaiTuple)),(([] : List Int)),(([] : List Int)),0,0,0,(([] : List Int))⟩ : TaiReport)) ((⟨r5,(IntKind.wrap .u32 r62.1),0,(([] : List TaiTuple)),(([] : List Int)),(([] : List Int)),0,0,0,(([] : List Int))⟩ : TaiReport)) r74 u2 hu2 (.p (.slice none 0 0)) (SlF.nil dTaiTuple) (.p (.slice none 0 0)) (SlF.nil (dI .u32)) (.p (.slice none 0 0)) (SlF.nil (dI .i64)) (.p (.slice none 0 0)) (SlF.nil (dI .u8)) (0::0::0::σ) (.v (.p (.slice none 0 0))) (SoC.frz (SlF.nil dTaiTuple)) (fun v h => by cases h; simp) (.p (.slice none 0 0)) (SlF.nil (dI .u32)) (.p (.slice none 0 0)) (SlF.nil (dI .i64)) (.p (.slice none 0 0)) (SlF.nil (dI .u8)) (4::0::1::0::σ) v79 h80 (2::0::1::1::1::0::σ) (ptC H70 ⟨h.length,27,0,(2::0::1::1::1::0::σ),[]⟩ 0 (List.map C.v [v79,(.p (.int .i64 r74.f_at)),(.p (.bool r74.bad))])) (S81.wk2 (aC (aM 2 rfl) (aC (aM 1 rfl) (aC (aM 0 rfl) aN))) aN))
      · intro r172_2 yg96 yg107 yg111 v175 h176 v177 h178 v179 h180 v181 h182 v183 h184 s185 c187 h188 h189 v190 h191 v192 h193 v194 h195 s196 v198 h199 s200 H173 S174
        refine Sim.ext (rtcp_parse_a0_1 _ _ _ _ _ _ _ _) ?_
        refine Sim.nc ?_
        refine Sim.fa ?_
        refine Sim.op ((S174.atG (i:=2) rfl).ld (j:=2) rfl) ?_
        refine Sim.ab ?_
        refine Sim.ch (P:=fun r y => r = y) ?_ (fun b202 y203 h204 h205 => ?_)
        · refine Sim.cq ?_ ?_
          · exact Sim.ret rfl rfl
          · refine Sim.fa ?_
            refine Sim.op (h188.ld (S174.atG (i:=1) rfl) (j:=3) rfl) ?_
            refine Sim.op ((h188.sl (S174.atG (i:=1) rfl) (j:=3) rfl).len) ?_
            refine Sim.ci ?_
            exact Sim.ret rfl rfl
        subst h205
        refine Sim.nc ?_
        refine Sim.fa ?_
        obtain ⟨H206,e207,S208⟩:=S174.stG (i:=2) (j:=2) (own:=true) (σ:=(13::1::1::1::0::1::1::1::1::1::1::0::σ)) (x:=(.p (.bool b202))) rfl rfl (sB _) rfl
        refine Sim.op (sM e207) ?_
        obtain ⟨v209,h210,h211⟩:=h188.fr
        obtain ⟨w212,H213,h218,e214,e215,e216,S217⟩:=S208.frzV (i:=1) (n:=10) (ys:=[(.p (.int .i64 yg107.Kind)),(.p (.int .u32 yg107.From)),(.p (.int .u32 yg107.About)),v209,v190,v192,(.p (.int .u64 yg107.Rate)),(.p (.int .i64 yg107.f_Type)),(.p (.int .i64 yg107.Count)),v194]) rfl rfl ⟨(FrC.v (sI _ _)),⟨(FrC.v (sI _ _)),⟨(FrC.v (sI _ _)),⟨h210,⟨(FrC.v h191.still),⟨(FrC.v h193.still),⟨(FrC.v (sI _ _)),⟨(FrC.v (sI _ _)),⟨(FrC.v (sI _ _)),⟨(FrC.v h195.still),trivial⟩⟩⟩⟩⟩⟩⟩⟩⟩⟩ rfl (by decide)
        refine Sim.op (e214) ?_
        refine Sim.nc ?_
        refine Sim.fa ?_
        refine Sim.op ((S208.atG (i:=2) rfl).ld (j:=2) rfl) ?_
        refine Sim.ab ?_
        refine Sim.cq ?_ ?_
        · refine Sim.nc ?_
          refine Sim.fa ?_
          refine Sim.op ((S208.atG (i:=2) rfl).ld (j:=1) rfl) ?_
          refine Sim.ci ?_
          refine Sim.op ((h176.h H206).len) ?_
          refine Sim.ci ?_
          refine Sim.or ?_
          obtain ⟨H219,e220,S221⟩:=Fm.stFrz (S0:=S208) (i0:=0) (i:=0) (j:=0) (n:=10) (σ:=(15::0::1::1::1::1::1::1::1::0::σ)) S217 rfl e216 rfl rfl h218 rfl rfl
          refine Sim.op (sM e220) ?_
          refine Sim.nd (rfl) ?_
          refine Sim.nd ((S221.atG (i:=2) rfl).ld (j:=1) rfl) ?_
          have e222 : ldO true 10 H219 (.ref ⟨h.length,6,0,s185,[]⟩ 0) = some (.agg [.p (.int .i64 yg107.Kind),.p (.int .u32 yg107.From),.p (.int .u32 yg107.About),v209,v190,v192,.p (.int .u64 yg107.Rate),.p (.int .i64 yg107.f_Type),.p (.int .i64 yg107.Count),v194]):=(S221.atG (i:=0) rfl).ldVs (j:=0) rfl rfl (by decide)
          refine Sim.op (congrArg (Option.bind · _) e222) ?_
          exact Sim.fin (S221.finN (lC (Stills.lv (dTaiReport.still (dTaiReport.mk h211 h191 h193 h195))) (lC (sB _).lv lN))) ⟨_,(dTaiReport.mk h211 h191 h193 h195),rfl⟩
        refine Sim.or ?_
        obtain ⟨H223,e224,S225⟩:=Fm.stFrz (S0:=S208) (i0:=0) (i:=0) (j:=0) (n:=10) (σ:=(15::0::1::1::1::1::1::1::1::0::σ)) S217 rfl e216 rfl rfl h218 rfl rfl
        refine Sim.op (sM e224) ?_
        have e226 : ldO true 10 H223 (.ref ⟨h.length,6,0,s185,[]⟩ 0) = some (.agg [.p (.int .i64 yg107.Kind),.p (.int .u32 yg107.From),.p (.int .u32 yg107.About),v209,v190,v192,.p (.int .u64 yg107.Rate),.p (.int .i64 yg107.f_Type),.p (.int .i64 yg107.Count),v194]):=(S225.atG (i:=0) rfl).ldVs (j:=0) rfl rfl (by decide)
        refine Sim.op (congrArg (Option.bind · _) e226) ?_
        exact Sim.fin (S225.finN (lC (Stills.lv (dTaiReport.still (dTaiReport.mk h211 h191 h193 h195))) (lC (sB _).lv lN))) ⟨_,(dTaiReport.mk h211 h191 h193 h195),rfl⟩
    refine Sim.cq ?_ ?_
    · refine Sim.as (rtcp_parse_l0_ok ?_ k x2 ((⟨0,0,0,(([] : List TaiTuple)),(([] : List Int)),(([] : List Int)),0,0,0,(([] : List Int))⟩ : TaiReport)) ((⟨r5,(IntKind.wrap .u32 r62.1),0,(([] : List TaiTuple)),(([] : List Int)),(([] : List Int)),0,0,0,(([] : List Int))⟩ : TaiReport)) r74 u2 hu2 (.p (.slice none 0 0)) (SlF.nil dTaiTuple) (.p (.slice none 0 0)) (SlF.nil (dI .u32)) (.p (.slice none 0 0)) (SlF.nil (dI .i64)) (.p (.slice none 0 0)) (SlF.nil (dI .u8)) (0::0::0::σ) (.v (.p (.slice none 0 0))) (SoC.frz (SlF.nil dTaiTuple)) (fun v h => by cases h; simp) (.p (.slice none 0 0)) (SlF.nil (dI .u32)) (.p (.slice none 0 0)) (SlF.nil (dI .i64)) (.p (.slice none 0 0)) (SlF.nil (dI .u8)) (4::0::1::0::σ) v79 h80 (2::0::1::1::1::0::σ) (ptC H70 ⟨h.length,27,0,(2::0::1::1::1::0::σ),[]⟩ 0 (List.map C.v [v79,(.p (.int .i64 r74.f_at)),(.p (.bool r74.bad))])) (S81.wk2 (aC (aM 2 rfl) (aC (aM 1 rfl) (aC (aM 0 rfl) aN))) aN))
      · intro r228_2 yg96 yg107 yg111 v231 h232 v233 h234 v235 h236 v237 h238 v239 h240 s241 c243 h244 h245 v246 h247 v248 h249 v250 h251 s252 v254 h255 s256 H229 S230
        refine Sim.ext (rtcp_parse_a0_1 _ _ _ _ _ _ _ _) ?_
        refine Sim.nc ?_
        refine Sim.fa ?_
        refine Sim.op ((S230.atG (i:=2) rfl).ld (j:=2) rfl) ?_
        refine Sim.ab ?_
        refine Sim.ch (P:=fun r y => r = y) ?_ (fun b258 y259 h260 h261 => ?_)
        · refine Sim.cq ?_ ?_
          · exact Sim.ret rfl rfl
          · refine Sim.fa ?_
            refine Sim.op (h244.ld (S230.atG (i:=1) rfl) (j:=3) rfl) ?_
            refine Sim.op ((h244.sl (S230.atG (i:=1) rfl) (j:=3) rfl).len) ?_
            refine Sim.ci ?_
            exact Sim.ret rfl rfl
        subst h261
        refine Sim.nc ?_
        refine Sim.fa ?_
        obtain ⟨H262,e263,S264⟩:=S230.stG (i:=2) (j:=2) (own:=true) (σ:=(13::1::1::1::0::1::1::1::1::1::1::0::σ)) (x:=(.p (.bool b258))) rfl rfl (sB _) rfl
        refine Sim.op (sM e263) ?_
        obtain ⟨v265,h266,h267⟩:=h244.fr
        obtain ⟨w268,H269,h274,e270,e271,e272,S273⟩:=S264.frzV (i:=1) (n:=10) (ys:=[(.p (.int .i64 yg107.Kind)),(.p (.int .u32 yg107.From)),(.p (.int .u32 yg107.About)),v265,v246,v248,(.p (.int .u64 yg107.Rate)),(.p (.int .i64 yg107.f_Type)),(.p (.int .i64 yg107.Count)),v250]) rfl rfl ⟨(FrC.v (sI _ _)),⟨(FrC.v (sI _ _)),⟨(FrC.v (sI _ _)),⟨h266,⟨(FrC.v h247.still),⟨(FrC.v h249.still),⟨(FrC.v (sI _ _)),⟨(FrC.v (sI _ _)),⟨(FrC.v (sI _ _)),⟨(FrC.v h251.still),trivial⟩⟩⟩⟩⟩⟩⟩⟩⟩⟩ rfl (by decide)
        refine Sim.op (e270) ?_
        refine Sim.nc ?_
        refine Sim.fa ?_
        refine Sim.op ((S264.atG (i:=2) rfl).ld (j:=2) rfl) ?_
        refine Sim.ab ?_
        refine Sim.cq ?_ ?_
        · refine Sim.nc ?_
          refine Sim.fa ?_
          refine Sim.op ((S264.atG (i:=2) rfl).ld (j:=1) rfl) ?_
          refine Sim.ci ?_
          refine Sim.op ((h232.h H262).len) ?_
          refine Sim.ci ?_
          refine Sim.or ?_
          obtain ⟨H275,e276,S277⟩:=Fm.stFrz (S0:=S264) (i0:=0) (i:=0) (j:=0) (n:=10) (σ:=(15::0::1::1::1::1::1::1::1::0::σ)) S273 rfl e272 rfl rfl h274 rfl rfl
          refine Sim.op (sM e276) ?_
          refine Sim.nd (rfl) ?_
          refine Sim.nd ((S277.atG (i:=2) rfl).ld (j:=1) rfl) ?_
          have e278 : ldO true 10 H275 (.ref ⟨h.length,6,0,s241,[]⟩ 0) = some (.agg [.p (.int .i64 yg107.Kind),.p (.int .u32 yg107.From),.p (.int .u32 yg107.About),v265,v246,v248,.p (.int .u64 yg107.Rate),.p (.int .i64 yg107.f_Type),.p (.int .i64 yg107.Count),v250]):=(S277.atG (i:=0) rfl).ldVs (j:=0) rfl rfl (by decide)
          refine Sim.op (congrArg (Option.bind · _) e278) ?_
          exact Sim.fin (S277.finN (lC (Stills.lv (dTaiReport.still (dTaiReport.mk h267 h247 h249 h251))) (lC (sB _).lv lN))) ⟨_,(dTaiReport.mk h267 h247 h249 h251),rfl⟩
        refine Sim.or ?_
        obtain ⟨H279,e280,S281⟩:=Fm.stFrz (S0:=S264) (i0:=0) (i:=0) (j:=0) (n:=10) (σ:=(15::0::1::1::1::1::1::1::1::0::σ)) S273 rfl e272 rfl rfl h274 rfl rfl
        refine Sim.op (sM e280) ?_
        have e282 : ldO true 10 H279 (.ref ⟨h.length,6,0,s241,[]⟩ 0) = some (.agg [.p (.int .i64 yg107.Kind),.p (.int .u32 yg107.From),.p (.int .u32 yg107.About),v265,v246,v248,.p (.int .u64 yg107.Rate),.p (.int .i64 yg107.f_Type),.p (.int .i64 yg107.Count),v250]):=(S281.atG (i:=0) rfl).ldVs (j:=0) rfl rfl (by decide)
        refine Sim.op (congrArg (Option.bind · _) e282) ?_
        exact Sim.fin (S281.finN (lC (Stills.lv (dTaiReport.still (dTaiReport.mk h267 h247 h249 h251))) (lC (sB _).lv lN))) ⟨_,(dTaiReport.mk h267 h247 h249 h251),rfl⟩
    refine Sim.cdf (eqF (bne_iff_ne.1 hc73)) ?_
    refine Sim.cq ?_ ?_
    · refine Sim.as (rtcp_parse_l1_ok ?_ k x2 ((⟨0,0,0,(([] : List TaiTuple)),(([] : List Int)),(([] : List Int)),0,0,0,(([] : List Int))⟩ : TaiReport)) ((⟨r5,(IntKind.wrap .u32 r62.1),0,(([] : List TaiTuple)),(([] : List Int)),(([] : List Int)),0,0,0,(([] : List Int))⟩ : TaiReport)) r74 u2 hu2 (.p (.slice none 0 0)) (SlF.nil dTaiTuple) (.p (.slice none 0 0)) (SlF.nil (dI .u32)) (.p (.slice none 0 0)) (SlF.nil (dI .i64)) (.p (.slice none 0 0)) (SlF.nil (dI .u8)) (0::0::0::σ) (.p (.slice none 0 0)) (SlF.nil dTaiTuple) (.v (.p (.slice none 0 0))) (SoC.frz (SlF.nil (dI .u32))) (fun v h => by cases h; simp) (.v (.p (.slice none 0 0))) (SoC.frz (SlF.nil (dI .i64))) (fun v h => by cases h; simp) (.p (.slice none 0 0)) (SlF.nil (dI .u8)) (4::0::1::0::σ) v79 h80 (2::0::1::1::1::0::σ) (ptC H70 ⟨h.length,27,0,(2::0::1::1::1::0::σ),[]⟩ 0 (List.map C.v [v79,(.p (.int .i64 r74.f_at)),(.p (.bool r74.bad))])) (S81.wk2 (aC (aM 2 rfl) (aC (aM 1 rfl) (aC (aM 0 rfl) aN))) aN))
      · intro r404_2 yg297 yg309 yg313 v407 h408 v409 h410 v411 h412 v413 h414 v415 h416 s417 v419 h420 c421 h422 h423 c424 h425 h426 v427 h428 s429 v431 h432 s433 H405 S406
        refine Sim.ext (rtcp_parse_a1_3 _ _ _ _ _ _ _ _) ?_
        refine Sim.nc ?_
        refine Sim.fa ?_
        refine Sim.op ((S406.atG (i:=2) rfl).ld (j:=2) rfl) ?_
        refine Sim.ab ?_
        refine Sim.ch (P:=fun r y => r = y) ?_ (fun b435 y436 h437 h438 => ?_)
        · refine Sim.cq ?_ ?_
          · exact Sim.ret rfl rfl
          · refine Sim.fa ?_
            refine Sim.op (h422.ld (S406.atG (i:=1) rfl) (j:=4) rfl) ?_
            refine Sim.op ((h422.sl (S406.atG (i:=1) rfl) (j:=4) rfl).len) ?_
            refine Sim.ci ?_
            exact Sim.ret rfl rfl
        subst h438
        refine Sim.ch (P:=fun r y => r = y) ?_ (fun b439 y440 h441 h442 => ?_)
        · refine Sim.cq ?_ ?_
          · exact Sim.ret rfl rfl
          · refine Sim.fa ?_
            refine Sim.op (h422.ld (S406.atG (i:=1) rfl) (j:=4) rfl) ?_
            refine Sim.op ((h422.sl (S406.atG (i:=1) rfl) (j:=4) rfl).len) ?_
            refine Sim.ci ?_
            exact Sim.ret rfl rfl
        subst h442
        refine Sim.nc ?_
        refine Sim.fa ?_
        obtain ⟨H443,e444,S445⟩:=S406.stG (i:=2) (j:=2) (own:=true) (σ:=(19::1::1::1::1::1::0::1::1::1::1::1::1::0::σ)) (x:=(.p (.bool b439))) rfl rfl (sB _) rfl
        refine Sim.op (sM e444) ?_
        obtain ⟨v446,h447,h448⟩:=h422.fr
        obtain ⟨v449,h450,h451⟩:=h425.fr
        obtain ⟨w452,H453,h458,e454,e455,e456,S457⟩:=S445.frzV (i:=1) (n:=10) (ys:=[(.p (.int .i64 yg309.Kind)),(.p (.int .u32 yg309.From)),(.p (.int .u32 yg309.About)),v419,v446,v449,(.p (.int .u64 yg309.Rate)),(.p (.int .i64 yg309.f_Type)),(.p (.int .i64 yg309.Count)),v427]) rfl rfl ⟨(FrC.v (sI _ _)),⟨(FrC.v (sI _ _)),⟨(FrC.v (sI _ _)),⟨(FrC.v h420.still),⟨h447,⟨h450,⟨(FrC.v (sI _ _)),⟨(FrC.v (sI _ _)),⟨(FrC.v (sI _ _)),⟨(FrC.v h428.still),trivial⟩⟩⟩⟩⟩⟩⟩⟩⟩⟩ rfl (by decide)
        refine Sim.op (e454) ?_
        refine Sim.nc ?_
        refine Sim.fa ?_
        refine Sim.op ((S445.atG (i:=2) rfl).ld (j:=2) rfl) ?_
        refine Sim.ab ?_
        refine Sim.cq ?_ ?_
        · refine Sim.nc ?_
          refine Sim.fa ?_
          refine Sim.op ((S445.atG (i:=2) rfl).ld (j:=1) rfl) ?_
          refine Sim.ci ?_
          refine Sim.op ((h408.h H443).len) ?_
          refine Sim.ci ?_
          refine Sim.or ?_
          obtain ⟨H459,e460,S461⟩:=Fm.stFrz (S0:=S445) (i0:=0) (i:=0) (j:=0) (n:=10) (σ:=(15::0::1::1::1::1::1::1::1::0::σ)) S457 rfl e456 rfl rfl h458 rfl rfl
          refine Sim.op (sM e460) ?_
          refine Sim.nd (rfl) ?_
          refine Sim.nd ((S461.atG (i:=2) rfl).ld (j:=1) rfl) ?_
          have e462 : ldO true 10 H459 (.ref ⟨h.length,6,0,s417,[]⟩ 0) = some (.agg [.p (.int .i64 yg309.Kind),.p (.int .u32 yg309.From),.p (.int .u32 yg309.About),v419,v446,v449,.p (.int .u64 yg309.Rate),.p (.int .i64 yg309.f_Type),.p (.int .i64 yg309.Count),v427]):=(S461.atG (i:=0) rfl).ldVs (j:=0) rfl rfl (by decide)
          refine Sim.op (congrArg (Option.bind · _) e462) ?_
          exact Sim.fin (S461.finN (lC (Stills.lv (dTaiReport.still (dTaiReport.mk h420 h448 h451 h428))) (lC (sB _).lv lN))) ⟨_,(dTaiReport.mk h420 h448 h451 h428),rfl⟩
        refine Sim.or ?_
        obtain ⟨H463,e464,S465⟩:=Fm.stFrz (S0:=S445) (i0:=0) (i:=0) (j:=0) (n:=10) (σ:=(15::0::1::1::1::1::1::1::1::0::σ)) S457 rfl e456 rfl rfl h458 rfl rfl
        refine Sim.op (sM e464) ?_
        have e466 : ldO true 10 H463 (.ref ⟨h.length,6,0,s417,[]⟩ 0) = some (.agg [.p (.int .i64 yg309.Kind),.p (.int .u32 yg309.From),.p (.int .u32 yg309.About),v419,v446,v449,.p (.int .u64 yg309.Rate),.p (.int .i64 yg309.f_Type),.p (.int .i64 yg309.Count),v427]):=(S465.atG (i:=0) rfl).ldVs (j:=0) rfl rfl (by decide)
        refine Sim.op (congrArg (Option.bind · _) e466) ?_
        exact Sim.fin (S465.finN (lC (Stills.lv (dTaiReport.still (dTaiReport.mk h420 h448 h451 h428))) (lC (sB _).lv lN))) ⟨_,(dTaiReport.mk h420 h448 h451 h428),rfl⟩
    refine Sim.cq ?_ ?_
    · refine Sim.call (rtcp_reader_remb_ok k r74 h80 (S81.atG (i:=0) rfl) (⟨r5,(IntKind.wrap .u32 r62.1),0,(([] : List TaiTuple)),(([] : List Int)),(([] : List Int)),0,0,0,(([] : List Int))⟩ : TaiReport) (SlF.nil dTaiTuple) (SoC.frz (SlF.nil (dI .u32))) (fun v h => by cases h; simp) (SlF.nil (dI .i64)) (SlF.nil (dI .u8)) (S81.atG (i:=1) rfl) (by simp [Loc.key])) fun r468 cs469 H470 h471 q472 => ?_
      obtain ⟨v473,v475,c477,v480,v482,h474,h476,h478,h479,h481,h483,q472⟩:=q472
      cases q472
      have S484:=S81.setG (i:=1) (cs':=[.v (.p (.int .i64 r468.2.Kind)),.v (.p (.int .u32 r468.2.From)),.v (.p (.int .u32 r468.2.About)),.v v475,c477,.v v480,.v (.p (.int .u64 r468.2.Rate)),.v (.p (.int .i64 r468.2.f_Type)),.v (.p (.int .i64 r468.2.Count)),.v v482]) rfl rfl rfl
      have S485:=S484.setG (i:=0) (cs':=List.map C.v [v473,(.p (.int .i64 r468.1.f_at)),(.p (.bool r468.1.bad))]) rfl rfl rfl
      obtain ⟨v486,h487,h488⟩:=h478.fr
      obtain ⟨w489,H490,h495,e491,e492,e493,S494⟩:=S485.frzV (i:=1) (n:=10) (ys:=[(.p (.int .i64 r468.2.Kind)),(.p (.int .u32 r468.2.From)),(.p (.int .u32 r468.2.About)),v475,v486,v480,(.p (.int .u64 r468.2.Rate)),(.p (.int .i64 r468.2.f_Type)),(.p (.int .i64 r468.2.Count)),v482]) rfl rfl ⟨(FrC.v (sI _ _)),⟨(FrC.v (sI _ _)),⟨(FrC.v (sI _ _)),⟨(FrC.v h476.still),⟨h487,⟨(FrC.v h481.still),⟨(FrC.v (sI _ _)),⟨(FrC.v (sI _ _)),⟨(FrC.v (sI _ _)),⟨(FrC.v h483.still),trivial⟩⟩⟩⟩⟩⟩⟩⟩⟩⟩ rfl (by decide)
      refine Sim.op (e491) ?_
      refine Sim.nc ?_
      refine Sim.fa ?_
      refine Sim.op ((S485.atG (i:=0) rfl).ld (j:=2) rfl) ?_
      refine Sim.ab ?_
      refine Sim.cq ?_ ?_
      · refine Sim.nc ?_
        refine Sim.fa ?_
        refine Sim.op ((S485.atG (i:=0) rfl).ld (j:=1) rfl) ?_
        refine Sim.ci ?_
        refine Sim.op ((hu2.h (ptC (ptC (ptC H70 ⟨h.length,27,0,(2::0::1::1::1::0::σ),[]⟩ 0 (List.map C.v [v79,(.p (.int .i64 r74.f_at)),(.p (.bool r74.bad))])) ⟨h.length,8,0,(4::0::1::0::σ),[]⟩ 0 ([.v (.p (.int .i64 r468.2.Kind)),.v (.p (.int .u32 r468.2.From)),.v (.p (.int .u32 r468.2.About)),.v v475,c477,.v v480,.v (.p (.int .u64 r468.2.Rate)),.v (.p (.int .i64 r468.2.f_Type)),.v (.p (.int .i64 r468.2.Count)),.v v482])) ⟨h.length,27,0,(2::0::1::1::1::0::σ),[]⟩ 0 (List.map C.v [v473,(.p (.int .i64 r468.1.f_at)),(.p (.bool r468.1.bad))]))).len) ?_
        refine Sim.ci ?_
        refine Sim.or ?_
        obtain ⟨H496,e497,S498⟩:=Fm.stFrz (S0:=S485) (i0:=2) (i:=2) (j:=0) (n:=10) (σ:=(15::0::1::1::1::1::1::1::1::0::σ)) S494 rfl e493 rfl rfl h495 rfl rfl
        refine Sim.op (sM e497) ?_
        refine Sim.nd (rfl) ?_
        refine Sim.nd ((S498.atG (i:=0) rfl).ld (j:=1) rfl) ?_
        have e499 : ldO true 10 H496 (.ref ⟨h.length,6,0,(0::0::0::σ),[]⟩ 0) = some (.agg [.p (.int .i64 r468.2.Kind),.p (.int .u32 r468.2.From),.p (.int .u32 r468.2.About),v475,v486,v480,.p (.int .u64 r468.2.Rate),.p (.int .i64 r468.2.f_Type),.p (.int .i64 r468.2.Count),v482]):=(S498.atG (i:=2) rfl).ldVs (j:=0) rfl rfl (by decide)
        refine Sim.op (congrArg (Option.bind · _) e499) ?_
        exact Sim.fin (S498.finN (lC (Stills.lv (dTaiReport.still (dTaiReport.mk h476 h488 h481 h483))) (lC (sB _).lv lN))) ⟨_,(dTaiReport.mk h476 h488 h481 h483),rfl⟩
      refine Sim.or ?_
      obtain ⟨H500,e501,S502⟩:=Fm.stFrz (S0:=S485) (i0:=2) (i:=2) (j:=0) (n:=10) (σ:=(15::0::1::1::1::1::1::1::1::0::σ)) S494 rfl e493 rfl rfl h495 rfl rfl
      refine Sim.op (sM e501) ?_
      have e503 : ldO true 10 H500 (.ref ⟨h.length,6,0,(0::0::0::σ),[]⟩ 0) = some (.agg [.p (.int .i64 r468.2.Kind),.p (.int .u32 r468.2.From),.p (.int .u32 r468.2.About),v475,v486,v480,.p (.int .u64 r468.2.Rate),.p (.int .i64 r468.2.f_Type),.p (.int .i64 r468.2.Count),v482]):=(S502.atG (i:=2) rfl).ldVs (j:=0) rfl rfl (by decide)
      refine Sim.op (congrArg (Option.bind · _) e503) ?_
      exact Sim.fin (S502.finN (lC (Stills.lv (dTaiReport.still (dTaiReport.mk h476 h488 h481 h483))) (lC (sB _).lv lN))) ⟨_,(dTaiReport.mk h476 h488 h481 h483),rfl⟩
    refine Sim.op ((S81.atG (i:=1) rfl).ldVs (j:=0) (xs:=[.p (.int .i64 r5),.p (.int .u32 (IntKind.wrap .u32 r62.1)),.p (.int .u32 0),.p (.slice none 0 0),.p (.slice none 0 0),.p (.slice none 0 0),.p (.int .u64 0),.p (.int .i64 0),.p (.int .i64 0),.p (.slice none 0 0)]) rfl rfl (by decide)) ?_
    refine Sim.nc ?_
    refine Sim.fa ?_
    refine Sim.op ((S81.atG (i:=0) rfl).ld (j:=2) rfl) ?_
    refine Sim.ab ?_
    refine Sim.cq ?_ ?_
    · refine Sim.nc ?_
      refine Sim.fa ?_
      refine Sim.op ((S81.atG (i:=0) rfl).ld (j:=1) rfl) ?_
      refine Sim.ci ?_
      refine Sim.op ((hu2.h (ptC H70 ⟨h.length,27,0,(2::0::1::1::1::0::σ),[]⟩ 0 (List.map C.v [v79,(.p (.int .i64 r74.f_at)),(.p (.bool r74.bad))]))).len) ?_
      refine Sim.ci ?_
      refine Sim.or ?_
      obtain ⟨H504,e505,S506⟩:=S81.stGv (i:=2) (j:=0) (own:=false) (σ:=(15::0::1::1::1::1::1::1::1::0::σ)) (xs:=[.p (.int .i64 r5),.p (.int .u32 (IntKind.wrap .u32 r62.1)),.p (.int .u32 0),.p (.slice none 0 0),.p (.slice none 0 0),.p (.slice none 0 0),.p (.int .u64 0),.p (.int .i64 0),.p (.int .i64 0),.p (.slice none 0 0)]) rfl rfl (sC (sI _ _) (sC (sI _ _) (sC (sI _ _) (sC (SlF.nil dTaiTuple).still (sC (SlF.nil (dI .u32)).still (sC (SlF.nil (dI .i64)).still (sC (sI _ _) (sC (sI _ _) (sC (sI _ _) (sC (SlF.nil (dI .u8)).still sN)))))))))) rfl rfl
      refine Sim.op (sM e505) ?_
      refine Sim.nd (rfl) ?_
      refine Sim.nd ((S506.atG (i:=0) rfl).ld (j:=1) rfl) ?_
      have e507 : ldO true 10 H504 (.ref ⟨h.length,6,0,(0::0::0::σ),[]⟩ 0) = some (.agg [.p (.int .i64 r5),.p (.int .u32 (IntKind.wrap .u32 r62.1)),.p (.int .u32 0),.p (.slice none 0 0),.p (.slice none 0 0),.p (.slice none 0 0),.p (.int .u64 0),.p (.int .i64 0),.p (.int .i64 0),.p (.slice none 0 0)]):=(S506.atG (i:=2) rfl).ldVs (j:=0) rfl rfl (by decide)
      refine Sim.op (congrArg (Option.bind · _) e507) ?_
      exact Sim.fin (S506.finN (lC (Stills.lv (dTaiReport.still (dTaiReport.mk (SlF.nil dTaiTuple) (SlF.nil (dI .u32)) (SlF.nil (dI .i64)) (SlF.nil (dI .u8))))) (lC (sB _).lv lN))) ⟨_,(dTaiReport.mk (SlF.nil dTaiTuple) (SlF.nil (dI .u32)) (SlF.nil (dI .i64)) (SlF.nil (dI .u8))),rfl⟩
    refine Sim.or ?_
    obtain ⟨H508,e509,S510⟩:=S81.stGv (i:=2) (j:=0) (own:=false) (σ:=(15::0::1::1::1::1::1::1::1::0::σ)) (xs:=[.p (.int .i64 r5),.p (.int .u32 (IntKind.wrap .u32 r62.1)),.p (.int .u32 0),.p (.slice none 0 0),.p (.slice none 0 0),.p (.slice none 0 0),.p (.int .u64 0),.p (.int .i64 0),.p (.int .i64 0),.p (.slice none 0 0)]) rfl rfl (sC (sI _ _) (sC (sI _ _) (sC (sI _ _) (sC (SlF.nil dTaiTuple).still (sC (SlF.nil (dI .u32)).still (sC (SlF.nil (dI .i64)).still (sC (sI _ _) (sC (sI _ _) (sC (sI _ _) (sC (SlF.nil (dI .u8)).still sN)))))))))) rfl rfl
    refine Sim.op (sM e509) ?_
    have e511 : ldO true 10 H508 (.ref ⟨h.length,6,0,(0::0::0::σ),[]⟩ 0) = some (.agg [.p (.int .i64 r5),.p (.int .u32 (IntKind.wrap .u32 r62.1)),.p (.int .u32 0),.p (.slice none 0 0),.p (.slice none 0 0),.p (.slice none 0 0),.p (.int .u64 0),.p (.int .i64 0),.p (.int .i64 0),.p (.slice none 0 0)]):=(S510.atG (i:=2) rfl).ldVs (j:=0) rfl rfl (by decide)
    refine Sim.op (congrArg (Option.bind · _) e511) ?_
    exact Sim.fin (S510.finN (lC (Stills.lv (dTaiReport.still (dTaiReport.mk (SlF.nil dTaiTuple) (SlF.nil (dI .u32)) (SlF.nil (dI .i64)) (SlF.nil (dI .u8))))) (lC (sB _).lv lN))) ⟨_,(dTaiReport.mk (SlF.nil dTaiTuple) (SlF.nil (dI .u32)) (SlF.nil (dI .i64)) (SlF.nil (dI .u8))),rfl⟩
  refine Sim.fa ?_
  refine Sim.op ((S72.atG (i:=1) rfl).ld (j:=0) rfl) ?_
  refine Sim.ci ?_
  refine Sim.cdf (eqF (eqO (bne_eq_false_iff_eq.1 hc73) (by decide))) ?_
  refine Sim.cdf (eqF (eqO (bne_eq_false_iff_eq.1 hc73) (by decide))) ?_
  refine Sim.cdt (eqT (bne_eq_false_iff_eq.1 hc73)) ?_
  refine Sim.call (rtcp_reader_num_ok k r62.2 h68 (S72.atG (i:=0) rfl) 4) fun r512 cs513 H514 h515 q516 => ?_
  obtain ⟨v517,h518,q516⟩:=q516
  cases q516
  have S519:=S72.setG (i:=0) (cs':=List.map C.v [v517,(.p (.int .i64 r512.2.f_at)),(.p (.bool r512.2.bad))]) rfl rfl rfl
  refine Sim.ci ?_
  refine Sim.fa ?_
  obtain ⟨H520,e521,S522⟩:=S519.stG (i:=1) (j:=2) (own:=true) (σ:=(4::1::1::1::0::1::1::1::1::1::1::0::σ)) (x:=(.p (.int .u32 (IntKind.wrap .u32 r512.1)))) rfl rfl (sI _ _) rfl
  refine Sim.op (sM e521) ?_
  refine Sim.op ((S522.atG (i:=1) rfl).ldVs (j:=0) (xs:=[.p (.int .i64 r5),.p (.int .u32 (IntKind.wrap .u32 r62.1)),.p (.int .u32 (IntKind.wrap .u32 r512.1)),.p (.slice none 0 0),.p (.slice none 0 0),.p (.slice none 0 0),.p (.int .u64 0),.p (.int .i64 0),.p (.int .i64 0),.p (.slice none 0 0)]) rfl rfl (by decide)) ?_
  refine Sim.nc ?_
  refine Sim.fa ?_
  refine Sim.op ((S522.atG (i:=0) rfl).ld (j:=2) rfl) ?_
  refine Sim.ab ?_
  refine Sim.cq ?_ ?_
  · refine Sim.nc ?_
    refine Sim.fa ?_
    refine Sim.op ((S522.atG (i:=0) rfl).ld (j:=1) rfl) ?_
    refine Sim.ci ?_
    refine Sim.op ((hu2.h H520).len) ?_
    refine Sim.ci ?_
    refine Sim.or ?_
    obtain ⟨H523,e524,S525⟩:=S522.stGv (i:=2) (j:=0) (own:=false) (σ:=(15::0::1::1::1::1::1::1::1::0::σ)) (xs:=[.p (.int .i64 r5),.p (.int .u32 (IntKind.wrap .u32 r62.1)),.p (.int .u32 (IntKind.wrap .u32 r512.1)),.p (.slice none 0 0),.p (.slice none 0 0),.p (.slice none 0 0),.p (.int .u64 0),.p (.int .i64 0),.p (.int .i64 0),.p (.slice none 0 0)]) rfl rfl (sC (sI _ _) (sC (sI _ _) (sC (sI _ _) (sC (SlF.nil dTaiTuple).still (sC (SlF.nil (dI .u32)).still (sC (SlF.nil (dI .i64)).still (sC (sI _ _) (sC (sI _ _) (sC (sI _ _) (sC (SlF.nil (dI .u8)).still sN)))))))))) rfl rfl
    refine Sim.op (sM e524) ?_
    refine Sim.nd (rfl) ?_
    refine Sim.nd ((S525.atG (i:=0) rfl).ld (j:=1) rfl) ?_
    have e526 : ldO true 10 H523 (.ref ⟨h.length,6,0,(0::0::0::σ),[]⟩ 0) = some (.agg [.p (.int .i64 r5),.p (.int .u32 (IntKind.wrap .u32 r62.1)),.p (.int .u32 (IntKind.wrap .u32 r512.1)),.p (.slice none 0 0),.p (.slice none 0 0),.p (.slice none 0 0),.p (.int .u64 0),.p (.int .i64 0),.p (.int .i64 0),.p (.slice none 0 0)]):=(S525.atG (i:=2) rfl).ldVs (j:=0) rfl rfl (by decide)
    refine Sim.op (congrArg (Option.bind · _) e526) ?_
    exact Sim.fin (S525.finN (lC (Stills.lv (dTaiReport.still (dTaiReport.mk (SlF.nil dTaiTuple) (SlF.nil (dI .u32)) (SlF.nil (dI .i64)) (SlF.nil (dI .u8))))) (lC (sB _).lv lN))) ⟨_,(dTaiReport.mk (SlF.nil dTaiTuple) (SlF.nil (dI .u32)) (SlF.nil (dI .i64)) (SlF.nil (dI .u8))),rfl⟩
  refine Sim.or ?_
  obtain ⟨H527,e528,S529⟩:=S522.stGv (i:=2) (j:=0) (own:=false) (σ:=(15::0::1::1::1::1::1::1::1::0::σ)) (xs:=[.p (.int .i64 r5),.p (.int .u32 (IntKind.wrap .u32 r62.1)),.p (.int .u32 (IntKind.wrap .u32 r512.1)),.p (.slice none 0 0),.p (.slice none 0 0),.p (.slice none 0 0),.p (.int .u64 0),.p (.int .i64 0),.p (.int .i64 0),.p (.slice none 0 0)]) rfl rfl (sC (sI _ _) (sC (sI _ _) (sC (sI _ _) (sC (SlF.nil dTaiTuple).still (sC (SlF.nil (dI .u32)).still (sC (SlF.nil (dI .i64)).still (sC (sI _ _) (sC (sI _ _) (sC (sI _ _) (sC (SlF.nil (dI .u8)).still sN)))))))))) rfl rfl
  refine Sim.op (sM e528) ?_
  have e530 : ldO true 10 H527 (.ref ⟨h.length,6,0,(0::0::0::σ),[]⟩ 0) = some (.agg [.p (.int .i64 r5),.p (.int .u32 (IntKind.wrap .u32 r62.1)),.p (.int .u32 (IntKind.wrap .u32 r512.1)),.p (.slice none 0 0),.p (.slice none 0 0),.p (.slice none 0 0),.p (.int .u64 0),.p (.int .i64 0),.p (.int .i64 0),.p (.slice none 0 0)]):=(S529.atG (i:=2) rfl).ldVs (j:=0) rfl rfl (by decide)
  refine Sim.op (congrArg (Option.bind · _) e530) ?_
  exact Sim.fin (S529.finN (lC (Stills.lv (dTaiReport.still (dTaiReport.mk (SlF.nil dTaiTuple) (SlF.nil (dI .u32)) (SlF.nil (dI .i64)) (SlF.nil (dI .u8))))) (lC (sB _).lv lN))) ⟨_,(dTaiReport.mk (SlF.nil dTaiTuple) (SlF.nil (dI .u32)) (SlF.nil (dI .i64)) (SlF.nil (dI .u8))),rfl⟩
def p_rtcp_one (k : Nat) (x0 : (List Int)) : Option (TaiReport × Int × Int) :=
bif decide (((x0.length : Int)) < 4) then (
some (((⟨0,0,0,(([] : List TaiTuple)),(([] : List Int)),(([] : List Int)),0,0,0,(([] : List Int))⟩ : TaiReport)),0,13))
else (
(p_octet_Get k x0 2 2).bind fun r10 =>
bif decide ((IntKind.wrap .i64 (4 + (IntKind.wrap .i64 (4 * (IntKind.wrap .i64 r10.1))))) > ((x0.length : Int))) then (
some (((⟨0,0,0,(([] : List TaiTuple)),(([] : List Int)),(([] : List Int)),0,0,0,(([] : List Int))⟩ : TaiReport)),0,13))
else (
(ix x0 0).bind fun a20 =>
(bif (intBits .and .u8 a20 192) != 128 then (some true) else ((ix x0 0).bind fun a23 =>
some ((intBits .and .u8 a23 32) != 0))).bind fun b26 =>
(bif b26 then (some true) else ((ix x0 1).bind fun a30 =>
some (decide (a30 < 192)))).bind fun b33 =>
(bif b33 then (some true) else ((ix x0 1).bind fun a37 =>
some (decide (a37 > 223)))).bind fun b40 =>
bif b40 then (
some (((⟨0,0,0,(([] : List TaiTuple)),(([] : List Int)),(([] : List Int)),0,0,0,(([] : List Int))⟩ : TaiReport)),0,12))
else (
(ix x0 1).bind fun a51 =>
(ix x0 0).bind fun a54 =>
(sub x0 4 (IntKind.wrap .i64 (4 + (IntKind.wrap .i64 (4 * (IntKind.wrap .i64 r10.1)))))).bind fun a57 =>
(p_rtcp_parse k (IntKind.wrap .i64 a51) (IntKind.wrap .i64 (intBits .and .u8 a54 31)) a57).bind fun r59 =>
bif !r59.2 then (
some (((⟨0,0,0,(([] : List TaiTuple)),(([] : List Int)),(([] : List Int)),0,0,0,(([] : List Int))⟩ : TaiReport)),0,12))
else (
some (r59.1,(IntKind.wrap .i64 (4 + (IntKind.wrap .i64 (4 * (IntKind.wrap .i64 r10.1))))),0)))))
theorem rtcp_one_ok (k : Nat) {h : H} {σ : Stamp} (x0 : List Int) {u0 : V} (hu0 : SlF (dI .u8) x0 u0) : Sim (p_rtcp_one k x0) (ev G X0 59 σ [u0] h) (fun r s => ∃ (w0 : List V),dTaiReport.R r.1 w0∧s = ([.v (.agg w0),.v (.p (.int .i64 r.2.1)),.v (.p (.int .i64 r.2.2))],h)):=by
  refine Sim.ev rfl (Sim.ext (rtcp_one_entry _ _ _ _ _) ?_)
  rw [p_rtcp_one]
  have S0 : Fm 76 h [] [] [] (List.replicate 76 []::h):=Fm.start0
  obtain ⟨H1,e2,S3⟩:=S0.al (d:=2) (s:=(0::0::0::σ)) (z:=[(.p (.int .i64 0)),(.p (.int .u32 0)),(.p (.int .u32 0)),(.p (.slice none 0 0)),(.p (.slice none 0 0)),(.p (.slice none 0 0)),(.p (.int .u64 0)),(.p (.int .i64 0)),(.p (.int .i64 0)),(.p (.slice none 0 0))]) (by decide) rfl
  refine Sim.op (congrArg some e2) ?_
  refine Sim.op ((hu0.h H1).len) ?_
  refine Sim.ci ?_
  refine Sim.cq ?_ ?_
  · refine Sim.op (bldV pN (by kernel_rfl : _ = some (.agg [.p (.int .i64 0),.p (.int .u32 0),.p (.int .u32 0),.p (.slice none 0 0),.p (.slice none 0 0),.p (.slice none 0 0),.p (.int .u64 0),.p (.int .i64 0),.p (.int .i64 0),.p (.slice none 0 0)]))) ?_
    obtain ⟨H6,e7,S8⟩:=S3.stGv (i:=0) (j:=0) (own:=false) (σ:=(1::0::1::0::1::0::σ)) (xs:=[.p (.int .i64 0),.p (.int .u32 0),.p (.int .u32 0),.p (.slice none 0 0),.p (.slice none 0 0),.p (.slice none 0 0),.p (.int .u64 0),.p (.int .i64 0),.p (.int .i64 0),.p (.slice none 0 0)]) rfl rfl (sC (sI _ _) (sC (sI _ _) (sC (sI _ _) (sC (SlF.nil dTaiTuple).still (sC (SlF.nil (dI .u32)).still (sC (SlF.nil (dI .i64)).still (sC (sI _ _) (sC (sI _ _) (sC (sI _ _) (sC (SlF.nil (dI .u8)).still sN)))))))))) rfl rfl
    refine Sim.op (sM e7) ?_
    have e9 : ldO true 10 H6 (.ref ⟨h.length,2,0,(0::0::0::σ),[]⟩ 0) = some (.agg [.p (.int .i64 0),.p (.int .u32 0),.p (.int .u32 0),.p (.slice none 0 0),.p (.slice none 0 0),.p (.slice none 0 0),.p (.int .u64 0),.p (.int .i64 0),.p (.int .i64 0),.p (.slice none 0 0)]):=(S8.atG (i:=0) rfl).ldVs (j:=0) rfl rfl (by decide)
    refine Sim.op (congrArg (Option.bind · _) e9) ?_
    exact Sim.fin (S8.finN (lC (Stills.lv (dTaiReport.still (dTaiReport.mk (SlF.nil dTaiTuple) (SlF.nil (dI .u32)) (SlF.nil (dI .i64)) (SlF.nil (dI .u8))))) (lC (sI _ _).lv (lC (sI _ _).lv lN)))) ⟨_,(dTaiReport.mk (SlF.nil dTaiTuple) (SlF.nil (dI .u32)) (SlF.nil (dI .i64)) (SlF.nil (dI .u8))),rfl⟩
  refine Sim.call (octet_Get_ok k x0 (hu0.h H1) 2 2) fun r10 cs11 H12 h13 q14 => ?_
  cases q14
  refine Sim.or ?_
  refine Sim.ci ?_
  refine Sim.or ?_
  refine Sim.ab ?_
  refine Sim.op ((hu0.h H1).len) ?_
  refine Sim.ci ?_
  refine Sim.cq ?_ ?_
  · refine Sim.op (bldV pN (by kernel_rfl : _ = some (.agg [.p (.int .i64 0),.p (.int .u32 0),.p (.int .u32 0),.p (.slice none 0 0),.p (.slice none 0 0),.p (.slice none 0 0),.p (.int .u64 0),.p (.int .i64 0),.p (.int .i64 0),.p (.slice none 0 0)]))) ?_
    obtain ⟨H16,e17,S18⟩:=S3.stGv (i:=0) (j:=0) (own:=false) (σ:=(1::0::1::0::1::1::1::1::0::σ)) (xs:=[.p (.int .i64 0),.p (.int .u32 0),.p (.int .u32 0),.p (.slice none 0 0),.p (.slice none 0 0),.p (.slice none 0 0),.p (.int .u64 0),.p (.int .i64 0),.p (.int .i64 0),.p (.slice none 0 0)]) rfl rfl (sC (sI _ _) (sC (sI _ _) (sC (sI _ _) (sC (SlF.nil dTaiTuple).still (sC (SlF.nil (dI .u32)).still (sC (SlF.nil (dI .i64)).still (sC (sI _ _) (sC (sI _ _) (sC (sI _ _) (sC (SlF.nil (dI .u8)).still sN)))))))))) rfl rfl
    refine Sim.op (sM e17) ?_
    have e19 : ldO true 10 H16 (.ref ⟨h.length,2,0,(0::0::0::σ),[]⟩ 0) = some (.agg [.p (.int .i64 0),.p (.int .u32 0),.p (.int .u32 0),.p (.slice none 0 0),.p (.slice none 0 0),.p (.slice none 0 0),.p (.int .u64 0),.p (.int .i64 0),.p (.int .i64 0),.p (.slice none 0 0)]):=(S18.atG (i:=0) rfl).ldVs (j:=0) rfl rfl (by decide)
    refine Sim.op (congrArg (Option.bind · _) e19) ?_
    exact Sim.fin (S18.finN (lC (Stills.lv (dTaiReport.still (dTaiReport.mk (SlF.nil dTaiTuple) (SlF.nil (dI .u32)) (SlF.nil (dI .i64)) (SlF.nil (dI .u8))))) (lC (sI _ _).lv (lC (sI _ _).lv lN)))) ⟨_,(dTaiReport.mk (SlF.nil dTaiTuple) (SlF.nil (dI .u32)) (SlF.nil (dI .i64)) (SlF.nil (dI .u8))),rfl⟩
  refine Sim.bd fun a20 h21 => ?_
  refine Sim.op ((hu0.h H1).iS h21 rfl) ?_
  obtain ⟨_,rfl,hE22⟩:=(hu0.h H1).el h21 rfl
  refine Sim.op (hE22.ld (j:=0) rfl) ?_
  refine Sim.ci ?_
  refine Sim.ch (P:=fun r y => r = y) ?_ (fun b26 y27 h28 h29 => ?_)
  · refine Sim.cq ?_ ?_
    · exact Sim.ret rfl rfl
    · refine Sim.bd fun a23 h24 => ?_
      refine Sim.op ((hu0.h H1).iS h24 rfl) ?_
      obtain ⟨_,rfl,hE25⟩:=(hu0.h H1).el h24 rfl
      refine Sim.op (hE25.ld (j:=0) rfl) ?_
      refine Sim.ci ?_
      exact Sim.ret rfl rfl
  subst h29
  refine Sim.ch (P:=fun r y => r = y) ?_ (fun b33 y34 h35 h36 => ?_)
  · refine Sim.cq ?_ ?_
    · exact Sim.ret rfl rfl
    · refine Sim.bd fun a30 h31 => ?_
      refine Sim.op ((hu0.h H1).iS h31 rfl) ?_
      obtain ⟨_,rfl,hE32⟩:=(hu0.h H1).el h31 rfl
      refine Sim.op (hE32.ld (j:=0) rfl) ?_
      refine Sim.ci ?_
      exact Sim.ret rfl rfl
  subst h36
  refine Sim.ch (P:=fun r y => r = y) ?_ (fun b40 y41 h42 h43 => ?_)
  · refine Sim.cq ?_ ?_
    · exact Sim.ret rfl rfl
    · refine Sim.bd fun a37 h38 => ?_
      refine Sim.op ((hu0.h H1).iS h38 rfl) ?_
      obtain ⟨_,rfl,hE39⟩:=(hu0.h H1).el h38 rfl
      refine Sim.op (hE39.ld (j:=0) rfl) ?_
      refine Sim.ci ?_
      exact Sim.ret rfl rfl
  subst h43
  refine Sim.cq ?_ ?_
  · refine Sim.op (bldV pN (by kernel_rfl : _ = some (.agg [.p (.int .i64 0),.p (.int .u32 0),.p (.int .u32 0),.p (.slice none 0 0),.p (.slice none 0 0),.p (.slice none 0 0),.p (.int .u64 0),.p (.int .i64 0),.p (.int .i64 0),.p (.slice none 0 0)]))) ?_
    obtain ⟨H45,e46,S47⟩:=S3.stGv (i:=0) (j:=0) (own:=false) (σ:=(1::0::1::1::0::1::1::1::1::0::σ)) (xs:=[.p (.int .i64 0),.p (.int .u32 0),.p (.int .u32 0),.p (.slice none 0 0),.p (.slice none 0 0),.p (.slice none 0 0),.p (.int .u64 0),.p (.int .i64 0),.p (.int .i64 0),.p (.slice none 0 0)]) rfl rfl (sC (sI _ _) (sC (sI _ _) (sC (sI _ _) (sC (SlF.nil dTaiTuple).still (sC (SlF.nil (dI .u32)).still (sC (SlF.nil (dI .i64)).still (sC (sI _ _) (sC (sI _ _) (sC (sI _ _) (sC (SlF.nil (dI .u8)).still sN)))))))))) rfl rfl
    refine Sim.op (sM e46) ?_
    have e48 : ldO true 10 H45 (.ref ⟨h.length,2,0,(0::0::0::σ),[]⟩ 0) = some (.agg [.p (.int .i64 0),.p (.int .u32 0),.p (.int .u32 0),.p (.slice none 0 0),.p (.slice none 0 0),.p (.slice none 0 0),.p (.int .u64 0),.p (.int .i64 0),.p (.int .i64 0),.p (.slice none 0 0)]):=(S47.atG (i:=0) rfl).ldVs (j:=0) rfl rfl (by decide)
    refine Sim.op (congrArg (Option.bind · _) e48) ?_
    exact Sim.fin (S47.finN (lC (Stills.lv (dTaiReport.still (dTaiReport.mk (SlF.nil dTaiTuple) (SlF.nil (dI .u32)) (SlF.nil (dI .i64)) (SlF.nil (dI .u8))))) (lC (sI _ _).lv (lC (sI _ _).lv lN)))) ⟨_,(dTaiReport.mk (SlF.nil dTaiTuple) (SlF.nil (dI .u32)) (SlF.nil (dI .i64)) (SlF.nil (dI .u8))),rfl⟩
  have S49:=S3.add (d:=8) (s:=(16::0::1::1::1::1::1::0::σ)) (cs:=List.map C.v [(.p (.int .i64 0)),(.p (.int .u32 0)),(.p (.int .u32 0)),(.p (.slice none 0 0)),(.p (.slice none 0 0)),(.p (.slice none 0 0)),(.p (.int .u64 0)),(.p (.int .i64 0)),(.p (.int .i64 0)),(.p (.slice none 0 0))]) (by decide) rfl
  have S49 : Fm _ _ _ _ _ (alO [(.p (.int .i64 0)),(.p (.int .u32 0)),(.p (.int .u32 0)),(.p (.slice none 0 0)),(.p (.slice none 0 0)),(.p (.slice none 0 0)),(.p (.int .u64 0)),(.p (.int .i64 0)),(.p (.int .i64 0)),(.p (.slice none 0 0))] (16::0::1::1::1::1::1::0::σ) 8 H1).2:=S49
  first | rw [S49.newLoc 8 (16::0::1::1::1::1::1::0::σ)] | erw [S49.newLoc 8 (16::0::1::1::1::1::1::0::σ)]
  refine Sim.nd (⟨_,(by kernel_rfl),S49.slot (i:=0) rfl⟩) ?_
  refine Sim.bd fun a51 h52 => ?_
  refine Sim.op ((hu0.h (alO [(.p (.int .i64 0)),(.p (.int .u32 0)),(.p (.int .u32 0)),(.p (.slice none 0 0)),(.p (.slice none 0 0)),(.p (.slice none 0 0)),(.p (.int .u64 0)),(.p (.int .i64 0)),(.p (.int .i64 0)),(.p (.slice none 0 0))] (16::0::1::1::1::1::1::0::σ) 8 H1).2).iS h52 rfl) ?_
  obtain ⟨_,rfl,hE53⟩:=(hu0.h (alO [(.p (.int .i64 0)),(.p (.int .u32 0)),(.p (.int .u32 0)),(.p (.slice none 0 0)),(.p (.slice none 0 0)),(.p (.slice none 0 0)),(.p (.int .u64 0)),(.p (.int .i64 0)),(.p (.int .i64 0)),(.p (.slice none 0 0))] (16::0::1::1::1::1::1::0::σ) 8 H1).2).el h52 rfl
  refine Sim.op (hE53.ld (j:=0) rfl) ?_
  refine Sim.ci ?_
  refine Sim.bd fun a54 h55 => ?_
  refine Sim.op ((hu0.h (alO [(.p (.int .i64 0)),(.p (.int .u32 0)),(.p (.int .u32 0)),(.p (.slice none 0 0)),(.p (.slice none 0 0)),(.p (.slice none 0 0)),(.p (.int .u64 0)),(.p (.int .i64 0)),(.p (.int .i64 0)),(.p (.slice none 0 0))] (16::0::1::1::1::1::1::0::σ) 8 H1).2).iS h55 rfl) ?_
  obtain ⟨_,rfl,hE56⟩:=(hu0.h (alO [(.p (.int .i64 0)),(.p (.int .u32 0)),(.p (.int .u32 0)),(.p (.slice none 0 0)),(.p (.slice none 0 0)),(.p (.slice none 0 0)),(.p (.int .u64 0)),(.p (.int .i64 0)),(.p (.int .i64 0)),(.p (.slice none 0 0))] (16::0::1::1::1::1::1::0::σ) 8 H1).2).el h55 rfl
  refine Sim.op (hE56.ld (j:=0) rfl) ?_
  refine Sim.ci ?_
  refine Sim.bd fun a57 h58 => ?_
  refine Sim.op ((hu0.h (alO [(.p (.int .i64 0)),(.p (.int .u32 0)),(.p (.int .u32 0)),(.p (.slice none 0 0)),(.p (.slice none 0 0)),(.p (.slice none 0 0)),(.p (.int .u64 0)),(.p (.int .i64 0)),(.p (.int .i64 0)),(.p (.slice none 0 0))] (16::0::1::1::1::1::1::0::σ) 8 H1).2).slS h58 rfl rfl rfl) ?_
  refine Sim.call (rtcp_parse_ok k (IntKind.wrap .i64 a51) (IntKind.wrap .i64 (intBits .and .u8 a54 31)) a57 (hu0.sub h58 (e:=1) rfl)) fun r59 cs60 H61 h62 q63 => ?_
  obtain ⟨w64,h65,q63⟩:=q63
  cases q63
  obtain ⟨v66,v68,v70,v72,rfl,h67,h69,h71,h73⟩:=dTaiReport.inv h65
  refine Sim.nd (⟨_,(by kernel_rfl),S49.slot (i:=0) rfl⟩) ?_
  refine Sim.or ?_
  refine Sim.or ?_
  refine Sim.ab ?_
  obtain ⟨H74,e75,S76⟩:=S49.stGv (i:=0) (j:=0) (own:=false) (σ:=(17::0::1::1::1::1::1::0::σ)) (xs:=[(.p (.int .i64 r59.1.Kind)),(.p (.int .u32 r59.1.From)),(.p (.int .u32 r59.1.About)),v66,v68,v70,(.p (.int .u64 r59.1.Rate)),(.p (.int .i64 r59.1.f_Type)),(.p (.int .i64 r59.1.Count)),v72]) rfl rfl (sC (sI _ _) (sC (sI _ _) (sC (sI _ _) (sC h67.still (sC h69.still (sC h71.still (sC (sI _ _) (sC (sI _ _) (sC (sI _ _) (sC h73.still sN)))))))))) rfl rfl
  refine Sim.op (sM e75) ?_
  refine Sim.cq ?_ ?_
  · refine Sim.op (bldV pN (by kernel_rfl : _ = some (.agg [.p (.int .i64 0),.p (.int .u32 0),.p (.int .u32 0),.p (.slice none 0 0),.p (.slice none 0 0),.p (.slice none 0 0),.p (.int .u64 0),.p (.int .i64 0),.p (.int .i64 0),.p (.slice none 0 0)]))) ?_
    obtain ⟨H78,e79,S80⟩:=S76.stGv (i:=1) (j:=0) (own:=false) (σ:=(1::0::1::0::1::1::1::1::1::1::0::σ)) (xs:=[.p (.int .i64 0),.p (.int .u32 0),.p (.int .u32 0),.p (.slice none 0 0),.p (.slice none 0 0),.p (.slice none 0 0),.p (.int .u64 0),.p (.int .i64 0),.p (.int .i64 0),.p (.slice none 0 0)]) rfl rfl (sC (sI _ _) (sC (sI _ _) (sC (sI _ _) (sC (SlF.nil dTaiTuple).still (sC (SlF.nil (dI .u32)).still (sC (SlF.nil (dI .i64)).still (sC (sI _ _) (sC (sI _ _) (sC (sI _ _) (sC (SlF.nil (dI .u8)).still sN)))))))))) rfl rfl
    refine Sim.op (sM e79) ?_
    have e81 : ldO true 10 H78 (.ref ⟨h.length,2,0,(0::0::0::σ),[]⟩ 0) = some (.agg [.p (.int .i64 0),.p (.int .u32 0),.p (.int .u32 0),.p (.slice none 0 0),.p (.slice none 0 0),.p (.slice none 0 0),.p (.int .u64 0),.p (.int .i64 0),.p (.int .i64 0),.p (.slice none 0 0)]):=(S80.atG (i:=1) rfl).ldVs (j:=0) rfl rfl (by decide)
    refine Sim.op (congrArg (Option.bind · _) e81) ?_
    exact Sim.fin (S80.finN (lC (Stills.lv (dTaiReport.still (dTaiReport.mk (SlF.nil dTaiTuple) (SlF.nil (dI .u32)) (SlF.nil (dI .i64)) (SlF.nil (dI .u8))))) (lC (sI _ _).lv (lC (sI _ _).lv lN)))) ⟨_,(dTaiReport.mk (SlF.nil dTaiTuple) (SlF.nil (dI .u32)) (SlF.nil (dI .i64)) (SlF.nil (dI .u8))),rfl⟩
  refine Sim.op ((S76.atG (i:=0) rfl).ldVs (j:=0) (xs:=[(.p (.int .i64 r59.1.Kind)),(.p (.int .u32 r59.1.From)),(.p (.int .u32 r59.1.About)),v66,v68,v70,(.p (.int .u64 r59.1.Rate)),(.p (.int .i64 r59.1.f_Type)),(.p (.int .i64 r59.1.Count)),v72]) rfl rfl (by decide)) ?_
  obtain ⟨H82,e83,S84⟩:=S76.stGv (i:=1) (j:=0) (own:=false) (σ:=(2::0::1::1::1::1::1::1::1::0::σ)) (xs:=[(.p (.int .i64 r59.1.Kind)),(.p (.int .u32 r59.1.From)),(.p (.int .u32 r59.1.About)),v66,v68,v70,(.p (.int .u64 r59.1.Rate)),(.p (.int .i64 r59.1.f_Type)),(.p (.int .i64 r59.1.Count)),v72]) rfl rfl (sC (sI _ _) (sC (sI _ _) (sC (sI _ _) (sC h67.still (sC h69.still (sC h71.still (sC (sI _ _) (sC (sI _ _) (sC (sI _ _) (sC h73.still sN)))))))))) rfl rfl
  refine Sim.op (sM e83) ?_
  have e85 : ldO true 10 H82 (.ref ⟨h.length,2,0,(0::0::0::σ),[]⟩ 0) = some (.agg [(.p (.int .i64 r59.1.Kind)),(.p (.int .u32 r59.1.From)),(.p (.int .u32 r59.1.About)),v66,v68,v70,(.p (.int .u64 r59.1.Rate)),(.p (.int .i64 r59.1.f_Type)),(.p (.int .i64 r59.1.Count)),v72]):=(S84.atG (i:=1) rfl).ldVs (j:=0) rfl rfl (by decide)
  refine Sim.op (congrArg (Option.bind · _) e85) ?_
  exact Sim.fin (S84.finN (lC (Stills.lv (dTaiReport.still h65)) (lC (sI _ _).lv (lC (sI _ _).lv lN)))) ⟨_,h65,rfl⟩
def p_rtcp_Read_l0 {β : Type} (k : Nat) (kE0 : (List TaiReport)→Option β) (kE1 : Int→Option β) (x0 : (List Int)) (x4 : (List TaiReport)) (x5 : Int) : Option β:=match k with
| 0 => none
| k + 1 =>
bif decide (x5 < ((x0.length : Int))) then (
(sub x0 x5 ((x0.length : Int))).bind fun a12 =>
(p_rtcp_one k a12).bind fun r14 =>
bif r14.2.2 != 0 then (
kE1 r14.2.2)
else (
(ap 136 x4 ([r14.1])).bind fun a38 =>
p_rtcp_Read_l0 k kE0 kE1 x0 a38 (IntKind.wrap .i64 (x5 + r14.2.1))))
else (
kE0 x4)
def p_rtcp_Read (k : Nat) (x0 : (List Int)) : Option ((List TaiReport) × Int) :=
bif decide (((x0.length : Int)) > 1500) then (
some ((([] : List TaiReport)),3))
else (
bif ((x0.length : Int)) == 0 then (
some ((([] : List TaiReport)),13))
else (
p_rtcp_Read_l0 k (fun r52_4 =>
some (r52_4,0)) (fun r66_3 =>
some ((([] : List TaiReport)),r66_3)) x0 (([] : List TaiReport)) 0))
theorem rtcp_Read_l0_ok {h : H}  {β α : Type} {Q : β→α→Prop} {K : Exit × Env × H→Option α} {kE0 : (List TaiReport)→Option β} {kE1 : Int→Option β} (hE0 : ∀ (q4 : (List TaiReport)) (v46 : V) (H44 : Go.Ev.H) (_ : Fm 41 h [] [] [⟨[35],v46,dTaiReport,q4⟩] H44),Sim (kE0 q4) (K ((.exit 1),(envL [(4,v46)]),H44)) Q) (hE1 : ∀ (q3 : Int) (H48 : Go.Ev.H) (_ : Fm 41 h [] [] [] H48),Sim (kE1 q3) (K (.ret,(envL [(2,(.p (.slice none 0 0))),(3,(.p (.int .i64 q3)))]),H48)) Q) (k : Nat) : ∀ (x0 : (List Int)) (x4 : (List TaiReport)) (x5 : Int) (v7 : V) (h8 : SlF (dI .u8) x0 v7) (v9 : V) (H5 : Go.Ev.H) (_ : Fm 41 h [] [] [⟨[35],v9,dTaiReport,x4⟩] H5) {σ : Stamp},Sim (p_rtcp_Read_l0 k kE0 kE1 x0 x4 x5) ((cvL G X0 rtcp_Read_c0 rtcp_Read_l0 σ (envL [(0,v7),(4,v9),(5,(.p (.int .i64 x5)))]) H5).bind K) Q:=by
  induction k with
  | zero => intros; exact Sim.no
  | succ k ih =>
    intro x0 x4 x5 v7 h8 v9 H5 S6 σ
    rw [p_rtcp_Read_l0]
    refine Sim.round (Sim.ext (rtcp_Read_r0 _ _ _ _ _ _ _) ?_)
    refine Sim.op ((h8.h H5).len) ?_
    refine Sim.ci ?_
    refine Sim.cq ?_ ?_
    · refine Sim.bd fun a12 h13 => ?_
      refine Sim.op ((h8.h H5).slS h13 rfl rfl rfl) ?_
      refine Sim.call (rtcp_one_ok k a12 (h8.sub h13 (e:=1) rfl)) fun r14 cs15 H16 h17 q18 => ?_
      obtain ⟨w19,h20,q18⟩:=q18
      cases q18
      obtain ⟨v21,v23,v25,v27,rfl,h22,h24,h26,h28⟩:=dTaiReport.inv h20
      refine Sim.or ?_
      refine Sim.or ?_
      refine Sim.ci ?_
      refine Sim.or ?_
      refine Sim.ci ?_
      obtain ⟨H29,e30,S31⟩:=S6.al (d:=6) (s:=(8::0::1::0::σ)) (z:=[(.p (.int .i64 0)),(.p (.int .u32 0)),(.p (.int .u32 0)),(.p (.slice none 0 0)),(.p (.slice none 0 0)),(.p (.slice none 0 0)),(.p (.int .u64 0)),(.p (.int .i64 0)),(.p (.int .i64 0)),(.p (.slice none 0 0))]) (by decide) rfl
      refine Sim.op (congrArg some e30) ?_
      obtain ⟨H33,e34,S35⟩:=S31.stGv (i:=0) (j:=0) (own:=false) (σ:=(9::0::1::0::σ)) (xs:=[(.p (.int .i64 r14.1.Kind)),(.p (.int .u32 r14.1.From)),(.p (.int .u32 r14.1.About)),v21,v23,v25,(.p (.int .u64 r14.1.Rate)),(.p (.int .i64 r14.1.f_Type)),(.p (.int .i64 r14.1.Count)),v27]) rfl rfl (sC (sI _ _) (sC (sI _ _) (sC (sI _ _) (sC h22.still (sC h24.still (sC h26.still (sC (sI _ _) (sC (sI _ _) (sC (sI _ _) (sC h28.still sN)))))))))) rfl rfl
      refine Sim.op (sM e34) ?_
      refine Sim.cq ?_ ?_
      · exact hE1 r14.2.2 H33 (S35.wk2 aN aN)
      refine Sim.op ((S35.atG (i:=0) rfl).ldVs (j:=0) (xs:=[(.p (.int .i64 r14.1.Kind)),(.p (.int .u32 r14.1.From)),(.p (.int .u32 r14.1.About)),v21,v23,v25,(.p (.int .u64 r14.1.Rate)),(.p (.int .i64 r14.1.f_Type)),(.p (.int .i64 r14.1.Count)),v27]) rfl rfl (by decide)) ?_
      have h37 : SlF dTaiReport [r14.1] (.fz [(.p (.int .i64 r14.1.Kind)),(.p (.int .u32 r14.1.From)),(.p (.int .u32 r14.1.About)),v21,v23,v25,(.p (.int .u64 r14.1.Rate)),(.p (.int .i64 r14.1.f_Type)),(.p (.int .i64 r14.1.Count)),v27] 1 10 true):=SlF.lit (cs:=[(.p (.int .i64 r14.1.Kind)),(.p (.int .u32 r14.1.From)),(.p (.int .u32 r14.1.About)),v21,v23,v25,(.p (.int .u64 r14.1.Rate)),(.p (.int .i64 r14.1.f_Type)),(.p (.int .i64 r14.1.Count)),v27]) (RL.cons h20 RL.nil) rfl rfl true
      refine Sim.op (bldS (pC (c:=[(.p (.int .i64 r14.1.Kind)),(.p (.int .u32 r14.1.From)),(.p (.int .u32 r14.1.About)),v21,v23,v25,(.p (.int .u64 r14.1.Rate)),(.p (.int .i64 r14.1.f_Type)),(.p (.int .i64 r14.1.Count)),v27]) rfl pN) (by kernel_rfl : _ = some (vOf h37))) ?_
      refine Sim.bd fun a38 h39 => ?_
      obtain ⟨v40,H41,e42,S43⟩:=S35.app (i:=0) (d:=35) (e:=10) (own:=false) (σ:=(3::0::1::1::1::0::σ)) rfl (h37.h H33).y h39 rfl (by decide) (by decide) rfl
      refine Sim.op (e42) ?_
      exact ih x0 a38 (IntKind.wrap .i64 (x5 + r14.2.1)) v7 h8 v40 H41 (S43.wk2 aN (aC ⟨[35,35],by simp,aM 0 rfl⟩ aN))
    exact hE0 x4 v9 H5 (S6.wk2 aN (aC ⟨[35],by simp,aM 0 rfl⟩ aN))
theorem rtcp_Read_ok (k : Nat) {h : H} {σ : Stamp} (x0 : List Int) {u0 : V} (hu0 : SlF (dI .u8) x0 u0) : Sim (p_rtcp_Read k x0) (ev G X0 25 σ [u0] h) (fun r s => ∃ (v0 : V),SlF dTaiReport r.1 v0∧s = ([.v v0,.v (.p (.int .i64 r.2))],h)):=by
  refine Sim.ev rfl (Sim.ext (rtcp_Read_entry _ _ _ _ _) ?_)
  rw [p_rtcp_Read]
  have S0 : Fm 41 h [] [] [] (List.replicate 41 []::h):=Fm.start0
  refine Sim.op ((hu0.h (List.replicate 41 []::h)).len) ?_
  refine Sim.ci ?_
  refine Sim.cq ?_ ?_
  · exact Sim.fin (S0.finN (lC (SlF.nil dTaiReport).still.lv (lC (sI _ _).lv lN))) ⟨(.p (.slice none 0 0)),(SlF.nil dTaiReport),rfl⟩
  refine Sim.op ((hu0.h (List.replicate 41 []::h)).len) ?_
  refine Sim.ci ?_
  refine Sim.cq ?_ ?_
  · exact Sim.fin (S0.finN (lC (SlF.nil dTaiReport).still.lv (lC (sI _ _).lv lN))) ⟨(.p (.slice none 0 0)),(SlF.nil dTaiReport),rfl⟩
  have S51:=S0.nil dTaiReport []
  refine Sim.as (rtcp_Read_l0_ok ?_ ?_ k x0 (([] : List TaiReport)) 0 u0 hu0 (.p (.slice none 0 0)) (List.replicate 41 []::h) (S51.wk2 aN (aC ⟨[],by simp,aM 0 rfl⟩ aN)))
  · intro r52_4 v55 H53 S54
    refine Sim.ext (rtcp_Read_a0_1 _ _ _ _ _) ?_
    obtain ⟨v57,e58,S59⟩:=clip_D (G:=G) (X:=X0) (i:=0) (f:=60) (fun x h => slices_Clip_Lapi_Report_api_Report_entry _ _ _ x h) S54 rfl rfl rfl
    refine Sim.op (e58) ?_
    obtain ⟨v65,H60,e61,h63,S62⟩:=S59.expFrz (i:=0) (τ:=0::1::σ) rfl rfl
    exact Sim.fin (S62.finE (Ex.st e61 (Ex.pl (sI _ _).lv Ex.nil))) ⟨v65,h63,rfl⟩
  · intro r66_3 H67 S68
    refine Sim.ext (rtcp_Read_a0_ret _ _ _ _ _ _) ?_
    exact Sim.fin (S68.finN (lC (SlF.nil dTaiReport).still.lv (lC (sI _ _).lv lN))) ⟨(.p (.slice none 0 0)),(SlF.nil dTaiReport),rfl⟩
end Go.Ev
namespace Go.Ev
open Go.Proofs
set_option linter.unusedVariables false
set_option linter.unusedSimpArgs false
set_option maxRecDepth 100000
noncomputable section
abbrev KT20:=Exit→Env→H→Option (List C × H)
variable (rec : CallF) (loop : LoopV) (σ : Stamp)
theorem rtcp_Same_entry (x0 : V) (x1 : V) (h : H) : cvBody G rec loop 22 σ [x0,x1] h =
(boxO false (0::0::0::σ) 2 (List.replicate 73 []::h) x0).bind fun q1 =>
(boxO false (1::0::0::σ) 3 q1.2 x1).bind fun q2 =>
(fA q1.1 0).bind fun t3 =>
(ldO false 1 q2.2 t3).bind fun t4 =>
(castI .i64 t4).bind fun n5 =>
(fA q2.1 0).bind fun t6 =>
(ldO false 1 q2.2 t6).bind fun t7 =>
(castI .i64 t7).bind fun n8 =>
(bif n5 == n8 then ((fA q1.1 1).bind fun t9 =>
(ldO false 1 q2.2 t9).bind fun t10 =>
(castI .u32 t10).bind fun n11 =>
(fA q2.1 1).bind fun t12 =>
(ldO false 1 q2.2 t12).bind fun t13 =>
(castI .u32 t13).bind fun n14 =>
some (n11 == n14)) else (some false)).bind fun b15 =>
(bif b15 then ((fA q1.1 2).bind fun t16 =>
(ldO false 1 q2.2 t16).bind fun t17 =>
(castI .u32 t17).bind fun n18 =>
(fA q2.1 2).bind fun t19 =>
(ldO false 1 q2.2 t19).bind fun t20 =>
(castI .u32 t20).bind fun n21 =>
some (n18 == n21)) else (some false)).bind fun b22 =>
(bif b22 then ((fA q1.1 3).bind fun t23 =>
(ldO false 1 q2.2 t23).bind fun t24 =>
(fA q2.1 3).bind fun t25 =>
(ldO false 1 q2.2 t25).bind fun t26 =>
(callO rec 51 (24::0::1::0::σ) [t24,t26] q2.2 (some 29)).bind fun q27 =>
(asB q27.1).bind fun b28 =>
some ((.p (.bool b28)),q27.2)) else (some ((.p (.bool false)),q2.2))).bind fun q29 =>
(asB q29.1).bind fun b30 =>
(bif b30 then ((fA q1.1 4).bind fun t31 =>
(ldO false 1 q29.2 t31).bind fun t32 =>
(fA q2.1 4).bind fun t33 =>
(ldO false 1 q29.2 t33).bind fun t34 =>
(callO rec 52 (31::0::1::0::σ) [t32,t34] q29.2 (some 36)).bind fun q35 =>
(asB q35.1).bind fun b36 =>
some ((.p (.bool b36)),q35.2)) else (some ((.p (.bool false)),q29.2))).bind fun q37 =>
(asB q37.1).bind fun b38 =>
(bif b38 then ((fA q1.1 5).bind fun t39 =>
(ldO false 1 q37.2 t39).bind fun t40 =>
(fA q2.1 5).bind fun t41 =>
(ldO false 1 q37.2 t41).bind fun t42 =>
(callO rec 53 (38::0::1::0::σ) [t40,t42] q37.2 (some 43)).bind fun q43 =>
(asB q43.1).bind fun b44 =>
some ((.p (.bool b44)),q43.2)) else (some ((.p (.bool false)),q37.2))).bind fun q45 =>
(asB q45.1).bind fun b46 =>
(bif b46 then ((fA q1.1 6).bind fun t47 =>
(ldO false 1 q45.2 t47).bind fun t48 =>
(castI .u64 t48).bind fun n49 =>
(fA q2.1 6).bind fun t50 =>
(ldO false 1 q45.2 t50).bind fun t51 =>
(castI .u64 t51).bind fun n52 =>
some (n49 == n52)) else (some false)).bind fun b53 =>
(bif b53 then ((fA q1.1 7).bind fun t54 =>
(ldO false 1 q45.2 t54).bind fun t55 =>
(castI .i64 t55).bind fun n56 =>
(fA q2.1 7).bind fun t57 =>
(ldO false 1 q45.2 t57).bind fun t58 =>
(castI .i64 t58).bind fun n59 =>
some (n56 == n59)) else (some false)).bind fun b60 =>
(bif b60 then ((fA q1.1 8).bind fun t61 =>
(ldO false 1 q45.2 t61).bind fun t62 =>
(castI .i64 t62).bind fun n63 =>
(fA q2.1 8).bind fun t64 =>
(ldO false 1 q45.2 t64).bind fun t65 =>
(castI .i64 t65).bind fun n66 =>
some (n63 == n66)) else (some false)).bind fun b67 =>
(bif b67 then ((fA q1.1 9).bind fun t68 =>
(ldO false 1 q45.2 t68).bind fun t69 =>
(fA q2.1 9).bind fun t70 =>
(ldO false 1 q45.2 t70).bind fun t71 =>
(callO rec 54 (66::0::1::0::σ) [t69,t71] q45.2 (some 71)).bind fun q72 =>
(asB q72.1).bind fun b73 =>
some ((.p (.bool b73)),q72.2)) else (some ((.p (.bool false)),q45.2))).bind fun q74 =>
(asB q74.1).bind fun b75 =>
fin false σ q74.2 [(.p (.bool b75))]:=by kernel_rfl
def slices_Equal_Lapi_Tuple_api_Tuple_c0 : Code:=(codeAt (bodyOf Try.f51) [1,1,0,1,0,0])
def slices_Equal_Lapi_Tuple_api_Tuple_l0 : Lv:=⟨0,16,[(0,0)]⟩
def slices_Equal_Lapi_Tuple_api_Tuple_k0 : KT20:=(kBlock 0 (kSeq G rec loop (codeAt (bodyOf Try.f51) [1,1,1]) ⟨16,16,[]⟩ (1::1::0::σ) (finC G false Try.f51 (1::σ))))
theorem slices_Equal_Lapi_Tuple_api_Tuple_entry (x0 : V) (x1 : V) (h : H) : cvBody G rec loop 51 σ [x0,x1] h =
(lenO x0).bind fun t1 =>
(castI .i64 t1).bind fun n2 =>
(lenO x1).bind fun t3 =>
(castI .i64 t3).bind fun n4 =>
bif n2 != n4 then (
fin false σ (List.replicate 26 []::h) [(.p (.bool false))])
else (
(lenO x0).bind fun t5 =>
(castI .i64 t5).bind fun n6 =>
(loop slices_Equal_Lapi_Tuple_api_Tuple_c0 slices_Equal_Lapi_Tuple_api_Tuple_l0 (1::0::1::1::0::σ) (envL [(0,x0),(1,x1),(12,(.p (.int .i64 n6))),(13,(.p (.int .i64 0)))]) (List.replicate 26 []::h)).bind fun r7 => slices_Equal_Lapi_Tuple_api_Tuple_k0 rec loop σ r7.1 r7.2.1 r7.2.2):=by kernel_rfl
theorem slices_Equal_Lapi_Tuple_api_Tuple_r0 (x0 : V) (x1 : V) (x12 : Int) (x13 : Int) (h : H) : cvRound G rec loop slices_Equal_Lapi_Tuple_api_Tuple_c0 slices_Equal_Lapi_Tuple_api_Tuple_l0 σ (envL [(0,x0),(1,x1),(12,(.p (.int .i64 x12))),(13,(.p (.int .i64 x13)))]) h =
bif decide (x13 < x12) then (
(iS 3 x0 x13).bind fun t8 =>
(ldO true 3 h t8).bind fun t9 =>
(iS 3 x1 x13).bind fun t10 =>
(ldO true 3 h t10).bind fun t11 =>
(binV Try.prog h .neq 57 t9 t11).bind fun t12 =>
(asB t12).bind fun b13 =>
bif b13 then (
some (.ret,(envL [(4,(.p (.bool false)))]),h))
else (
loop slices_Equal_Lapi_Tuple_api_Tuple_c0 slices_Equal_Lapi_Tuple_api_Tuple_l0 (1::σ) (envL [(0,x0),(1,x1),(12,(.p (.int .i64 x12))),(13,(.p (.int .i64 (IntKind.wrap .i64 (x13 + 1)))))]) h))
else (
some ((.exit 0),(envL []),h)):=by kernel_rfl
theorem slices_Equal_Lapi_Tuple_api_Tuple_a0_0  (h : H) : slices_Equal_Lapi_Tuple_api_Tuple_k0 rec loop σ (.exit 0) (envL []) h =
fin false σ h [(.p (.bool true))]:=by kernel_rfl
theorem slices_Equal_Lapi_Tuple_api_Tuple_a0_ret (x4 : Bool) (h : H) : slices_Equal_Lapi_Tuple_api_Tuple_k0 rec loop σ .ret (envL [(4,(.p (.bool x4)))]) h =
fin false σ h [(.p (.bool x4))]:=by kernel_rfl
end
end Go.Ev
namespace Go.Ev
open Go.Proofs
set_option linter.unusedVariables false
set_option linter.unusedSimpArgs false
set_option maxRecDepth 100000
def p_slices_Equal_Lapi_Tuple_api_Tuple_l0 {β : Type} (k : Nat) (kE0 : Unit→Option β) (kE1 : Bool→Option β) (x0 : (List TaiTuple)) (x1 : (List TaiTuple)) (x12 : Int) (x13 : Int) : Option β:=match k with
| 0 => none
| k + 1 =>
bif decide (x13 < x12) then (
(ix x0 x13).bind fun a9 =>
(ix x1 x13).bind fun a14 =>
bif !(andB [a9.Owner == a14.Owner,a9.Rate == a14.Rate,a9.Over == a14.Over]) then (
kE1 false)
else (
p_slices_Equal_Lapi_Tuple_api_Tuple_l0 k kE0 kE1 x0 x1 x12 (IntKind.wrap .i64 (x13 + 1))))
else (
kE0 ())
def p_slices_Equal_Lapi_Tuple_api_Tuple (k : Nat) (x0 : (List TaiTuple)) (x1 : (List TaiTuple)) : Option (Bool) :=
bif ((x0.length : Int)) != ((x1.length : Int)) then (
some (false))
else (
p_slices_Equal_Lapi_Tuple_api_Tuple_l0 k (fun (_ : Unit) =>
some (true)) (fun r27_4 =>
some (r27_4)) x0 x1 ((x0.length : Int)) 0)
theorem slices_Equal_Lapi_Tuple_api_Tuple_l0_ok {h : H}  {β α : Type} {Q : β→α→Prop} {K : Exit × Env × H→Option α} {kE0 : Unit→Option β} {kE1 : Bool→Option β} (hE0 : ∀ (_u : Unit) (H20 : Go.Ev.H) (_ : Fm 26 h [] [] [] H20),Sim (kE0 ()) (K ((.exit 0),(envL []),H20)) Q) (hE1 : ∀ (q4 : Bool) (H22 : Go.Ev.H) (_ : Fm 26 h [] [] [] H22),Sim (kE1 q4) (K (.ret,(envL [(4,(.p (.bool q4)))]),H22)) Q) (k : Nat) : ∀ (x0 : (List TaiTuple)) (x1 : (List TaiTuple)) (x12 : Int) (x13 : Int) (v4 : V) (h5 : SlH h dTaiTuple x0 v4) (v6 : V) (h7 : SlH h dTaiTuple x1 v6) (H2 : Go.Ev.H) (_ : Fm 26 h [] [] [] H2) {σ : Stamp},Sim (p_slices_Equal_Lapi_Tuple_api_Tuple_l0 k kE0 kE1 x0 x1 x12 x13) ((cvL G X0 slices_Equal_Lapi_Tuple_api_Tuple_c0 slices_Equal_Lapi_Tuple_api_Tuple_l0 σ (envL [(0,v4),(1,v6),(12,(.p (.int .i64 x12))),(13,(.p (.int .i64 x13)))]) H2).bind K) Q:=by
  induction k with
  | zero => intros; exact Sim.no
  | succ k ih =>
    intro x0 x1 x12 x13 v4 h5 v6 h7 H2 S3 σ
    rw [p_slices_Equal_Lapi_Tuple_api_Tuple_l0]
    refine Sim.round (Sim.ext (slices_Equal_Lapi_Tuple_api_Tuple_r0 _ _ _ _ _ _ _ _) ?_)
    refine Sim.cq ?_ ?_
    · refine Sim.bd fun a9 h10 => ?_
      refine Sim.op ((S3.low h5).iS h10 rfl) ?_
      obtain ⟨w12,h13,hE11⟩:=(S3.low h5).el h10 rfl
      obtain rfl:=dTaiTuple.inv h13
      refine Sim.op (hE11.all (by simp)) ?_
      refine Sim.bd fun a14 h15 => ?_
      refine Sim.op ((S3.low h7).iS h15 rfl) ?_
      obtain ⟨w17,h18,hE16⟩:=(S3.low h7).el h15 rfl
      obtain rfl:=dTaiTuple.inv h18
      refine Sim.op (hE16.all (by simp)) ?_
      refine Sim.op (nqS_ok (by kernel_rfl : _ = andL [a9.Owner == a14.Owner,a9.Rate == a14.Rate,a9.Over == a14.Over])) ?_
      refine Sim.ab ?_
      refine Sim.cq ?_ ?_
      · exact hE1 false H2 (S3.wk2 aN aN)
      exact ih x0 x1 x12 (IntKind.wrap .i64 (x13 + 1)) v4 h5 v6 h7 H2 (S3.wk2 aN aN)
    exact hE0 () H2 (S3.wk2 aN aN)
theorem slices_Equal_Lapi_Tuple_api_Tuple_ok (k : Nat) {h : H} {σ : Stamp} (x0 : List TaiTuple) {u0 : V} (hu0 : SlH h dTaiTuple x0 u0) (x1 : List TaiTuple) {u1 : V} (hu1 : SlH h dTaiTuple x1 u1) : Sim (p_slices_Equal_Lapi_Tuple_api_Tuple k x0 x1) (ev G X0 51 σ [u0,u1] h) (fun r s => s = ([.v (.p (.bool r))],h)):=by
  refine Sim.ev rfl (Sim.ext (slices_Equal_Lapi_Tuple_api_Tuple_entry _ _ _ _ _ _) ?_)
  rw [p_slices_Equal_Lapi_Tuple_api_Tuple]
  have S0 : Fm 26 h [] [] [] (List.replicate 26 []::h):=Fm.start0
  refine Sim.op ((S0.low hu0).len) ?_
  refine Sim.ci ?_
  refine Sim.op ((S0.low hu1).len) ?_
  refine Sim.ci ?_
  refine Sim.cq ?_ ?_
  · exact Sim.fin (S0.finN (lC (sB _).lv lN)) rfl
  refine Sim.op ((S0.low hu0).len) ?_
  refine Sim.ci ?_
  refine Sim.as (slices_Equal_Lapi_Tuple_api_Tuple_l0_ok ?_ ?_ k x0 x1 ((x0.length : Int)) 0 u0 hu0 u1 hu1 (List.replicate 26 []::h) (S0.wk2 aN aN))
  · intro _u H25 S26
    refine Sim.ext (slices_Equal_Lapi_Tuple_api_Tuple_a0_0 _ _ _ _) ?_
    exact Sim.fin (S26.finN (lC (sB _).lv lN)) rfl
  · intro r27_4 H28 S29
    refine Sim.ext (slices_Equal_Lapi_Tuple_api_Tuple_a0_ret _ _ _ _ _) ?_
    exact Sim.fin (S29.finN (lC (sB _).lv lN)) rfl
end Go.Ev
namespace Go.Ev
open Go.Proofs
set_option linter.unusedVariables false
set_option linter.unusedSimpArgs false
set_option maxRecDepth 100000
noncomputable section
abbrev KT21:=Exit→Env→H→Option (List C × H)
variable (rec : CallF) (loop : LoopV) (σ : Stamp)
def slices_Equal_Lbyte_byte_c0 : Code:=(codeAt (bodyOf Try.f54) [1,1,0,1,0,0])
def slices_Equal_Lbyte_byte_l0 : Lv:=⟨0,16,[(0,0)]⟩
def slices_Equal_Lbyte_byte_k0 : KT21:=(kBlock 0 (kSeq G rec loop (codeAt (bodyOf Try.f54) [1,1,1]) ⟨16,16,[]⟩ (1::1::0::σ) (finC G false Try.f54 (1::σ))))
theorem slices_Equal_Lbyte_byte_entry (x0 : V) (x1 : V) (h : H) : cvBody G rec loop 54 σ [x0,x1] h =
(lenO x0).bind fun t1 =>
(castI .i64 t1).bind fun n2 =>
(lenO x1).bind fun t3 =>
(castI .i64 t3).bind fun n4 =>
bif n2 != n4 then (
fin false σ (List.replicate 26 []::h) [(.p (.bool false))])
else (
(lenO x0).bind fun t5 =>
(castI .i64 t5).bind fun n6 =>
(loop slices_Equal_Lbyte_byte_c0 slices_Equal_Lbyte_byte_l0 (1::0::1::1::0::σ) (envL [(0,x0),(1,x1),(12,(.p (.int .i64 n6))),(13,(.p (.int .i64 0)))]) (List.replicate 26 []::h)).bind fun r7 => slices_Equal_Lbyte_byte_k0 rec loop σ r7.1 r7.2.1 r7.2.2):=by kernel_rfl
theorem slices_Equal_Lbyte_byte_r0 (x0 : V) (x1 : V) (x12 : Int) (x13 : Int) (h : H) : cvRound G rec loop slices_Equal_Lbyte_byte_c0 slices_Equal_Lbyte_byte_l0 σ (envL [(0,x0),(1,x1),(12,(.p (.int .i64 x12))),(13,(.p (.int .i64 x13)))]) h =
bif decide (x13 < x12) then (
(iS 1 x0 x13).bind fun t8 =>
(ldO false 1 h t8).bind fun t9 =>
(castI .u8 t9).bind fun n10 =>
(iS 1 x1 x13).bind fun t11 =>
(ldO false 1 h t11).bind fun t12 =>
(castI .u8 t12).bind fun n13 =>
bif n10 != n13 then (
some (.ret,(envL [(4,(.p (.bool false)))]),h))
else (
loop slices_Equal_Lbyte_byte_c0 slices_Equal_Lbyte_byte_l0 (1::σ) (envL [(0,x0),(1,x1),(12,(.p (.int .i64 x12))),(13,(.p (.int .i64 (IntKind.wrap .i64 (x13 + 1)))))]) h))
else (
some ((.exit 0),(envL []),h)):=by kernel_rfl
theorem slices_Equal_Lbyte_byte_a0_0  (h : H) : slices_Equal_Lbyte_byte_k0 rec loop σ (.exit 0) (envL []) h =
fin false σ h [(.p (.bool true))]:=by kernel_rfl
theorem slices_Equal_Lbyte_byte_a0_ret (x4 : Bool) (h : H) : slices_Equal_Lbyte_byte_k0 rec loop σ .ret (envL [(4,(.p (.bool x4)))]) h =
fin false σ h [(.p (.bool x4))]:=by kernel_rfl
end
end Go.Ev
namespace Go.Ev
open Go.Proofs
set_option linter.unusedVariables false
set_option linter.unusedSimpArgs false
set_option maxRecDepth 100000
def p_slices_Equal_Lbyte_byte_l0 {β : Type} (k : Nat) (kE0 : Unit→Option β) (kE1 : Bool→Option β) (x0 : (List Int)) (x1 : (List Int)) (x12 : Int) (x13 : Int) : Option β:=match k with
| 0 => none
| k + 1 =>
bif decide (x13 < x12) then (
(ix x0 x13).bind fun a9 =>
(ix x1 x13).bind fun a12 =>
bif a9 != a12 then (
kE1 false)
else (
p_slices_Equal_Lbyte_byte_l0 k kE0 kE1 x0 x1 x12 (IntKind.wrap .i64 (x13 + 1))))
else (
kE0 ())
def p_slices_Equal_Lbyte_byte (k : Nat) (x0 : (List Int)) (x1 : (List Int)) : Option (Bool) :=
bif ((x0.length : Int)) != ((x1.length : Int)) then (
some (false))
else (
p_slices_Equal_Lbyte_byte_l0 k (fun (_ : Unit) =>
some (true)) (fun r23_4 =>
some (r23_4)) x0 x1 ((x0.length : Int)) 0)
theorem slices_Equal_Lbyte_byte_l0_ok {h : H}  {β α : Type} {Q : β→α→Prop} {K : Exit × Env × H→Option α} {kE0 : Unit→Option β} {kE1 : Bool→Option β} (hE0 : ∀ (_u : Unit) (H16 : Go.Ev.H) (_ : Fm 26 h [] [] [] H16),Sim (kE0 ()) (K ((.exit 0),(envL []),H16)) Q) (hE1 : ∀ (q4 : Bool) (H18 : Go.Ev.H) (_ : Fm 26 h [] [] [] H18),Sim (kE1 q4) (K (.ret,(envL [(4,(.p (.bool q4)))]),H18)) Q) (k : Nat) : ∀ (x0 : (List Int)) (x1 : (List Int)) (x12 : Int) (x13 : Int) (v4 : V) (h5 : SlH h (dI .u8) x0 v4) (v6 : V) (h7 : SlH h (dI .u8) x1 v6) (H2 : Go.Ev.H) (_ : Fm 26 h [] [] [] H2) {σ : Stamp},Sim (p_slices_Equal_Lbyte_byte_l0 k kE0 kE1 x0 x1 x12 x13) ((cvL G X0 slices_Equal_Lbyte_byte_c0 slices_Equal_Lbyte_byte_l0 σ (envL [(0,v4),(1,v6),(12,(.p (.int .i64 x12))),(13,(.p (.int .i64 x13)))]) H2).bind K) Q:=by
  induction k with
  | zero => intros; exact Sim.no
  | succ k ih =>
    intro x0 x1 x12 x13 v4 h5 v6 h7 H2 S3 σ
    rw [p_slices_Equal_Lbyte_byte_l0]
    refine Sim.round (Sim.ext (slices_Equal_Lbyte_byte_r0 _ _ _ _ _ _ _ _) ?_)
    refine Sim.cq ?_ ?_
    · refine Sim.bd fun a9 h10 => ?_
      refine Sim.op ((S3.low h5).iS h10 rfl) ?_
      obtain ⟨_,rfl,hE11⟩:=(S3.low h5).el h10 rfl
      refine Sim.op (hE11.ld (j:=0) rfl) ?_
      refine Sim.ci ?_
      refine Sim.bd fun a12 h13 => ?_
      refine Sim.op ((S3.low h7).iS h13 rfl) ?_
      obtain ⟨_,rfl,hE14⟩:=(S3.low h7).el h13 rfl
      refine Sim.op (hE14.ld (j:=0) rfl) ?_
      refine Sim.ci ?_
      refine Sim.cq ?_ ?_
      · exact hE1 false H2 (S3.wk2 aN aN)
      exact ih x0 x1 x12 (IntKind.wrap .i64 (x13 + 1)) v4 h5 v6 h7 H2 (S3.wk2 aN aN)
    exact hE0 () H2 (S3.wk2 aN aN)
theorem slices_Equal_Lbyte_byte_ok (k : Nat) {h : H} {σ : Stamp} (x0 : List Int) {u0 : V} (hu0 : SlH h (dI .u8) x0 u0) (x1 : List Int) {u1 : V} (hu1 : SlH h (dI .u8) x1 u1) : Sim (p_slices_Equal_Lbyte_byte k x0 x1) (ev G X0 54 σ [u0,u1] h) (fun r s => s = ([.v (.p (.bool r))],h)):=by
  refine Sim.ev rfl (Sim.ext (slices_Equal_Lbyte_byte_entry _ _ _ _ _ _) ?_)
  rw [p_slices_Equal_Lbyte_byte]
  have S0 : Fm 26 h [] [] [] (List.replicate 26 []::h):=Fm.start0
  refine Sim.op ((S0.low hu0).len) ?_
  refine Sim.ci ?_
  refine Sim.op ((S0.low hu1).len) ?_
  refine Sim.ci ?_
  refine Sim.cq ?_ ?_
  · exact Sim.fin (S0.finN (lC (sB _).lv lN)) rfl
  refine Sim.op ((S0.low hu0).len) ?_
  refine Sim.ci ?_
  refine Sim.as (slices_Equal_Lbyte_byte_l0_ok ?_ ?_ k x0 x1 ((x0.length : Int)) 0 u0 hu0 u1 hu1 (List.replicate 26 []::h) (S0.wk2 aN aN))
  · intro _u H21 S22
    refine Sim.ext (slices_Equal_Lbyte_byte_a0_0 _ _ _ _) ?_
    exact Sim.fin (S22.finN (lC (sB _).lv lN)) rfl
  · intro r23_4 H24 S25
    refine Sim.ext (slices_Equal_Lbyte_byte_a0_ret _ _ _ _ _) ?_
    exact Sim.fin (S25.finN (lC (sB _).lv lN)) rfl
end Go.Ev
namespace Go.Ev
open Go.Proofs
set_option linter.unusedVariables false
set_option linter.unusedSimpArgs false
set_option maxRecDepth 100000
noncomputable section
abbrev KT22:=Exit→Env→H→Option (List C × H)
variable (rec : CallF) (loop : LoopV) (σ : Stamp)
def slices_Equal_Lint_int_c0 : Code:=(codeAt (bodyOf Try.f53) [1,1,0,1,0,0])
def slices_Equal_Lint_int_l0 : Lv:=⟨0,16,[(0,0)]⟩
def slices_Equal_Lint_int_k0 : KT22:=(kBlock 0 (kSeq G rec loop (codeAt (bodyOf Try.f53) [1,1,1]) ⟨16,16,[]⟩ (1::1::0::σ) (finC G false Try.f53 (1::σ))))
theorem slices_Equal_Lint_int_entry (x0 : V) (x1 : V) (h : H) : cvBody G rec loop 53 σ [x0,x1] h =
(lenO x0).bind fun t1 =>
(castI .i64 t1).bind fun n2 =>
(lenO x1).bind fun t3 =>
(castI .i64 t3).bind fun n4 =>
bif n2 != n4 then (
fin false σ (List.replicate 26 []::h) [(.p (.bool false))])
else (
(lenO x0).bind fun t5 =>
(castI .i64 t5).bind fun n6 =>
(loop slices_Equal_Lint_int_c0 slices_Equal_Lint_int_l0 (1::0::1::1::0::σ) (envL [(0,x0),(1,x1),(12,(.p (.int .i64 n6))),(13,(.p (.int .i64 0)))]) (List.replicate 26 []::h)).bind fun r7 => slices_Equal_Lint_int_k0 rec loop σ r7.1 r7.2.1 r7.2.2):=by kernel_rfl
theorem slices_Equal_Lint_int_r0 (x0 : V) (x1 : V) (x12 : Int) (x13 : Int) (h : H) : cvRound G rec loop slices_Equal_Lint_int_c0 slices_Equal_Lint_int_l0 σ (envL [(0,x0),(1,x1),(12,(.p (.int .i64 x12))),(13,(.p (.int .i64 x13)))]) h =
bif decide (x13 < x12) then (
(iS 1 x0 x13).bind fun t8 =>
(ldO false 1 h t8).bind fun t9 =>
(castI .i64 t9).bind fun n10 =>
(iS 1 x1 x13).bind fun t11 =>
(ldO false 1 h t11).bind fun t12 =>
(castI .i64 t12).bind fun n13 =>
bif n10 != n13 then (
some (.ret,(envL [(4,(.p (.bool false)))]),h))
else (
loop slices_Equal_Lint_int_c0 slices_Equal_Lint_int_l0 (1::σ) (envL [(0,x0),(1,x1),(12,(.p (.int .i64 x12))),(13,(.p (.int .i64 (IntKind.wrap .i64 (x13 + 1)))))]) h))
else (
some ((.exit 0),(envL []),h)):=by kernel_rfl
theorem slices_Equal_Lint_int_a0_0  (h : H) : slices_Equal_Lint_int_k0 rec loop σ (.exit 0) (envL []) h =
fin false σ h [(.p (.bool true))]:=by kernel_rfl
theorem slices_Equal_Lint_int_a0_ret (x4 : Bool) (h : H) : slices_Equal_Lint_int_k0 rec loop σ .ret (envL [(4,(.p (.bool x4)))]) h =
fin false σ h [(.p (.bool x4))]:=by kernel_rfl
end
end Go.Ev
namespace Go.Ev
open Go.Proofs
set_option linter.unusedVariables false
set_option linter.unusedSimpArgs false
set_option maxRecDepth 100000
def p_slices_Equal_Lint_int_l0 {β : Type} (k : Nat) (kE0 : Unit→Option β) (kE1 : Bool→Option β) (x0 : (List Int)) (x1 : (List Int)) (x12 : Int) (x13 : Int) : Option β:=match k with
| 0 => none
| k + 1 =>
bif decide (x13 < x12) then (
(ix x0 x13).bind fun a9 =>
(ix x1 x13).bind fun a12 =>
bif a9 != a12 then (
kE1 false)
else (
p_slices_Equal_Lint_int_l0 k kE0 kE1 x0 x1 x12 (IntKind.wrap .i64 (x13 + 1))))
else (
kE0 ())
def p_slices_Equal_Lint_int (k : Nat) (x0 : (List Int)) (x1 : (List Int)) : Option (Bool) :=
bif ((x0.length : Int)) != ((x1.length : Int)) then (
some (false))
else (
p_slices_Equal_Lint_int_l0 k (fun (_ : Unit) =>
some (true)) (fun r23_4 =>
some (r23_4)) x0 x1 ((x0.length : Int)) 0)
theorem slices_Equal_Lint_int_l0_ok {h : H}  {β α : Type} {Q : β→α→Prop} {K : Exit × Env × H→Option α} {kE0 : Unit→Option β} {kE1 : Bool→Option β} (hE0 : ∀ (_u : Unit) (H16 : Go.Ev.H) (_ : Fm 26 h [] [] [] H16),Sim (kE0 ()) (K ((.exit 0),(envL []),H16)) Q) (hE1 : ∀ (q4 : Bool) (H18 : Go.Ev.H) (_ : Fm 26 h [] [] [] H18),Sim (kE1 q4) (K (.ret,(envL [(4,(.p (.bool q4)))]),H18)) Q) (k : Nat) : ∀ (x0 : (List Int)) (x1 : (List Int)) (x12 : Int) (x13 : Int) (v4 : V) (h5 : SlH h (dI .i64) x0 v4) (v6 : V) (h7 : SlH h (dI .i64) x1 v6) (H2 : Go.Ev.H) (_ : Fm 26 h [] [] [] H2) {σ : Stamp},Sim (p_slices_Equal_Lint_int_l0 k kE0 kE1 x0 x1 x12 x13) ((cvL G X0 slices_Equal_Lint_int_c0 slices_Equal_Lint_int_l0 σ (envL [(0,v4),(1,v6),(12,(.p (.int .i64 x12))),(13,(.p (.int .i64 x13)))]) H2).bind K) Q:=by
  induction k with
  | zero => intros; exact Sim.no
  | succ k ih =>
    intro x0 x1 x12 x13 v4 h5 v6 h7 H2 S3 σ
    rw [p_slices_Equal_Lint_int_l0]
    refine Sim.round (Sim.ext (slices_Equal_Lint_int_r0 _ _ _ _ _ _ _ _) ?_)
    refine Sim.cq ?_ ?_
    · refine Sim.bd fun a9 h10 => ?_
      refine Sim.op ((S3.low h5).iS h10 rfl) ?_
      obtain ⟨_,rfl,hE11⟩:=(S3.low h5).el h10 rfl
      refine Sim.op (hE11.ld (j:=0) rfl) ?_
      refine Sim.ci ?_
      refine Sim.bd fun a12 h13 => ?_
      refine Sim.op ((S3.low h7).iS h13 rfl) ?_
      obtain ⟨_,rfl,hE14⟩:=(S3.low h7).el h13 rfl
      refine Sim.op (hE14.ld (j:=0) rfl) ?_
      refine Sim.ci ?_
      refine Sim.cq ?_ ?_
      · exact hE1 false H2 (S3.wk2 aN aN)
      exact ih x0 x1 x12 (IntKind.wrap .i64 (x13 + 1)) v4 h5 v6 h7 H2 (S3.wk2 aN aN)
    exact hE0 () H2 (S3.wk2 aN aN)
theorem slices_Equal_Lint_int_ok (k : Nat) {h : H} {σ : Stamp} (x0 : List Int) {u0 : V} (hu0 : SlH h (dI .i64) x0 u0) (x1 : List Int) {u1 : V} (hu1 : SlH h (dI .i64) x1 u1) : Sim (p_slices_Equal_Lint_int k x0 x1) (ev G X0 53 σ [u0,u1] h) (fun r s => s = ([.v (.p (.bool r))],h)):=by
  refine Sim.ev rfl (Sim.ext (slices_Equal_Lint_int_entry _ _ _ _ _ _) ?_)
  rw [p_slices_Equal_Lint_int]
  have S0 : Fm 26 h [] [] [] (List.replicate 26 []::h):=Fm.start0
  refine Sim.op ((S0.low hu0).len) ?_
  refine Sim.ci ?_
  refine Sim.op ((S0.low hu1).len) ?_
  refine Sim.ci ?_
  refine Sim.cq ?_ ?_
  · exact Sim.fin (S0.finN (lC (sB _).lv lN)) rfl
  refine Sim.op ((S0.low hu0).len) ?_
  refine Sim.ci ?_
  refine Sim.as (slices_Equal_Lint_int_l0_ok ?_ ?_ k x0 x1 ((x0.length : Int)) 0 u0 hu0 u1 hu1 (List.replicate 26 []::h) (S0.wk2 aN aN))
  · intro _u H21 S22
    refine Sim.ext (slices_Equal_Lint_int_a0_0 _ _ _ _) ?_
    exact Sim.fin (S22.finN (lC (sB _).lv lN)) rfl
  · intro r23_4 H24 S25
    refine Sim.ext (slices_Equal_Lint_int_a0_ret _ _ _ _ _) ?_
    exact Sim.fin (S25.finN (lC (sB _).lv lN)) rfl
end Go.Ev
namespace Go.Ev
open Go.Proofs
set_option linter.unusedVariables false
set_option linter.unusedSimpArgs false
set_option maxRecDepth 100000
noncomputable section
abbrev KT23:=Exit→Env→H→Option (List C × H)
variable (rec : CallF) (loop : LoopV) (σ : Stamp)
def slices_Equal_Luint32_uint32_c0 : Code:=(codeAt (bodyOf Try.f52) [1,1,0,1,0,0])
def slices_Equal_Luint32_uint32_l0 : Lv:=⟨0,16,[(0,0)]⟩
def slices_Equal_Luint32_uint32_k0 : KT23:=(kBlock 0 (kSeq G rec loop (codeAt (bodyOf Try.f52) [1,1,1]) ⟨16,16,[]⟩ (1::1::0::σ) (finC G false Try.f52 (1::σ))))
theorem slices_Equal_Luint32_uint32_entry (x0 : V) (x1 : V) (h : H) : cvBody G rec loop 52 σ [x0,x1] h =
(lenO x0).bind fun t1 =>
(castI .i64 t1).bind fun n2 =>
(lenO x1).bind fun t3 =>
(castI .i64 t3).bind fun n4 =>
bif n2 != n4 then (
fin false σ (List.replicate 26 []::h) [(.p (.bool false))])
else (
(lenO x0).bind fun t5 =>
(castI .i64 t5).bind fun n6 =>
(loop slices_Equal_Luint32_uint32_c0 slices_Equal_Luint32_uint32_l0 (1::0::1::1::0::σ) (envL [(0,x0),(1,x1),(12,(.p (.int .i64 n6))),(13,(.p (.int .i64 0)))]) (List.replicate 26 []::h)).bind fun r7 => slices_Equal_Luint32_uint32_k0 rec loop σ r7.1 r7.2.1 r7.2.2):=by kernel_rfl
theorem slices_Equal_Luint32_uint32_r0 (x0 : V) (x1 : V) (x12 : Int) (x13 : Int) (h : H) : cvRound G rec loop slices_Equal_Luint32_uint32_c0 slices_Equal_Luint32_uint32_l0 σ (envL [(0,x0),(1,x1),(12,(.p (.int .i64 x12))),(13,(.p (.int .i64 x13)))]) h =
bif decide (x13 < x12) then (
(iS 1 x0 x13).bind fun t8 =>
(ldO false 1 h t8).bind fun t9 =>
(castI .u32 t9).bind fun n10 =>
(iS 1 x1 x13).bind fun t11 =>
(ldO false 1 h t11).bind fun t12 =>
(castI .u32 t12).bind fun n13 =>
bif n10 != n13 then (
some (.ret,(envL [(4,(.p (.bool false)))]),h))
else (
loop slices_Equal_Luint32_uint32_c0 slices_Equal_Luint32_uint32_l0 (1::σ) (envL [(0,x0),(1,x1),(12,(.p (.int .i64 x12))),(13,(.p (.int .i64 (IntKind.wrap .i64 (x13 + 1)))))]) h))
else (
some ((.exit 0),(envL []),h)):=by kernel_rfl
theorem slices_Equal_Luint32_uint32_a0_0  (h : H) : slices_Equal_Luint32_uint32_k0 rec loop σ (.exit 0) (envL []) h =
fin false σ h [(.p (.bool true))]:=by kernel_rfl
theorem slices_Equal_Luint32_uint32_a0_ret (x4 : Bool) (h : H) : slices_Equal_Luint32_uint32_k0 rec loop σ .ret (envL [(4,(.p (.bool x4)))]) h =
fin false σ h [(.p (.bool x4))]:=by kernel_rfl
end
end Go.Ev
namespace Go.Ev
open Go.Proofs
set_option linter.unusedVariables false
set_option linter.unusedSimpArgs false
set_option maxRecDepth 100000
def p_slices_Equal_Luint32_uint32_l0 {β : Type} (k : Nat) (kE0 : Unit→Option β) (kE1 : Bool→Option β) (x0 : (List Int)) (x1 : (List Int)) (x12 : Int) (x13 : Int) : Option β:=match k with
| 0 => none
| k + 1 =>
bif decide (x13 < x12) then (
(ix x0 x13).bind fun a9 =>
(ix x1 x13).bind fun a12 =>
bif a9 != a12 then (
kE1 false)
else (
p_slices_Equal_Luint32_uint32_l0 k kE0 kE1 x0 x1 x12 (IntKind.wrap .i64 (x13 + 1))))
else (
kE0 ())
def p_slices_Equal_Luint32_uint32 (k : Nat) (x0 : (List Int)) (x1 : (List Int)) : Option (Bool) :=
bif ((x0.length : Int)) != ((x1.length : Int)) then (
some (false))
else (
p_slices_Equal_Luint32_uint32_l0 k (fun (_ : Unit) =>
some (true)) (fun r23_4 =>
some (r23_4)) x0 x1 ((x0.length : Int)) 0)
theorem slices_Equal_Luint32_uint32_l0_ok {h : H}  {β α : Type} {Q : β→α→Prop} {K : Exit × Env × H→Option α} {kE0 : Unit→Option β} {kE1 : Bool→Option β} (hE0 : ∀ (_u : Unit) (H16 : Go.Ev.H) (_ : Fm 26 h [] [] [] H16),Sim (kE0 ()) (K ((.exit 0),(envL []),H16)) Q) (hE1 : ∀ (q4 : Bool) (H18 : Go.Ev.H) (_ : Fm 26 h [] [] [] H18),Sim (kE1 q4) (K (.ret,(envL [(4,(.p (.bool q4)))]),H18)) Q) (k : Nat) : ∀ (x0 : (List Int)) (x1 : (List Int)) (x12 : Int) (x13 : Int) (v4 : V) (h5 : SlH h (dI .u32) x0 v4) (v6 : V) (h7 : SlH h (dI .u32) x1 v6) (H2 : Go.Ev.H) (_ : Fm 26 h [] [] [] H2) {σ : Stamp},Sim (p_slices_Equal_Luint32_uint32_l0 k kE0 kE1 x0 x1 x12 x13) ((cvL G X0 slices_Equal_Luint32_uint32_c0 slices_Equal_Luint32_uint32_l0 σ (envL [(0,v4),(1,v6),(12,(.p (.int .i64 x12))),(13,(.p (.int .i64 x13)))]) H2).bind K) Q:=by
  induction k with
  | zero => intros; exact Sim.no
  | succ k ih =>
    intro x0 x1 x12 x13 v4 h5 v6 h7 H2 S3 σ
    rw [p_slices_Equal_Luint32_uint32_l0]
    refine Sim.round (Sim.ext (slices_Equal_Luint32_uint32_r0 _ _ _ _ _ _ _ _) ?_)
    refine Sim.cq ?_ ?_
    · refine Sim.bd fun a9 h10 => ?_
      refine Sim.op ((S3.low h5).iS h10 rfl) ?_
      obtain ⟨_,rfl,hE11⟩:=(S3.low h5).el h10 rfl
      refine Sim.op (hE11.ld (j:=0) rfl) ?_
      refine Sim.ci ?_
      refine Sim.bd fun a12 h13 => ?_
      refine Sim.op ((S3.low h7).iS h13 rfl) ?_
      obtain ⟨_,rfl,hE14⟩:=(S3.low h7).el h13 rfl
      refine Sim.op (hE14.ld (j:=0) rfl) ?_
      refine Sim.ci ?_
      refine Sim.cq ?_ ?_
      · exact hE1 false H2 (S3.wk2 aN aN)
      exact ih x0 x1 x12 (IntKind.wrap .i64 (x13 + 1)) v4 h5 v6 h7 H2 (S3.wk2 aN aN)
    exact hE0 () H2 (S3.wk2 aN aN)
theorem slices_Equal_Luint32_uint32_ok (k : Nat) {h : H} {σ : Stamp} (x0 : List Int) {u0 : V} (hu0 : SlH h (dI .u32) x0 u0) (x1 : List Int) {u1 : V} (hu1 : SlH h (dI .u32) x1 u1) : Sim (p_slices_Equal_Luint32_uint32 k x0 x1) (ev G X0 52 σ [u0,u1] h) (fun r s => s = ([.v (.p (.bool r))],h)):=by
  refine Sim.ev rfl (Sim.ext (slices_Equal_Luint32_uint32_entry _ _ _ _ _ _) ?_)
  rw [p_slices_Equal_Luint32_uint32]
  have S0 : Fm 26 h [] [] [] (List.replicate 26 []::h):=Fm.start0
  refine Sim.op ((S0.low hu0).len) ?_
  refine Sim.ci ?_
  refine Sim.op ((S0.low hu1).len) ?_
  refine Sim.ci ?_
  refine Sim.cq ?_ ?_
  · exact Sim.fin (S0.finN (lC (sB _).lv lN)) rfl
  refine Sim.op ((S0.low hu0).len) ?_
  refine Sim.ci ?_
  refine Sim.as (slices_Equal_Luint32_uint32_l0_ok ?_ ?_ k x0 x1 ((x0.length : Int)) 0 u0 hu0 u1 hu1 (List.replicate 26 []::h) (S0.wk2 aN aN))
  · intro _u H21 S22
    refine Sim.ext (slices_Equal_Luint32_uint32_a0_0 _ _ _ _) ?_
    exact Sim.fin (S22.finN (lC (sB _).lv lN)) rfl
  · intro r23_4 H24 S25
    refine Sim.ext (slices_Equal_Luint32_uint32_a0_ret _ _ _ _ _) ?_
    exact Sim.fin (S25.finN (lC (sB _).lv lN)) rfl
def p_rtcp_Same (k : Nat) (x0 : TaiReport) (x1 : TaiReport) : Option (Bool) :=
(bif x0.Kind == x1.Kind then (some (x0.From == x1.From)) else (some false)).bind fun b25 =>
(bif b25 then (some (x0.About == x1.About)) else (some false)).bind fun b29 =>
(bif b29 then ((p_slices_Equal_Lapi_Tuple_api_Tuple k x0.Tuples x1.Tuples).bind fun r33 =>
some r33) else (some false)).bind fun b38 =>
(bif b38 then ((p_slices_Equal_Luint32_uint32 k x0.Abouts x1.Abouts).bind fun r42 =>
some r42) else (some false)).bind fun b47 =>
(bif b47 then ((p_slices_Equal_Lint_int k x0.Numbers x1.Numbers).bind fun r51 =>
some r51) else (some false)).bind fun b56 =>
(bif b56 then (some (x0.Rate == x1.Rate)) else (some false)).bind fun b60 =>
(bif b60 then (some (x0.f_Type == x1.f_Type)) else (some false)).bind fun b64 =>
(bif b64 then (some (x0.Count == x1.Count)) else (some false)).bind fun b68 =>
(bif b68 then ((p_slices_Equal_Lbyte_byte k x0.Body x1.Body).bind fun r72 =>
some r72) else (some false)).bind fun b77 =>
some (b77)
theorem rtcp_Same_ok (k : Nat) {h : H} {σ : Stamp} (x0 : TaiReport) {u0 : List V} (hu0 : dTaiReport.R x0 u0) (x1 : TaiReport) {u1 : List V} (hu1 : dTaiReport.R x1 u1) : Sim (p_rtcp_Same k x0 x1) (ev G X0 22 σ [(.agg u0),(.agg u1)] h) (fun r s => s = ([.v (.p (.bool r))],h)):=by
  refine Sim.ev rfl (Sim.ext (rtcp_Same_entry _ _ _ _ _ _) ?_)
  rw [p_rtcp_Same]
  obtain ⟨v1,v3,v5,v7,rfl,h2,h4,h6,h8⟩:=dTaiReport.inv hu0
  obtain ⟨v9,v11,v13,v15,rfl,h10,h12,h14,h16⟩:=dTaiReport.inv hu1
  have S0 : Fm 73 h [] [] [] (List.replicate 73 []::h):=Fm.start0
  obtain ⟨H17,e18,S19⟩:=S0.box (own:=false) (d:=2) (s:=(0::0::0::σ)) (xs:=[(.p (.int .i64 x0.Kind)),(.p (.int .u32 x0.From)),(.p (.int .u32 x0.About)),v1,v3,v5,(.p (.int .u64 x0.Rate)),(.p (.int .i64 x0.f_Type)),(.p (.int .i64 x0.Count)),v7]) (sC (sI _ _) (sC (sI _ _) (sC (sI _ _) (sC h2.still (sC h4.still (sC h6.still (sC (sI _ _) (sC (sI _ _) (sC (sI _ _) (sC h8.still sN)))))))))) (by decide) rfl
  refine Sim.op (e18) ?_
  obtain ⟨H21,e22,S23⟩:=S19.box (own:=false) (d:=3) (s:=(1::0::0::σ)) (xs:=[(.p (.int .i64 x1.Kind)),(.p (.int .u32 x1.From)),(.p (.int .u32 x1.About)),v9,v11,v13,(.p (.int .u64 x1.Rate)),(.p (.int .i64 x1.f_Type)),(.p (.int .i64 x1.Count)),v15]) (sC (sI _ _) (sC (sI _ _) (sC (sI _ _) (sC h10.still (sC h12.still (sC h14.still (sC (sI _ _) (sC (sI _ _) (sC (sI _ _) (sC h16.still sN)))))))))) (by decide) rfl
  refine Sim.op (e22) ?_
  refine Sim.fa ?_
  refine Sim.op ((S23.atG (i:=1) rfl).ld (j:=0) rfl) ?_
  refine Sim.ci ?_
  refine Sim.fa ?_
  refine Sim.op ((S23.atG (i:=0) rfl).ld (j:=0) rfl) ?_
  refine Sim.ci ?_
  refine Sim.ch (P:=fun r y => r = y) ?_ (fun b25 y26 h27 h28 => ?_)
  · refine Sim.cq ?_ ?_
    · refine Sim.fa ?_
      refine Sim.op ((S23.atG (i:=1) rfl).ld (j:=1) rfl) ?_
      refine Sim.ci ?_
      refine Sim.fa ?_
      refine Sim.op ((S23.atG (i:=0) rfl).ld (j:=1) rfl) ?_
      refine Sim.ci ?_
      exact Sim.ret rfl rfl
    · exact Sim.ret rfl rfl
  subst h28
  refine Sim.ch (P:=fun r y => r = y) ?_ (fun b29 y30 h31 h32 => ?_)
  · refine Sim.cq ?_ ?_
    · refine Sim.fa ?_
      refine Sim.op ((S23.atG (i:=1) rfl).ld (j:=2) rfl) ?_
      refine Sim.ci ?_
      refine Sim.fa ?_
      refine Sim.op ((S23.atG (i:=0) rfl).ld (j:=2) rfl) ?_
      refine Sim.ci ?_
      exact Sim.ret rfl rfl
    · exact Sim.ret rfl rfl
  subst h32
  refine Sim.ch (P:=fun r y => (.p (.bool r),H21) = y) ?_ (fun b38 y39 h40 h41 => ?_)
  · refine Sim.cq ?_ ?_
    · refine Sim.fa ?_
      refine Sim.op ((S23.atG (i:=1) rfl).ld (j:=3) rfl) ?_
      refine Sim.fa ?_
      refine Sim.op ((S23.atG (i:=0) rfl).ld (j:=3) rfl) ?_
      refine Sim.call (slices_Equal_Lapi_Tuple_api_Tuple_ok k x0.Tuples (h2.h H21) x1.Tuples (h10.h H21)) fun r33 cs34 H35 h36 q37 => ?_
      cases q37
      refine Sim.ab ?_
      exact Sim.ret rfl rfl
    · exact Sim.ret rfl rfl
  subst h41
  refine Sim.ab ?_
  refine Sim.ch (P:=fun r y => (.p (.bool r),H21) = y) ?_ (fun b47 y48 h49 h50 => ?_)
  · refine Sim.cq ?_ ?_
    · refine Sim.fa ?_
      refine Sim.op ((S23.atG (i:=1) rfl).ld (j:=4) rfl) ?_
      refine Sim.fa ?_
      refine Sim.op ((S23.atG (i:=0) rfl).ld (j:=4) rfl) ?_
      refine Sim.call (slices_Equal_Luint32_uint32_ok k x0.Abouts (h4.h H21) x1.Abouts (h12.h H21)) fun r42 cs43 H44 h45 q46 => ?_
      cases q46
      refine Sim.ab ?_
      exact Sim.ret rfl rfl
    · exact Sim.ret rfl rfl
  subst h50
  refine Sim.ab ?_
  refine Sim.ch (P:=fun r y => (.p (.bool r),H21) = y) ?_ (fun b56 y57 h58 h59 => ?_)
  · refine Sim.cq ?_ ?_
    · refine Sim.fa ?_
      refine Sim.op ((S23.atG (i:=1) rfl).ld (j:=5) rfl) ?_
      refine Sim.fa ?_
      refine Sim.op ((S23.atG (i:=0) rfl).ld (j:=5) rfl) ?_
      refine Sim.call (slices_Equal_Lint_int_ok k x0.Numbers (h6.h H21) x1.Numbers (h14.h H21)) fun r51 cs52 H53 h54 q55 => ?_
      cases q55
      refine Sim.ab ?_
      exact Sim.ret rfl rfl
    · exact Sim.ret rfl rfl
  subst h59
  refine Sim.ab ?_
  refine Sim.ch (P:=fun r y => r = y) ?_ (fun b60 y61 h62 h63 => ?_)
  · refine Sim.cq ?_ ?_
    · refine Sim.fa ?_
      refine Sim.op ((S23.atG (i:=1) rfl).ld (j:=6) rfl) ?_
      refine Sim.ci ?_
      refine Sim.fa ?_
      refine Sim.op ((S23.atG (i:=0) rfl).ld (j:=6) rfl) ?_
      refine Sim.ci ?_
      exact Sim.ret rfl rfl
    · exact Sim.ret rfl rfl
  subst h63
  refine Sim.ch (P:=fun r y => r = y) ?_ (fun b64 y65 h66 h67 => ?_)
  · refine Sim.cq ?_ ?_
    · refine Sim.fa ?_
      refine Sim.op ((S23.atG (i:=1) rfl).ld (j:=7) rfl) ?_
      refine Sim.ci ?_
      refine Sim.fa ?_
      refine Sim.op ((S23.atG (i:=0) rfl).ld (j:=7) rfl) ?_
      refine Sim.ci ?_
      exact Sim.ret rfl rfl
    · exact Sim.ret rfl rfl
  subst h67
  refine Sim.ch (P:=fun r y => r = y) ?_ (fun b68 y69 h70 h71 => ?_)
  · refine Sim.cq ?_ ?_
    · refine Sim.fa ?_
      refine Sim.op ((S23.atG (i:=1) rfl).ld (j:=8) rfl) ?_
      refine Sim.ci ?_
      refine Sim.fa ?_
      refine Sim.op ((S23.atG (i:=0) rfl).ld (j:=8) rfl) ?_
      refine Sim.ci ?_
      exact Sim.ret rfl rfl
    · exact Sim.ret rfl rfl
  subst h71
  refine Sim.ch (P:=fun r y => (.p (.bool r),H21) = y) ?_ (fun b77 y78 h79 h80 => ?_)
  · refine Sim.cq ?_ ?_
    · refine Sim.fa ?_
      refine Sim.op ((S23.atG (i:=1) rfl).ld (j:=9) rfl) ?_
      refine Sim.fa ?_
      refine Sim.op ((S23.atG (i:=0) rfl).ld (j:=9) rfl) ?_
      refine Sim.call (slices_Equal_Lbyte_byte_ok k x0.Body (h8.h H21) x1.Body (h16.h H21)) fun r72 cs73 H74 h75 q76 => ?_
      cases q76
      refine Sim.ab ?_
      exact Sim.ret rfl rfl
    · exact Sim.ret rfl rfl
  subst h80
  refine Sim.ab ?_
  exact Sim.fin (S23.finN (lC (sB _).lv lN)) rfl
def p_zl6_known (k : Nat)  : Option (Bool) :=
(p_rtcp_Bytes k ([((⟨3,1,2,(([] : List TaiTuple)),(([] : List Int)),(([] : List Int)),0,0,0,(([] : List Int))⟩ : TaiReport)),((⟨5,0,0,(([] : List TaiTuple)),([5]),(([] : List Int)),8000,0,0,(([] : List Int))⟩ : TaiReport))])).bind fun r10 =>
(p_rtcp_Read k r10.1).bind fun r17 =>
(p_rtcp_Read k (([] : List Int))).bind fun r24 =>
(p_rtcp_Bytes k (([] : List TaiReport))).bind fun r31 =>
(p_rtcp_Read k ([161,206,0,0])).bind fun r39 =>
(bif r10.2 == 0 then (some (((r10.1.length : Int)) == 36)) else (some false)).bind fun b46 =>
(bif b46 then ((sub r10.1 0 4).bind fun a50 =>
some ((strB a50).toList == ((⟨#[129,206,0,2]⟩ : ByteArray)).toList)) else (some false)).bind fun b52 =>
(bif b52 then (some (r17.2 == 0)) else (some false)).bind fun b56 =>
(bif b56 then (some (((r17.1.length : Int)) == 2)) else (some false)).bind fun b60 =>
(bif b60 then ((ix r17.1 0).bind fun a64 =>
(p_rtcp_Same k a64 ((⟨3,1,2,(([] : List TaiTuple)),(([] : List Int)),(([] : List Int)),0,0,0,(([] : List Int))⟩ : TaiReport))).bind fun r77 =>
some r77) else (some false)).bind fun b82 =>
(bif b82 then ((ix r17.1 1).bind fun a86 =>
some (a86.Rate == 8000)) else (some false)).bind fun b110 =>
(bif b110 then (some (r24.2 == 13)) else (some false)).bind fun b114 =>
(bif b114 then (some (r31.2 == 1)) else (some false)).bind fun b118 =>
(bif b118 then (some (r39.2 == 12)) else (some false)).bind fun b122 =>
(bif b122 then ((p_rtcp_Is r10.1).bind fun r126 =>
some r126) else (some false)).bind fun b131 =>
(bif b131 then ((p_rtcp_Is (([] : List Int))).bind fun r135 =>
some (!r135)) else (some false)).bind fun b140 =>
(bif b140 then ((p_rtcp_Is ([128,96])).bind fun r145 =>
some (!r145)) else (some false)).bind fun b150 =>
(bif b150 then ((p_rtcp_Right k ((⟨0,0,0,(([] : List TaiTuple)),(([] : List Int)),(([] : List Int)),0,0,0,(([] : List Int))⟩ : TaiReport))).bind fun r154 =>
some (r154 == 12)) else (some false)).bind fun b159 =>
some (b159)
theorem zl6_known_ok (k : Nat) {h : H} {σ : Stamp}  : Sim (p_zl6_known k ) (ev G X0 20 σ [] h) (fun r s => s = ([.v (.p (.bool r))],h)):=by
  refine Sim.ev rfl (Sim.ext (zl6_known_entry _ _ _ _) ?_)
  rw [p_zl6_known]
  have S0 : Fm 105 h [] [] [] (List.replicate 105 []::h):=Fm.start0
  refine Sim.op (bldV (pC rfl (pC rfl (pC rfl pN))) (by kernel_rfl : _ = some (.agg [.p (.int .i64 3),.p (.int .u32 1),.p (.int .u32 2),.p (.slice none 0 0),.p (.slice none 0 0),.p (.slice none 0 0),.p (.int .u64 0),.p (.int .i64 0),.p (.int .i64 0),.p (.slice none 0 0)]))) ?_
  obtain ⟨H1,e2,S3⟩:=S0.al (d:=1) (s:=(1::0::1::0::σ)) (z:=[(.p (.int .i64 0)),(.p (.int .u32 0)),(.p (.int .u32 0)),(.p (.slice none 0 0)),(.p (.slice none 0 0)),(.p (.slice none 0 0)),(.p (.int .u64 0)),(.p (.int .i64 0)),(.p (.int .i64 0)),(.p (.slice none 0 0))]) (by decide) rfl
  refine Sim.op (congrArg some e2) ?_
  obtain ⟨H5,e6,S7⟩:=S3.stGv (i:=0) (j:=0) (own:=false) (σ:=(2::0::1::0::σ)) (xs:=[.p (.int .i64 3),.p (.int .u32 1),.p (.int .u32 2),.p (.slice none 0 0),.p (.slice none 0 0),.p (.slice none 0 0),.p (.int .u64 0),.p (.int .i64 0),.p (.int .i64 0),.p (.slice none 0 0)]) rfl rfl (sC (sI _ _) (sC (sI _ _) (sC (sI _ _) (sC (SlF.nil dTaiTuple).still (sC (SlF.nil (dI .u32)).still (sC (SlF.nil (dI .i64)).still (sC (sI _ _) (sC (sI _ _) (sC (sI _ _) (sC (SlF.nil (dI .u8)).still sN)))))))))) rfl rfl
  refine Sim.op (sM e6) ?_
  refine Sim.op ((S7.atG (i:=0) rfl).ldVs (j:=0) (xs:=[.p (.int .i64 3),.p (.int .u32 1),.p (.int .u32 2),.p (.slice none 0 0),.p (.slice none 0 0),.p (.slice none 0 0),.p (.int .u64 0),.p (.int .i64 0),.p (.int .i64 0),.p (.slice none 0 0)]) rfl rfl (by decide)) ?_
  have h8:=SlF.int1 .u32 5
  refine Sim.op (bldS (pC rfl pN) (by kernel_rfl : _ = some (vOf h8))) ?_
  refine Sim.op (bldV (pC rfl (pC rfl (pC h8.still.cells pN))) (by kernel_rfl : _ = some (.agg [.p (.int .i64 5),.p (.int .u32 0),.p (.int .u32 0),.p (.slice none 0 0),.fz [(.p (.int .u32 5))] 1 1 true,.p (.slice none 0 0),.p (.int .u64 8000),.p (.int .i64 0),.p (.int .i64 0),.p (.slice none 0 0)]))) ?_
  have h9 : SlF dTaiReport [((⟨3,1,2,(([] : List TaiTuple)),(([] : List Int)),(([] : List Int)),0,0,0,(([] : List Int))⟩ : TaiReport)),((⟨5,0,0,(([] : List TaiTuple)),([5]),(([] : List Int)),8000,0,0,(([] : List Int))⟩ : TaiReport))] (.fz [(.p (.int .i64 3)),(.p (.int .u32 1)),(.p (.int .u32 2)),(.p (.slice none 0 0)),(.p (.slice none 0 0)),(.p (.slice none 0 0)),(.p (.int .u64 0)),(.p (.int .i64 0)),(.p (.int .i64 0)),(.p (.slice none 0 0)),(.p (.int .i64 5)),(.p (.int .u32 0)),(.p (.int .u32 0)),(.p (.slice none 0 0)),(.fz [(.p (.int .u32 5))] 1 1 true),(.p (.slice none 0 0)),(.p (.int .u64 8000)),(.p (.int .i64 0)),(.p (.int .i64 0)),(.p (.slice none 0 0))] 2 10 true):=SlF.lit (cs:=[(.p (.int .i64 3)),(.p (.int .u32 1)),(.p (.int .u32 2)),(.p (.slice none 0 0)),(.p (.slice none 0 0)),(.p (.slice none 0 0)),(.p (.int .u64 0)),(.p (.int .i64 0)),(.p (.int .i64 0)),(.p (.slice none 0 0)),(.p (.int .i64 5)),(.p (.int .u32 0)),(.p (.int .u32 0)),(.p (.slice none 0 0)),(.fz [(.p (.int .u32 5))] 1 1 true),(.p (.slice none 0 0)),(.p (.int .u64 8000)),(.p (.int .i64 0)),(.p (.int .i64 0)),(.p (.slice none 0 0))]) (RL.cons (show dTaiReport.R ((⟨3,1,2,(([] : List TaiTuple)),(([] : List Int)),(([] : List Int)),0,0,0,(([] : List Int))⟩ : TaiReport)) [.p (.int .i64 3),.p (.int .u32 1),.p (.int .u32 2),.p (.slice none 0 0),.p (.slice none 0 0),.p (.slice none 0 0),.p (.int .u64 0),.p (.int .i64 0),.p (.int .i64 0),.p (.slice none 0 0)] from (dTaiReport.mk (SlF.nil dTaiTuple) (SlF.nil (dI .u32)) (SlF.nil (dI .i64)) (SlF.nil (dI .u8)))) (RL.cons (show dTaiReport.R ((⟨5,0,0,(([] : List TaiTuple)),([5]),(([] : List Int)),8000,0,0,(([] : List Int))⟩ : TaiReport)) [.p (.int .i64 5),.p (.int .u32 0),.p (.int .u32 0),.p (.slice none 0 0),.fz [(.p (.int .u32 5))] 1 1 true,.p (.slice none 0 0),.p (.int .u64 8000),.p (.int .i64 0),.p (.int .i64 0),.p (.slice none 0 0)] from (dTaiReport.mk (SlF.nil dTaiTuple) h8 (SlF.nil (dI .i64)) (SlF.nil (dI .u8)))) RL.nil)) rfl rfl true
  refine Sim.op (bldS (pC (c:=[.p (.int .i64 3),.p (.int .u32 1),.p (.int .u32 2),.p (.slice none 0 0),.p (.slice none 0 0),.p (.slice none 0 0),.p (.int .u64 0),.p (.int .i64 0),.p (.int .i64 0),.p (.slice none 0 0)]) rfl (pC (c:=[.p (.int .i64 5),.p (.int .u32 0),.p (.int .u32 0),.p (.slice none 0 0),.fz [(.p (.int .u32 5))] 1 1 true,.p (.slice none 0 0),.p (.int .u64 8000),.p (.int .i64 0),.p (.int .i64 0),.p (.slice none 0 0)]) rfl pN)) (by kernel_rfl : _ = some (vOf h9))) ?_
  erw [callFO_eq (frzAs_cons (frzA_F h9) frzAs_nil)]
  refine Sim.call (rtcp_Bytes_ok k ([((⟨3,1,2,(([] : List TaiTuple)),(([] : List Int)),(([] : List Int)),0,0,0,(([] : List Int))⟩ : TaiReport)),((⟨5,0,0,(([] : List TaiTuple)),([5]),(([] : List Int)),8000,0,0,(([] : List Int))⟩ : TaiReport))]) (h9.h H5)) fun r10 cs11 H12 h13 q14 => ?_
  obtain ⟨v15,h16,q14⟩:=q14
  cases q14
  refine Sim.or ?_
  refine Sim.or ?_
  refine Sim.ci ?_
  erw [callFO_eq (frzAs_cons (frzA_F h16) frzAs_nil)]
  refine Sim.call (rtcp_Read_ok k r10.1 h16) fun r17 cs18 H19 h20 q21 => ?_
  obtain ⟨v22,h23,q21⟩:=q21
  cases q21
  refine Sim.or ?_
  refine Sim.or ?_
  refine Sim.ci ?_
  erw [callFO_eq (frzAs_cons (frzA_F (SlF.nil (dI .u8))) frzAs_nil)]
  refine Sim.call (rtcp_Read_ok k (([] : List Int)) (SlF.nil (dI .u8))) fun r24 cs25 H26 h27 q28 => ?_
  obtain ⟨v29,h30,q28⟩:=q28
  cases q28
  refine Sim.or ?_
  refine Sim.or ?_
  refine Sim.ci ?_
  erw [callFO_eq (frzAs_cons (frzA_F (SlF.nil dTaiReport)) frzAs_nil)]
  refine Sim.call (rtcp_Bytes_ok k (([] : List TaiReport)) ((SlF.nil dTaiReport).h H5)) fun r31 cs32 H33 h34 q35 => ?_
  obtain ⟨v36,h37,q35⟩:=q35
  cases q35
  refine Sim.or ?_
  refine Sim.or ?_
  refine Sim.ci ?_
  have h38 : SlF (dI .u8) [161,206,0,0] (.fz [(.p (.int .u8 161)),(.p (.int .u8 206)),(.p (.int .u8 0)),(.p (.int .u8 0))] 4 1 true):=SlF.lit (cs:=[(.p (.int .u8 161)),(.p (.int .u8 206)),(.p (.int .u8 0)),(.p (.int .u8 0))]) (RL.cons (show (dI .u8).R 161 [(.p (.int .u8 161))] from rfl) (RL.cons (show (dI .u8).R 206 [(.p (.int .u8 206))] from rfl) (RL.cons (show (dI .u8).R 0 [(.p (.int .u8 0))] from rfl) (RL.cons (show (dI .u8).R 0 [(.p (.int .u8 0))] from rfl) RL.nil)))) rfl rfl true
  refine Sim.op (bldS (pC rfl (pC rfl (pC rfl (pC rfl pN)))) (by kernel_rfl : _ = some (vOf h38))) ?_
  erw [callFO_eq (frzAs_cons (frzA_F h38) frzAs_nil)]
  refine Sim.call (rtcp_Read_ok k ([161,206,0,0]) h38) fun r39 cs40 H41 h42 q43 => ?_
  obtain ⟨v44,h45,q43⟩:=q43
  cases q43
  refine Sim.or ?_
  refine Sim.or ?_
  refine Sim.ci ?_
  refine Sim.ch (P:=fun r y => r = y) ?_ (fun b46 y47 h48 h49 => ?_)
  · refine Sim.cq ?_ ?_
    · refine Sim.op ((h16.h H5).len) ?_
      refine Sim.ci ?_
      exact Sim.ret rfl rfl
    · exact Sim.ret rfl rfl
  subst h49
  refine Sim.ch (P:=fun r y => r = y) ?_ (fun b52 y53 h54 h55 => ?_)
  · refine Sim.cq ?_ ?_
    · refine Sim.bd fun a50 h51 => ?_
      refine Sim.op ((h16.h H5).slS h51 rfl rfl rfl) ?_
      refine Sim.op (((h16.h H5).sub h51 (e:=1) rfl).str) ?_
      refine Sim.op (castS_p _) ?_
      exact Sim.ret rfl rfl
    · exact Sim.ret rfl rfl
  subst h55
  refine Sim.ch (P:=fun r y => r = y) ?_ (fun b56 y57 h58 h59 => ?_)
  · refine Sim.cq ?_ ?_
    · exact Sim.ret rfl rfl
    · exact Sim.ret rfl rfl
  subst h59
  refine Sim.ch (P:=fun r y => r = y) ?_ (fun b60 y61 h62 h63 => ?_)
  · refine Sim.cq ?_ ?_
    · refine Sim.op ((h23.h H5).len) ?_
      refine Sim.ci ?_
      exact Sim.ret rfl rfl
    · exact Sim.ret rfl rfl
  subst h63
  refine Sim.ch (P:=fun r y => (.p (.bool r),H5) = y) ?_ (fun b82 y83 h84 h85 => ?_)
  · refine Sim.cq ?_ ?_
    · refine Sim.bd fun a64 h65 => ?_
      refine Sim.op ((h23.h H5).iS h65 rfl) ?_
      obtain ⟨w67,h68,hE66⟩:=(h23.h H5).el h65 rfl
      obtain ⟨v69,v71,v73,v75,rfl,h70,h72,h74,h76⟩:=dTaiReport.inv h68
      refine Sim.op (hE66.all (by simp)) ?_
      refine Sim.op ((S7.atG (i:=0) rfl).ldVs (j:=0) (xs:=[.p (.int .i64 3),.p (.int .u32 1),.p (.int .u32 2),.p (.slice none 0 0),.p (.slice none 0 0),.p (.slice none 0 0),.p (.int .u64 0),.p (.int .i64 0),.p (.int .i64 0),.p (.slice none 0 0)]) rfl rfl (by decide)) ?_
      refine Sim.call (rtcp_Same_ok k a64 (show dTaiReport.R a64 [.p (.int .i64 a64.Kind),.p (.int .u32 a64.From),.p (.int .u32 a64.About),v69,v71,v73,.p (.int .u64 a64.Rate),.p (.int .i64 a64.f_Type),.p (.int .i64 a64.Count),v75] from (dTaiReport.mk h70 h72 h74 h76)) ((⟨3,1,2,(([] : List TaiTuple)),(([] : List Int)),(([] : List Int)),0,0,0,(([] : List Int))⟩ : TaiReport)) (show dTaiReport.R ((⟨3,1,2,(([] : List TaiTuple)),(([] : List Int)),(([] : List Int)),0,0,0,(([] : List Int))⟩ : TaiReport)) [.p (.int .i64 3),.p (.int .u32 1),.p (.int .u32 2),.p (.slice none 0 0),.p (.slice none 0 0),.p (.slice none 0 0),.p (.int .u64 0),.p (.int .i64 0),.p (.int .i64 0),.p (.slice none 0 0)] from (dTaiReport.mk (SlF.nil dTaiTuple) (SlF.nil (dI .u32)) (SlF.nil (dI .i64)) (SlF.nil (dI .u8))))) fun r77 cs78 H79 h80 q81 => ?_
      cases q81
      refine Sim.ab ?_
      exact Sim.ret rfl rfl
    · exact Sim.ret rfl rfl
  subst h85
  refine Sim.ab ?_
  refine Sim.ch (P:=fun r y => r = y) ?_ (fun b110 y111 h112 h113 => ?_)
  · refine Sim.cq ?_ ?_
    · refine Sim.bd fun a86 h87 => ?_
      refine Sim.op ((h23.h H5).iS h87 rfl) ?_
      obtain ⟨w89,h90,hE88⟩:=(h23.h H5).el h87 rfl
      obtain ⟨v91,v93,v95,v97,rfl,h92,h94,h96,h98⟩:=dTaiReport.inv h90
      refine Sim.op (hE88.fa (j:=6) (by simp)) ?_
      obtain ⟨w100,h101,hE99⟩:=(h23.h H5).el h87 rfl
      obtain ⟨v102,v104,v106,v108,rfl,h103,h105,h107,h109⟩:=dTaiReport.inv h101
      refine Sim.op (hE99.ld (j:=6) rfl) ?_
      refine Sim.ci ?_
      exact Sim.ret rfl rfl
    · exact Sim.ret rfl rfl
  subst h113
  refine Sim.ch (P:=fun r y => r = y) ?_ (fun b114 y115 h116 h117 => ?_)
  · refine Sim.cq ?_ ?_
    · exact Sim.ret rfl rfl
    · exact Sim.ret rfl rfl
  subst h117
  refine Sim.ch (P:=fun r y => r = y) ?_ (fun b118 y119 h120 h121 => ?_)
  · refine Sim.cq ?_ ?_
    · exact Sim.ret rfl rfl
    · exact Sim.ret rfl rfl
  subst h121
  refine Sim.ch (P:=fun r y => r = y) ?_ (fun b122 y123 h124 h125 => ?_)
  · refine Sim.cq ?_ ?_
    · exact Sim.ret rfl rfl
    · exact Sim.ret rfl rfl
  subst h125
  refine Sim.ch (P:=fun r y => (.p (.bool r),H5) = y) ?_ (fun b131 y132 h133 h134 => ?_)
  · refine Sim.cq ?_ ?_
    · refine Sim.call (rtcp_Is_ok r10.1 (h16.h H5)) fun r126 cs127 H128 h129 q130 => ?_
      cases q130
      refine Sim.ab ?_
      exact Sim.ret rfl rfl
    · exact Sim.ret rfl rfl
  subst h134
  refine Sim.ab ?_
  refine Sim.ch (P:=fun r y => (.p (.bool r),H5) = y) ?_ (fun b140 y141 h142 h143 => ?_)
  · refine Sim.cq ?_ ?_
    · refine Sim.call (rtcp_Is_ok (([] : List Int)) ((SlF.nil (dI .u8)).h H5)) fun r135 cs136 H137 h138 q139 => ?_
      cases q139
      refine Sim.ab ?_
      exact Sim.ret rfl rfl
    · exact Sim.ret rfl rfl
  subst h143
  refine Sim.ab ?_
  refine Sim.ch (P:=fun r y => (.p (.bool r),H5) = y) ?_ (fun b150 y151 h152 h153 => ?_)
  · refine Sim.cq ?_ ?_
    · have h144 : SlF (dI .u8) [128,96] (.fz [(.p (.int .u8 128)),(.p (.int .u8 96))] 2 1 true):=SlF.lit (cs:=[(.p (.int .u8 128)),(.p (.int .u8 96))]) (RL.cons (show (dI .u8).R 128 [(.p (.int .u8 128))] from rfl) (RL.cons (show (dI .u8).R 96 [(.p (.int .u8 96))] from rfl) RL.nil)) rfl rfl true
      refine Sim.op (bldS (pC rfl (pC rfl pN)) (by kernel_rfl : _ = some (vOf h144))) ?_
      refine Sim.call (rtcp_Is_ok ([128,96]) (h144.h H5)) fun r145 cs146 H147 h148 q149 => ?_
      cases q149
      refine Sim.ab ?_
      exact Sim.ret rfl rfl
    · exact Sim.ret rfl rfl
  subst h153
  refine Sim.ab ?_
  refine Sim.ch (P:=fun r y => (.p (.bool r),H5) = y) ?_ (fun b159 y160 h161 h162 => ?_)
  · refine Sim.cq ?_ ?_
    · refine Sim.op (bldV pN (by kernel_rfl : _ = some (.agg [.p (.int .i64 0),.p (.int .u32 0),.p (.int .u32 0),.p (.slice none 0 0),.p (.slice none 0 0),.p (.slice none 0 0),.p (.int .u64 0),.p (.int .i64 0),.p (.int .i64 0),.p (.slice none 0 0)]))) ?_
      refine Sim.call (rtcp_Right_ok k ((⟨0,0,0,(([] : List TaiTuple)),(([] : List Int)),(([] : List Int)),0,0,0,(([] : List Int))⟩ : TaiReport)) (show dTaiReport.R ((⟨0,0,0,(([] : List TaiTuple)),(([] : List Int)),(([] : List Int)),0,0,0,(([] : List Int))⟩ : TaiReport)) [.p (.int .i64 0),.p (.int .u32 0),.p (.int .u32 0),.p (.slice none 0 0),.p (.slice none 0 0),.p (.slice none 0 0),.p (.int .u64 0),.p (.int .i64 0),.p (.int .i64 0),.p (.slice none 0 0)] from (dTaiReport.mk (SlF.nil dTaiTuple) (SlF.nil (dI .u32)) (SlF.nil (dI .i64)) (SlF.nil (dI .u8))))) fun r154 cs155 H156 h157 q158 => ?_
      cases q158
      refine Sim.ci ?_
      exact Sim.ret rfl rfl
    · exact Sim.ret rfl rfl
  subst h162
  refine Sim.ab ?_
  exact Sim.fin (S7.finN (lC (sB _).lv lN)) rfl
end Go.Ev
namespace Go.Ev
open Go.Proofs
set_option linter.unusedVariables false
set_option linter.unusedSimpArgs false
set_option maxRecDepth 100000
noncomputable section
abbrev KT24:=Exit→Env→H→Option (List C × H)
variable (rec : CallF) (loop : LoopV) (σ : Stamp)
theorem zl6_odd_entry (x0 : V) (x1 : Int) (x2 : Int) (h : H) : cvBody G rec loop 17 σ [x0,(.p (.int .i64 x1)),(.p (.int .i64 x2))] h =
(boxO false (0::0::0::σ) 3 (List.replicate 90 []::h) x0).bind fun q1 =>
(some (alO [.p (.int .i64 0),.p (.int .u32 0),.p (.int .u32 0),.p (.slice none 0 0),.p (.slice none 0 0),.p (.slice none 0 0),.p (.int .u64 0),.p (.int .i64 0),.p (.int .i64 0),.p (.slice none 0 0)] (1::0::0::σ) 6 q1.2)).bind fun q2 =>
(callO rec 21 (1::0::0::1::0::σ) [(.p (.int .i64 x1)),(.p (.int .i64 0)),(.p (.int .i64 10))] q2.2 (some 8)).bind fun q3 =>
(castI .i64 q3.1).bind fun n4 =>
bif n4 == 0 then (
(fA q1.1 0).bind fun t5 =>
((stO true 1 (2::1::1::0::1::0::σ) q3.2 t5 (.p (.int .i64 x2))).map fun h => (udf,h)).bind fun q6 =>
(ldO true 10 q6.2 q1.1).bind fun t7 =>
((stO false 10 (1::0::1::1::0::σ) q6.2 q2.1 t7).map fun h => (udf,h)).bind fun q8 =>
((ldO true 10 q8.2 q2.1).bind fun t9 => (some []).map (t9::·)).bind fun t10 => fin false σ q8.2 t10)
else (
bif n4 == 1 then (
(fA q1.1 1).bind fun t11 =>
((stO true 1 (3::1::1::1::0::1::0::σ) q3.2 t11 (.p (.int .u32 (IntKind.wrap .u32 x2)))).map fun h => (udf,h)).bind fun q12 =>
(ldO true 10 q12.2 q1.1).bind fun t13 =>
((stO false 10 (1::0::1::1::0::σ) q12.2 q2.1 t13).map fun h => (udf,h)).bind fun q14 =>
((ldO true 10 q14.2 q2.1).bind fun t15 => (some []).map (t15::·)).bind fun t16 => fin false σ q14.2 t16)
else (
bif n4 == 2 then (
(fA q1.1 2).bind fun t17 =>
((stO true 1 (3::1::1::1::1::0::1::0::σ) q3.2 t17 (.p (.int .u32 (IntKind.wrap .u32 x2)))).map fun h => (udf,h)).bind fun q18 =>
(ldO true 10 q18.2 q1.1).bind fun t19 =>
((stO false 10 (1::0::1::1::0::σ) q18.2 q2.1 t19).map fun h => (udf,h)).bind fun q20 =>
((ldO true 10 q20.2 q2.1).bind fun t21 => (some []).map (t21::·)).bind fun t22 => fin false σ q20.2 t22)
else (
bif n4 == 3 then (
(fA q1.1 6).bind fun t23 =>
((stO true 1 (3::1::1::1::1::1::0::1::0::σ) q3.2 t23 (.p (.int .u64 (IntKind.wrap .u64 x2)))).map fun h => (udf,h)).bind fun q24 =>
(ldO true 10 q24.2 q1.1).bind fun t25 =>
((stO false 10 (1::0::1::1::0::σ) q24.2 q2.1 t25).map fun h => (udf,h)).bind fun q26 =>
((ldO true 10 q26.2 q2.1).bind fun t27 => (some []).map (t27::·)).bind fun t28 => fin false σ q26.2 t28)
else (
bif n4 == 4 then (
(bSV Try.prog 28 0 []).bind fun t29 =>
(fA q1.1 3).bind fun t30 =>
(ldO false 1 q3.2 t30).bind fun t31 =>
(apO false 3 24 (3::1::1::1::1::1::1::0::1::0::σ) 42 q3.2 t29 t31).bind fun q32 =>
(buildV Try.prog 57 [(1,(.p (.int .u64 (IntKind.wrap .u64 x2)))),(2,(.p (.int .i64 7)))]).bind fun t33 =>
(bSV Try.prog 28 1 [(0,t33)]).bind fun t34 =>
(apO false 3 24 (8::1::1::1::1::1::1::0::1::0::σ) 47 q32.2 q32.1 t34).bind fun q35 =>
(fA q1.1 3).bind fun t36 =>
((stO true 1 (10::1::1::1::1::1::1::0::1::0::σ) q35.2 t36 q35.1).map fun h => (udf,h)).bind fun q37 =>
(ldO true 10 q37.2 q1.1).bind fun t38 =>
((stO false 10 (1::0::1::1::0::σ) q37.2 q2.1 t38).map fun h => (udf,h)).bind fun q39 =>
((ldO true 10 q39.2 q2.1).bind fun t40 => (some []).map (t40::·)).bind fun t41 => fin false σ q39.2 t41)
else (
bif n4 == 5 then (
(bSV Try.prog 28 0 []).bind fun t42 =>
(fA q1.1 3).bind fun t43 =>
(ldO false 1 q3.2 t43).bind fun t44 =>
(apO false 3 24 (3::1::1::1::1::1::1::1::0::1::0::σ) 54 q3.2 t42 t44).bind fun q45 =>
(buildV Try.prog 57 [(2,(.p (.int .i64 x2)))]).bind fun t46 =>
(bSV Try.prog 28 1 [(0,t46)]).bind fun t47 =>
(apO false 3 24 (7::1::1::1::1::1::1::1::0::1::0::σ) 58 q45.2 q45.1 t47).bind fun q48 =>
(fA q1.1 3).bind fun t49 =>
((stO true 1 (9::1::1::1::1::1::1::1::0::1::0::σ) q48.2 t49 q48.1).map fun h => (udf,h)).bind fun q50 =>
(ldO true 10 q50.2 q1.1).bind fun t51 =>
((stO false 10 (1::0::1::1::0::σ) q50.2 q2.1 t51).map fun h => (udf,h)).bind fun q52 =>
((ldO true 10 q52.2 q2.1).bind fun t53 => (some []).map (t53::·)).bind fun t54 => fin false σ q52.2 t54)
else (
bif n4 == 6 then (
(bSV Try.prog 29 0 []).bind fun t55 =>
(fA q1.1 4).bind fun t56 =>
(ldO false 1 q3.2 t56).bind fun t57 =>
(apO true 1 4 (3::1::1::1::1::1::1::1::1::0::1::0::σ) 65 q3.2 t55 t57).bind fun q58 =>
(bSV Try.prog 29 1 [(0,(.p (.int .u32 (IntKind.wrap .u32 x2))))]).bind fun t59 =>
(apO true 1 4 (7::1::1::1::1::1::1::1::1::0::1::0::σ) 69 q58.2 q58.1 t59).bind fun q60 =>
(fA q1.1 4).bind fun t61 =>
((stO true 1 (9::1::1::1::1::1::1::1::1::0::1::0::σ) q60.2 t61 q60.1).map fun h => (udf,h)).bind fun q62 =>
(ldO true 10 q62.2 q1.1).bind fun t63 =>
((stO false 10 (1::0::1::1::0::σ) q62.2 q2.1 t63).map fun h => (udf,h)).bind fun q64 =>
((ldO true 10 q64.2 q2.1).bind fun t65 => (some []).map (t65::·)).bind fun t66 => fin false σ q64.2 t66)
else (
bif n4 == 7 then (
(bSV Try.prog 23 0 []).bind fun t67 =>
(fA q1.1 5).bind fun t68 =>
(ldO false 1 q3.2 t68).bind fun t69 =>
(apO true 1 8 (3::1::1::1::1::1::1::1::1::1::0::1::0::σ) 76 q3.2 t67 t69).bind fun q70 =>
(bSV Try.prog 23 1 [(0,(.p (.int .i64 x2)))]).bind fun t71 =>
(apO true 1 8 (6::1::1::1::1::1::1::1::1::1::0::1::0::σ) 79 q70.2 q70.1 t71).bind fun q72 =>
(fA q1.1 5).bind fun t73 =>
((stO true 1 (8::1::1::1::1::1::1::1::1::1::0::1::0::σ) q72.2 t73 q72.1).map fun h => (udf,h)).bind fun q74 =>
(ldO true 10 q74.2 q1.1).bind fun t75 =>
((stO false 10 (1::0::1::1::0::σ) q74.2 q2.1 t75).map fun h => (udf,h)).bind fun q76 =>
((ldO true 10 q76.2 q2.1).bind fun t77 => (some []).map (t77::·)).bind fun t78 => fin false σ q76.2 t78)
else (
bif n4 == 8 then (
(fA q1.1 7).bind fun t79 =>
((stO true 1 (2::1::1::1::1::1::1::1::1::1::1::0::1::0::σ) q3.2 t79 (.p (.int .i64 x2))).map fun h => (udf,h)).bind fun q80 =>
(ldO true 10 q80.2 q1.1).bind fun t81 =>
((stO false 10 (1::0::1::1::0::σ) q80.2 q2.1 t81).map fun h => (udf,h)).bind fun q82 =>
((ldO true 10 q82.2 q2.1).bind fun t83 => (some []).map (t83::·)).bind fun t84 => fin false σ q82.2 t84)
else (
bif n4 == 9 then (
(fA q1.1 8).bind fun t85 =>
((stO true 1 (2::1::1::1::1::1::1::1::1::1::1::1::0::1::0::σ) q3.2 t85 (.p (.int .i64 x2))).map fun h => (udf,h)).bind fun q86 =>
(ldO true 10 q86.2 q1.1).bind fun t87 =>
((stO false 10 (1::0::1::1::0::σ) q86.2 q2.1 t87).map fun h => (udf,h)).bind fun q88 =>
((ldO true 10 q88.2 q2.1).bind fun t89 => (some []).map (t89::·)).bind fun t90 => fin false σ q88.2 t90)
else (
(bSV Try.prog 31 0 []).bind fun t91 =>
(fA q1.1 9).bind fun t92 =>
(ldO false 1 q3.2 t92).bind fun t93 =>
(apO true 1 1 (3::1::1::1::1::1::1::1::1::1::1::1::0::1::0::σ) 12 q3.2 t91 t93).bind fun q94 =>
(apZ true 1 1 (7::1::1::1::1::1::1::1::1::1::1::1::0::1::0::σ) 16 q94.2 q94.1 (IntKind.wrap .i64 ((intBits .and .i64 x2 3) + 1))).bind fun q95 =>
(fA q1.1 9).bind fun t96 =>
((stO true 1 (9::1::1::1::1::1::1::1::1::1::1::1::0::1::0::σ) q95.2 t96 q95.1).map fun h => (udf,h)).bind fun q97 =>
(ldO true 10 q97.2 q1.1).bind fun t98 =>
((stO false 10 (1::0::1::1::0::σ) q97.2 q2.1 t98).map fun h => (udf,h)).bind fun q99 =>
((ldO true 10 q99.2 q2.1).bind fun t100 => (some []).map (t100::·)).bind fun t101 => fin false σ q99.2 t101)))))))))):=by kernel_rfl
end
end Go.Ev
