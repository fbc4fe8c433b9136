/- A part of the proof that follows: bytes of any kind (up to the kit bound on bulk) that ctl.Read takes are a right message and are written back as the same bytes -/
import Derived.Test.YtigkdihkmihmmaaMCtlReads3
import Derived.KernelRfl
namespace Go.Ev
open Go.Proofs
set_option linter.unusedVariables false
set_option linter.unusedSimpArgs false
set_option maxRecDepth 100000
section
variable {β α : Type} {Q : β→α→Prop} {K : Exit × Env × H→Option α}
def p_zr8_write_l0 {β : Type} (k : Nat) (kE0 : (List Int)→ByteArray→TaiCtl→Option β) (x3 : (List Int)) (x4 : ByteArray) (x20 : (List TaiLayer)) (x21 : Int) (x22 : Int) (yg6 : TaiCtl) : Option β:=match k with
| 0 => none
| k + 1 =>
bif decide (x22 < x21) then (
(ix x20 x22).bind fun a63 =>
(p_zr1_Put k (([] : List Int)) (IntKind.wrap .u64 a63.Ssrc) 4).bind fun r75 =>
(p_zr1_Put k r75 (IntKind.wrap .u64 a63.Height) 2).bind fun r89 =>
(ap 1 r89 (bytesS a63.Rid)).bind fun a103 =>
(p_zr8_field x3 2 a103).bind fun r109 =>
p_zr8_write_l0 k kE0 r109 x4 x20 x21 (IntKind.wrap .i64 (x22 + 1)) yg6)
else (
kE0 x3 x4 yg6)
def p_zr8_write (k : Nat) (x0 : TaiCtl) : Option ((List Int)) :=
(p_zr8_has x0.Kind).bind fun r7 =>
(p_zr8_in k r7 99).bind fun r12 =>
bif r12 then (
(p_zr1_Put k (([] : List Int)) (IntKind.wrap .u64 x0.Cap) 8).bind fun r18 =>
(p_zr8_field (([] : List Int)) 1 r18).bind fun r34 =>
p_zr8_write_l0 k (fun r135_3 r135_4 yg59 =>
(p_zr8_in k r135_4 112).bind fun r146 =>
bif r146 then (
(p_zr8_field r135_3 3 ([(IntKind.wrap .u8 yg59.Peer)])).bind fun r153 =>
(p_zr8_in k r135_4 104).bind fun r169 =>
bif r169 then (
(p_zr1_Put k (([] : List Int)) (IntKind.wrap .u64 yg59.Height) 2).bind fun r175 =>
(p_zr8_field r153 4 r175).bind fun r189 =>
(p_zr8_in k r135_4 107).bind fun r205 =>
bif r205 then (
(p_zr8_field r189 5 ([(IntKind.wrap .u8 yg59.Class)])).bind fun r212 =>
(p_zr8_in k r135_4 121).bind fun r228 =>
bif r228 then (
(p_zr8_field r212 6 ([(IntKind.wrap .u8 yg59.Layer)])).bind fun r235 =>
(p_zr8_in k r135_4 101).bind fun r251 =>
bif r251 then (
(p_zr8_field r235 7 ([(IntKind.wrap .u8 yg59.Code)])).bind fun r258 =>
(p_zr1_Put k ([(IntKind.wrap .u8 yg59.Kind)]) (IntKind.wrap .u64 ((r258.length : Int))) 2).bind fun r275 =>
(ap 1 r275 r258).bind fun a289 =>
some (a289))
else (
(p_zr1_Put k ([(IntKind.wrap .u8 yg59.Kind)]) (IntKind.wrap .u64 ((r235.length : Int))) 2).bind fun r303 =>
(ap 1 r303 r235).bind fun a317 =>
some (a317)))
else (
(p_zr8_in k r135_4 101).bind fun r330 =>
bif r330 then (
(p_zr8_field r212 7 ([(IntKind.wrap .u8 yg59.Code)])).bind fun r337 =>
(p_zr1_Put k ([(IntKind.wrap .u8 yg59.Kind)]) (IntKind.wrap .u64 ((r337.length : Int))) 2).bind fun r354 =>
(ap 1 r354 r337).bind fun a368 =>
some (a368))
else (
(p_zr1_Put k ([(IntKind.wrap .u8 yg59.Kind)]) (IntKind.wrap .u64 ((r212.length : Int))) 2).bind fun r382 =>
(ap 1 r382 r212).bind fun a396 =>
some (a396))))
else (
(p_zr8_in k r135_4 121).bind fun r409 =>
bif r409 then (
(p_zr8_field r189 6 ([(IntKind.wrap .u8 yg59.Layer)])).bind fun r416 =>
(p_zr8_in k r135_4 101).bind fun r432 =>
bif r432 then (
(p_zr8_field r416 7 ([(IntKind.wrap .u8 yg59.Code)])).bind fun r439 =>
(p_zr1_Put k ([(IntKind.wrap .u8 yg59.Kind)]) (IntKind.wrap .u64 ((r439.length : Int))) 2).bind fun r456 =>
(ap 1 r456 r439).bind fun a470 =>
some (a470))
else (
(p_zr1_Put k ([(IntKind.wrap .u8 yg59.Kind)]) (IntKind.wrap .u64 ((r416.length : Int))) 2).bind fun r484 =>
(ap 1 r484 r416).bind fun a498 =>
some (a498)))
else (
(p_zr8_in k r135_4 101).bind fun r511 =>
bif r511 then (
(p_zr8_field r189 7 ([(IntKind.wrap .u8 yg59.Code)])).bind fun r518 =>
(p_zr1_Put k ([(IntKind.wrap .u8 yg59.Kind)]) (IntKind.wrap .u64 ((r518.length : Int))) 2).bind fun r535 =>
(ap 1 r535 r518).bind fun a549 =>
some (a549))
else (
(p_zr1_Put k ([(IntKind.wrap .u8 yg59.Kind)]) (IntKind.wrap .u64 ((r189.length : Int))) 2).bind fun r563 =>
(ap 1 r563 r189).bind fun a577 =>
some (a577)))))
else (
(p_zr8_in k r135_4 107).bind fun r590 =>
bif r590 then (
(p_zr8_field r153 5 ([(IntKind.wrap .u8 yg59.Class)])).bind fun r597 =>
(p_zr8_in k r135_4 121).bind fun r613 =>
bif r613 then (
(p_zr8_field r597 6 ([(IntKind.wrap .u8 yg59.Layer)])).bind fun r620 =>
(p_zr8_in k r135_4 101).bind fun r636 =>
bif r636 then (
(p_zr8_field r620 7 ([(IntKind.wrap .u8 yg59.Code)])).bind fun r643 =>
(p_zr1_Put k ([(IntKind.wrap .u8 yg59.Kind)]) (IntKind.wrap .u64 ((r643.length : Int))) 2).bind fun r660 =>
(ap 1 r660 r643).bind fun a674 =>
some (a674))
else (
(p_zr1_Put k ([(IntKind.wrap .u8 yg59.Kind)]) (IntKind.wrap .u64 ((r620.length : Int))) 2).bind fun r688 =>
(ap 1 r688 r620).bind fun a702 =>
some (a702)))
else (
(p_zr8_in k r135_4 101).bind fun r715 =>
bif r715 then (
(p_zr8_field r597 7 ([(IntKind.wrap .u8 yg59.Code)])).bind fun r722 =>
(p_zr1_Put k ([(IntKind.wrap .u8 yg59.Kind)]) (IntKind.wrap .u64 ((r722.length : Int))) 2).bind fun r739 =>
(ap 1 r739 r722).bind fun a753 =>
some (a753))
else (
(p_zr1_Put k ([(IntKind.wrap .u8 yg59.Kind)]) (IntKind.wrap .u64 ((r597.length : Int))) 2).bind fun r767 =>
(ap 1 r767 r597).bind fun a781 =>
some (a781))))
else (
(p_zr8_in k r135_4 121).bind fun r794 =>
bif r794 then (
(p_zr8_field r153 6 ([(IntKind.wrap .u8 yg59.Layer)])).bind fun r801 =>
(p_zr8_in k r135_4 101).bind fun r817 =>
bif r817 then (
(p_zr8_field r801 7 ([(IntKind.wrap .u8 yg59.Code)])).bind fun r824 =>
(p_zr1_Put k ([(IntKind.wrap .u8 yg59.Kind)]) (IntKind.wrap .u64 ((r824.length : Int))) 2).bind fun r841 =>
(ap 1 r841 r824).bind fun a855 =>
some (a855))
else (
(p_zr1_Put k ([(IntKind.wrap .u8 yg59.Kind)]) (IntKind.wrap .u64 ((r801.length : Int))) 2).bind fun r869 =>
(ap 1 r869 r801).bind fun a883 =>
some (a883)))
else (
(p_zr8_in k r135_4 101).bind fun r896 =>
bif r896 then (
(p_zr8_field r153 7 ([(IntKind.wrap .u8 yg59.Code)])).bind fun r903 =>
(p_zr1_Put k ([(IntKind.wrap .u8 yg59.Kind)]) (IntKind.wrap .u64 ((r903.length : Int))) 2).bind fun r920 =>
(ap 1 r920 r903).bind fun a934 =>
some (a934))
else (
(p_zr1_Put k ([(IntKind.wrap .u8 yg59.Kind)]) (IntKind.wrap .u64 ((r153.length : Int))) 2).bind fun r948 =>
(ap 1 r948 r153).bind fun a962 =>
some (a962))))))
else (
(p_zr8_in k r135_4 104).bind fun r975 =>
bif r975 then (
(p_zr1_Put k (([] : List Int)) (IntKind.wrap .u64 yg59.Height) 2).bind fun r981 =>
(p_zr8_field r135_3 4 r981).bind fun r995 =>
(p_zr8_in k r135_4 107).bind fun r1011 =>
bif r1011 then (
(p_zr8_field r995 5 ([(IntKind.wrap .u8 yg59.Class)])).bind fun r1018 =>
(p_zr8_in k r135_4 121).bind fun r1034 =>
bif r1034 then (
(p_zr8_field r1018 6 ([(IntKind.wrap .u8 yg59.Layer)])).bind fun r1041 =>
(p_zr8_in k r135_4 101).bind fun r1057 =>
bif r1057 then (
(p_zr8_field r1041 7 ([(IntKind.wrap .u8 yg59.Code)])).bind fun r1064 =>
(p_zr1_Put k ([(IntKind.wrap .u8 yg59.Kind)]) (IntKind.wrap .u64 ((r1064.length : Int))) 2).bind fun r1081 =>
(ap 1 r1081 r1064).bind fun a1095 =>
some (a1095))
else (
(p_zr1_Put k ([(IntKind.wrap .u8 yg59.Kind)]) (IntKind.wrap .u64 ((r1041.length : Int))) 2).bind fun r1109 =>
(ap 1 r1109 r1041).bind fun a1123 =>
some (a1123)))
else (
(p_zr8_in k r135_4 101).bind fun r1136 =>
bif r1136 then (
(p_zr8_field r1018 7 ([(IntKind.wrap .u8 yg59.Code)])).bind fun r1143 =>
(p_zr1_Put k ([(IntKind.wrap .u8 yg59.Kind)]) (IntKind.wrap .u64 ((r1143.length : Int))) 2).bind fun r1160 =>
(ap 1 r1160 r1143).bind fun a1174 =>
some (a1174))
else (
(p_zr1_Put k ([(IntKind.wrap .u8 yg59.Kind)]) (IntKind.wrap .u64 ((r1018.length : Int))) 2).bind fun r1188 =>
(ap 1 r1188 r1018).bind fun a1202 =>
some (a1202))))
else (
(p_zr8_in k r135_4 121).bind fun r1215 =>
bif r1215 then (
(p_zr8_field r995 6 ([(IntKind.wrap .u8 yg59.Layer)])).bind fun r1222 =>
(p_zr8_in k r135_4 101).bind fun r1238 =>
bif r1238 then (
(p_zr8_field r1222 7 ([(IntKind.wrap .u8 yg59.Code)])).bind fun r1245 =>
(p_zr1_Put k ([(IntKind.wrap .u8 yg59.Kind)]) (IntKind.wrap .u64 ((r1245.length : Int))) 2).bind fun r1262 =>
(ap 1 r1262 r1245).bind fun a1276 =>
some (a1276))
else (
(p_zr1_Put k ([(IntKind.wrap .u8 yg59.Kind)]) (IntKind.wrap .u64 ((r1222.length : Int))) 2).bind fun r1290 =>
(ap 1 r1290 r1222).bind fun a1304 =>
some (a1304)))
else (
(p_zr8_in k r135_4 101).bind fun r1317 =>
bif r1317 then (
(p_zr8_field r995 7 ([(IntKind.wrap .u8 yg59.Code)])).bind fun r1324 =>
(p_zr1_Put k ([(IntKind.wrap .u8 yg59.Kind)]) (IntKind.wrap .u64 ((r1324.length : Int))) 2).bind fun r1341 =>
(ap 1 r1341 r1324).bind fun a1355 =>
some (a1355))
else (
(p_zr1_Put k ([(IntKind.wrap .u8 yg59.Kind)]) (IntKind.wrap .u64 ((r995.length : Int))) 2).bind fun r1369 =>
(ap 1 r1369 r995).bind fun a1383 =>
some (a1383)))))
else (
(p_zr8_in k r135_4 107).bind fun r1396 =>
bif r1396 then (
(p_zr8_field r135_3 5 ([(IntKind.wrap .u8 yg59.Class)])).bind fun r1403 =>
(p_zr8_in k r135_4 121).bind fun r1419 =>
bif r1419 then (
(p_zr8_field r1403 6 ([(IntKind.wrap .u8 yg59.Layer)])).bind fun r1426 =>
(p_zr8_in k r135_4 101).bind fun r1442 =>
bif r1442 then (
(p_zr8_field r1426 7 ([(IntKind.wrap .u8 yg59.Code)])).bind fun r1449 =>
(p_zr1_Put k ([(IntKind.wrap .u8 yg59.Kind)]) (IntKind.wrap .u64 ((r1449.length : Int))) 2).bind fun r1466 =>
(ap 1 r1466 r1449).bind fun a1480 =>
some (a1480))
else (
(p_zr1_Put k ([(IntKind.wrap .u8 yg59.Kind)]) (IntKind.wrap .u64 ((r1426.length : Int))) 2).bind fun r1494 =>
(ap 1 r1494 r1426).bind fun a1508 =>
some (a1508)))
else (
(p_zr8_in k r135_4 101).bind fun r1521 =>
bif r1521 then (
(p_zr8_field r1403 7 ([(IntKind.wrap .u8 yg59.Code)])).bind fun r1528 =>
(p_zr1_Put k ([(IntKind.wrap .u8 yg59.Kind)]) (IntKind.wrap .u64 ((r1528.length : Int))) 2).bind fun r1545 =>
(ap 1 r1545 r1528).bind fun a1559 =>
some (a1559))
else (
(p_zr1_Put k ([(IntKind.wrap .u8 yg59.Kind)]) (IntKind.wrap .u64 ((r1403.length : Int))) 2).bind fun r1573 =>
(ap 1 r1573 r1403).bind fun a1587 =>
some (a1587))))
else (
(p_zr8_in k r135_4 121).bind fun r1600 =>
bif r1600 then (
(p_zr8_field r135_3 6 ([(IntKind.wrap .u8 yg59.Layer)])).bind fun r1607 =>
(p_zr8_in k r135_4 101).bind fun r1623 =>
bif r1623 then (
(p_zr8_field r1607 7 ([(IntKind.wrap .u8 yg59.Code)])).bind fun r1630 =>
(p_zr1_Put k ([(IntKind.wrap .u8 yg59.Kind)]) (IntKind.wrap .u64 ((r1630.length : Int))) 2).bind fun r1647 =>
(ap 1 r1647 r1630).bind fun a1661 =>
some (a1661))
else (
(p_zr1_Put k ([(IntKind.wrap .u8 yg59.Kind)]) (IntKind.wrap .u64 ((r1607.length : Int))) 2).bind fun r1675 =>
(ap 1 r1675 r1607).bind fun a1689 =>
some (a1689)))
else (
(p_zr8_in k r135_4 101).bind fun r1702 =>
bif r1702 then (
(p_zr8_field r135_3 7 ([(IntKind.wrap .u8 yg59.Code)])).bind fun r1709 =>
(p_zr1_Put k ([(IntKind.wrap .u8 yg59.Kind)]) (IntKind.wrap .u64 ((r1709.length : Int))) 2).bind fun r1726 =>
(ap 1 r1726 r1709).bind fun a1740 =>
some (a1740))
else (
(p_zr1_Put k ([(IntKind.wrap .u8 yg59.Kind)]) (IntKind.wrap .u64 ((r135_3.length : Int))) 2).bind fun r1754 =>
(ap 1 r1754 r135_3).bind fun a1768 =>
some (a1768))))))) r34 r7 x0.Layers ((x0.Layers.length : Int)) 0 x0)
else (
p_zr8_write_l0 k (fun r1783_3 r1783_4 yg59 =>
(p_zr8_in k r1783_4 112).bind fun r1794 =>
bif r1794 then (
(p_zr8_field r1783_3 3 ([(IntKind.wrap .u8 yg59.Peer)])).bind fun r1801 =>
(p_zr8_in k r1783_4 104).bind fun r1817 =>
bif r1817 then (
(p_zr1_Put k (([] : List Int)) (IntKind.wrap .u64 yg59.Height) 2).bind fun r1823 =>
(p_zr8_field r1801 4 r1823).bind fun r1837 =>
(p_zr8_in k r1783_4 107).bind fun r1853 =>
bif r1853 then (
(p_zr8_field r1837 5 ([(IntKind.wrap .u8 yg59.Class)])).bind fun r1860 =>
(p_zr8_in k r1783_4 121).bind fun r1876 =>
bif r1876 then (
(p_zr8_field r1860 6 ([(IntKind.wrap .u8 yg59.Layer)])).bind fun r1883 =>
(p_zr8_in k r1783_4 101).bind fun r1899 =>
bif r1899 then (
(p_zr8_field r1883 7 ([(IntKind.wrap .u8 yg59.Code)])).bind fun r1906 =>
(p_zr1_Put k ([(IntKind.wrap .u8 yg59.Kind)]) (IntKind.wrap .u64 ((r1906.length : Int))) 2).bind fun r1923 =>
(ap 1 r1923 r1906).bind fun a1937 =>
some (a1937))
else (
(p_zr1_Put k ([(IntKind.wrap .u8 yg59.Kind)]) (IntKind.wrap .u64 ((r1883.length : Int))) 2).bind fun r1951 =>
(ap 1 r1951 r1883).bind fun a1965 =>
some (a1965)))
else (
(p_zr8_in k r1783_4 101).bind fun r1978 =>
bif r1978 then (
(p_zr8_field r1860 7 ([(IntKind.wrap .u8 yg59.Code)])).bind fun r1985 =>
(p_zr1_Put k ([(IntKind.wrap .u8 yg59.Kind)]) (IntKind.wrap .u64 ((r1985.length : Int))) 2).bind fun r2002 =>
(ap 1 r2002 r1985).bind fun a2016 =>
some (a2016))
else (
(p_zr1_Put k ([(IntKind.wrap .u8 yg59.Kind)]) (IntKind.wrap .u64 ((r1860.length : Int))) 2).bind fun r2030 =>
(ap 1 r2030 r1860).bind fun a2044 =>
some (a2044))))
else (
(p_zr8_in k r1783_4 121).bind fun r2057 =>
bif r2057 then (
(p_zr8_field r1837 6 ([(IntKind.wrap .u8 yg59.Layer)])).bind fun r2064 =>
(p_zr8_in k r1783_4 101).bind fun r2080 =>
bif r2080 then (
(p_zr8_field r2064 7 ([(IntKind.wrap .u8 yg59.Code)])).bind fun r2087 =>
(p_zr1_Put k ([(IntKind.wrap .u8 yg59.Kind)]) (IntKind.wrap .u64 ((r2087.length : Int))) 2).bind fun r2104 =>
(ap 1 r2104 r2087).bind fun a2118 =>
some (a2118))
else (
(p_zr1_Put k ([(IntKind.wrap .u8 yg59.Kind)]) (IntKind.wrap .u64 ((r2064.length : Int))) 2).bind fun r2132 =>
(ap 1 r2132 r2064).bind fun a2146 =>
some (a2146)))
else (
(p_zr8_in k r1783_4 101).bind fun r2159 =>
bif r2159 then (
(p_zr8_field r1837 7 ([(IntKind.wrap .u8 yg59.Code)])).bind fun r2166 =>
(p_zr1_Put k ([(IntKind.wrap .u8 yg59.Kind)]) (IntKind.wrap .u64 ((r2166.length : Int))) 2).bind fun r2183 =>
(ap 1 r2183 r2166).bind fun a2197 =>
some (a2197))
else (
(p_zr1_Put k ([(IntKind.wrap .u8 yg59.Kind)]) (IntKind.wrap .u64 ((r1837.length : Int))) 2).bind fun r2211 =>
(ap 1 r2211 r1837).bind fun a2225 =>
some (a2225)))))
else (
(p_zr8_in k r1783_4 107).bind fun r2238 =>
bif r2238 then (
(p_zr8_field r1801 5 ([(IntKind.wrap .u8 yg59.Class)])).bind fun r2245 =>
(p_zr8_in k r1783_4 121).bind fun r2261 =>
bif r2261 then (
(p_zr8_field r2245 6 ([(IntKind.wrap .u8 yg59.Layer)])).bind fun r2268 =>
(p_zr8_in k r1783_4 101).bind fun r2284 =>
bif r2284 then (
(p_zr8_field r2268 7 ([(IntKind.wrap .u8 yg59.Code)])).bind fun r2291 =>
(p_zr1_Put k ([(IntKind.wrap .u8 yg59.Kind)]) (IntKind.wrap .u64 ((r2291.length : Int))) 2).bind fun r2308 =>
(ap 1 r2308 r2291).bind fun a2322 =>
some (a2322))
else (
(p_zr1_Put k ([(IntKind.wrap .u8 yg59.Kind)]) (IntKind.wrap .u64 ((r2268.length : Int))) 2).bind fun r2336 =>
(ap 1 r2336 r2268).bind fun a2350 =>
some (a2350)))
else (
(p_zr8_in k r1783_4 101).bind fun r2363 =>
bif r2363 then (
(p_zr8_field r2245 7 ([(IntKind.wrap .u8 yg59.Code)])).bind fun r2370 =>
(p_zr1_Put k ([(IntKind.wrap .u8 yg59.Kind)]) (IntKind.wrap .u64 ((r2370.length : Int))) 2).bind fun r2387 =>
(ap 1 r2387 r2370).bind fun a2401 =>
some (a2401))
else (
(p_zr1_Put k ([(IntKind.wrap .u8 yg59.Kind)]) (IntKind.wrap .u64 ((r2245.length : Int))) 2).bind fun r2415 =>
(ap 1 r2415 r2245).bind fun a2429 =>
some (a2429))))
else (
(p_zr8_in k r1783_4 121).bind fun r2442 =>
bif r2442 then (
(p_zr8_field r1801 6 ([(IntKind.wrap .u8 yg59.Layer)])).bind fun r2449 =>
(p_zr8_in k r1783_4 101).bind fun r2465 =>
bif r2465 then (
(p_zr8_field r2449 7 ([(IntKind.wrap .u8 yg59.Code)])).bind fun r2472 =>
(p_zr1_Put k ([(IntKind.wrap .u8 yg59.Kind)]) (IntKind.wrap .u64 ((r2472.length : Int))) 2).bind fun r2489 =>
(ap 1 r2489 r2472).bind fun a2503 =>
some (a2503))
else (
(p_zr1_Put k ([(IntKind.wrap .u8 yg59.Kind)]) (IntKind.wrap .u64 ((r2449.length : Int))) 2).bind fun r2517 =>
(ap 1 r2517 r2449).bind fun a2531 =>
some (a2531)))
else (
(p_zr8_in k r1783_4 101).bind fun r2544 =>
bif r2544 then (
(p_zr8_field r1801 7 ([(IntKind.wrap .u8 yg59.Code)])).bind fun r2551 =>
(p_zr1_Put k ([(IntKind.wrap .u8 yg59.Kind)]) (IntKind.wrap .u64 ((r2551.length : Int))) 2).bind fun r2568 =>
(ap 1 r2568 r2551).bind fun a2582 =>
some (a2582))
else (
(p_zr1_Put k ([(IntKind.wrap .u8 yg59.Kind)]) (IntKind.wrap .u64 ((r1801.length : Int))) 2).bind fun r2596 =>
(ap 1 r2596 r1801).bind fun a2610 =>
some (a2610))))))
else (
(p_zr8_in k r1783_4 104).bind fun r2623 =>
bif r2623 then (
(p_zr1_Put k (([] : List Int)) (IntKind.wrap .u64 yg59.Height) 2).bind fun r2629 =>
(p_zr8_field r1783_3 4 r2629).bind fun r2643 =>
(p_zr8_in k r1783_4 107).bind fun r2659 =>
bif r2659 then (
(p_zr8_field r2643 5 ([(IntKind.wrap .u8 yg59.Class)])).bind fun r2666 =>
(p_zr8_in k r1783_4 121).bind fun r2682 =>
bif r2682 then (
(p_zr8_field r2666 6 ([(IntKind.wrap .u8 yg59.Layer)])).bind fun r2689 =>
(p_zr8_in k r1783_4 101).bind fun r2705 =>
bif r2705 then (
(p_zr8_field r2689 7 ([(IntKind.wrap .u8 yg59.Code)])).bind fun r2712 =>
(p_zr1_Put k ([(IntKind.wrap .u8 yg59.Kind)]) (IntKind.wrap .u64 ((r2712.length : Int))) 2).bind fun r2729 =>
(ap 1 r2729 r2712).bind fun a2743 =>
some (a2743))
else (
(p_zr1_Put k ([(IntKind.wrap .u8 yg59.Kind)]) (IntKind.wrap .u64 ((r2689.length : Int))) 2).bind fun r2757 =>
(ap 1 r2757 r2689).bind fun a2771 =>
some (a2771)))
else (
(p_zr8_in k r1783_4 101).bind fun r2784 =>
bif r2784 then (
(p_zr8_field r2666 7 ([(IntKind.wrap .u8 yg59.Code)])).bind fun r2791 =>
(p_zr1_Put k ([(IntKind.wrap .u8 yg59.Kind)]) (IntKind.wrap .u64 ((r2791.length : Int))) 2).bind fun r2808 =>
(ap 1 r2808 r2791).bind fun a2822 =>
some (a2822))
else (
(p_zr1_Put k ([(IntKind.wrap .u8 yg59.Kind)]) (IntKind.wrap .u64 ((r2666.length : Int))) 2).bind fun r2836 =>
(ap 1 r2836 r2666).bind fun a2850 =>
some (a2850))))
else (
(p_zr8_in k r1783_4 121).bind fun r2863 =>
bif r2863 then (
(p_zr8_field r2643 6 ([(IntKind.wrap .u8 yg59.Layer)])).bind fun r2870 =>
(p_zr8_in k r1783_4 101).bind fun r2886 =>
bif r2886 then (
(p_zr8_field r2870 7 ([(IntKind.wrap .u8 yg59.Code)])).bind fun r2893 =>
(p_zr1_Put k ([(IntKind.wrap .u8 yg59.Kind)]) (IntKind.wrap .u64 ((r2893.length : Int))) 2).bind fun r2910 =>
(ap 1 r2910 r2893).bind fun a2924 =>
some (a2924))
else (
(p_zr1_Put k ([(IntKind.wrap .u8 yg59.Kind)]) (IntKind.wrap .u64 ((r2870.length : Int))) 2).bind fun r2938 =>
(ap 1 r2938 r2870).bind fun a2952 =>
some (a2952)))
else (
(p_zr8_in k r1783_4 101).bind fun r2965 =>
bif r2965 then (
(p_zr8_field r2643 7 ([(IntKind.wrap .u8 yg59.Code)])).bind fun r2972 =>
(p_zr1_Put k ([(IntKind.wrap .u8 yg59.Kind)]) (IntKind.wrap .u64 ((r2972.length : Int))) 2).bind fun r2989 =>
(ap 1 r2989 r2972).bind fun a3003 =>
some (a3003))
else (
(p_zr1_Put k ([(IntKind.wrap .u8 yg59.Kind)]) (IntKind.wrap .u64 ((r2643.length : Int))) 2).bind fun r3017 =>
(ap 1 r3017 r2643).bind fun a3031 =>
some (a3031)))))
else (
(p_zr8_in k r1783_4 107).bind fun r3044 =>
bif r3044 then (
(p_zr8_field r1783_3 5 ([(IntKind.wrap .u8 yg59.Class)])).bind fun r3051 =>
(p_zr8_in k r1783_4 121).bind fun r3067 =>
bif r3067 then (
(p_zr8_field r3051 6 ([(IntKind.wrap .u8 yg59.Layer)])).bind fun r3074 =>
(p_zr8_in k r1783_4 101).bind fun r3090 =>
bif r3090 then (
(p_zr8_field r3074 7 ([(IntKind.wrap .u8 yg59.Code)])).bind fun r3097 =>
(p_zr1_Put k ([(IntKind.wrap .u8 yg59.Kind)]) (IntKind.wrap .u64 ((r3097.length : Int))) 2).bind fun r3114 =>
(ap 1 r3114 r3097).bind fun a3128 =>
some (a3128))
else (
(p_zr1_Put k ([(IntKind.wrap .u8 yg59.Kind)]) (IntKind.wrap .u64 ((r3074.length : Int))) 2).bind fun r3142 =>
(ap 1 r3142 r3074).bind fun a3156 =>
some (a3156)))
else (
(p_zr8_in k r1783_4 101).bind fun r3169 =>
bif r3169 then (
(p_zr8_field r3051 7 ([(IntKind.wrap .u8 yg59.Code)])).bind fun r3176 =>
(p_zr1_Put k ([(IntKind.wrap .u8 yg59.Kind)]) (IntKind.wrap .u64 ((r3176.length : Int))) 2).bind fun r3193 =>
(ap 1 r3193 r3176).bind fun a3207 =>
some (a3207))
else (
(p_zr1_Put k ([(IntKind.wrap .u8 yg59.Kind)]) (IntKind.wrap .u64 ((r3051.length : Int))) 2).bind fun r3221 =>
(ap 1 r3221 r3051).bind fun a3235 =>
some (a3235))))
else (
(p_zr8_in k r1783_4 121).bind fun r3248 =>
bif r3248 then (
(p_zr8_field r1783_3 6 ([(IntKind.wrap .u8 yg59.Layer)])).bind fun r3255 =>
(p_zr8_in k r1783_4 101).bind fun r3271 =>
bif r3271 then (
(p_zr8_field r3255 7 ([(IntKind.wrap .u8 yg59.Code)])).bind fun r3278 =>
(p_zr1_Put k ([(IntKind.wrap .u8 yg59.Kind)]) (IntKind.wrap .u64 ((r3278.length : Int))) 2).bind fun r3295 =>
(ap 1 r3295 r3278).bind fun a3309 =>
some (a3309))
else (
(p_zr1_Put k ([(IntKind.wrap .u8 yg59.Kind)]) (IntKind.wrap .u64 ((r3255.length : Int))) 2).bind fun r3323 =>
(ap 1 r3323 r3255).bind fun a3337 =>
some (a3337)))
else (
(p_zr8_in k r1783_4 101).bind fun r3350 =>
bif r3350 then (
(p_zr8_field r1783_3 7 ([(IntKind.wrap .u8 yg59.Code)])).bind fun r3357 =>
(p_zr1_Put k ([(IntKind.wrap .u8 yg59.Kind)]) (IntKind.wrap .u64 ((r3357.length : Int))) 2).bind fun r3374 =>
(ap 1 r3374 r3357).bind fun a3388 =>
some (a3388))
else (
(p_zr1_Put k ([(IntKind.wrap .u8 yg59.Kind)]) (IntKind.wrap .u64 ((r1783_3.length : Int))) 2).bind fun r3402 =>
(ap 1 r3402 r1783_3).bind fun a3416 =>
some (a3416))))))) (([] : List Int)) r7 x0.Layers ((x0.Layers.length : Int)) 0 x0)
theorem zr8_write_l0_ok {h : H}  {kE0 : (List Int)→ByteArray→TaiCtl→Option β} (hE0 : ∀ (q3 : (List Int)) (q4 : ByteArray) (yg59 : TaiCtl) (v127 : V) (w129 : List V) (h130 : dTaiCtl.R yg59 w129) (s131 : Stamp) (H125 : Go.Ev.H) (_ : Fm 91 h [] [(1,s131,List.map C.v w129)] [⟨[18,39],v127,(dI .u8),q3⟩] H125),Sim (kE0 q3 q4 yg59) (K ((.exit 0),(envL [(1,(.ref ⟨h.length,1,0,s131,[]⟩ 0)),(3,v127),(4,(.p (.string q4)))]),H125)) Q) (k : Nat) : ∀ (x3 : (List Int)) (x4 : ByteArray) (x20 : (List TaiLayer)) (x21 : Int) (x22 : Int) (yg6 : TaiCtl) (v52 : V) (v54 : V) (h55 : SlF dTaiLayer x20 v54) (w56 : List V) (h57 : dTaiCtl.R yg6 w56) (s58 : Stamp) (H50 : Go.Ev.H) (_ : Fm 91 h [] [(1,s58,List.map C.v w56)] [⟨[18,39],v52,(dI .u8),x3⟩] H50) {σ : Stamp},Sim (p_zr8_write_l0 k kE0 x3 x4 x20 x21 x22 yg6) ((cvL G X0 zr8_write_c0 zr8_write_l0 σ (envL [(1,(.ref ⟨h.length,1,0,s58,[]⟩ 0)),(3,v52),(4,(.p (.string x4))),(20,v54),(21,(.p (.int .i64 x21))),(22,(.p (.int .i64 x22)))]) H50).bind K) Q:=by
 induction k with
 | zero => intros; exact .no
 | succ k ih =>
  intro x3 x4 x20 x21 x22 yg6 v52 v54 h55 w56 h57 s58 H50 S51 σ
  rw [p_zr8_write_l0]
  refine .round (Sim.ext (zr8_write_r0 _ _ _ _ _ _ _ _ _ _) ?_)
  obtain ⟨v60,rfl,h61⟩:=dTaiCtl.inv h57
  refine .cq ?_ ?_
  ·refine .bd fun a63 h64 => ?_
   refine .op ((h55.h H50).iS h64 rfl) ?_
   obtain ⟨w66,h67,hE65⟩:=(h55.h H50).el h64 rfl
   obtain rfl:=dTaiLayer.inv h67
   refine .op (hE65.all (by simp)) ?_
   obtain ⟨H68,e69,S70⟩:=S51.al (d:=6) (s:=(2::0::0::1::1::0::σ)) (z:=[(.p (.string ((⟨#[]⟩ : ByteArray)))),(.p (.int .u32 0)),(.p (.int .i64 0))]) (by decide) rfl
   refine .op (congrArg some e69) ?_
   obtain ⟨H72,e73,S74⟩:=S70.stGv (i:=0) (j:=0) (own:=false) (σ:=(3::0::0::1::1::0::σ)) (xs:=[.p (.string a63.Rid),.p (.int .u32 a63.Ssrc),.p (.int .i64 a63.Height)]) rfl rfl (sC (still_str _) (sC (sI _ _) (sC (sI _ _) sN))) rfl rfl
   refine .op (sM e73) ?_
   refine .fa ?_
   refine .op ((S74.atG (i:=0) rfl).ld (j:=1) rfl) ?_
   refine .ci ?_
   refine .fa ?_
   refine .op ((S74.atG (i:=0) rfl).ld (j:=2) rfl) ?_
   refine .ci ?_
   refine .call (zr1_Put_ok k (([] : List Int)) ((SlF.nil (dI .u8)).h H72) (IntKind.wrap .u64 a63.Ssrc) 4) fun r75 cs76 H77 h78 q79 => ?_
   obtain ⟨c80,cs81,h82,h83,q79⟩:=q79
   cases q79
   obtain ⟨v84,H85,e86,S87⟩:=S74.land (dt:=(dI .u8)) (d:=29) (e:=0) (n:=0) h82 h83 (by decide) rfl
   erw [e86]
   refine .nd (rfl) ?_
   refine .nd ((S87.atG (i:=0) rfl).ld (j:=2) rfl) ?_
   refine .call (zr1_Put_ok k r75 (S87.sl (i:=0) rfl) (IntKind.wrap .u64 a63.Height) 2) fun r89 cs90 H91 h92 q93 => ?_
   obtain ⟨c94,cs95,h96,h97,q93⟩:=q93
   cases q93
   obtain ⟨v98,H99,e100,S101⟩:=S87.land (dt:=(dI .u8)) (d:=33) (e:=0) (n:=0) h96 h97 (by decide) rfl
   erw [e100]
   refine .fa ?_
   refine .op ((S101.atG (i:=0) rfl).ld (j:=0) rfl) ?_
   refine .op (castS_p _) ?_
   refine .bd fun a103 h104 => ?_
   obtain ⟨v105,H106,e107,S108⟩:=S101.app (i:=0) (d:=38) (e:=1) (own:=true) (σ:=(4::1::1::0::1::1::0::σ)) rfl (ysS H99 a63.Rid) h104 rfl (by decide) (by decide) rfl
   refine .op (e107) ?_
   refine .call (zr8_field_ok x3 (S108.ownA (i:=2) rfl) 2 a103 (fun _ hk => (S108.killA (i:=2) rfl rfl hk).sl (i:=0) rfl)) fun r109 cs110 H111 h112 q113 => ?_
   obtain ⟨c114,cs115,h116,h117,h118,q113⟩:=q113
   obtain rfl : cs110 = [c114]:=q113
   have S119:=S108.killA (i:=2) rfl rfl h118
   obtain ⟨v120,H121,e122,S123⟩:=S119.land (dt:=(dI .u8)) (d:=39) (e:=0) (n:=0) h116 h117 (by decide) rfl
   erw [e122]
   exact ih r109 x4 x20 x21 (IntKind.wrap .i64 (x22 + 1)) yg6 v120 v54 h55 _ h57 s58 H121 (S123.wk2 (aC (aM 1 rfl) aN) (aC ⟨[39],by simp,aM 0 rfl⟩ aN))
  exact hE0 x3 x4 yg6 v52 _ h57 s58 H50 (S51.wk2 (aC (aM 0 rfl) aN) (aC ⟨[18,39],by simp,aM 0 rfl⟩ aN))
theorem zr8_write_ok (k : Nat) {h : H} {σ : Stamp} (x0 : TaiCtl) {u0 : List V} (hu0 : dTaiCtl.R x0 u0) : Sim (p_zr8_write k x0) (ev G X0 78 σ [(.agg u0)] h) (fun r s => ∃ (c0 : C),∃ (a0 : List V),OwnS c0 (dI .u8).sz r.length a0∧(dI .u8).L r a0∧s = ([c0],h)):=by
 refine .ev rfl (Sim.ext (zr8_write_entry _ _ _ _ _) ?_)
 rw [p_zr8_write]
 obtain ⟨v1,rfl,h2⟩:=dTaiCtl.inv hu0
 have S0 : Fm 91 h [] [] [] (List.replicate 91 []::h):=Fm.start0
 obtain ⟨H3,e4,S5⟩:=S0.box (own:=false) (d:=1) (s:=(0::0::0::σ)) (xs:=[(.p (.int .i64 x0.Kind)),(.p (.int .i64 x0.Cap)),v1,(.p (.int .i64 x0.Peer)),(.p (.int .i64 x0.Height)),(.p (.int .i64 x0.Class)),(.p (.int .i64 x0.Layer)),(.p (.int .i64 x0.Code))]) (sC (sI _ _) (sC (sI _ _) (sC h2.still (sC (sI _ _) (sC (sI _ _) (sC (sI _ _) (sC (sI _ _) (sC (sI _ _) sN)))))))) (by decide) rfl
 refine .op (e4) ?_
 refine .fa ?_
 refine .op ((S5.atG (i:=0) rfl).ld (j:=0) rfl) ?_
 refine .ci ?_
 refine .call (zr8_has_ok x0.Kind) fun r7 cs8 H9 h10 q11 => ?_
 cases q11
 refine .op (castS_p _) ?_
 refine .call (zr8_in_ok k r7 99) fun r12 cs13 H14 h15 q16 => ?_
 cases q16
 refine .ab ?_
 refine .cq ?_ ?_
 ·refine .fa ?_
  refine .op ((S5.atG (i:=0) rfl).ld (j:=1) rfl) ?_
  refine .ci ?_
  refine .call (zr1_Put_ok k (([] : List Int)) ((SlF.nil (dI .u8)).h H3) (IntKind.wrap .u64 x0.Cap) 8) fun r18 cs19 H20 h21 q22 => ?_
  obtain ⟨c23,cs24,h25,h26,q22⟩:=q22
  cases q22
  obtain ⟨v27,H28,e29,S30⟩:=S5.land (dt:=(dI .u8)) (d:=17) (e:=0) (n:=0) h25 h26 (by decide) rfl
  erw [e29]
  have S33:=S30.nil (dI .u8) []
  refine .call (zr8_field_ok (([] : List Int)) (S33.ownA (i:=0) rfl) 1 r18 (fun _ hk => (S33.killA (i:=0) rfl rfl hk).sl (i:=0) rfl)) fun r34 cs35 H36 h37 q38 => ?_
  obtain ⟨c39,cs40,h41,h42,h43,q38⟩:=q38
  obtain rfl : cs35 = [c39]:=q38
  have S44:=S33.killA (i:=0) rfl rfl h43
  obtain ⟨v45,H46,e47,S48⟩:=S44.land (dt:=(dI .u8)) (d:=18) (e:=0) (n:=0) h41 h42 (by decide) rfl
  erw [e47]
  refine .fa ?_
  refine .op ((S48.atG (i:=0) rfl).ld (j:=2) rfl) ?_
  refine .op ((h2.h H46).len) ?_
  refine .ci ?_
  refine .as (zr8_write_l0_ok ?_ k r34 r7 x0.Layers ((x0.Layers.length : Int)) 0 x0 v45 v1 h2 _ hu0 (0::0::0::σ) H46 (S48.wk2 (aC (aM 0 rfl) aN) (aC ⟨[18],by simp,aM 0 rfl⟩ aN)))
  ·intro r135_3 r135_4 yg59 v138 w140 h141 s142 H136 S137
   refine .ext (zr8_write_a0_0 _ _ _ _ _ _ _) ?_
   obtain ⟨v144,rfl,h145⟩:=dTaiCtl.inv h141
   refine .call (zr8_in_ok k r135_4 112) fun r146 cs147 H148 h149 q150 => ?_
   cases q150
   refine .ab ?_
   refine .cq ?_ ?_
   ·refine .fa ?_
    refine .op ((S137.atG (i:=0) rfl).ld (j:=3) rfl) ?_
    refine .ci ?_
    have h152:=SlF.int1 .u8 (IntKind.wrap .u8 yg59.Peer)
    refine .op (bldS (pC rfl pN) (by kernel_rfl : _ = some (vOf h152))) ?_
    refine .call (zr8_field_ok r135_3 (S137.ownA (i:=0) rfl) 3 ([(IntKind.wrap .u8 yg59.Peer)]) (fun _ _ => h152.h _)) fun r153 cs154 H155 h156 q157 => ?_
    obtain ⟨c158,cs159,h160,h161,h162,q157⟩:=q157
    obtain rfl : cs154 = [c158]:=q157
    have S163:=S137.killA (i:=0) rfl rfl h162
    obtain ⟨v164,H165,e166,S167⟩:=S163.land (dt:=(dI .u8)) (d:=48) (e:=0) (n:=0) h160 h161 (by decide) rfl
    erw [e166]
    refine .call (zr8_in_ok k r135_4 104) fun r169 cs170 H171 h172 q173 => ?_
    cases q173
    refine .ab ?_
    refine .cq ?_ ?_
    ·refine .fa ?_
     refine .op ((S167.atG (i:=0) rfl).ld (j:=4) rfl) ?_
     refine .ci ?_
     refine .call (zr1_Put_ok k (([] : List Int)) ((SlF.nil (dI .u8)).h H165) (IntKind.wrap .u64 yg59.Height) 2) fun r175 cs176 H177 h178 q179 => ?_
     obtain ⟨c180,cs181,h182,h183,q179⟩:=q179
     cases q179
     obtain ⟨v184,H185,e186,S187⟩:=S167.land (dt:=(dI .u8)) (d:=55) (e:=0) (n:=0) h182 h183 (by decide) rfl
     erw [e186]
     refine .call (zr8_field_ok r153 (S187.ownA (i:=1) rfl) 4 r175 (fun _ hk => (S187.killA (i:=1) rfl rfl hk).sl (i:=0) rfl)) fun r189 cs190 H191 h192 q193 => ?_
     obtain ⟨c194,cs195,h196,h197,h198,q193⟩:=q193
     obtain rfl : cs190 = [c194]:=q193
     have S199:=S187.killA (i:=1) rfl rfl h198
     obtain ⟨v200,H201,e202,S203⟩:=S199.land (dt:=(dI .u8)) (d:=56) (e:=0) (n:=0) h196 h197 (by decide) rfl
     erw [e202]
     refine .call (zr8_in_ok k r135_4 107) fun r205 cs206 H207 h208 q209 => ?_
     cases q209
     refine .ab ?_
     refine .cq ?_ ?_
     ·refine .fa ?_
      refine .op ((S203.atG (i:=0) rfl).ld (j:=5) rfl) ?_
      refine .ci ?_
      have h211:=SlF.int1 .u8 (IntKind.wrap .u8 yg59.Class)
      refine .op (bldS (pC rfl pN) (by kernel_rfl : _ = some (vOf h211))) ?_
      refine .call (zr8_field_ok r189 (S203.ownA (i:=0) rfl) 5 ([(IntKind.wrap .u8 yg59.Class)]) (fun _ _ => h211.h _)) fun r212 cs213 H214 h215 q216 => ?_
      obtain ⟨c217,cs218,h219,h220,h221,q216⟩:=q216
      obtain rfl : cs213 = [c217]:=q216
      have S222:=S203.killA (i:=0) rfl rfl h221
      obtain ⟨v223,H224,e225,S226⟩:=S222.land (dt:=(dI .u8)) (d:=64) (e:=0) (n:=0) h219 h220 (by decide) rfl
      erw [e225]
      refine .call (zr8_in_ok k r135_4 121) fun r228 cs229 H230 h231 q232 => ?_
      cases q232
      refine .ab ?_
      refine .cq ?_ ?_
      ·refine .fa ?_
       refine .op ((S226.atG (i:=0) rfl).ld (j:=6) rfl) ?_
       refine .ci ?_
       have h234:=SlF.int1 .u8 (IntKind.wrap .u8 yg59.Layer)
       refine .op (bldS (pC rfl pN) (by kernel_rfl : _ = some (vOf h234))) ?_
       refine .call (zr8_field_ok r212 (S226.ownA (i:=0) rfl) 6 ([(IntKind.wrap .u8 yg59.Layer)]) (fun _ _ => h234.h _)) fun r235 cs236 H237 h238 q239 => ?_
       obtain ⟨c240,cs241,h242,h243,h244,q239⟩:=q239
       obtain rfl : cs236 = [c240]:=q239
       have S245:=S226.killA (i:=0) rfl rfl h244
       obtain ⟨v246,H247,e248,S249⟩:=S245.land (dt:=(dI .u8)) (d:=72) (e:=0) (n:=0) h242 h243 (by decide) rfl
       erw [e248]
       refine .call (zr8_in_ok k r135_4 101) fun r251 cs252 H253 h254 q255 => ?_
       cases q255
       refine .ab ?_
       refine .cq ?_ ?_
       ·refine .fa ?_
        refine .op ((S249.atG (i:=0) rfl).ld (j:=7) rfl) ?_
        refine .ci ?_
        have h257:=SlF.int1 .u8 (IntKind.wrap .u8 yg59.Code)
        refine .op (bldS (pC rfl pN) (by kernel_rfl : _ = some (vOf h257))) ?_
        refine .call (zr8_field_ok r235 (S249.ownA (i:=0) rfl) 7 ([(IntKind.wrap .u8 yg59.Code)]) (fun _ _ => h257.h _)) fun r258 cs259 H260 h261 q262 => ?_
        obtain ⟨c263,cs264,h265,h266,h267,q262⟩:=q262
        obtain rfl : cs259 = [c263]:=q262
        have S268:=S249.killA (i:=0) rfl rfl h267
        obtain ⟨v269,H270,e271,S272⟩:=S268.land (dt:=(dI .u8)) (d:=80) (e:=0) (n:=0) h265 h266 (by decide) rfl
        erw [e271]
        refine .fa ?_
        refine .op ((S272.atG (i:=0) rfl).ld (j:=0) rfl) ?_
        refine .ci ?_
        have h274:=SlF.int1 .u8 (IntKind.wrap .u8 yg59.Kind)
        refine .op (bldS (pC rfl pN) (by kernel_rfl : _ = some (vOf h274))) ?_
        refine .op ((S272.sl (i:=0) rfl).len) ?_
        refine .ci ?_
        refine .call (zr1_Put_ok k ([(IntKind.wrap .u8 yg59.Kind)]) (h274.h H270) (IntKind.wrap .u64 ((r258.length : Int))) 2) fun r275 cs276 H277 h278 q279 => ?_
        obtain ⟨c280,cs281,h282,h283,q279⟩:=q279
        cases q279
        obtain ⟨v284,H285,e286,S287⟩:=S272.land (dt:=(dI .u8)) (d:=88) (e:=0) (n:=0) h282 h283 (by decide) rfl
        erw [e286]
        refine .bd fun a289 h290 => ?_
        obtain ⟨v291,H292,e293,S294⟩:=S287.app (i:=0) (d:=90) (e:=1) (own:=true) (σ:=(9::0::1::1::1::1::1::1::1::1::1::1::0::σ)) rfl (S287.sl (i:=1) rfl).y h290 rfl (by decide) (by decide) rfl
        refine .op (e293) ?_
        obtain ⟨c300,cs301,H295,e296,h298,h299,S297⟩:=S294.expOwn (i:=0) (τ:=0::1::σ) rfl rfl rfl
        exact .fin (S297.finE (Ex.st e296 Ex.nil)) ⟨c300,cs301,h298,h299,rfl⟩
       refine .fa ?_
       refine .op ((S249.atG (i:=0) rfl).ld (j:=0) rfl) ?_
       refine .ci ?_
       have h302:=SlF.int1 .u8 (IntKind.wrap .u8 yg59.Kind)
       refine .op (bldS (pC rfl pN) (by kernel_rfl : _ = some (vOf h302))) ?_
       refine .op ((S249.sl (i:=0) rfl).len) ?_
       refine .ci ?_
       refine .call (zr1_Put_ok k ([(IntKind.wrap .u8 yg59.Kind)]) (h302.h H247) (IntKind.wrap .u64 ((r235.length : Int))) 2) fun r303 cs304 H305 h306 q307 => ?_
       obtain ⟨c308,cs309,h310,h311,q307⟩:=q307
       cases q307
       obtain ⟨v312,H313,e314,S315⟩:=S249.land (dt:=(dI .u8)) (d:=88) (e:=0) (n:=0) h310 h311 (by decide) rfl
       erw [e314]
       refine .bd fun a317 h318 => ?_
       obtain ⟨v319,H320,e321,S322⟩:=S315.app (i:=0) (d:=90) (e:=1) (own:=true) (σ:=(9::0::1::1::1::1::1::1::1::1::1::1::0::σ)) rfl (S315.sl (i:=1) rfl).y h318 rfl (by decide) (by decide) rfl
       refine .op (e321) ?_
       obtain ⟨c328,cs329,H323,e324,h326,h327,S325⟩:=S322.expOwn (i:=0) (τ:=0::1::σ) rfl rfl rfl
       exact .fin (S325.finE (Ex.st e324 Ex.nil)) ⟨c328,cs329,h326,h327,rfl⟩
      refine .call (zr8_in_ok k r135_4 101) fun r330 cs331 H332 h333 q334 => ?_
      cases q334
      refine .ab ?_
      refine .cq ?_ ?_
      ·refine .fa ?_
       refine .op ((S226.atG (i:=0) rfl).ld (j:=7) rfl) ?_
       refine .ci ?_
       have h336:=SlF.int1 .u8 (IntKind.wrap .u8 yg59.Code)
       refine .op (bldS (pC rfl pN) (by kernel_rfl : _ = some (vOf h336))) ?_
       refine .call (zr8_field_ok r212 (S226.ownA (i:=0) rfl) 7 ([(IntKind.wrap .u8 yg59.Code)]) (fun _ _ => h336.h _)) fun r337 cs338 H339 h340 q341 => ?_
       obtain ⟨c342,cs343,h344,h345,h346,q341⟩:=q341
       obtain rfl : cs338 = [c342]:=q341
       have S347:=S226.killA (i:=0) rfl rfl h346
       obtain ⟨v348,H349,e350,S351⟩:=S347.land (dt:=(dI .u8)) (d:=80) (e:=0) (n:=0) h344 h345 (by decide) rfl
       erw [e350]
       refine .fa ?_
       refine .op ((S351.atG (i:=0) rfl).ld (j:=0) rfl) ?_
       refine .ci ?_
       have h353:=SlF.int1 .u8 (IntKind.wrap .u8 yg59.Kind)
       refine .op (bldS (pC rfl pN) (by kernel_rfl : _ = some (vOf h353))) ?_
       refine .op ((S351.sl (i:=0) rfl).len) ?_
       refine .ci ?_
       refine .call (zr1_Put_ok k ([(IntKind.wrap .u8 yg59.Kind)]) (h353.h H349) (IntKind.wrap .u64 ((r337.length : Int))) 2) fun r354 cs355 H356 h357 q358 => ?_
       obtain ⟨c359,cs360,h361,h362,q358⟩:=q358
       cases q358
       obtain ⟨v363,H364,e365,S366⟩:=S351.land (dt:=(dI .u8)) (d:=88) (e:=0) (n:=0) h361 h362 (by decide) rfl
       erw [e365]
       refine .bd fun a368 h369 => ?_
       obtain ⟨v370,H371,e372,S373⟩:=S366.app (i:=0) (d:=90) (e:=1) (own:=true) (σ:=(9::0::1::1::1::1::1::1::1::1::1::1::0::σ)) rfl (S366.sl (i:=1) rfl).y h369 rfl (by decide) (by decide) rfl
       refine .op (e372) ?_
       obtain ⟨c379,cs380,H374,e375,h377,h378,S376⟩:=S373.expOwn (i:=0) (τ:=0::1::σ) rfl rfl rfl
       exact .fin (S376.finE (Ex.st e375 Ex.nil)) ⟨c379,cs380,h377,h378,rfl⟩
      refine .fa ?_
      refine .op ((S226.atG (i:=0) rfl).ld (j:=0) rfl) ?_
      refine .ci ?_
      have h381:=SlF.int1 .u8 (IntKind.wrap .u8 yg59.Kind)
      refine .op (bldS (pC rfl pN) (by kernel_rfl : _ = some (vOf h381))) ?_
      refine .op ((S226.sl (i:=0) rfl).len) ?_
      refine .ci ?_
      refine .call (zr1_Put_ok k ([(IntKind.wrap .u8 yg59.Kind)]) (h381.h H224) (IntKind.wrap .u64 ((r212.length : Int))) 2) fun r382 cs383 H384 h385 q386 => ?_
      obtain ⟨c387,cs388,h389,h390,q386⟩:=q386
      cases q386
      obtain ⟨v391,H392,e393,S394⟩:=S226.land (dt:=(dI .u8)) (d:=88) (e:=0) (n:=0) h389 h390 (by decide) rfl
      erw [e393]
      refine .bd fun a396 h397 => ?_
      obtain ⟨v398,H399,e400,S401⟩:=S394.app (i:=0) (d:=90) (e:=1) (own:=true) (σ:=(9::0::1::1::1::1::1::1::1::1::1::1::0::σ)) rfl (S394.sl (i:=1) rfl).y h397 rfl (by decide) (by decide) rfl
      refine .op (e400) ?_
      obtain ⟨c407,cs408,H402,e403,h405,h406,S404⟩:=S401.expOwn (i:=0) (τ:=0::1::σ) rfl rfl rfl
      exact .fin (S404.finE (Ex.st e403 Ex.nil)) ⟨c407,cs408,h405,h406,rfl⟩
     refine .call (zr8_in_ok k r135_4 121) fun r409 cs410 H411 h412 q413 => ?_
     cases q413
     refine .ab ?_
     refine .cq ?_ ?_
     ·refine .fa ?_
      refine .op ((S203.atG (i:=0) rfl).ld (j:=6) rfl) ?_
      refine .ci ?_
      have h415:=SlF.int1 .u8 (IntKind.wrap .u8 yg59.Layer)
      refine .op (bldS (pC rfl pN) (by kernel_rfl : _ = some (vOf h415))) ?_
      refine .call (zr8_field_ok r189 (S203.ownA (i:=0) rfl) 6 ([(IntKind.wrap .u8 yg59.Layer)]) (fun _ _ => h415.h _)) fun r416 cs417 H418 h419 q420 => ?_
      obtain ⟨c421,cs422,h423,h424,h425,q420⟩:=q420
      obtain rfl : cs417 = [c421]:=q420
      have S426:=S203.killA (i:=0) rfl rfl h425
      obtain ⟨v427,H428,e429,S430⟩:=S426.land (dt:=(dI .u8)) (d:=72) (e:=0) (n:=0) h423 h424 (by decide) rfl
      erw [e429]
      refine .call (zr8_in_ok k r135_4 101) fun r432 cs433 H434 h435 q436 => ?_
      cases q436
      refine .ab ?_
      refine .cq ?_ ?_
      ·refine .fa ?_
       refine .op ((S430.atG (i:=0) rfl).ld (j:=7) rfl) ?_
       refine .ci ?_
       have h438:=SlF.int1 .u8 (IntKind.wrap .u8 yg59.Code)
       refine .op (bldS (pC rfl pN) (by kernel_rfl : _ = some (vOf h438))) ?_
       refine .call (zr8_field_ok r416 (S430.ownA (i:=0) rfl) 7 ([(IntKind.wrap .u8 yg59.Code)]) (fun _ _ => h438.h _)) fun r439 cs440 H441 h442 q443 => ?_
       obtain ⟨c444,cs445,h446,h447,h448,q443⟩:=q443
       obtain rfl : cs440 = [c444]:=q443
       have S449:=S430.killA (i:=0) rfl rfl h448
       obtain ⟨v450,H451,e452,S453⟩:=S449.land (dt:=(dI .u8)) (d:=80) (e:=0) (n:=0) h446 h447 (by decide) rfl
       erw [e452]
       refine .fa ?_
       refine .op ((S453.atG (i:=0) rfl).ld (j:=0) rfl) ?_
       refine .ci ?_
       have h455:=SlF.int1 .u8 (IntKind.wrap .u8 yg59.Kind)
       refine .op (bldS (pC rfl pN) (by kernel_rfl : _ = some (vOf h455))) ?_
       refine .op ((S453.sl (i:=0) rfl).len) ?_
       refine .ci ?_
       refine .call (zr1_Put_ok k ([(IntKind.wrap .u8 yg59.Kind)]) (h455.h H451) (IntKind.wrap .u64 ((r439.length : Int))) 2) fun r456 cs457 H458 h459 q460 => ?_
       obtain ⟨c461,cs462,h463,h464,q460⟩:=q460
       cases q460
       obtain ⟨v465,H466,e467,S468⟩:=S453.land (dt:=(dI .u8)) (d:=88) (e:=0) (n:=0) h463 h464 (by decide) rfl
       erw [e467]
       refine .bd fun a470 h471 => ?_
       obtain ⟨v472,H473,e474,S475⟩:=S468.app (i:=0) (d:=90) (e:=1) (own:=true) (σ:=(9::0::1::1::1::1::1::1::1::1::1::1::0::σ)) rfl (S468.sl (i:=1) rfl).y h471 rfl (by decide) (by decide) rfl
       refine .op (e474) ?_
       obtain ⟨c481,cs482,H476,e477,h479,h480,S478⟩:=S475.expOwn (i:=0) (τ:=0::1::σ) rfl rfl rfl
       exact .fin (S478.finE (Ex.st e477 Ex.nil)) ⟨c481,cs482,h479,h480,rfl⟩
      refine .fa ?_
      refine .op ((S430.atG (i:=0) rfl).ld (j:=0) rfl) ?_
      refine .ci ?_
      have h483:=SlF.int1 .u8 (IntKind.wrap .u8 yg59.Kind)
      refine .op (bldS (pC rfl pN) (by kernel_rfl : _ = some (vOf h483))) ?_
      refine .op ((S430.sl (i:=0) rfl).len) ?_
      refine .ci ?_
      refine .call (zr1_Put_ok k ([(IntKind.wrap .u8 yg59.Kind)]) (h483.h H428) (IntKind.wrap .u64 ((r416.length : Int))) 2) fun r484 cs485 H486 h487 q488 => ?_
      obtain ⟨c489,cs490,h491,h492,q488⟩:=q488
      cases q488
      obtain ⟨v493,H494,e495,S496⟩:=S430.land (dt:=(dI .u8)) (d:=88) (e:=0) (n:=0) h491 h492 (by decide) rfl
      erw [e495]
      refine .bd fun a498 h499 => ?_
      obtain ⟨v500,H501,e502,S503⟩:=S496.app (i:=0) (d:=90) (e:=1) (own:=true) (σ:=(9::0::1::1::1::1::1::1::1::1::1::1::0::σ)) rfl (S496.sl (i:=1) rfl).y h499 rfl (by decide) (by decide) rfl
      refine .op (e502) ?_
      obtain ⟨c509,cs510,H504,e505,h507,h508,S506⟩:=S503.expOwn (i:=0) (τ:=0::1::σ) rfl rfl rfl
      exact .fin (S506.finE (Ex.st e505 Ex.nil)) ⟨c509,cs510,h507,h508,rfl⟩
     refine .call (zr8_in_ok k r135_4 101) fun r511 cs512 H513 h514 q515 => ?_
     cases q515
     refine .ab ?_
     refine .cq ?_ ?_
     ·refine .fa ?_
      refine .op ((S203.atG (i:=0) rfl).ld (j:=7) rfl) ?_
      refine .ci ?_
      have h517:=SlF.int1 .u8 (IntKind.wrap .u8 yg59.Code)
      refine .op (bldS (pC rfl pN) (by kernel_rfl : _ = some (vOf h517))) ?_
      refine .call (zr8_field_ok r189 (S203.ownA (i:=0) rfl) 7 ([(IntKind.wrap .u8 yg59.Code)]) (fun _ _ => h517.h _)) fun r518 cs519 H520 h521 q522 => ?_
      obtain ⟨c523,cs524,h525,h526,h527,q522⟩:=q522
      obtain rfl : cs519 = [c523]:=q522
      have S528:=S203.killA (i:=0) rfl rfl h527
      obtain ⟨v529,H530,e531,S532⟩:=S528.land (dt:=(dI .u8)) (d:=80) (e:=0) (n:=0) h525 h526 (by decide) rfl
      erw [e531]
      refine .fa ?_
      refine .op ((S532.atG (i:=0) rfl).ld (j:=0) rfl) ?_
      refine .ci ?_
      have h534:=SlF.int1 .u8 (IntKind.wrap .u8 yg59.Kind)
      refine .op (bldS (pC rfl pN) (by kernel_rfl : _ = some (vOf h534))) ?_
      refine .op ((S532.sl (i:=0) rfl).len) ?_
      refine .ci ?_
      refine .call (zr1_Put_ok k ([(IntKind.wrap .u8 yg59.Kind)]) (h534.h H530) (IntKind.wrap .u64 ((r518.length : Int))) 2) fun r535 cs536 H537 h538 q539 => ?_
      obtain ⟨c540,cs541,h542,h543,q539⟩:=q539
      cases q539
      obtain ⟨v544,H545,e546,S547⟩:=S532.land (dt:=(dI .u8)) (d:=88) (e:=0) (n:=0) h542 h543 (by decide) rfl
      erw [e546]
      refine .bd fun a549 h550 => ?_
      obtain ⟨v551,H552,e553,S554⟩:=S547.app (i:=0) (d:=90) (e:=1) (own:=true) (σ:=(9::0::1::1::1::1::1::1::1::1::1::1::0::σ)) rfl (S547.sl (i:=1) rfl).y h550 rfl (by decide) (by decide) rfl
      refine .op (e553) ?_
      obtain ⟨c560,cs561,H555,e556,h558,h559,S557⟩:=S554.expOwn (i:=0) (τ:=0::1::σ) rfl rfl rfl
      exact .fin (S557.finE (Ex.st e556 Ex.nil)) ⟨c560,cs561,h558,h559,rfl⟩
     refine .fa ?_
     refine .op ((S203.atG (i:=0) rfl).ld (j:=0) rfl) ?_
     refine .ci ?_
     have h562:=SlF.int1 .u8 (IntKind.wrap .u8 yg59.Kind)
     refine .op (bldS (pC rfl pN) (by kernel_rfl : _ = some (vOf h562))) ?_
     refine .op ((S203.sl (i:=0) rfl).len) ?_
     refine .ci ?_
     refine .call (zr1_Put_ok k ([(IntKind.wrap .u8 yg59.Kind)]) (h562.h H201) (IntKind.wrap .u64 ((r189.length : Int))) 2) fun r563 cs564 H565 h566 q567 => ?_
     obtain ⟨c568,cs569,h570,h571,q567⟩:=q567
     cases q567
     obtain ⟨v572,H573,e574,S575⟩:=S203.land (dt:=(dI .u8)) (d:=88) (e:=0) (n:=0) h570 h571 (by decide) rfl
     erw [e574]
     refine .bd fun a577 h578 => ?_
     obtain ⟨v579,H580,e581,S582⟩:=S575.app (i:=0) (d:=90) (e:=1) (own:=true) (σ:=(9::0::1::1::1::1::1::1::1::1::1::1::0::σ)) rfl (S575.sl (i:=1) rfl).y h578 rfl (by decide) (by decide) rfl
     refine .op (e581) ?_
     obtain ⟨c588,cs589,H583,e584,h586,h587,S585⟩:=S582.expOwn (i:=0) (τ:=0::1::σ) rfl rfl rfl
     exact .fin (S585.finE (Ex.st e584 Ex.nil)) ⟨c588,cs589,h586,h587,rfl⟩
    refine .call (zr8_in_ok k r135_4 107) fun r590 cs591 H592 h593 q594 => ?_
    cases q594
    refine .ab ?_
    refine .cq ?_ ?_
    ·refine .fa ?_
     refine .op ((S167.atG (i:=0) rfl).ld (j:=5) rfl) ?_
     refine .ci ?_
     have h596:=SlF.int1 .u8 (IntKind.wrap .u8 yg59.Class)
     refine .op (bldS (pC rfl pN) (by kernel_rfl : _ = some (vOf h596))) ?_
     refine .call (zr8_field_ok r153 (S167.ownA (i:=0) rfl) 5 ([(IntKind.wrap .u8 yg59.Class)]) (fun _ _ => h596.h _)) fun r597 cs598 H599 h600 q601 => ?_
     obtain ⟨c602,cs603,h604,h605,h606,q601⟩:=q601
     obtain rfl : cs598 = [c602]:=q601
     have S607:=S167.killA (i:=0) rfl rfl h606
     obtain ⟨v608,H609,e610,S611⟩:=S607.land (dt:=(dI .u8)) (d:=64) (e:=0) (n:=0) h604 h605 (by decide) rfl
     erw [e610]
     refine .call (zr8_in_ok k r135_4 121) fun r613 cs614 H615 h616 q617 => ?_
     cases q617
     refine .ab ?_
     refine .cq ?_ ?_
     ·refine .fa ?_
      refine .op ((S611.atG (i:=0) rfl).ld (j:=6) rfl) ?_
      refine .ci ?_
      have h619:=SlF.int1 .u8 (IntKind.wrap .u8 yg59.Layer)
      refine .op (bldS (pC rfl pN) (by kernel_rfl : _ = some (vOf h619))) ?_
      refine .call (zr8_field_ok r597 (S611.ownA (i:=0) rfl) 6 ([(IntKind.wrap .u8 yg59.Layer)]) (fun _ _ => h619.h _)) fun r620 cs621 H622 h623 q624 => ?_
      obtain ⟨c625,cs626,h627,h628,h629,q624⟩:=q624
      obtain rfl : cs621 = [c625]:=q624
      have S630:=S611.killA (i:=0) rfl rfl h629
      obtain ⟨v631,H632,e633,S634⟩:=S630.land (dt:=(dI .u8)) (d:=72) (e:=0) (n:=0) h627 h628 (by decide) rfl
      erw [e633]
      refine .call (zr8_in_ok k r135_4 101) fun r636 cs637 H638 h639 q640 => ?_
      cases q640
      refine .ab ?_
      refine .cq ?_ ?_
      ·refine .fa ?_
       refine .op ((S634.atG (i:=0) rfl).ld (j:=7) rfl) ?_
       refine .ci ?_
       have h642:=SlF.int1 .u8 (IntKind.wrap .u8 yg59.Code)
       refine .op (bldS (pC rfl pN) (by kernel_rfl : _ = some (vOf h642))) ?_
       refine .call (zr8_field_ok r620 (S634.ownA (i:=0) rfl) 7 ([(IntKind.wrap .u8 yg59.Code)]) (fun _ _ => h642.h _)) fun r643 cs644 H645 h646 q647 => ?_
       obtain ⟨c648,cs649,h650,h651,h652,q647⟩:=q647
       obtain rfl : cs644 = [c648]:=q647
       have S653:=S634.killA (i:=0) rfl rfl h652
       obtain ⟨v654,H655,e656,S657⟩:=S653.land (dt:=(dI .u8)) (d:=80) (e:=0) (n:=0) h650 h651 (by decide) rfl
       erw [e656]
       refine .fa ?_
       refine .op ((S657.atG (i:=0) rfl).ld (j:=0) rfl) ?_
       refine .ci ?_
       have h659:=SlF.int1 .u8 (IntKind.wrap .u8 yg59.Kind)
       refine .op (bldS (pC rfl pN) (by kernel_rfl : _ = some (vOf h659))) ?_
       refine .op ((S657.sl (i:=0) rfl).len) ?_
       refine .ci ?_
       refine .call (zr1_Put_ok k ([(IntKind.wrap .u8 yg59.Kind)]) (h659.h H655) (IntKind.wrap .u64 ((r643.length : Int))) 2) fun r660 cs661 H662 h663 q664 => ?_
       obtain ⟨c665,cs666,h667,h668,q664⟩:=q664
       cases q664
       obtain ⟨v669,H670,e671,S672⟩:=S657.land (dt:=(dI .u8)) (d:=88) (e:=0) (n:=0) h667 h668 (by decide) rfl
       erw [e671]
       refine .bd fun a674 h675 => ?_
       obtain ⟨v676,H677,e678,S679⟩:=S672.app (i:=0) (d:=90) (e:=1) (own:=true) (σ:=(9::0::1::1::1::1::1::1::1::1::1::1::0::σ)) rfl (S672.sl (i:=1) rfl).y h675 rfl (by decide) (by decide) rfl
       refine .op (e678) ?_
       obtain ⟨c685,cs686,H680,e681,h683,h684,S682⟩:=S679.expOwn (i:=0) (τ:=0::1::σ) rfl rfl rfl
       exact .fin (S682.finE (Ex.st e681 Ex.nil)) ⟨c685,cs686,h683,h684,rfl⟩
      refine .fa ?_
      refine .op ((S634.atG (i:=0) rfl).ld (j:=0) rfl) ?_
      refine .ci ?_
      have h687:=SlF.int1 .u8 (IntKind.wrap .u8 yg59.Kind)
      refine .op (bldS (pC rfl pN) (by kernel_rfl : _ = some (vOf h687))) ?_
      refine .op ((S634.sl (i:=0) rfl).len) ?_
      refine .ci ?_
      refine .call (zr1_Put_ok k ([(IntKind.wrap .u8 yg59.Kind)]) (h687.h H632) (IntKind.wrap .u64 ((r620.length : Int))) 2) fun r688 cs689 H690 h691 q692 => ?_
      obtain ⟨c693,cs694,h695,h696,q692⟩:=q692
      cases q692
      obtain ⟨v697,H698,e699,S700⟩:=S634.land (dt:=(dI .u8)) (d:=88) (e:=0) (n:=0) h695 h696 (by decide) rfl
      erw [e699]
      refine .bd fun a702 h703 => ?_
      obtain ⟨v704,H705,e706,S707⟩:=S700.app (i:=0) (d:=90) (e:=1) (own:=true) (σ:=(9::0::1::1::1::1::1::1::1::1::1::1::0::σ)) rfl (S700.sl (i:=1) rfl).y h703 rfl (by decide) (by decide) rfl
      refine .op (e706) ?_
      obtain ⟨c713,cs714,H708,e709,h711,h712,S710⟩:=S707.expOwn (i:=0) (τ:=0::1::σ) rfl rfl rfl
      exact .fin (S710.finE (Ex.st e709 Ex.nil)) ⟨c713,cs714,h711,h712,rfl⟩
     refine .call (zr8_in_ok k r135_4 101) fun r715 cs716 H717 h718 q719 => ?_
     cases q719
     refine .ab ?_
     refine .cq ?_ ?_
     ·refine .fa ?_
      refine .op ((S611.atG (i:=0) rfl).ld (j:=7) rfl) ?_
      refine .ci ?_
      have h721:=SlF.int1 .u8 (IntKind.wrap .u8 yg59.Code)
      refine .op (bldS (pC rfl pN) (by kernel_rfl : _ = some (vOf h721))) ?_
      refine .call (zr8_field_ok r597 (S611.ownA (i:=0) rfl) 7 ([(IntKind.wrap .u8 yg59.Code)]) (fun _ _ => h721.h _)) fun r722 cs723 H724 h725 q726 => ?_
      obtain ⟨c727,cs728,h729,h730,h731,q726⟩:=q726
      obtain rfl : cs723 = [c727]:=q726
      have S732:=S611.killA (i:=0) rfl rfl h731
      obtain ⟨v733,H734,e735,S736⟩:=S732.land (dt:=(dI .u8)) (d:=80) (e:=0) (n:=0) h729 h730 (by decide) rfl
      erw [e735]
      refine .fa ?_
      refine .op ((S736.atG (i:=0) rfl).ld (j:=0) rfl) ?_
      refine .ci ?_
      have h738:=SlF.int1 .u8 (IntKind.wrap .u8 yg59.Kind)
      refine .op (bldS (pC rfl pN) (by kernel_rfl : _ = some (vOf h738))) ?_
      refine .op ((S736.sl (i:=0) rfl).len) ?_
      refine .ci ?_
      refine .call (zr1_Put_ok k ([(IntKind.wrap .u8 yg59.Kind)]) (h738.h H734) (IntKind.wrap .u64 ((r722.length : Int))) 2) fun r739 cs740 H741 h742 q743 => ?_
      obtain ⟨c744,cs745,h746,h747,q743⟩:=q743
      cases q743
      obtain ⟨v748,H749,e750,S751⟩:=S736.land (dt:=(dI .u8)) (d:=88) (e:=0) (n:=0) h746 h747 (by decide) rfl
      erw [e750]
      refine .bd fun a753 h754 => ?_
      obtain ⟨v755,H756,e757,S758⟩:=S751.app (i:=0) (d:=90) (e:=1) (own:=true) (σ:=(9::0::1::1::1::1::1::1::1::1::1::1::0::σ)) rfl (S751.sl (i:=1) rfl).y h754 rfl (by decide) (by decide) rfl
      refine .op (e757) ?_
      obtain ⟨c764,cs765,H759,e760,h762,h763,S761⟩:=S758.expOwn (i:=0) (τ:=0::1::σ) rfl rfl rfl
      exact .fin (S761.finE (Ex.st e760 Ex.nil)) ⟨c764,cs765,h762,h763,rfl⟩
     refine .fa ?_
     refine .op ((S611.atG (i:=0) rfl).ld (j:=0) rfl) ?_
     refine .ci ?_
     have h766:=SlF.int1 .u8 (IntKind.wrap .u8 yg59.Kind)
     refine .op (bldS (pC rfl pN) (by kernel_rfl : _ = some (vOf h766))) ?_
     refine .op ((S611.sl (i:=0) rfl).len) ?_
     refine .ci ?_
     refine .call (zr1_Put_ok k ([(IntKind.wrap .u8 yg59.Kind)]) (h766.h H609) (IntKind.wrap .u64 ((r597.length : Int))) 2) fun r767 cs768 H769 h770 q771 => ?_
     obtain ⟨c772,cs773,h774,h775,q771⟩:=q771
     cases q771
     obtain ⟨v776,H777,e778,S779⟩:=S611.land (dt:=(dI .u8)) (d:=88) (e:=0) (n:=0) h774 h775 (by decide) rfl
     erw [e778]
     refine .bd fun a781 h782 => ?_
     obtain ⟨v783,H784,e785,S786⟩:=S779.app (i:=0) (d:=90) (e:=1) (own:=true) (σ:=(9::0::1::1::1::1::1::1::1::1::1::1::0::σ)) rfl (S779.sl (i:=1) rfl).y h782 rfl (by decide) (by decide) rfl
     refine .op (e785) ?_
     obtain ⟨c792,cs793,H787,e788,h790,h791,S789⟩:=S786.expOwn (i:=0) (τ:=0::1::σ) rfl rfl rfl
     exact .fin (S789.finE (Ex.st e788 Ex.nil)) ⟨c792,cs793,h790,h791,rfl⟩
    refine .call (zr8_in_ok k r135_4 121) fun r794 cs795 H796 h797 q798 => ?_
    cases q798
    refine .ab ?_
    refine .cq ?_ ?_
    ·refine .fa ?_
     refine .op ((S167.atG (i:=0) rfl).ld (j:=6) rfl) ?_
     refine .ci ?_
     have h800:=SlF.int1 .u8 (IntKind.wrap .u8 yg59.Layer)
     refine .op (bldS (pC rfl pN) (by kernel_rfl : _ = some (vOf h800))) ?_
     refine .call (zr8_field_ok r153 (S167.ownA (i:=0) rfl) 6 ([(IntKind.wrap .u8 yg59.Layer)]) (fun _ _ => h800.h _)) fun r801 cs802 H803 h804 q805 => ?_
     obtain ⟨c806,cs807,h808,h809,h810,q805⟩:=q805
     obtain rfl : cs802 = [c806]:=q805
     have S811:=S167.killA (i:=0) rfl rfl h810
     obtain ⟨v812,H813,e814,S815⟩:=S811.land (dt:=(dI .u8)) (d:=72) (e:=0) (n:=0) h808 h809 (by decide) rfl
     erw [e814]
     refine .call (zr8_in_ok k r135_4 101) fun r817 cs818 H819 h820 q821 => ?_
     cases q821
     refine .ab ?_
     refine .cq ?_ ?_
     ·refine .fa ?_
      refine .op ((S815.atG (i:=0) rfl).ld (j:=7) rfl) ?_
      refine .ci ?_
      have h823:=SlF.int1 .u8 (IntKind.wrap .u8 yg59.Code)
      refine .op (bldS (pC rfl pN) (by kernel_rfl : _ = some (vOf h823))) ?_
      refine .call (zr8_field_ok r801 (S815.ownA (i:=0) rfl) 7 ([(IntKind.wrap .u8 yg59.Code)]) (fun _ _ => h823.h _)) fun r824 cs825 H826 h827 q828 => ?_
      obtain ⟨c829,cs830,h831,h832,h833,q828⟩:=q828
      obtain rfl : cs825 = [c829]:=q828
      have S834:=S815.killA (i:=0) rfl rfl h833
      obtain ⟨v835,H836,e837,S838⟩:=S834.land (dt:=(dI .u8)) (d:=80) (e:=0) (n:=0) h831 h832 (by decide) rfl
      erw [e837]
      refine .fa ?_
      refine .op ((S838.atG (i:=0) rfl).ld (j:=0) rfl) ?_
      refine .ci ?_
      have h840:=SlF.int1 .u8 (IntKind.wrap .u8 yg59.Kind)
      refine .op (bldS (pC rfl pN) (by kernel_rfl : _ = some (vOf h840))) ?_
      refine .op ((S838.sl (i:=0) rfl).len) ?_
      refine .ci ?_
      refine .call (zr1_Put_ok k ([(IntKind.wrap .u8 yg59.Kind)]) (h840.h H836) (IntKind.wrap .u64 ((r824.length : Int))) 2) fun r841 cs842 H843 h844 q845 => ?_
      obtain ⟨c846,cs847,h848,h849,q845⟩:=q845
      cases q845
      obtain ⟨v850,H851,e852,S853⟩:=S838.land (dt:=(dI .u8)) (d:=88) (e:=0) (n:=0) h848 h849 (by decide) rfl
      erw [e852]
      refine .bd fun a855 h856 => ?_
      obtain ⟨v857,H858,e859,S860⟩:=S853.app (i:=0) (d:=90) (e:=1) (own:=true) (σ:=(9::0::1::1::1::1::1::1::1::1::1::1::0::σ)) rfl (S853.sl (i:=1) rfl).y h856 rfl (by decide) (by decide) rfl
      refine .op (e859) ?_
      obtain ⟨c866,cs867,H861,e862,h864,h865,S863⟩:=S860.expOwn (i:=0) (τ:=0::1::σ) rfl rfl rfl
      exact .fin (S863.finE (Ex.st e862 Ex.nil)) ⟨c866,cs867,h864,h865,rfl⟩
     refine .fa ?_
     refine .op ((S815.atG (i:=0) rfl).ld (j:=0) rfl) ?_
     refine .ci ?_
     have h868:=SlF.int1 .u8 (IntKind.wrap .u8 yg59.Kind)
     refine .op (bldS (pC rfl pN) (by kernel_rfl : _ = some (vOf h868))) ?_
     refine .op ((S815.sl (i:=0) rfl).len) ?_
     refine .ci ?_
     refine .call (zr1_Put_ok k ([(IntKind.wrap .u8 yg59.Kind)]) (h868.h H813) (IntKind.wrap .u64 ((r801.length : Int))) 2) fun r869 cs870 H871 h872 q873 => ?_
     obtain ⟨c874,cs875,h876,h877,q873⟩:=q873
     cases q873
     obtain ⟨v878,H879,e880,S881⟩:=S815.land (dt:=(dI .u8)) (d:=88) (e:=0) (n:=0) h876 h877 (by decide) rfl
     erw [e880]
     refine .bd fun a883 h884 => ?_
     obtain ⟨v885,H886,e887,S888⟩:=S881.app (i:=0) (d:=90) (e:=1) (own:=true) (σ:=(9::0::1::1::1::1::1::1::1::1::1::1::0::σ)) rfl (S881.sl (i:=1) rfl).y h884 rfl (by decide) (by decide) rfl
     refine .op (e887) ?_
     obtain ⟨c894,cs895,H889,e890,h892,h893,S891⟩:=S888.expOwn (i:=0) (τ:=0::1::σ) rfl rfl rfl
     exact .fin (S891.finE (Ex.st e890 Ex.nil)) ⟨c894,cs895,h892,h893,rfl⟩
    refine .call (zr8_in_ok k r135_4 101) fun r896 cs897 H898 h899 q900 => ?_
    cases q900
    refine .ab ?_
    refine .cq ?_ ?_
    ·refine .fa ?_
     refine .op ((S167.atG (i:=0) rfl).ld (j:=7) rfl) ?_
     refine .ci ?_
     have h902:=SlF.int1 .u8 (IntKind.wrap .u8 yg59.Code)
     refine .op (bldS (pC rfl pN) (by kernel_rfl : _ = some (vOf h902))) ?_
     refine .call (zr8_field_ok r153 (S167.ownA (i:=0) rfl) 7 ([(IntKind.wrap .u8 yg59.Code)]) (fun _ _ => h902.h _)) fun r903 cs904 H905 h906 q907 => ?_
     obtain ⟨c908,cs909,h910,h911,h912,q907⟩:=q907
     obtain rfl : cs904 = [c908]:=q907
     have S913:=S167.killA (i:=0) rfl rfl h912
     obtain ⟨v914,H915,e916,S917⟩:=S913.land (dt:=(dI .u8)) (d:=80) (e:=0) (n:=0) h910 h911 (by decide) rfl
     erw [e916]
     refine .fa ?_
     refine .op ((S917.atG (i:=0) rfl).ld (j:=0) rfl) ?_
     refine .ci ?_
     have h919:=SlF.int1 .u8 (IntKind.wrap .u8 yg59.Kind)
     refine .op (bldS (pC rfl pN) (by kernel_rfl : _ = some (vOf h919))) ?_
     refine .op ((S917.sl (i:=0) rfl).len) ?_
     refine .ci ?_
     refine .call (zr1_Put_ok k ([(IntKind.wrap .u8 yg59.Kind)]) (h919.h H915) (IntKind.wrap .u64 ((r903.length : Int))) 2) fun r920 cs921 H922 h923 q924 => ?_
     obtain ⟨c925,cs926,h927,h928,q924⟩:=q924
     cases q924
     obtain ⟨v929,H930,e931,S932⟩:=S917.land (dt:=(dI .u8)) (d:=88) (e:=0) (n:=0) h927 h928 (by decide) rfl
     erw [e931]
     refine .bd fun a934 h935 => ?_
     obtain ⟨v936,H937,e938,S939⟩:=S932.app (i:=0) (d:=90) (e:=1) (own:=true) (σ:=(9::0::1::1::1::1::1::1::1::1::1::1::0::σ)) rfl (S932.sl (i:=1) rfl).y h935 rfl (by decide) (by decide) rfl
     refine .op (e938) ?_
     obtain ⟨c945,cs946,H940,e941,h943,h944,S942⟩:=S939.expOwn (i:=0) (τ:=0::1::σ) rfl rfl rfl
     exact .fin (S942.finE (Ex.st e941 Ex.nil)) ⟨c945,cs946,h943,h944,rfl⟩
    refine .fa ?_
    refine .op ((S167.atG (i:=0) rfl).ld (j:=0) rfl) ?_
    refine .ci ?_
    have h947:=SlF.int1 .u8 (IntKind.wrap .u8 yg59.Kind)
    refine .op (bldS (pC rfl pN) (by kernel_rfl : _ = some (vOf h947))) ?_
    refine .op ((S167.sl (i:=0) rfl).len) ?_
    refine .ci ?_
    refine .call (zr1_Put_ok k ([(IntKind.wrap .u8 yg59.Kind)]) (h947.h H165) (IntKind.wrap .u64 ((r153.length : Int))) 2) fun r948 cs949 H950 h951 q952 => ?_
    obtain ⟨c953,cs954,h955,h956,q952⟩:=q952
    cases q952
    obtain ⟨v957,H958,e959,S960⟩:=S167.land (dt:=(dI .u8)) (d:=88) (e:=0) (n:=0) h955 h956 (by decide) rfl
    erw [e959]
    refine .bd fun a962 h963 => ?_
    obtain ⟨v964,H965,e966,S967⟩:=S960.app (i:=0) (d:=90) (e:=1) (own:=true) (σ:=(9::0::1::1::1::1::1::1::1::1::1::1::0::σ)) rfl (S960.sl (i:=1) rfl).y h963 rfl (by decide) (by decide) rfl
    refine .op (e966) ?_
    obtain ⟨c973,cs974,H968,e969,h971,h972,S970⟩:=S967.expOwn (i:=0) (τ:=0::1::σ) rfl rfl rfl
    exact .fin (S970.finE (Ex.st e969 Ex.nil)) ⟨c973,cs974,h971,h972,rfl⟩
   refine .call (zr8_in_ok k r135_4 104) fun r975 cs976 H977 h978 q979 => ?_
   cases q979
   refine .ab ?_
   refine .cq ?_ ?_
   ·refine .fa ?_
    refine .op ((S137.atG (i:=0) rfl).ld (j:=4) rfl) ?_
    refine .ci ?_
    refine .call (zr1_Put_ok k (([] : List Int)) ((SlF.nil (dI .u8)).h H136) (IntKind.wrap .u64 yg59.Height) 2) fun r981 cs982 H983 h984 q985 => ?_
    obtain ⟨c986,cs987,h988,h989,q985⟩:=q985
    cases q985
    obtain ⟨v990,H991,e992,S993⟩:=S137.land (dt:=(dI .u8)) (d:=55) (e:=0) (n:=0) h988 h989 (by decide) rfl
    erw [e992]
    refine .call (zr8_field_ok r135_3 (S993.ownA (i:=1) rfl) 4 r981 (fun _ hk => (S993.killA (i:=1) rfl rfl hk).sl (i:=0) rfl)) fun r995 cs996 H997 h998 q999 => ?_
    obtain ⟨c1000,cs1001,h1002,h1003,h1004,q999⟩:=q999
    obtain rfl : cs996 = [c1000]:=q999
    have S1005:=S993.killA (i:=1) rfl rfl h1004
    obtain ⟨v1006,H1007,e1008,S1009⟩:=S1005.land (dt:=(dI .u8)) (d:=56) (e:=0) (n:=0) h1002 h1003 (by decide) rfl
    erw [e1008]
    refine .call (zr8_in_ok k r135_4 107) fun r1011 cs1012 H1013 h1014 q1015 => ?_
    cases q1015
    refine .ab ?_
    refine .cq ?_ ?_
    ·refine .fa ?_
     refine .op ((S1009.atG (i:=0) rfl).ld (j:=5) rfl) ?_
     refine .ci ?_
     have h1017:=SlF.int1 .u8 (IntKind.wrap .u8 yg59.Class)
     refine .op (bldS (pC rfl pN) (by kernel_rfl : _ = some (vOf h1017))) ?_
     refine .call (zr8_field_ok r995 (S1009.ownA (i:=0) rfl) 5 ([(IntKind.wrap .u8 yg59.Class)]) (fun _ _ => h1017.h _)) fun r1018 cs1019 H1020 h1021 q1022 => ?_
     obtain ⟨c1023,cs1024,h1025,h1026,h1027,q1022⟩:=q1022
     obtain rfl : cs1019 = [c1023]:=q1022
     have S1028:=S1009.killA (i:=0) rfl rfl h1027
     obtain ⟨v1029,H1030,e1031,S1032⟩:=S1028.land (dt:=(dI .u8)) (d:=64) (e:=0) (n:=0) h1025 h1026 (by decide) rfl
     erw [e1031]
     refine .call (zr8_in_ok k r135_4 121) fun r1034 cs1035 H1036 h1037 q1038 => ?_
     cases q1038
     refine .ab ?_
     refine .cq ?_ ?_
     ·refine .fa ?_
      refine .op ((S1032.atG (i:=0) rfl).ld (j:=6) rfl) ?_
      refine .ci ?_
      have h1040:=SlF.int1 .u8 (IntKind.wrap .u8 yg59.Layer)
      refine .op (bldS (pC rfl pN) (by kernel_rfl : _ = some (vOf h1040))) ?_
      refine .call (zr8_field_ok r1018 (S1032.ownA (i:=0) rfl) 6 ([(IntKind.wrap .u8 yg59.Layer)]) (fun _ _ => h1040.h _)) fun r1041 cs1042 H1043 h1044 q1045 => ?_
      obtain ⟨c1046,cs1047,h1048,h1049,h1050,q1045⟩:=q1045
      obtain rfl : cs1042 = [c1046]:=q1045
      have S1051:=S1032.killA (i:=0) rfl rfl h1050
      obtain ⟨v1052,H1053,e1054,S1055⟩:=S1051.land (dt:=(dI .u8)) (d:=72) (e:=0) (n:=0) h1048 h1049 (by decide) rfl
      erw [e1054]
      refine .call (zr8_in_ok k r135_4 101) fun r1057 cs1058 H1059 h1060 q1061 => ?_
      cases q1061
      refine .ab ?_
      refine .cq ?_ ?_
      ·refine .fa ?_
       refine .op ((S1055.atG (i:=0) rfl).ld (j:=7) rfl) ?_
       refine .ci ?_
       have h1063:=SlF.int1 .u8 (IntKind.wrap .u8 yg59.Code)
       refine .op (bldS (pC rfl pN) (by kernel_rfl : _ = some (vOf h1063))) ?_
       refine .call (zr8_field_ok r1041 (S1055.ownA (i:=0) rfl) 7 ([(IntKind.wrap .u8 yg59.Code)]) (fun _ _ => h1063.h _)) fun r1064 cs1065 H1066 h1067 q1068 => ?_
       obtain ⟨c1069,cs1070,h1071,h1072,h1073,q1068⟩:=q1068
       obtain rfl : cs1065 = [c1069]:=q1068
       have S1074:=S1055.killA (i:=0) rfl rfl h1073
       obtain ⟨v1075,H1076,e1077,S1078⟩:=S1074.land (dt:=(dI .u8)) (d:=80) (e:=0) (n:=0) h1071 h1072 (by decide) rfl
       erw [e1077]
       refine .fa ?_
       refine .op ((S1078.atG (i:=0) rfl).ld (j:=0) rfl) ?_
       refine .ci ?_
       have h1080:=SlF.int1 .u8 (IntKind.wrap .u8 yg59.Kind)
       refine .op (bldS (pC rfl pN) (by kernel_rfl : _ = some (vOf h1080))) ?_
       refine .op ((S1078.sl (i:=0) rfl).len) ?_
       refine .ci ?_
       refine .call (zr1_Put_ok k ([(IntKind.wrap .u8 yg59.Kind)]) (h1080.h H1076) (IntKind.wrap .u64 ((r1064.length : Int))) 2) fun r1081 cs1082 H1083 h1084 q1085 => ?_
       obtain ⟨c1086,cs1087,h1088,h1089,q1085⟩:=q1085
       cases q1085
       obtain ⟨v1090,H1091,e1092,S1093⟩:=S1078.land (dt:=(dI .u8)) (d:=88) (e:=0) (n:=0) h1088 h1089 (by decide) rfl
       erw [e1092]
       refine .bd fun a1095 h1096 => ?_
       obtain ⟨v1097,H1098,e1099,S1100⟩:=S1093.app (i:=0) (d:=90) (e:=1) (own:=true) (σ:=(9::0::1::1::1::1::1::1::1::1::1::1::0::σ)) rfl (S1093.sl (i:=1) rfl).y h1096 rfl (by decide) (by decide) rfl
       refine .op (e1099) ?_
       obtain ⟨c1106,cs1107,H1101,e1102,h1104,h1105,S1103⟩:=S1100.expOwn (i:=0) (τ:=0::1::σ) rfl rfl rfl
       exact .fin (S1103.finE (Ex.st e1102 Ex.nil)) ⟨c1106,cs1107,h1104,h1105,rfl⟩
      refine .fa ?_
      refine .op ((S1055.atG (i:=0) rfl).ld (j:=0) rfl) ?_
      refine .ci ?_
      have h1108:=SlF.int1 .u8 (IntKind.wrap .u8 yg59.Kind)
      refine .op (bldS (pC rfl pN) (by kernel_rfl : _ = some (vOf h1108))) ?_
      refine .op ((S1055.sl (i:=0) rfl).len) ?_
      refine .ci ?_
      refine .call (zr1_Put_ok k ([(IntKind.wrap .u8 yg59.Kind)]) (h1108.h H1053) (IntKind.wrap .u64 ((r1041.length : Int))) 2) fun r1109 cs1110 H1111 h1112 q1113 => ?_
      obtain ⟨c1114,cs1115,h1116,h1117,q1113⟩:=q1113
      cases q1113
      obtain ⟨v1118,H1119,e1120,S1121⟩:=S1055.land (dt:=(dI .u8)) (d:=88) (e:=0) (n:=0) h1116 h1117 (by decide) rfl
      erw [e1120]
      refine .bd fun a1123 h1124 => ?_
      obtain ⟨v1125,H1126,e1127,S1128⟩:=S1121.app (i:=0) (d:=90) (e:=1) (own:=true) (σ:=(9::0::1::1::1::1::1::1::1::1::1::1::0::σ)) rfl (S1121.sl (i:=1) rfl).y h1124 rfl (by decide) (by decide) rfl
      refine .op (e1127) ?_
      obtain ⟨c1134,cs1135,H1129,e1130,h1132,h1133,S1131⟩:=S1128.expOwn (i:=0) (τ:=0::1::σ) rfl rfl rfl
      exact .fin (S1131.finE (Ex.st e1130 Ex.nil)) ⟨c1134,cs1135,h1132,h1133,rfl⟩
     refine .call (zr8_in_ok k r135_4 101) fun r1136 cs1137 H1138 h1139 q1140 => ?_
     cases q1140
     refine .ab ?_
     refine .cq ?_ ?_
     ·refine .fa ?_
      refine .op ((S1032.atG (i:=0) rfl).ld (j:=7) rfl) ?_
      refine .ci ?_
      have h1142:=SlF.int1 .u8 (IntKind.wrap .u8 yg59.Code)
      refine .op (bldS (pC rfl pN) (by kernel_rfl : _ = some (vOf h1142))) ?_
      refine .call (zr8_field_ok r1018 (S1032.ownA (i:=0) rfl) 7 ([(IntKind.wrap .u8 yg59.Code)]) (fun _ _ => h1142.h _)) fun r1143 cs1144 H1145 h1146 q1147 => ?_
      obtain ⟨c1148,cs1149,h1150,h1151,h1152,q1147⟩:=q1147
      obtain rfl : cs1144 = [c1148]:=q1147
      have S1153:=S1032.killA (i:=0) rfl rfl h1152
      obtain ⟨v1154,H1155,e1156,S1157⟩:=S1153.land (dt:=(dI .u8)) (d:=80) (e:=0) (n:=0) h1150 h1151 (by decide) rfl
      erw [e1156]
      refine .fa ?_
      refine .op ((S1157.atG (i:=0) rfl).ld (j:=0) rfl) ?_
      refine .ci ?_
      have h1159:=SlF.int1 .u8 (IntKind.wrap .u8 yg59.Kind)
      refine .op (bldS (pC rfl pN) (by kernel_rfl : _ = some (vOf h1159))) ?_
      refine .op ((S1157.sl (i:=0) rfl).len) ?_
      refine .ci ?_
      refine .call (zr1_Put_ok k ([(IntKind.wrap .u8 yg59.Kind)]) (h1159.h H1155) (IntKind.wrap .u64 ((r1143.length : Int))) 2) fun r1160 cs1161 H1162 h1163 q1164 => ?_
      obtain ⟨c1165,cs1166,h1167,h1168,q1164⟩:=q1164
      cases q1164
      obtain ⟨v1169,H1170,e1171,S1172⟩:=S1157.land (dt:=(dI .u8)) (d:=88) (e:=0) (n:=0) h1167 h1168 (by decide) rfl
      erw [e1171]
      refine .bd fun a1174 h1175 => ?_
      obtain ⟨v1176,H1177,e1178,S1179⟩:=S1172.app (i:=0) (d:=90) (e:=1) (own:=true) (σ:=(9::0::1::1::1::1::1::1::1::1::1::1::0::σ)) rfl (S1172.sl (i:=1) rfl).y h1175 rfl (by decide) (by decide) rfl
      refine .op (e1178) ?_
      obtain ⟨c1185,cs1186,H1180,e1181,h1183,h1184,S1182⟩:=S1179.expOwn (i:=0) (τ:=0::1::σ) rfl rfl rfl
      exact .fin (S1182.finE (Ex.st e1181 Ex.nil)) ⟨c1185,cs1186,h1183,h1184,rfl⟩
     refine .fa ?_
     refine .op ((S1032.atG (i:=0) rfl).ld (j:=0) rfl) ?_
     refine .ci ?_
     have h1187:=SlF.int1 .u8 (IntKind.wrap .u8 yg59.Kind)
     refine .op (bldS (pC rfl pN) (by kernel_rfl : _ = some (vOf h1187))) ?_
     refine .op ((S1032.sl (i:=0) rfl).len) ?_
     refine .ci ?_
     refine .call (zr1_Put_ok k ([(IntKind.wrap .u8 yg59.Kind)]) (h1187.h H1030) (IntKind.wrap .u64 ((r1018.length : Int))) 2) fun r1188 cs1189 H1190 h1191 q1192 => ?_
     obtain ⟨c1193,cs1194,h1195,h1196,q1192⟩:=q1192
     cases q1192
     obtain ⟨v1197,H1198,e1199,S1200⟩:=S1032.land (dt:=(dI .u8)) (d:=88) (e:=0) (n:=0) h1195 h1196 (by decide) rfl
     erw [e1199]
     refine .bd fun a1202 h1203 => ?_
     obtain ⟨v1204,H1205,e1206,S1207⟩:=S1200.app (i:=0) (d:=90) (e:=1) (own:=true) (σ:=(9::0::1::1::1::1::1::1::1::1::1::1::0::σ)) rfl (S1200.sl (i:=1) rfl).y h1203 rfl (by decide) (by decide) rfl
     refine .op (e1206) ?_
     obtain ⟨c1213,cs1214,H1208,e1209,h1211,h1212,S1210⟩:=S1207.expOwn (i:=0) (τ:=0::1::σ) rfl rfl rfl
     exact .fin (S1210.finE (Ex.st e1209 Ex.nil)) ⟨c1213,cs1214,h1211,h1212,rfl⟩
    refine .call (zr8_in_ok k r135_4 121) fun r1215 cs1216 H1217 h1218 q1219 => ?_
    cases q1219
    refine .ab ?_
    refine .cq ?_ ?_
    ·refine .fa ?_
     refine .op ((S1009.atG (i:=0) rfl).ld (j:=6) rfl) ?_
     refine .ci ?_
     have h1221:=SlF.int1 .u8 (IntKind.wrap .u8 yg59.Layer)
     refine .op (bldS (pC rfl pN) (by kernel_rfl : _ = some (vOf h1221))) ?_
     refine .call (zr8_field_ok r995 (S1009.ownA (i:=0) rfl) 6 ([(IntKind.wrap .u8 yg59.Layer)]) (fun _ _ => h1221.h _)) fun r1222 cs1223 H1224 h1225 q1226 => ?_
     obtain ⟨c1227,cs1228,h1229,h1230,h1231,q1226⟩:=q1226
     obtain rfl : cs1223 = [c1227]:=q1226
     have S1232:=S1009.killA (i:=0) rfl rfl h1231
     obtain ⟨v1233,H1234,e1235,S1236⟩:=S1232.land (dt:=(dI .u8)) (d:=72) (e:=0) (n:=0) h1229 h1230 (by decide) rfl
     erw [e1235]
     refine .call (zr8_in_ok k r135_4 101) fun r1238 cs1239 H1240 h1241 q1242 => ?_
     cases q1242
     refine .ab ?_
     refine .cq ?_ ?_
     ·refine .fa ?_
      refine .op ((S1236.atG (i:=0) rfl).ld (j:=7) rfl) ?_
      refine .ci ?_
      have h1244:=SlF.int1 .u8 (IntKind.wrap .u8 yg59.Code)
      refine .op (bldS (pC rfl pN) (by kernel_rfl : _ = some (vOf h1244))) ?_
      refine .call (zr8_field_ok r1222 (S1236.ownA (i:=0) rfl) 7 ([(IntKind.wrap .u8 yg59.Code)]) (fun _ _ => h1244.h _)) fun r1245 cs1246 H1247 h1248 q1249 => ?_
      obtain ⟨c1250,cs1251,h1252,h1253,h1254,q1249⟩:=q1249
      obtain rfl : cs1246 = [c1250]:=q1249
      have S1255:=S1236.killA (i:=0) rfl rfl h1254
      obtain ⟨v1256,H1257,e1258,S1259⟩:=S1255.land (dt:=(dI .u8)) (d:=80) (e:=0) (n:=0) h1252 h1253 (by decide) rfl
      erw [e1258]
      refine .fa ?_
      refine .op ((S1259.atG (i:=0) rfl).ld (j:=0) rfl) ?_
      refine .ci ?_
      have h1261:=SlF.int1 .u8 (IntKind.wrap .u8 yg59.Kind)
      refine .op (bldS (pC rfl pN) (by kernel_rfl : _ = some (vOf h1261))) ?_
      refine .op ((S1259.sl (i:=0) rfl).len) ?_
      refine .ci ?_
      refine .call (zr1_Put_ok k ([(IntKind.wrap .u8 yg59.Kind)]) (h1261.h H1257) (IntKind.wrap .u64 ((r1245.length : Int))) 2) fun r1262 cs1263 H1264 h1265 q1266 => ?_
      obtain ⟨c1267,cs1268,h1269,h1270,q1266⟩:=q1266
      cases q1266
      obtain ⟨v1271,H1272,e1273,S1274⟩:=S1259.land (dt:=(dI .u8)) (d:=88) (e:=0) (n:=0) h1269 h1270 (by decide) rfl
      erw [e1273]
      refine .bd fun a1276 h1277 => ?_
      obtain ⟨v1278,H1279,e1280,S1281⟩:=S1274.app (i:=0) (d:=90) (e:=1) (own:=true) (σ:=(9::0::1::1::1::1::1::1::1::1::1::1::0::σ)) rfl (S1274.sl (i:=1) rfl).y h1277 rfl (by decide) (by decide) rfl
      refine .op (e1280) ?_
      obtain ⟨c1287,cs1288,H1282,e1283,h1285,h1286,S1284⟩:=S1281.expOwn (i:=0) (τ:=0::1::σ) rfl rfl rfl
      exact .fin (S1284.finE (Ex.st e1283 Ex.nil)) ⟨c1287,cs1288,h1285,h1286,rfl⟩
     refine .fa ?_
     refine .op ((S1236.atG (i:=0) rfl).ld (j:=0) rfl) ?_
     refine .ci ?_
     have h1289:=SlF.int1 .u8 (IntKind.wrap .u8 yg59.Kind)
     refine .op (bldS (pC rfl pN) (by kernel_rfl : _ = some (vOf h1289))) ?_
     refine .op ((S1236.sl (i:=0) rfl).len) ?_
     refine .ci ?_
     refine .call (zr1_Put_ok k ([(IntKind.wrap .u8 yg59.Kind)]) (h1289.h H1234) (IntKind.wrap .u64 ((r1222.length : Int))) 2) fun r1290 cs1291 H1292 h1293 q1294 => ?_
     obtain ⟨c1295,cs1296,h1297,h1298,q1294⟩:=q1294
     cases q1294
     obtain ⟨v1299,H1300,e1301,S1302⟩:=S1236.land (dt:=(dI .u8)) (d:=88) (e:=0) (n:=0) h1297 h1298 (by decide) rfl
     erw [e1301]
     refine .bd fun a1304 h1305 => ?_
     obtain ⟨v1306,H1307,e1308,S1309⟩:=S1302.app (i:=0) (d:=90) (e:=1) (own:=true) (σ:=(9::0::1::1::1::1::1::1::1::1::1::1::0::σ)) rfl (S1302.sl (i:=1) rfl).y h1305 rfl (by decide) (by decide) rfl
     refine .op (e1308) ?_
     obtain ⟨c1315,cs1316,H1310,e1311,h1313,h1314,S1312⟩:=S1309.expOwn (i:=0) (τ:=0::1::σ) rfl rfl rfl
     exact .fin (S1312.finE (Ex.st e1311 Ex.nil)) ⟨c1315,cs1316,h1313,h1314,rfl⟩
    refine .call (zr8_in_ok k r135_4 101) fun r1317 cs1318 H1319 h1320 q1321 => ?_
    cases q1321
    refine .ab ?_
    refine .cq ?_ ?_
    ·refine .fa ?_
     refine .op ((S1009.atG (i:=0) rfl).ld (j:=7) rfl) ?_
     refine .ci ?_
     have h1323:=SlF.int1 .u8 (IntKind.wrap .u8 yg59.Code)
     refine .op (bldS (pC rfl pN) (by kernel_rfl : _ = some (vOf h1323))) ?_
     refine .call (zr8_field_ok r995 (S1009.ownA (i:=0) rfl) 7 ([(IntKind.wrap .u8 yg59.Code)]) (fun _ _ => h1323.h _)) fun r1324 cs1325 H1326 h1327 q1328 => ?_
     obtain ⟨c1329,cs1330,h1331,h1332,h1333,q1328⟩:=q1328
     obtain rfl : cs1325 = [c1329]:=q1328
     have S1334:=S1009.killA (i:=0) rfl rfl h1333
     obtain ⟨v1335,H1336,e1337,S1338⟩:=S1334.land (dt:=(dI .u8)) (d:=80) (e:=0) (n:=0) h1331 h1332 (by decide) rfl
     erw [e1337]
     refine .fa ?_
     refine .op ((S1338.atG (i:=0) rfl).ld (j:=0) rfl) ?_
     refine .ci ?_
     have h1340:=SlF.int1 .u8 (IntKind.wrap .u8 yg59.Kind)
     refine .op (bldS (pC rfl pN) (by kernel_rfl : _ = some (vOf h1340))) ?_
     refine .op ((S1338.sl (i:=0) rfl).len) ?_
     refine .ci ?_
     refine .call (zr1_Put_ok k ([(IntKind.wrap .u8 yg59.Kind)]) (h1340.h H1336) (IntKind.wrap .u64 ((r1324.length : Int))) 2) fun r1341 cs1342 H1343 h1344 q1345 => ?_
     obtain ⟨c1346,cs1347,h1348,h1349,q1345⟩:=q1345
     cases q1345
     obtain ⟨v1350,H1351,e1352,S1353⟩:=S1338.land (dt:=(dI .u8)) (d:=88) (e:=0) (n:=0) h1348 h1349 (by decide) rfl
     erw [e1352]
     refine .bd fun a1355 h1356 => ?_
     obtain ⟨v1357,H1358,e1359,S1360⟩:=S1353.app (i:=0) (d:=90) (e:=1) (own:=true) (σ:=(9::0::1::1::1::1::1::1::1::1::1::1::0::σ)) rfl (S1353.sl (i:=1) rfl).y h1356 rfl (by decide) (by decide) rfl
     refine .op (e1359) ?_
     obtain ⟨c1366,cs1367,H1361,e1362,h1364,h1365,S1363⟩:=S1360.expOwn (i:=0) (τ:=0::1::σ) rfl rfl rfl
     exact .fin (S1363.finE (Ex.st e1362 Ex.nil)) ⟨c1366,cs1367,h1364,h1365,rfl⟩
    refine .fa ?_
    refine .op ((S1009.atG (i:=0) rfl).ld (j:=0) rfl) ?_
    refine .ci ?_
    have h1368:=SlF.int1 .u8 (IntKind.wrap .u8 yg59.Kind)
    refine .op (bldS (pC rfl pN) (by kernel_rfl : _ = some (vOf h1368))) ?_
    refine .op ((S1009.sl (i:=0) rfl).len) ?_
    refine .ci ?_
    refine .call (zr1_Put_ok k ([(IntKind.wrap .u8 yg59.Kind)]) (h1368.h H1007) (IntKind.wrap .u64 ((r995.length : Int))) 2) fun r1369 cs1370 H1371 h1372 q1373 => ?_
    obtain ⟨c1374,cs1375,h1376,h1377,q1373⟩:=q1373
    cases q1373
    obtain ⟨v1378,H1379,e1380,S1381⟩:=S1009.land (dt:=(dI .u8)) (d:=88) (e:=0) (n:=0) h1376 h1377 (by decide) rfl
    erw [e1380]
    refine .bd fun a1383 h1384 => ?_
    obtain ⟨v1385,H1386,e1387,S1388⟩:=S1381.app (i:=0) (d:=90) (e:=1) (own:=true) (σ:=(9::0::1::1::1::1::1::1::1::1::1::1::0::σ)) rfl (S1381.sl (i:=1) rfl).y h1384 rfl (by decide) (by decide) rfl
    refine .op (e1387) ?_
    obtain ⟨c1394,cs1395,H1389,e1390,h1392,h1393,S1391⟩:=S1388.expOwn (i:=0) (τ:=0::1::σ) rfl rfl rfl
    exact .fin (S1391.finE (Ex.st e1390 Ex.nil)) ⟨c1394,cs1395,h1392,h1393,rfl⟩
   refine .call (zr8_in_ok k r135_4 107) fun r1396 cs1397 H1398 h1399 q1400 => ?_
   cases q1400
   refine .ab ?_
   refine .cq ?_ ?_
   ·refine .fa ?_
    refine .op ((S137.atG (i:=0) rfl).ld (j:=5) rfl) ?_
    refine .ci ?_
    have h1402:=SlF.int1 .u8 (IntKind.wrap .u8 yg59.Class)
    refine .op (bldS (pC rfl pN) (by kernel_rfl : _ = some (vOf h1402))) ?_
    refine .call (zr8_field_ok r135_3 (S137.ownA (i:=0) rfl) 5 ([(IntKind.wrap .u8 yg59.Class)]) (fun _ _ => h1402.h _)) fun r1403 cs1404 H1405 h1406 q1407 => ?_
    obtain ⟨c1408,cs1409,h1410,h1411,h1412,q1407⟩:=q1407
    obtain rfl : cs1404 = [c1408]:=q1407
    have S1413:=S137.killA (i:=0) rfl rfl h1412
    obtain ⟨v1414,H1415,e1416,S1417⟩:=S1413.land (dt:=(dI .u8)) (d:=64) (e:=0) (n:=0) h1410 h1411 (by decide) rfl
    erw [e1416]
    refine .call (zr8_in_ok k r135_4 121) fun r1419 cs1420 H1421 h1422 q1423 => ?_
    cases q1423
    refine .ab ?_
    refine .cq ?_ ?_
    ·refine .fa ?_
     refine .op ((S1417.atG (i:=0) rfl).ld (j:=6) rfl) ?_
     refine .ci ?_
     have h1425:=SlF.int1 .u8 (IntKind.wrap .u8 yg59.Layer)
     refine .op (bldS (pC rfl pN) (by kernel_rfl : _ = some (vOf h1425))) ?_
     refine .call (zr8_field_ok r1403 (S1417.ownA (i:=0) rfl) 6 ([(IntKind.wrap .u8 yg59.Layer)]) (fun _ _ => h1425.h _)) fun r1426 cs1427 H1428 h1429 q1430 => ?_
     obtain ⟨c1431,cs1432,h1433,h1434,h1435,q1430⟩:=q1430
     obtain rfl : cs1427 = [c1431]:=q1430
     have S1436:=S1417.killA (i:=0) rfl rfl h1435
     obtain ⟨v1437,H1438,e1439,S1440⟩:=S1436.land (dt:=(dI .u8)) (d:=72) (e:=0) (n:=0) h1433 h1434 (by decide) rfl
     erw [e1439]
     refine .call (zr8_in_ok k r135_4 101) fun r1442 cs1443 H1444 h1445 q1446 => ?_
     cases q1446
     refine .ab ?_
     refine .cq ?_ ?_
     ·refine .fa ?_
      refine .op ((S1440.atG (i:=0) rfl).ld (j:=7) rfl) ?_
      refine .ci ?_
      have h1448:=SlF.int1 .u8 (IntKind.wrap .u8 yg59.Code)
      refine .op (bldS (pC rfl pN) (by kernel_rfl : _ = some (vOf h1448))) ?_
      refine .call (zr8_field_ok r1426 (S1440.ownA (i:=0) rfl) 7 ([(IntKind.wrap .u8 yg59.Code)]) (fun _ _ => h1448.h _)) fun r1449 cs1450 H1451 h1452 q1453 => ?_
      obtain ⟨c1454,cs1455,h1456,h1457,h1458,q1453⟩:=q1453
      obtain rfl : cs1450 = [c1454]:=q1453
      have S1459:=S1440.killA (i:=0) rfl rfl h1458
      obtain ⟨v1460,H1461,e1462,S1463⟩:=S1459.land (dt:=(dI .u8)) (d:=80) (e:=0) (n:=0) h1456 h1457 (by decide) rfl
      erw [e1462]
      refine .fa ?_
      refine .op ((S1463.atG (i:=0) rfl).ld (j:=0) rfl) ?_
      refine .ci ?_
      have h1465:=SlF.int1 .u8 (IntKind.wrap .u8 yg59.Kind)
      refine .op (bldS (pC rfl pN) (by kernel_rfl : _ = some (vOf h1465))) ?_
      refine .op ((S1463.sl (i:=0) rfl).len) ?_
      refine .ci ?_
      refine .call (zr1_Put_ok k ([(IntKind.wrap .u8 yg59.Kind)]) (h1465.h H1461) (IntKind.wrap .u64 ((r1449.length : Int))) 2) fun r1466 cs1467 H1468 h1469 q1470 => ?_
      obtain ⟨c1471,cs1472,h1473,h1474,q1470⟩:=q1470
      cases q1470
      obtain ⟨v1475,H1476,e1477,S1478⟩:=S1463.land (dt:=(dI .u8)) (d:=88) (e:=0) (n:=0) h1473 h1474 (by decide) rfl
      erw [e1477]
      refine .bd fun a1480 h1481 => ?_
      obtain ⟨v1482,H1483,e1484,S1485⟩:=S1478.app (i:=0) (d:=90) (e:=1) (own:=true) (σ:=(9::0::1::1::1::1::1::1::1::1::1::1::0::σ)) rfl (S1478.sl (i:=1) rfl).y h1481 rfl (by decide) (by decide) rfl
      refine .op (e1484) ?_
      obtain ⟨c1491,cs1492,H1486,e1487,h1489,h1490,S1488⟩:=S1485.expOwn (i:=0) (τ:=0::1::σ) rfl rfl rfl
      exact .fin (S1488.finE (Ex.st e1487 Ex.nil)) ⟨c1491,cs1492,h1489,h1490,rfl⟩
     refine .fa ?_
     refine .op ((S1440.atG (i:=0) rfl).ld (j:=0) rfl) ?_
     refine .ci ?_
     have h1493:=SlF.int1 .u8 (IntKind.wrap .u8 yg59.Kind)
     refine .op (bldS (pC rfl pN) (by kernel_rfl : _ = some (vOf h1493))) ?_
     refine .op ((S1440.sl (i:=0) rfl).len) ?_
     refine .ci ?_
     refine .call (zr1_Put_ok k ([(IntKind.wrap .u8 yg59.Kind)]) (h1493.h H1438) (IntKind.wrap .u64 ((r1426.length : Int))) 2) fun r1494 cs1495 H1496 h1497 q1498 => ?_
     obtain ⟨c1499,cs1500,h1501,h1502,q1498⟩:=q1498
     cases q1498
     obtain ⟨v1503,H1504,e1505,S1506⟩:=S1440.land (dt:=(dI .u8)) (d:=88) (e:=0) (n:=0) h1501 h1502 (by decide) rfl
     erw [e1505]
     refine .bd fun a1508 h1509 => ?_
     obtain ⟨v1510,H1511,e1512,S1513⟩:=S1506.app (i:=0) (d:=90) (e:=1) (own:=true) (σ:=(9::0::1::1::1::1::1::1::1::1::1::1::0::σ)) rfl (S1506.sl (i:=1) rfl).y h1509 rfl (by decide) (by decide) rfl
     refine .op (e1512) ?_
     obtain ⟨c1519,cs1520,H1514,e1515,h1517,h1518,S1516⟩:=S1513.expOwn (i:=0) (τ:=0::1::σ) rfl rfl rfl
     exact .fin (S1516.finE (Ex.st e1515 Ex.nil)) ⟨c1519,cs1520,h1517,h1518,rfl⟩
    refine .call (zr8_in_ok k r135_4 101) fun r1521 cs1522 H1523 h1524 q1525 => ?_
    cases q1525
    refine .ab ?_
    refine .cq ?_ ?_
    ·refine .fa ?_
     refine .op ((S1417.atG (i:=0) rfl).ld (j:=7) rfl) ?_
     refine .ci ?_
     have h1527:=SlF.int1 .u8 (IntKind.wrap .u8 yg59.Code)
     refine .op (bldS (pC rfl pN) (by kernel_rfl : _ = some (vOf h1527))) ?_
     refine .call (zr8_field_ok r1403 (S1417.ownA (i:=0) rfl) 7 ([(IntKind.wrap .u8 yg59.Code)]) (fun _ _ => h1527.h _)) fun r1528 cs1529 H1530 h1531 q1532 => ?_
     obtain ⟨c1533,cs1534,h1535,h1536,h1537,q1532⟩:=q1532
     obtain rfl : cs1529 = [c1533]:=q1532
     have S1538:=S1417.killA (i:=0) rfl rfl h1537
     obtain ⟨v1539,H1540,e1541,S1542⟩:=S1538.land (dt:=(dI .u8)) (d:=80) (e:=0) (n:=0) h1535 h1536 (by decide) rfl
     erw [e1541]
     refine .fa ?_
     refine .op ((S1542.atG (i:=0) rfl).ld (j:=0) rfl) ?_
     refine .ci ?_
     have h1544:=SlF.int1 .u8 (IntKind.wrap .u8 yg59.Kind)
     refine .op (bldS (pC rfl pN) (by kernel_rfl : _ = some (vOf h1544))) ?_
     refine .op ((S1542.sl (i:=0) rfl).len) ?_
     refine .ci ?_
     refine .call (zr1_Put_ok k ([(IntKind.wrap .u8 yg59.Kind)]) (h1544.h H1540) (IntKind.wrap .u64 ((r1528.length : Int))) 2) fun r1545 cs1546 H1547 h1548 q1549 => ?_
     obtain ⟨c1550,cs1551,h1552,h1553,q1549⟩:=q1549
     cases q1549
     obtain ⟨v1554,H1555,e1556,S1557⟩:=S1542.land (dt:=(dI .u8)) (d:=88) (e:=0) (n:=0) h1552 h1553 (by decide) rfl
     erw [e1556]
     refine .bd fun a1559 h1560 => ?_
     obtain ⟨v1561,H1562,e1563,S1564⟩:=S1557.app (i:=0) (d:=90) (e:=1) (own:=true) (σ:=(9::0::1::1::1::1::1::1::1::1::1::1::0::σ)) rfl (S1557.sl (i:=1) rfl).y h1560 rfl (by decide) (by decide) rfl
     refine .op (e1563) ?_
     obtain ⟨c1570,cs1571,H1565,e1566,h1568,h1569,S1567⟩:=S1564.expOwn (i:=0) (τ:=0::1::σ) rfl rfl rfl
     exact .fin (S1567.finE (Ex.st e1566 Ex.nil)) ⟨c1570,cs1571,h1568,h1569,rfl⟩
    refine .fa ?_
    refine .op ((S1417.atG (i:=0) rfl).ld (j:=0) rfl) ?_
    refine .ci ?_
    have h1572:=SlF.int1 .u8 (IntKind.wrap .u8 yg59.Kind)
    refine .op (bldS (pC rfl pN) (by kernel_rfl : _ = some (vOf h1572))) ?_
    refine .op ((S1417.sl (i:=0) rfl).len) ?_
    refine .ci ?_
    refine .call (zr1_Put_ok k ([(IntKind.wrap .u8 yg59.Kind)]) (h1572.h H1415) (IntKind.wrap .u64 ((r1403.length : Int))) 2) fun r1573 cs1574 H1575 h1576 q1577 => ?_
    obtain ⟨c1578,cs1579,h1580,h1581,q1577⟩:=q1577
    cases q1577
    obtain ⟨v1582,H1583,e1584,S1585⟩:=S1417.land (dt:=(dI .u8)) (d:=88) (e:=0) (n:=0) h1580 h1581 (by decide) rfl
    erw [e1584]
    refine .bd fun a1587 h1588 => ?_
    obtain ⟨v1589,H1590,e1591,S1592⟩:=S1585.app (i:=0) (d:=90) (e:=1) (own:=true) (σ:=(9::0::1::1::1::1::1::1::1::1::1::1::0::σ)) rfl (S1585.sl (i:=1) rfl).y h1588 rfl (by decide) (by decide) rfl
    refine .op (e1591) ?_
    obtain ⟨c1598,cs1599,H1593,e1594,h1596,h1597,S1595⟩:=S1592.expOwn (i:=0) (τ:=0::1::σ) rfl rfl rfl
    exact .fin (S1595.finE (Ex.st e1594 Ex.nil)) ⟨c1598,cs1599,h1596,h1597,rfl⟩
   refine .call (zr8_in_ok k r135_4 121) fun r1600 cs1601 H1602 h1603 q1604 => ?_
   cases q1604
   refine .ab ?_
   refine .cq ?_ ?_
   ·refine .fa ?_
    refine .op ((S137.atG (i:=0) rfl).ld (j:=6) rfl) ?_
    refine .ci ?_
    have h1606:=SlF.int1 .u8 (IntKind.wrap .u8 yg59.Layer)
    refine .op (bldS (pC rfl pN) (by kernel_rfl : _ = some (vOf h1606))) ?_
    refine .call (zr8_field_ok r135_3 (S137.ownA (i:=0) rfl) 6 ([(IntKind.wrap .u8 yg59.Layer)]) (fun _ _ => h1606.h _)) fun r1607 cs1608 H1609 h1610 q1611 => ?_
    obtain ⟨c1612,cs1613,h1614,h1615,h1616,q1611⟩:=q1611
    obtain rfl : cs1608 = [c1612]:=q1611
    have S1617:=S137.killA (i:=0) rfl rfl h1616
    obtain ⟨v1618,H1619,e1620,S1621⟩:=S1617.land (dt:=(dI .u8)) (d:=72) (e:=0) (n:=0) h1614 h1615 (by decide) rfl
    erw [e1620]
    refine .call (zr8_in_ok k r135_4 101) fun r1623 cs1624 H1625 h1626 q1627 => ?_
    cases q1627
    refine .ab ?_
    refine .cq ?_ ?_
    ·refine .fa ?_
     refine .op ((S1621.atG (i:=0) rfl).ld (j:=7) rfl) ?_
     refine .ci ?_
     have h1629:=SlF.int1 .u8 (IntKind.wrap .u8 yg59.Code)
     refine .op (bldS (pC rfl pN) (by kernel_rfl : _ = some (vOf h1629))) ?_
     refine .call (zr8_field_ok r1607 (S1621.ownA (i:=0) rfl) 7 ([(IntKind.wrap .u8 yg59.Code)]) (fun _ _ => h1629.h _)) fun r1630 cs1631 H1632 h1633 q1634 => ?_
     obtain ⟨c1635,cs1636,h1637,h1638,h1639,q1634⟩:=q1634
     obtain rfl : cs1631 = [c1635]:=q1634
     have S1640:=S1621.killA (i:=0) rfl rfl h1639
     obtain ⟨v1641,H1642,e1643,S1644⟩:=S1640.land (dt:=(dI .u8)) (d:=80) (e:=0) (n:=0) h1637 h1638 (by decide) rfl
     erw [e1643]
     refine .fa ?_
     refine .op ((S1644.atG (i:=0) rfl).ld (j:=0) rfl) ?_
     refine .ci ?_
     have h1646:=SlF.int1 .u8 (IntKind.wrap .u8 yg59.Kind)
     refine .op (bldS (pC rfl pN) (by kernel_rfl : _ = some (vOf h1646))) ?_
     refine .op ((S1644.sl (i:=0) rfl).len) ?_
     refine .ci ?_
     refine .call (zr1_Put_ok k ([(IntKind.wrap .u8 yg59.Kind)]) (h1646.h H1642) (IntKind.wrap .u64 ((r1630.length : Int))) 2) fun r1647 cs1648 H1649 h1650 q1651 => ?_
     obtain ⟨c1652,cs1653,h1654,h1655,q1651⟩:=q1651
     cases q1651
     obtain ⟨v1656,H1657,e1658,S1659⟩:=S1644.land (dt:=(dI .u8)) (d:=88) (e:=0) (n:=0) h1654 h1655 (by decide) rfl
     erw [e1658]
     refine .bd fun a1661 h1662 => ?_
     obtain ⟨v1663,H1664,e1665,S1666⟩:=S1659.app (i:=0) (d:=90) (e:=1) (own:=true) (σ:=(9::0::1::1::1::1::1::1::1::1::1::1::0::σ)) rfl (S1659.sl (i:=1) rfl).y h1662 rfl (by decide) (by decide) rfl
     refine .op (e1665) ?_
     obtain ⟨c1672,cs1673,H1667,e1668,h1670,h1671,S1669⟩:=S1666.expOwn (i:=0) (τ:=0::1::σ) rfl rfl rfl
     exact .fin (S1669.finE (Ex.st e1668 Ex.nil)) ⟨c1672,cs1673,h1670,h1671,rfl⟩
    refine .fa ?_
    refine .op ((S1621.atG (i:=0) rfl).ld (j:=0) rfl) ?_
    refine .ci ?_
    have h1674:=SlF.int1 .u8 (IntKind.wrap .u8 yg59.Kind)
    refine .op (bldS (pC rfl pN) (by kernel_rfl : _ = some (vOf h1674))) ?_
    refine .op ((S1621.sl (i:=0) rfl).len) ?_
    refine .ci ?_
    refine .call (zr1_Put_ok k ([(IntKind.wrap .u8 yg59.Kind)]) (h1674.h H1619) (IntKind.wrap .u64 ((r1607.length : Int))) 2) fun r1675 cs1676 H1677 h1678 q1679 => ?_
    obtain ⟨c1680,cs1681,h1682,h1683,q1679⟩:=q1679
    cases q1679
    obtain ⟨v1684,H1685,e1686,S1687⟩:=S1621.land (dt:=(dI .u8)) (d:=88) (e:=0) (n:=0) h1682 h1683 (by decide) rfl
    erw [e1686]
    refine .bd fun a1689 h1690 => ?_
    obtain ⟨v1691,H1692,e1693,S1694⟩:=S1687.app (i:=0) (d:=90) (e:=1) (own:=true) (σ:=(9::0::1::1::1::1::1::1::1::1::1::1::0::σ)) rfl (S1687.sl (i:=1) rfl).y h1690 rfl (by decide) (by decide) rfl
    refine .op (e1693) ?_
    obtain ⟨c1700,cs1701,H1695,e1696,h1698,h1699,S1697⟩:=S1694.expOwn (i:=0) (τ:=0::1::σ) rfl rfl rfl
    exact .fin (S1697.finE (Ex.st e1696 Ex.nil)) ⟨c1700,cs1701,h1698,h1699,rfl⟩
   refine .call (zr8_in_ok k r135_4 101) fun r1702 cs1703 H1704 h1705 q1706 => ?_
   cases q1706
   refine .ab ?_
   refine .cq ?_ ?_
   ·refine .fa ?_
    refine .op ((S137.atG (i:=0) rfl).ld (j:=7) rfl) ?_
    refine .ci ?_
    have h1708:=SlF.int1 .u8 (IntKind.wrap .u8 yg59.Code)
    refine .op (bldS (pC rfl pN) (by kernel_rfl : _ = some (vOf h1708))) ?_
    refine .call (zr8_field_ok r135_3 (S137.ownA (i:=0) rfl) 7 ([(IntKind.wrap .u8 yg59.Code)]) (fun _ _ => h1708.h _)) fun r1709 cs1710 H1711 h1712 q1713 => ?_
    obtain ⟨c1714,cs1715,h1716,h1717,h1718,q1713⟩:=q1713
    obtain rfl : cs1710 = [c1714]:=q1713
    have S1719:=S137.killA (i:=0) rfl rfl h1718
    obtain ⟨v1720,H1721,e1722,S1723⟩:=S1719.land (dt:=(dI .u8)) (d:=80) (e:=0) (n:=0) h1716 h1717 (by decide) rfl
    erw [e1722]
    refine .fa ?_
    refine .op ((S1723.atG (i:=0) rfl).ld (j:=0) rfl) ?_
    refine .ci ?_
    have h1725:=SlF.int1 .u8 (IntKind.wrap .u8 yg59.Kind)
    refine .op (bldS (pC rfl pN) (by kernel_rfl : _ = some (vOf h1725))) ?_
    refine .op ((S1723.sl (i:=0) rfl).len) ?_
    refine .ci ?_
    refine .call (zr1_Put_ok k ([(IntKind.wrap .u8 yg59.Kind)]) (h1725.h H1721) (IntKind.wrap .u64 ((r1709.length : Int))) 2) fun r1726 cs1727 H1728 h1729 q1730 => ?_
    obtain ⟨c1731,cs1732,h1733,h1734,q1730⟩:=q1730
    cases q1730
    obtain ⟨v1735,H1736,e1737,S1738⟩:=S1723.land (dt:=(dI .u8)) (d:=88) (e:=0) (n:=0) h1733 h1734 (by decide) rfl
    erw [e1737]
    refine .bd fun a1740 h1741 => ?_
    obtain ⟨v1742,H1743,e1744,S1745⟩:=S1738.app (i:=0) (d:=90) (e:=1) (own:=true) (σ:=(9::0::1::1::1::1::1::1::1::1::1::1::0::σ)) rfl (S1738.sl (i:=1) rfl).y h1741 rfl (by decide) (by decide) rfl
    refine .op (e1744) ?_
    obtain ⟨c1751,cs1752,H1746,e1747,h1749,h1750,S1748⟩:=S1745.expOwn (i:=0) (τ:=0::1::σ) rfl rfl rfl
    exact .fin (S1748.finE (Ex.st e1747 Ex.nil)) ⟨c1751,cs1752,h1749,h1750,rfl⟩
   refine .fa ?_
   refine .op ((S137.atG (i:=0) rfl).ld (j:=0) rfl) ?_
   refine .ci ?_
   have h1753:=SlF.int1 .u8 (IntKind.wrap .u8 yg59.Kind)
   refine .op (bldS (pC rfl pN) (by kernel_rfl : _ = some (vOf h1753))) ?_
   refine .op ((S137.sl (i:=0) rfl).len) ?_
   refine .ci ?_
   refine .call (zr1_Put_ok k ([(IntKind.wrap .u8 yg59.Kind)]) (h1753.h H136) (IntKind.wrap .u64 ((r135_3.length : Int))) 2) fun r1754 cs1755 H1756 h1757 q1758 => ?_
   obtain ⟨c1759,cs1760,h1761,h1762,q1758⟩:=q1758
   cases q1758
   obtain ⟨v1763,H1764,e1765,S1766⟩:=S137.land (dt:=(dI .u8)) (d:=88) (e:=0) (n:=0) h1761 h1762 (by decide) rfl
   erw [e1765]
   refine .bd fun a1768 h1769 => ?_
   obtain ⟨v1770,H1771,e1772,S1773⟩:=S1766.app (i:=0) (d:=90) (e:=1) (own:=true) (σ:=(9::0::1::1::1::1::1::1::1::1::1::1::0::σ)) rfl (S1766.sl (i:=1) rfl).y h1769 rfl (by decide) (by decide) rfl
   refine .op (e1772) ?_
   obtain ⟨c1779,cs1780,H1774,e1775,h1777,h1778,S1776⟩:=S1773.expOwn (i:=0) (τ:=0::1::σ) rfl rfl rfl
   exact .fin (S1776.finE (Ex.st e1775 Ex.nil)) ⟨c1779,cs1780,h1777,h1778,rfl⟩
 refine .fa ?_
 refine .op ((S5.atG (i:=0) rfl).ld (j:=2) rfl) ?_
 refine .op ((h2.h H3).len) ?_
 refine .ci ?_
 have S1782:=S5.nil (dI .u8) []
 refine .as (zr8_write_l0_ok ?_ k (([] : List Int)) r7 x0.Layers ((x0.Layers.length : Int)) 0 x0 (.p (.slice none 0 0)) v1 h2 _ hu0 (0::0::0::σ) H3 (S1782.wk2 (aC (aM 0 rfl) aN) (aC ⟨[],by simp,aM 0 rfl⟩ aN)))
 ·intro r1783_3 r1783_4 yg59 v1786 w1788 h1789 s1790 H1784 S1785
  refine .ext (zr8_write_a0_0 _ _ _ _ _ _ _) ?_
  obtain ⟨v1792,rfl,h1793⟩:=dTaiCtl.inv h1789
  refine .call (zr8_in_ok k r1783_4 112) fun r1794 cs1795 H1796 h1797 q1798 => ?_
  cases q1798
  refine .ab ?_
  refine .cq ?_ ?_
  ·refine .fa ?_
   refine .op ((S1785.atG (i:=0) rfl).ld (j:=3) rfl) ?_
   refine .ci ?_
   have h1800:=SlF.int1 .u8 (IntKind.wrap .u8 yg59.Peer)
   refine .op (bldS (pC rfl pN) (by kernel_rfl : _ = some (vOf h1800))) ?_
   refine .call (zr8_field_ok r1783_3 (S1785.ownA (i:=0) rfl) 3 ([(IntKind.wrap .u8 yg59.Peer)]) (fun _ _ => h1800.h _)) fun r1801 cs1802 H1803 h1804 q1805 => ?_
   obtain ⟨c1806,cs1807,h1808,h1809,h1810,q1805⟩:=q1805
   obtain rfl : cs1802 = [c1806]:=q1805
   have S1811:=S1785.killA (i:=0) rfl rfl h1810
   obtain ⟨v1812,H1813,e1814,S1815⟩:=S1811.land (dt:=(dI .u8)) (d:=48) (e:=0) (n:=0) h1808 h1809 (by decide) rfl
   erw [e1814]
   refine .call (zr8_in_ok k r1783_4 104) fun r1817 cs1818 H1819 h1820 q1821 => ?_
   cases q1821
   refine .ab ?_
   refine .cq ?_ ?_
   ·refine .fa ?_
    refine .op ((S1815.atG (i:=0) rfl).ld (j:=4) rfl) ?_
    refine .ci ?_
    refine .call (zr1_Put_ok k (([] : List Int)) ((SlF.nil (dI .u8)).h H1813) (IntKind.wrap .u64 yg59.Height) 2) fun r1823 cs1824 H1825 h1826 q1827 => ?_
    obtain ⟨c1828,cs1829,h1830,h1831,q1827⟩:=q1827
    cases q1827
    obtain ⟨v1832,H1833,e1834,S1835⟩:=S1815.land (dt:=(dI .u8)) (d:=55) (e:=0) (n:=0) h1830 h1831 (by decide) rfl
    erw [e1834]
    refine .call (zr8_field_ok r1801 (S1835.ownA (i:=1) rfl) 4 r1823 (fun _ hk => (S1835.killA (i:=1) rfl rfl hk).sl (i:=0) rfl)) fun r1837 cs1838 H1839 h1840 q1841 => ?_
    obtain ⟨c1842,cs1843,h1844,h1845,h1846,q1841⟩:=q1841
    obtain rfl : cs1838 = [c1842]:=q1841
    have S1847:=S1835.killA (i:=1) rfl rfl h1846
    obtain ⟨v1848,H1849,e1850,S1851⟩:=S1847.land (dt:=(dI .u8)) (d:=56) (e:=0) (n:=0) h1844 h1845 (by decide) rfl
    erw [e1850]
    refine .call (zr8_in_ok k r1783_4 107) fun r1853 cs1854 H1855 h1856 q1857 => ?_
    cases q1857
    refine .ab ?_
    refine .cq ?_ ?_
    ·refine .fa ?_
     refine .op ((S1851.atG (i:=0) rfl).ld (j:=5) rfl) ?_
     refine .ci ?_
     have h1859:=SlF.int1 .u8 (IntKind.wrap .u8 yg59.Class)
     refine .op (bldS (pC rfl pN) (by kernel_rfl : _ = some (vOf h1859))) ?_
     refine .call (zr8_field_ok r1837 (S1851.ownA (i:=0) rfl) 5 ([(IntKind.wrap .u8 yg59.Class)]) (fun _ _ => h1859.h _)) fun r1860 cs1861 H1862 h1863 q1864 => ?_
     obtain ⟨c1865,cs1866,h1867,h1868,h1869,q1864⟩:=q1864
     obtain rfl : cs1861 = [c1865]:=q1864
     have S1870:=S1851.killA (i:=0) rfl rfl h1869
     obtain ⟨v1871,H1872,e1873,S1874⟩:=S1870.land (dt:=(dI .u8)) (d:=64) (e:=0) (n:=0) h1867 h1868 (by decide) rfl
     erw [e1873]
     refine .call (zr8_in_ok k r1783_4 121) fun r1876 cs1877 H1878 h1879 q1880 => ?_
     cases q1880
     refine .ab ?_
     refine .cq ?_ ?_
     ·refine .fa ?_
      refine .op ((S1874.atG (i:=0) rfl).ld (j:=6) rfl) ?_
      refine .ci ?_
      have h1882:=SlF.int1 .u8 (IntKind.wrap .u8 yg59.Layer)
      refine .op (bldS (pC rfl pN) (by kernel_rfl : _ = some (vOf h1882))) ?_
      refine .call (zr8_field_ok r1860 (S1874.ownA (i:=0) rfl) 6 ([(IntKind.wrap .u8 yg59.Layer)]) (fun _ _ => h1882.h _)) fun r1883 cs1884 H1885 h1886 q1887 => ?_
      obtain ⟨c1888,cs1889,h1890,h1891,h1892,q1887⟩:=q1887
      obtain rfl : cs1884 = [c1888]:=q1887
      have S1893:=S1874.killA (i:=0) rfl rfl h1892
      obtain ⟨v1894,H1895,e1896,S1897⟩:=S1893.land (dt:=(dI .u8)) (d:=72) (e:=0) (n:=0) h1890 h1891 (by decide) rfl
      erw [e1896]
      refine .call (zr8_in_ok k r1783_4 101) fun r1899 cs1900 H1901 h1902 q1903 => ?_
      cases q1903
      refine .ab ?_
      refine .cq ?_ ?_
      ·refine .fa ?_
       refine .op ((S1897.atG (i:=0) rfl).ld (j:=7) rfl) ?_
       refine .ci ?_
       have h1905:=SlF.int1 .u8 (IntKind.wrap .u8 yg59.Code)
       refine .op (bldS (pC rfl pN) (by kernel_rfl : _ = some (vOf h1905))) ?_
       refine .call (zr8_field_ok r1883 (S1897.ownA (i:=0) rfl) 7 ([(IntKind.wrap .u8 yg59.Code)]) (fun _ _ => h1905.h _)) fun r1906 cs1907 H1908 h1909 q1910 => ?_
       obtain ⟨c1911,cs1912,h1913,h1914,h1915,q1910⟩:=q1910
       obtain rfl : cs1907 = [c1911]:=q1910
       have S1916:=S1897.killA (i:=0) rfl rfl h1915
       obtain ⟨v1917,H1918,e1919,S1920⟩:=S1916.land (dt:=(dI .u8)) (d:=80) (e:=0) (n:=0) h1913 h1914 (by decide) rfl
       erw [e1919]
       refine .fa ?_
       refine .op ((S1920.atG (i:=0) rfl).ld (j:=0) rfl) ?_
       refine .ci ?_
       have h1922:=SlF.int1 .u8 (IntKind.wrap .u8 yg59.Kind)
       refine .op (bldS (pC rfl pN) (by kernel_rfl : _ = some (vOf h1922))) ?_
       refine .op ((S1920.sl (i:=0) rfl).len) ?_
       refine .ci ?_
       refine .call (zr1_Put_ok k ([(IntKind.wrap .u8 yg59.Kind)]) (h1922.h H1918) (IntKind.wrap .u64 ((r1906.length : Int))) 2) fun r1923 cs1924 H1925 h1926 q1927 => ?_
       obtain ⟨c1928,cs1929,h1930,h1931,q1927⟩:=q1927
       cases q1927
       obtain ⟨v1932,H1933,e1934,S1935⟩:=S1920.land (dt:=(dI .u8)) (d:=88) (e:=0) (n:=0) h1930 h1931 (by decide) rfl
       erw [e1934]
       refine .bd fun a1937 h1938 => ?_
       obtain ⟨v1939,H1940,e1941,S1942⟩:=S1935.app (i:=0) (d:=90) (e:=1) (own:=true) (σ:=(9::0::1::1::1::1::1::1::1::1::1::1::0::σ)) rfl (S1935.sl (i:=1) rfl).y h1938 rfl (by decide) (by decide) rfl
       refine .op (e1941) ?_
       obtain ⟨c1948,cs1949,H1943,e1944,h1946,h1947,S1945⟩:=S1942.expOwn (i:=0) (τ:=0::1::σ) rfl rfl rfl
       exact .fin (S1945.finE (Ex.st e1944 Ex.nil)) ⟨c1948,cs1949,h1946,h1947,rfl⟩
      refine .fa ?_
      refine .op ((S1897.atG (i:=0) rfl).ld (j:=0) rfl) ?_
      refine .ci ?_
      have h1950:=SlF.int1 .u8 (IntKind.wrap .u8 yg59.Kind)
      refine .op (bldS (pC rfl pN) (by kernel_rfl : _ = some (vOf h1950))) ?_
      refine .op ((S1897.sl (i:=0) rfl).len) ?_
      refine .ci ?_
      refine .call (zr1_Put_ok k ([(IntKind.wrap .u8 yg59.Kind)]) (h1950.h H1895) (IntKind.wrap .u64 ((r1883.length : Int))) 2) fun r1951 cs1952 H1953 h1954 q1955 => ?_
      obtain ⟨c1956,cs1957,h1958,h1959,q1955⟩:=q1955
      cases q1955
      obtain ⟨v1960,H1961,e1962,S1963⟩:=S1897.land (dt:=(dI .u8)) (d:=88) (e:=0) (n:=0) h1958 h1959 (by decide) rfl
      erw [e1962]
      refine .bd fun a1965 h1966 => ?_
      obtain ⟨v1967,H1968,e1969,S1970⟩:=S1963.app (i:=0) (d:=90) (e:=1) (own:=true) (σ:=(9::0::1::1::1::1::1::1::1::1::1::1::0::σ)) rfl (S1963.sl (i:=1) rfl).y h1966 rfl (by decide) (by decide) rfl
      refine .op (e1969) ?_
      obtain ⟨c1976,cs1977,H1971,e1972,h1974,h1975,S1973⟩:=S1970.expOwn (i:=0) (τ:=0::1::σ) rfl rfl rfl
      exact .fin (S1973.finE (Ex.st e1972 Ex.nil)) ⟨c1976,cs1977,h1974,h1975,rfl⟩
     refine .call (zr8_in_ok k r1783_4 101) fun r1978 cs1979 H1980 h1981 q1982 => ?_
     cases q1982
     refine .ab ?_
     refine .cq ?_ ?_
     ·refine .fa ?_
      refine .op ((S1874.atG (i:=0) rfl).ld (j:=7) rfl) ?_
      refine .ci ?_
      have h1984:=SlF.int1 .u8 (IntKind.wrap .u8 yg59.Code)
      refine .op (bldS (pC rfl pN) (by kernel_rfl : _ = some (vOf h1984))) ?_
      refine .call (zr8_field_ok r1860 (S1874.ownA (i:=0) rfl) 7 ([(IntKind.wrap .u8 yg59.Code)]) (fun _ _ => h1984.h _)) fun r1985 cs1986 H1987 h1988 q1989 => ?_
      obtain ⟨c1990,cs1991,h1992,h1993,h1994,q1989⟩:=q1989
      obtain rfl : cs1986 = [c1990]:=q1989
      have S1995:=S1874.killA (i:=0) rfl rfl h1994
      obtain ⟨v1996,H1997,e1998,S1999⟩:=S1995.land (dt:=(dI .u8)) (d:=80) (e:=0) (n:=0) h1992 h1993 (by decide) rfl
      erw [e1998]
      refine .fa ?_
      refine .op ((S1999.atG (i:=0) rfl).ld (j:=0) rfl) ?_
      refine .ci ?_
      have h2001:=SlF.int1 .u8 (IntKind.wrap .u8 yg59.Kind)
      refine .op (bldS (pC rfl pN) (by kernel_rfl : _ = some (vOf h2001))) ?_
      refine .op ((S1999.sl (i:=0) rfl).len) ?_
      refine .ci ?_
      refine .call (zr1_Put_ok k ([(IntKind.wrap .u8 yg59.Kind)]) (h2001.h H1997) (IntKind.wrap .u64 ((r1985.length : Int))) 2) fun r2002 cs2003 H2004 h2005 q2006 => ?_
      obtain ⟨c2007,cs2008,h2009,h2010,q2006⟩:=q2006
      cases q2006
      obtain ⟨v2011,H2012,e2013,S2014⟩:=S1999.land (dt:=(dI .u8)) (d:=88) (e:=0) (n:=0) h2009 h2010 (by decide) rfl
      erw [e2013]
      refine .bd fun a2016 h2017 => ?_
      obtain ⟨v2018,H2019,e2020,S2021⟩:=S2014.app (i:=0) (d:=90) (e:=1) (own:=true) (σ:=(9::0::1::1::1::1::1::1::1::1::1::1::0::σ)) rfl (S2014.sl (i:=1) rfl).y h2017 rfl (by decide) (by decide) rfl
      refine .op (e2020) ?_
      obtain ⟨c2027,cs2028,H2022,e2023,h2025,h2026,S2024⟩:=S2021.expOwn (i:=0) (τ:=0::1::σ) rfl rfl rfl
      exact .fin (S2024.finE (Ex.st e2023 Ex.nil)) ⟨c2027,cs2028,h2025,h2026,rfl⟩
     refine .fa ?_
     refine .op ((S1874.atG (i:=0) rfl).ld (j:=0) rfl) ?_
     refine .ci ?_
     have h2029:=SlF.int1 .u8 (IntKind.wrap .u8 yg59.Kind)
     refine .op (bldS (pC rfl pN) (by kernel_rfl : _ = some (vOf h2029))) ?_
     refine .op ((S1874.sl (i:=0) rfl).len) ?_
     refine .ci ?_
     refine .call (zr1_Put_ok k ([(IntKind.wrap .u8 yg59.Kind)]) (h2029.h H1872) (IntKind.wrap .u64 ((r1860.length : Int))) 2) fun r2030 cs2031 H2032 h2033 q2034 => ?_
     obtain ⟨c2035,cs2036,h2037,h2038,q2034⟩:=q2034
     cases q2034
     obtain ⟨v2039,H2040,e2041,S2042⟩:=S1874.land (dt:=(dI .u8)) (d:=88) (e:=0) (n:=0) h2037 h2038 (by decide) rfl
     erw [e2041]
     refine .bd fun a2044 h2045 => ?_
     obtain ⟨v2046,H2047,e2048,S2049⟩:=S2042.app (i:=0) (d:=90) (e:=1) (own:=true) (σ:=(9::0::1::1::1::1::1::1::1::1::1::1::0::σ)) rfl (S2042.sl (i:=1) rfl).y h2045 rfl (by decide) (by decide) rfl
     refine .op (e2048) ?_
     obtain ⟨c2055,cs2056,H2050,e2051,h2053,h2054,S2052⟩:=S2049.expOwn (i:=0) (τ:=0::1::σ) rfl rfl rfl
     exact .fin (S2052.finE (Ex.st e2051 Ex.nil)) ⟨c2055,cs2056,h2053,h2054,rfl⟩
    refine .call (zr8_in_ok k r1783_4 121) fun r2057 cs2058 H2059 h2060 q2061 => ?_
    cases q2061
    refine .ab ?_
    refine .cq ?_ ?_
    ·refine .fa ?_
     refine .op ((S1851.atG (i:=0) rfl).ld (j:=6) rfl) ?_
     refine .ci ?_
     have h2063:=SlF.int1 .u8 (IntKind.wrap .u8 yg59.Layer)
     refine .op (bldS (pC rfl pN) (by kernel_rfl : _ = some (vOf h2063))) ?_
     refine .call (zr8_field_ok r1837 (S1851.ownA (i:=0) rfl) 6 ([(IntKind.wrap .u8 yg59.Layer)]) (fun _ _ => h2063.h _)) fun r2064 cs2065 H2066 h2067 q2068 => ?_
     obtain ⟨c2069,cs2070,h2071,h2072,h2073,q2068⟩:=q2068
     obtain rfl : cs2065 = [c2069]:=q2068
     have S2074:=S1851.killA (i:=0) rfl rfl h2073
     obtain ⟨v2075,H2076,e2077,S2078⟩:=S2074.land (dt:=(dI .u8)) (d:=72) (e:=0) (n:=0) h2071 h2072 (by decide) rfl
     erw [e2077]
     refine .call (zr8_in_ok k r1783_4 101) fun r2080 cs2081 H2082 h2083 q2084 => ?_
     cases q2084
     refine .ab ?_
     refine .cq ?_ ?_
     ·refine .fa ?_
      refine .op ((S2078.atG (i:=0) rfl).ld (j:=7) rfl) ?_
      refine .ci ?_
      have h2086:=SlF.int1 .u8 (IntKind.wrap .u8 yg59.Code)
      refine .op (bldS (pC rfl pN) (by kernel_rfl : _ = some (vOf h2086))) ?_
      refine .call (zr8_field_ok r2064 (S2078.ownA (i:=0) rfl) 7 ([(IntKind.wrap .u8 yg59.Code)]) (fun _ _ => h2086.h _)) fun r2087 cs2088 H2089 h2090 q2091 => ?_
      obtain ⟨c2092,cs2093,h2094,h2095,h2096,q2091⟩:=q2091
      obtain rfl : cs2088 = [c2092]:=q2091
      have S2097:=S2078.killA (i:=0) rfl rfl h2096
      obtain ⟨v2098,H2099,e2100,S2101⟩:=S2097.land (dt:=(dI .u8)) (d:=80) (e:=0) (n:=0) h2094 h2095 (by decide) rfl
      erw [e2100]
      refine .fa ?_
      refine .op ((S2101.atG (i:=0) rfl).ld (j:=0) rfl) ?_
      refine .ci ?_
      have h2103:=SlF.int1 .u8 (IntKind.wrap .u8 yg59.Kind)
      refine .op (bldS (pC rfl pN) (by kernel_rfl : _ = some (vOf h2103))) ?_
      refine .op ((S2101.sl (i:=0) rfl).len) ?_
      refine .ci ?_
      refine .call (zr1_Put_ok k ([(IntKind.wrap .u8 yg59.Kind)]) (h2103.h H2099) (IntKind.wrap .u64 ((r2087.length : Int))) 2) fun r2104 cs2105 H2106 h2107 q2108 => ?_
      obtain ⟨c2109,cs2110,h2111,h2112,q2108⟩:=q2108
      cases q2108
      obtain ⟨v2113,H2114,e2115,S2116⟩:=S2101.land (dt:=(dI .u8)) (d:=88) (e:=0) (n:=0) h2111 h2112 (by decide) rfl
      erw [e2115]
      refine .bd fun a2118 h2119 => ?_
      obtain ⟨v2120,H2121,e2122,S2123⟩:=S2116.app (i:=0) (d:=90) (e:=1) (own:=true) (σ:=(9::0::1::1::1::1::1::1::1::1::1::1::0::σ)) rfl (S2116.sl (i:=1) rfl).y h2119 rfl (by decide) (by decide) rfl
      refine .op (e2122) ?_
      obtain ⟨c2129,cs2130,H2124,e2125,h2127,h2128,S2126⟩:=S2123.expOwn (i:=0) (τ:=0::1::σ) rfl rfl rfl
      exact .fin (S2126.finE (Ex.st e2125 Ex.nil)) ⟨c2129,cs2130,h2127,h2128,rfl⟩
     refine .fa ?_
     refine .op ((S2078.atG (i:=0) rfl).ld (j:=0) rfl) ?_
     refine .ci ?_
     have h2131:=SlF.int1 .u8 (IntKind.wrap .u8 yg59.Kind)
     refine .op (bldS (pC rfl pN) (by kernel_rfl : _ = some (vOf h2131))) ?_
     refine .op ((S2078.sl (i:=0) rfl).len) ?_
     refine .ci ?_
     refine .call (zr1_Put_ok k ([(IntKind.wrap .u8 yg59.Kind)]) (h2131.h H2076) (IntKind.wrap .u64 ((r2064.length : Int))) 2) fun r2132 cs2133 H2134 h2135 q2136 => ?_
     obtain ⟨c2137,cs2138,h2139,h2140,q2136⟩:=q2136
     cases q2136
     obtain ⟨v2141,H2142,e2143,S2144⟩:=S2078.land (dt:=(dI .u8)) (d:=88) (e:=0) (n:=0) h2139 h2140 (by decide) rfl
     erw [e2143]
     refine .bd fun a2146 h2147 => ?_
     obtain ⟨v2148,H2149,e2150,S2151⟩:=S2144.app (i:=0) (d:=90) (e:=1) (own:=true) (σ:=(9::0::1::1::1::1::1::1::1::1::1::1::0::σ)) rfl (S2144.sl (i:=1) rfl).y h2147 rfl (by decide) (by decide) rfl
     refine .op (e2150) ?_
     obtain ⟨c2157,cs2158,H2152,e2153,h2155,h2156,S2154⟩:=S2151.expOwn (i:=0) (τ:=0::1::σ) rfl rfl rfl
     exact .fin (S2154.finE (Ex.st e2153 Ex.nil)) ⟨c2157,cs2158,h2155,h2156,rfl⟩
    refine .call (zr8_in_ok k r1783_4 101) fun r2159 cs2160 H2161 h2162 q2163 => ?_
    cases q2163
    refine .ab ?_
    refine .cq ?_ ?_
    ·refine .fa ?_
     refine .op ((S1851.atG (i:=0) rfl).ld (j:=7) rfl) ?_
     refine .ci ?_
     have h2165:=SlF.int1 .u8 (IntKind.wrap .u8 yg59.Code)
     refine .op (bldS (pC rfl pN) (by kernel_rfl : _ = some (vOf h2165))) ?_
     refine .call (zr8_field_ok r1837 (S1851.ownA (i:=0) rfl) 7 ([(IntKind.wrap .u8 yg59.Code)]) (fun _ _ => h2165.h _)) fun r2166 cs2167 H2168 h2169 q2170 => ?_
     obtain ⟨c2171,cs2172,h2173,h2174,h2175,q2170⟩:=q2170
     obtain rfl : cs2167 = [c2171]:=q2170
     have S2176:=S1851.killA (i:=0) rfl rfl h2175
     obtain ⟨v2177,H2178,e2179,S2180⟩:=S2176.land (dt:=(dI .u8)) (d:=80) (e:=0) (n:=0) h2173 h2174 (by decide) rfl
     erw [e2179]
     refine .fa ?_
     refine .op ((S2180.atG (i:=0) rfl).ld (j:=0) rfl) ?_
     refine .ci ?_
     have h2182:=SlF.int1 .u8 (IntKind.wrap .u8 yg59.Kind)
     refine .op (bldS (pC rfl pN) (by kernel_rfl : _ = some (vOf h2182))) ?_
     refine .op ((S2180.sl (i:=0) rfl).len) ?_
     refine .ci ?_
     refine .call (zr1_Put_ok k ([(IntKind.wrap .u8 yg59.Kind)]) (h2182.h H2178) (IntKind.wrap .u64 ((r2166.length : Int))) 2) fun r2183 cs2184 H2185 h2186 q2187 => ?_
     obtain ⟨c2188,cs2189,h2190,h2191,q2187⟩:=q2187
     cases q2187
     obtain ⟨v2192,H2193,e2194,S2195⟩:=S2180.land (dt:=(dI .u8)) (d:=88) (e:=0) (n:=0) h2190 h2191 (by decide) rfl
     erw [e2194]
     refine .bd fun a2197 h2198 => ?_
     obtain ⟨v2199,H2200,e2201,S2202⟩:=S2195.app (i:=0) (d:=90) (e:=1) (own:=true) (σ:=(9::0::1::1::1::1::1::1::1::1::1::1::0::σ)) rfl (S2195.sl (i:=1) rfl).y h2198 rfl (by decide) (by decide) rfl
     refine .op (e2201) ?_
     obtain ⟨c2208,cs2209,H2203,e2204,h2206,h2207,S2205⟩:=S2202.expOwn (i:=0) (τ:=0::1::σ) rfl rfl rfl
     exact .fin (S2205.finE (Ex.st e2204 Ex.nil)) ⟨c2208,cs2209,h2206,h2207,rfl⟩
    refine .fa ?_
    refine .op ((S1851.atG (i:=0) rfl).ld (j:=0) rfl) ?_
    refine .ci ?_
    have h2210:=SlF.int1 .u8 (IntKind.wrap .u8 yg59.Kind)
    refine .op (bldS (pC rfl pN) (by kernel_rfl : _ = some (vOf h2210))) ?_
    refine .op ((S1851.sl (i:=0) rfl).len) ?_
    refine .ci ?_
    refine .call (zr1_Put_ok k ([(IntKind.wrap .u8 yg59.Kind)]) (h2210.h H1849) (IntKind.wrap .u64 ((r1837.length : Int))) 2) fun r2211 cs2212 H2213 h2214 q2215 => ?_
    obtain ⟨c2216,cs2217,h2218,h2219,q2215⟩:=q2215
    cases q2215
    obtain ⟨v2220,H2221,e2222,S2223⟩:=S1851.land (dt:=(dI .u8)) (d:=88) (e:=0) (n:=0) h2218 h2219 (by decide) rfl
    erw [e2222]
    refine .bd fun a2225 h2226 => ?_
    obtain ⟨v2227,H2228,e2229,S2230⟩:=S2223.app (i:=0) (d:=90) (e:=1) (own:=true) (σ:=(9::0::1::1::1::1::1::1::1::1::1::1::0::σ)) rfl (S2223.sl (i:=1) rfl).y h2226 rfl (by decide) (by decide) rfl
    refine .op (e2229) ?_
    obtain ⟨c2236,cs2237,H2231,e2232,h2234,h2235,S2233⟩:=S2230.expOwn (i:=0) (τ:=0::1::σ) rfl rfl rfl
    exact .fin (S2233.finE (Ex.st e2232 Ex.nil)) ⟨c2236,cs2237,h2234,h2235,rfl⟩
   refine .call (zr8_in_ok k r1783_4 107) fun r2238 cs2239 H2240 h2241 q2242 => ?_
   cases q2242
   refine .ab ?_
   refine .cq ?_ ?_
   ·refine .fa ?_
    refine .op ((S1815.atG (i:=0) rfl).ld (j:=5) rfl) ?_
    refine .ci ?_
    have h2244:=SlF.int1 .u8 (IntKind.wrap .u8 yg59.Class)
    refine .op (bldS (pC rfl pN) (by kernel_rfl : _ = some (vOf h2244))) ?_
    refine .call (zr8_field_ok r1801 (S1815.ownA (i:=0) rfl) 5 ([(IntKind.wrap .u8 yg59.Class)]) (fun _ _ => h2244.h _)) fun r2245 cs2246 H2247 h2248 q2249 => ?_
    obtain ⟨c2250,cs2251,h2252,h2253,h2254,q2249⟩:=q2249
    obtain rfl : cs2246 = [c2250]:=q2249
    have S2255:=S1815.killA (i:=0) rfl rfl h2254
    obtain ⟨v2256,H2257,e2258,S2259⟩:=S2255.land (dt:=(dI .u8)) (d:=64) (e:=0) (n:=0) h2252 h2253 (by decide) rfl
    erw [e2258]
    refine .call (zr8_in_ok k r1783_4 121) fun r2261 cs2262 H2263 h2264 q2265 => ?_
    cases q2265
    refine .ab ?_
    refine .cq ?_ ?_
    ·refine .fa ?_
     refine .op ((S2259.atG (i:=0) rfl).ld (j:=6) rfl) ?_
     refine .ci ?_
     have h2267:=SlF.int1 .u8 (IntKind.wrap .u8 yg59.Layer)
     refine .op (bldS (pC rfl pN) (by kernel_rfl : _ = some (vOf h2267))) ?_
     refine .call (zr8_field_ok r2245 (S2259.ownA (i:=0) rfl) 6 ([(IntKind.wrap .u8 yg59.Layer)]) (fun _ _ => h2267.h _)) fun r2268 cs2269 H2270 h2271 q2272 => ?_
     obtain ⟨c2273,cs2274,h2275,h2276,h2277,q2272⟩:=q2272
     obtain rfl : cs2269 = [c2273]:=q2272
     have S2278:=S2259.killA (i:=0) rfl rfl h2277
     obtain ⟨v2279,H2280,e2281,S2282⟩:=S2278.land (dt:=(dI .u8)) (d:=72) (e:=0) (n:=0) h2275 h2276 (by decide) rfl
     erw [e2281]
     refine .call (zr8_in_ok k r1783_4 101) fun r2284 cs2285 H2286 h2287 q2288 => ?_
     cases q2288
     refine .ab ?_
     refine .cq ?_ ?_
     ·refine .fa ?_
      refine .op ((S2282.atG (i:=0) rfl).ld (j:=7) rfl) ?_
      refine .ci ?_
      have h2290:=SlF.int1 .u8 (IntKind.wrap .u8 yg59.Code)
      refine .op (bldS (pC rfl pN) (by kernel_rfl : _ = some (vOf h2290))) ?_
      refine .call (zr8_field_ok r2268 (S2282.ownA (i:=0) rfl) 7 ([(IntKind.wrap .u8 yg59.Code)]) (fun _ _ => h2290.h _)) fun r2291 cs2292 H2293 h2294 q2295 => ?_
      obtain ⟨c2296,cs2297,h2298,h2299,h2300,q2295⟩:=q2295
      obtain rfl : cs2292 = [c2296]:=q2295
      have S2301:=S2282.killA (i:=0) rfl rfl h2300
      obtain ⟨v2302,H2303,e2304,S2305⟩:=S2301.land (dt:=(dI .u8)) (d:=80) (e:=0) (n:=0) h2298 h2299 (by decide) rfl
      erw [e2304]
      refine .fa ?_
      refine .op ((S2305.atG (i:=0) rfl).ld (j:=0) rfl) ?_
      refine .ci ?_
      have h2307:=SlF.int1 .u8 (IntKind.wrap .u8 yg59.Kind)
      refine .op (bldS (pC rfl pN) (by kernel_rfl : _ = some (vOf h2307))) ?_
      refine .op ((S2305.sl (i:=0) rfl).len) ?_
      refine .ci ?_
      refine .call (zr1_Put_ok k ([(IntKind.wrap .u8 yg59.Kind)]) (h2307.h H2303) (IntKind.wrap .u64 ((r2291.length : Int))) 2) fun r2308 cs2309 H2310 h2311 q2312 => ?_
      obtain ⟨c2313,cs2314,h2315,h2316,q2312⟩:=q2312
      cases q2312
      obtain ⟨v2317,H2318,e2319,S2320⟩:=S2305.land (dt:=(dI .u8)) (d:=88) (e:=0) (n:=0) h2315 h2316 (by decide) rfl
      erw [e2319]
      refine .bd fun a2322 h2323 => ?_
      obtain ⟨v2324,H2325,e2326,S2327⟩:=S2320.app (i:=0) (d:=90) (e:=1) (own:=true) (σ:=(9::0::1::1::1::1::1::1::1::1::1::1::0::σ)) rfl (S2320.sl (i:=1) rfl).y h2323 rfl (by decide) (by decide) rfl
      refine .op (e2326) ?_
      obtain ⟨c2333,cs2334,H2328,e2329,h2331,h2332,S2330⟩:=S2327.expOwn (i:=0) (τ:=0::1::σ) rfl rfl rfl
      exact .fin (S2330.finE (Ex.st e2329 Ex.nil)) ⟨c2333,cs2334,h2331,h2332,rfl⟩
     refine .fa ?_
     refine .op ((S2282.atG (i:=0) rfl).ld (j:=0) rfl) ?_
     refine .ci ?_
     have h2335:=SlF.int1 .u8 (IntKind.wrap .u8 yg59.Kind)
     refine .op (bldS (pC rfl pN) (by kernel_rfl : _ = some (vOf h2335))) ?_
     refine .op ((S2282.sl (i:=0) rfl).len) ?_
     refine .ci ?_
     refine .call (zr1_Put_ok k ([(IntKind.wrap .u8 yg59.Kind)]) (h2335.h H2280) (IntKind.wrap .u64 ((r2268.length : Int))) 2) fun r2336 cs2337 H2338 h2339 q2340 => ?_
     obtain ⟨c2341,cs2342,h2343,h2344,q2340⟩:=q2340
     cases q2340
     obtain ⟨v2345,H2346,e2347,S2348⟩:=S2282.land (dt:=(dI .u8)) (d:=88) (e:=0) (n:=0) h2343 h2344 (by decide) rfl
     erw [e2347]
     refine .bd fun a2350 h2351 => ?_
     obtain ⟨v2352,H2353,e2354,S2355⟩:=S2348.app (i:=0) (d:=90) (e:=1) (own:=true) (σ:=(9::0::1::1::1::1::1::1::1::1::1::1::0::σ)) rfl (S2348.sl (i:=1) rfl).y h2351 rfl (by decide) (by decide) rfl
     refine .op (e2354) ?_
     obtain ⟨c2361,cs2362,H2356,e2357,h2359,h2360,S2358⟩:=S2355.expOwn (i:=0) (τ:=0::1::σ) rfl rfl rfl
     exact .fin (S2358.finE (Ex.st e2357 Ex.nil)) ⟨c2361,cs2362,h2359,h2360,rfl⟩
    refine .call (zr8_in_ok k r1783_4 101) fun r2363 cs2364 H2365 h2366 q2367 => ?_
    cases q2367
    refine .ab ?_
    refine .cq ?_ ?_
    ·refine .fa ?_
     refine .op ((S2259.atG (i:=0) rfl).ld (j:=7) rfl) ?_
     refine .ci ?_
     have h2369:=SlF.int1 .u8 (IntKind.wrap .u8 yg59.Code)
     refine .op (bldS (pC rfl pN) (by kernel_rfl : _ = some (vOf h2369))) ?_
     refine .call (zr8_field_ok r2245 (S2259.ownA (i:=0) rfl) 7 ([(IntKind.wrap .u8 yg59.Code)]) (fun _ _ => h2369.h _)) fun r2370 cs2371 H2372 h2373 q2374 => ?_
     obtain ⟨c2375,cs2376,h2377,h2378,h2379,q2374⟩:=q2374
     obtain rfl : cs2371 = [c2375]:=q2374
     have S2380:=S2259.killA (i:=0) rfl rfl h2379
     obtain ⟨v2381,H2382,e2383,S2384⟩:=S2380.land (dt:=(dI .u8)) (d:=80) (e:=0) (n:=0) h2377 h2378 (by decide) rfl
     erw [e2383]
     refine .fa ?_
     refine .op ((S2384.atG (i:=0) rfl).ld (j:=0) rfl) ?_
     refine .ci ?_
     have h2386:=SlF.int1 .u8 (IntKind.wrap .u8 yg59.Kind)
     refine .op (bldS (pC rfl pN) (by kernel_rfl : _ = some (vOf h2386))) ?_
     refine .op ((S2384.sl (i:=0) rfl).len) ?_
     refine .ci ?_
     refine .call (zr1_Put_ok k ([(IntKind.wrap .u8 yg59.Kind)]) (h2386.h H2382) (IntKind.wrap .u64 ((r2370.length : Int))) 2) fun r2387 cs2388 H2389 h2390 q2391 => ?_
     obtain ⟨c2392,cs2393,h2394,h2395,q2391⟩:=q2391
     cases q2391
     obtain ⟨v2396,H2397,e2398,S2399⟩:=S2384.land (dt:=(dI .u8)) (d:=88) (e:=0) (n:=0) h2394 h2395 (by decide) rfl
     erw [e2398]
     refine .bd fun a2401 h2402 => ?_
     obtain ⟨v2403,H2404,e2405,S2406⟩:=S2399.app (i:=0) (d:=90) (e:=1) (own:=true) (σ:=(9::0::1::1::1::1::1::1::1::1::1::1::0::σ)) rfl (S2399.sl (i:=1) rfl).y h2402 rfl (by decide) (by decide) rfl
     refine .op (e2405) ?_
     obtain ⟨c2412,cs2413,H2407,e2408,h2410,h2411,S2409⟩:=S2406.expOwn (i:=0) (τ:=0::1::σ) rfl rfl rfl
     exact .fin (S2409.finE (Ex.st e2408 Ex.nil)) ⟨c2412,cs2413,h2410,h2411,rfl⟩
    refine .fa ?_
    refine .op ((S2259.atG (i:=0) rfl).ld (j:=0) rfl) ?_
    refine .ci ?_
    have h2414:=SlF.int1 .u8 (IntKind.wrap .u8 yg59.Kind)
    refine .op (bldS (pC rfl pN) (by kernel_rfl : _ = some (vOf h2414))) ?_
    refine .op ((S2259.sl (i:=0) rfl).len) ?_
    refine .ci ?_
    refine .call (zr1_Put_ok k ([(IntKind.wrap .u8 yg59.Kind)]) (h2414.h H2257) (IntKind.wrap .u64 ((r2245.length : Int))) 2) fun r2415 cs2416 H2417 h2418 q2419 => ?_
    obtain ⟨c2420,cs2421,h2422,h2423,q2419⟩:=q2419
    cases q2419
    obtain ⟨v2424,H2425,e2426,S2427⟩:=S2259.land (dt:=(dI .u8)) (d:=88) (e:=0) (n:=0) h2422 h2423 (by decide) rfl
    erw [e2426]
    refine .bd fun a2429 h2430 => ?_
    obtain ⟨v2431,H2432,e2433,S2434⟩:=S2427.app (i:=0) (d:=90) (e:=1) (own:=true) (σ:=(9::0::1::1::1::1::1::1::1::1::1::1::0::σ)) rfl (S2427.sl (i:=1) rfl).y h2430 rfl (by decide) (by decide) rfl
    refine .op (e2433) ?_
    obtain ⟨c2440,cs2441,H2435,e2436,h2438,h2439,S2437⟩:=S2434.expOwn (i:=0) (τ:=0::1::σ) rfl rfl rfl
    exact .fin (S2437.finE (Ex.st e2436 Ex.nil)) ⟨c2440,cs2441,h2438,h2439,rfl⟩
   refine .call (zr8_in_ok k r1783_4 121) fun r2442 cs2443 H2444 h2445 q2446 => ?_
   cases q2446
   refine .ab ?_
   refine .cq ?_ ?_
   ·refine .fa ?_
    refine .op ((S1815.atG (i:=0) rfl).ld (j:=6) rfl) ?_
    refine .ci ?_
    have h2448:=SlF.int1 .u8 (IntKind.wrap .u8 yg59.Layer)
    refine .op (bldS (pC rfl pN) (by kernel_rfl : _ = some (vOf h2448))) ?_
    refine .call (zr8_field_ok r1801 (S1815.ownA (i:=0) rfl) 6 ([(IntKind.wrap .u8 yg59.Layer)]) (fun _ _ => h2448.h _)) fun r2449 cs2450 H2451 h2452 q2453 => ?_
    obtain ⟨c2454,cs2455,h2456,h2457,h2458,q2453⟩:=q2453
    obtain rfl : cs2450 = [c2454]:=q2453
    have S2459:=S1815.killA (i:=0) rfl rfl h2458
    obtain ⟨v2460,H2461,e2462,S2463⟩:=S2459.land (dt:=(dI .u8)) (d:=72) (e:=0) (n:=0) h2456 h2457 (by decide) rfl
    erw [e2462]
    refine .call (zr8_in_ok k r1783_4 101) fun r2465 cs2466 H2467 h2468 q2469 => ?_
    cases q2469
    refine .ab ?_
    refine .cq ?_ ?_
    ·refine .fa ?_
     refine .op ((S2463.atG (i:=0) rfl).ld (j:=7) rfl) ?_
     refine .ci ?_
     have h2471:=SlF.int1 .u8 (IntKind.wrap .u8 yg59.Code)
     refine .op (bldS (pC rfl pN) (by kernel_rfl : _ = some (vOf h2471))) ?_
     refine .call (zr8_field_ok r2449 (S2463.ownA (i:=0) rfl) 7 ([(IntKind.wrap .u8 yg59.Code)]) (fun _ _ => h2471.h _)) fun r2472 cs2473 H2474 h2475 q2476 => ?_
     obtain ⟨c2477,cs2478,h2479,h2480,h2481,q2476⟩:=q2476
     obtain rfl : cs2473 = [c2477]:=q2476
     have S2482:=S2463.killA (i:=0) rfl rfl h2481
     obtain ⟨v2483,H2484,e2485,S2486⟩:=S2482.land (dt:=(dI .u8)) (d:=80) (e:=0) (n:=0) h2479 h2480 (by decide) rfl
     erw [e2485]
     refine .fa ?_
     refine .op ((S2486.atG (i:=0) rfl).ld (j:=0) rfl) ?_
     refine .ci ?_
     have h2488:=SlF.int1 .u8 (IntKind.wrap .u8 yg59.Kind)
     refine .op (bldS (pC rfl pN) (by kernel_rfl : _ = some (vOf h2488))) ?_
     refine .op ((S2486.sl (i:=0) rfl).len) ?_
     refine .ci ?_
     refine .call (zr1_Put_ok k ([(IntKind.wrap .u8 yg59.Kind)]) (h2488.h H2484) (IntKind.wrap .u64 ((r2472.length : Int))) 2) fun r2489 cs2490 H2491 h2492 q2493 => ?_
     obtain ⟨c2494,cs2495,h2496,h2497,q2493⟩:=q2493
     cases q2493
     obtain ⟨v2498,H2499,e2500,S2501⟩:=S2486.land (dt:=(dI .u8)) (d:=88) (e:=0) (n:=0) h2496 h2497 (by decide) rfl
     erw [e2500]
     refine .bd fun a2503 h2504 => ?_
     obtain ⟨v2505,H2506,e2507,S2508⟩:=S2501.app (i:=0) (d:=90) (e:=1) (own:=true) (σ:=(9::0::1::1::1::1::1::1::1::1::1::1::0::σ)) rfl (S2501.sl (i:=1) rfl).y h2504 rfl (by decide) (by decide) rfl
     refine .op (e2507) ?_
     obtain ⟨c2514,cs2515,H2509,e2510,h2512,h2513,S2511⟩:=S2508.expOwn (i:=0) (τ:=0::1::σ) rfl rfl rfl
     exact .fin (S2511.finE (Ex.st e2510 Ex.nil)) ⟨c2514,cs2515,h2512,h2513,rfl⟩
    refine .fa ?_
    refine .op ((S2463.atG (i:=0) rfl).ld (j:=0) rfl) ?_
    refine .ci ?_
    have h2516:=SlF.int1 .u8 (IntKind.wrap .u8 yg59.Kind)
    refine .op (bldS (pC rfl pN) (by kernel_rfl : _ = some (vOf h2516))) ?_
    refine .op ((S2463.sl (i:=0) rfl).len) ?_
    refine .ci ?_
    refine .call (zr1_Put_ok k ([(IntKind.wrap .u8 yg59.Kind)]) (h2516.h H2461) (IntKind.wrap .u64 ((r2449.length : Int))) 2) fun r2517 cs2518 H2519 h2520 q2521 => ?_
    obtain ⟨c2522,cs2523,h2524,h2525,q2521⟩:=q2521
    cases q2521
    obtain ⟨v2526,H2527,e2528,S2529⟩:=S2463.land (dt:=(dI .u8)) (d:=88) (e:=0) (n:=0) h2524 h2525 (by decide) rfl
    erw [e2528]
    refine .bd fun a2531 h2532 => ?_
    obtain ⟨v2533,H2534,e2535,S2536⟩:=S2529.app (i:=0) (d:=90) (e:=1) (own:=true) (σ:=(9::0::1::1::1::1::1::1::1::1::1::1::0::σ)) rfl (S2529.sl (i:=1) rfl).y h2532 rfl (by decide) (by decide) rfl
    refine .op (e2535) ?_
    obtain ⟨c2542,cs2543,H2537,e2538,h2540,h2541,S2539⟩:=S2536.expOwn (i:=0) (τ:=0::1::σ) rfl rfl rfl
    exact .fin (S2539.finE (Ex.st e2538 Ex.nil)) ⟨c2542,cs2543,h2540,h2541,rfl⟩
   refine .call (zr8_in_ok k r1783_4 101) fun r2544 cs2545 H2546 h2547 q2548 => ?_
   cases q2548
   refine .ab ?_
   refine .cq ?_ ?_
   ·refine .fa ?_
    refine .op ((S1815.atG (i:=0) rfl).ld (j:=7) rfl) ?_
    refine .ci ?_
    have h2550:=SlF.int1 .u8 (IntKind.wrap .u8 yg59.Code)
    refine .op (bldS (pC rfl pN) (by kernel_rfl : _ = some (vOf h2550))) ?_
    refine .call (zr8_field_ok r1801 (S1815.ownA (i:=0) rfl) 7 ([(IntKind.wrap .u8 yg59.Code)]) (fun _ _ => h2550.h _)) fun r2551 cs2552 H2553 h2554 q2555 => ?_
    obtain ⟨c2556,cs2557,h2558,h2559,h2560,q2555⟩:=q2555
    obtain rfl : cs2552 = [c2556]:=q2555
    have S2561:=S1815.killA (i:=0) rfl rfl h2560
    obtain ⟨v2562,H2563,e2564,S2565⟩:=S2561.land (dt:=(dI .u8)) (d:=80) (e:=0) (n:=0) h2558 h2559 (by decide) rfl
    erw [e2564]
    refine .fa ?_
    refine .op ((S2565.atG (i:=0) rfl).ld (j:=0) rfl) ?_
    refine .ci ?_
    have h2567:=SlF.int1 .u8 (IntKind.wrap .u8 yg59.Kind)
    refine .op (bldS (pC rfl pN) (by kernel_rfl : _ = some (vOf h2567))) ?_
    refine .op ((S2565.sl (i:=0) rfl).len) ?_
    refine .ci ?_
    refine .call (zr1_Put_ok k ([(IntKind.wrap .u8 yg59.Kind)]) (h2567.h H2563) (IntKind.wrap .u64 ((r2551.length : Int))) 2) fun r2568 cs2569 H2570 h2571 q2572 => ?_
    obtain ⟨c2573,cs2574,h2575,h2576,q2572⟩:=q2572
    cases q2572
    obtain ⟨v2577,H2578,e2579,S2580⟩:=S2565.land (dt:=(dI .u8)) (d:=88) (e:=0) (n:=0) h2575 h2576 (by decide) rfl
    erw [e2579]
    refine .bd fun a2582 h2583 => ?_
    obtain ⟨v2584,H2585,e2586,S2587⟩:=S2580.app (i:=0) (d:=90) (e:=1) (own:=true) (σ:=(9::0::1::1::1::1::1::1::1::1::1::1::0::σ)) rfl (S2580.sl (i:=1) rfl).y h2583 rfl (by decide) (by decide) rfl
    refine .op (e2586) ?_
    obtain ⟨c2593,cs2594,H2588,e2589,h2591,h2592,S2590⟩:=S2587.expOwn (i:=0) (τ:=0::1::σ) rfl rfl rfl
    exact .fin (S2590.finE (Ex.st e2589 Ex.nil)) ⟨c2593,cs2594,h2591,h2592,rfl⟩
   refine .fa ?_
   refine .op ((S1815.atG (i:=0) rfl).ld (j:=0) rfl) ?_
   refine .ci ?_
   have h2595:=SlF.int1 .u8 (IntKind.wrap .u8 yg59.Kind)
   refine .op (bldS (pC rfl pN) (by kernel_rfl : _ = some (vOf h2595))) ?_
   refine .op ((S1815.sl (i:=0) rfl).len) ?_
   refine .ci ?_
   refine .call (zr1_Put_ok k ([(IntKind.wrap .u8 yg59.Kind)]) (h2595.h H1813) (IntKind.wrap .u64 ((r1801.length : Int))) 2) fun r2596 cs2597 H2598 h2599 q2600 => ?_
   obtain ⟨c2601,cs2602,h2603,h2604,q2600⟩:=q2600
   cases q2600
   obtain ⟨v2605,H2606,e2607,S2608⟩:=S1815.land (dt:=(dI .u8)) (d:=88) (e:=0) (n:=0) h2603 h2604 (by decide) rfl
   erw [e2607]
   refine .bd fun a2610 h2611 => ?_
   obtain ⟨v2612,H2613,e2614,S2615⟩:=S2608.app (i:=0) (d:=90) (e:=1) (own:=true) (σ:=(9::0::1::1::1::1::1::1::1::1::1::1::0::σ)) rfl (S2608.sl (i:=1) rfl).y h2611 rfl (by decide) (by decide) rfl
   refine .op (e2614) ?_
   obtain ⟨c2621,cs2622,H2616,e2617,h2619,h2620,S2618⟩:=S2615.expOwn (i:=0) (τ:=0::1::σ) rfl rfl rfl
   exact .fin (S2618.finE (Ex.st e2617 Ex.nil)) ⟨c2621,cs2622,h2619,h2620,rfl⟩
  refine .call (zr8_in_ok k r1783_4 104) fun r2623 cs2624 H2625 h2626 q2627 => ?_
  cases q2627
  refine .ab ?_
  refine .cq ?_ ?_
  ·refine .fa ?_
   refine .op ((S1785.atG (i:=0) rfl).ld (j:=4) rfl) ?_
   refine .ci ?_
   refine .call (zr1_Put_ok k (([] : List Int)) ((SlF.nil (dI .u8)).h H1784) (IntKind.wrap .u64 yg59.Height) 2) fun r2629 cs2630 H2631 h2632 q2633 => ?_
   obtain ⟨c2634,cs2635,h2636,h2637,q2633⟩:=q2633
   cases q2633
   obtain ⟨v2638,H2639,e2640,S2641⟩:=S1785.land (dt:=(dI .u8)) (d:=55) (e:=0) (n:=0) h2636 h2637 (by decide) rfl
   erw [e2640]
   refine .call (zr8_field_ok r1783_3 (S2641.ownA (i:=1) rfl) 4 r2629 (fun _ hk => (S2641.killA (i:=1) rfl rfl hk).sl (i:=0) rfl)) fun r2643 cs2644 H2645 h2646 q2647 => ?_
   obtain ⟨c2648,cs2649,h2650,h2651,h2652,q2647⟩:=q2647
   obtain rfl : cs2644 = [c2648]:=q2647
   have S2653:=S2641.killA (i:=1) rfl rfl h2652
   obtain ⟨v2654,H2655,e2656,S2657⟩:=S2653.land (dt:=(dI .u8)) (d:=56) (e:=0) (n:=0) h2650 h2651 (by decide) rfl
   erw [e2656]
   refine .call (zr8_in_ok k r1783_4 107) fun r2659 cs2660 H2661 h2662 q2663 => ?_
   cases q2663
   refine .ab ?_
   refine .cq ?_ ?_
   ·refine .fa ?_
    refine .op ((S2657.atG (i:=0) rfl).ld (j:=5) rfl) ?_
    refine .ci ?_
    have h2665:=SlF.int1 .u8 (IntKind.wrap .u8 yg59.Class)
    refine .op (bldS (pC rfl pN) (by kernel_rfl : _ = some (vOf h2665))) ?_
    refine .call (zr8_field_ok r2643 (S2657.ownA (i:=0) rfl) 5 ([(IntKind.wrap .u8 yg59.Class)]) (fun _ _ => h2665.h _)) fun r2666 cs2667 H2668 h2669 q2670 => ?_
    obtain ⟨c2671,cs2672,h2673,h2674,h2675,q2670⟩:=q2670
    obtain rfl : cs2667 = [c2671]:=q2670
    have S2676:=S2657.killA (i:=0) rfl rfl h2675
    obtain ⟨v2677,H2678,e2679,S2680⟩:=S2676.land (dt:=(dI .u8)) (d:=64) (e:=0) (n:=0) h2673 h2674 (by decide) rfl
    erw [e2679]
    refine .call (zr8_in_ok k r1783_4 121) fun r2682 cs2683 H2684 h2685 q2686 => ?_
    cases q2686
    refine .ab ?_
    refine .cq ?_ ?_
    ·refine .fa ?_
     refine .op ((S2680.atG (i:=0) rfl).ld (j:=6) rfl) ?_
     refine .ci ?_
     have h2688:=SlF.int1 .u8 (IntKind.wrap .u8 yg59.Layer)
     refine .op (bldS (pC rfl pN) (by kernel_rfl : _ = some (vOf h2688))) ?_
     refine .call (zr8_field_ok r2666 (S2680.ownA (i:=0) rfl) 6 ([(IntKind.wrap .u8 yg59.Layer)]) (fun _ _ => h2688.h _)) fun r2689 cs2690 H2691 h2692 q2693 => ?_
     obtain ⟨c2694,cs2695,h2696,h2697,h2698,q2693⟩:=q2693
     obtain rfl : cs2690 = [c2694]:=q2693
     have S2699:=S2680.killA (i:=0) rfl rfl h2698
     obtain ⟨v2700,H2701,e2702,S2703⟩:=S2699.land (dt:=(dI .u8)) (d:=72) (e:=0) (n:=0) h2696 h2697 (by decide) rfl
     erw [e2702]
     refine .call (zr8_in_ok k r1783_4 101) fun r2705 cs2706 H2707 h2708 q2709 => ?_
     cases q2709
     refine .ab ?_
     refine .cq ?_ ?_
     ·refine .fa ?_
      refine .op ((S2703.atG (i:=0) rfl).ld (j:=7) rfl) ?_
      refine .ci ?_
      have h2711:=SlF.int1 .u8 (IntKind.wrap .u8 yg59.Code)
      refine .op (bldS (pC rfl pN) (by kernel_rfl : _ = some (vOf h2711))) ?_
      refine .call (zr8_field_ok r2689 (S2703.ownA (i:=0) rfl) 7 ([(IntKind.wrap .u8 yg59.Code)]) (fun _ _ => h2711.h _)) fun r2712 cs2713 H2714 h2715 q2716 => ?_
      obtain ⟨c2717,cs2718,h2719,h2720,h2721,q2716⟩:=q2716
      obtain rfl : cs2713 = [c2717]:=q2716
      have S2722:=S2703.killA (i:=0) rfl rfl h2721
      obtain ⟨v2723,H2724,e2725,S2726⟩:=S2722.land (dt:=(dI .u8)) (d:=80) (e:=0) (n:=0) h2719 h2720 (by decide) rfl
      erw [e2725]
      refine .fa ?_
      refine .op ((S2726.atG (i:=0) rfl).ld (j:=0) rfl) ?_
      refine .ci ?_
      have h2728:=SlF.int1 .u8 (IntKind.wrap .u8 yg59.Kind)
      refine .op (bldS (pC rfl pN) (by kernel_rfl : _ = some (vOf h2728))) ?_
      refine .op ((S2726.sl (i:=0) rfl).len) ?_
      refine .ci ?_
      refine .call (zr1_Put_ok k ([(IntKind.wrap .u8 yg59.Kind)]) (h2728.h H2724) (IntKind.wrap .u64 ((r2712.length : Int))) 2) fun r2729 cs2730 H2731 h2732 q2733 => ?_
      obtain ⟨c2734,cs2735,h2736,h2737,q2733⟩:=q2733
      cases q2733
      obtain ⟨v2738,H2739,e2740,S2741⟩:=S2726.land (dt:=(dI .u8)) (d:=88) (e:=0) (n:=0) h2736 h2737 (by decide) rfl
      erw [e2740]
      refine .bd fun a2743 h2744 => ?_
      obtain ⟨v2745,H2746,e2747,S2748⟩:=S2741.app (i:=0) (d:=90) (e:=1) (own:=true) (σ:=(9::0::1::1::1::1::1::1::1::1::1::1::0::σ)) rfl (S2741.sl (i:=1) rfl).y h2744 rfl (by decide) (by decide) rfl
      refine .op (e2747) ?_
      obtain ⟨c2754,cs2755,H2749,e2750,h2752,h2753,S2751⟩:=S2748.expOwn (i:=0) (τ:=0::1::σ) rfl rfl rfl
      exact .fin (S2751.finE (Ex.st e2750 Ex.nil)) ⟨c2754,cs2755,h2752,h2753,rfl⟩
     refine .fa ?_
     refine .op ((S2703.atG (i:=0) rfl).ld (j:=0) rfl) ?_
     refine .ci ?_
     have h2756:=SlF.int1 .u8 (IntKind.wrap .u8 yg59.Kind)
     refine .op (bldS (pC rfl pN) (by kernel_rfl : _ = some (vOf h2756))) ?_
     refine .op ((S2703.sl (i:=0) rfl).len) ?_
     refine .ci ?_
     refine .call (zr1_Put_ok k ([(IntKind.wrap .u8 yg59.Kind)]) (h2756.h H2701) (IntKind.wrap .u64 ((r2689.length : Int))) 2) fun r2757 cs2758 H2759 h2760 q2761 => ?_
     obtain ⟨c2762,cs2763,h2764,h2765,q2761⟩:=q2761
     cases q2761
     obtain ⟨v2766,H2767,e2768,S2769⟩:=S2703.land (dt:=(dI .u8)) (d:=88) (e:=0) (n:=0) h2764 h2765 (by decide) rfl
     erw [e2768]
     refine .bd fun a2771 h2772 => ?_
     obtain ⟨v2773,H2774,e2775,S2776⟩:=S2769.app (i:=0) (d:=90) (e:=1) (own:=true) (σ:=(9::0::1::1::1::1::1::1::1::1::1::1::0::σ)) rfl (S2769.sl (i:=1) rfl).y h2772 rfl (by decide) (by decide) rfl
     refine .op (e2775) ?_
     obtain ⟨c2782,cs2783,H2777,e2778,h2780,h2781,S2779⟩:=S2776.expOwn (i:=0) (τ:=0::1::σ) rfl rfl rfl
     exact .fin (S2779.finE (Ex.st e2778 Ex.nil)) ⟨c2782,cs2783,h2780,h2781,rfl⟩
    refine .call (zr8_in_ok k r1783_4 101) fun r2784 cs2785 H2786 h2787 q2788 => ?_
    cases q2788
    refine .ab ?_
    refine .cq ?_ ?_
    ·refine .fa ?_
     refine .op ((S2680.atG (i:=0) rfl).ld (j:=7) rfl) ?_
     refine .ci ?_
     have h2790:=SlF.int1 .u8 (IntKind.wrap .u8 yg59.Code)
     refine .op (bldS (pC rfl pN) (by kernel_rfl : _ = some (vOf h2790))) ?_
     refine .call (zr8_field_ok r2666 (S2680.ownA (i:=0) rfl) 7 ([(IntKind.wrap .u8 yg59.Code)]) (fun _ _ => h2790.h _)) fun r2791 cs2792 H2793 h2794 q2795 => ?_
     obtain ⟨c2796,cs2797,h2798,h2799,h2800,q2795⟩:=q2795
     obtain rfl : cs2792 = [c2796]:=q2795
     have S2801:=S2680.killA (i:=0) rfl rfl h2800
     obtain ⟨v2802,H2803,e2804,S2805⟩:=S2801.land (dt:=(dI .u8)) (d:=80) (e:=0) (n:=0) h2798 h2799 (by decide) rfl
     erw [e2804]
     refine .fa ?_
     refine .op ((S2805.atG (i:=0) rfl).ld (j:=0) rfl) ?_
     refine .ci ?_
     have h2807:=SlF.int1 .u8 (IntKind.wrap .u8 yg59.Kind)
     refine .op (bldS (pC rfl pN) (by kernel_rfl : _ = some (vOf h2807))) ?_
     refine .op ((S2805.sl (i:=0) rfl).len) ?_
     refine .ci ?_
     refine .call (zr1_Put_ok k ([(IntKind.wrap .u8 yg59.Kind)]) (h2807.h H2803) (IntKind.wrap .u64 ((r2791.length : Int))) 2) fun r2808 cs2809 H2810 h2811 q2812 => ?_
     obtain ⟨c2813,cs2814,h2815,h2816,q2812⟩:=q2812
     cases q2812
     obtain ⟨v2817,H2818,e2819,S2820⟩:=S2805.land (dt:=(dI .u8)) (d:=88) (e:=0) (n:=0) h2815 h2816 (by decide) rfl
     erw [e2819]
     refine .bd fun a2822 h2823 => ?_
     obtain ⟨v2824,H2825,e2826,S2827⟩:=S2820.app (i:=0) (d:=90) (e:=1) (own:=true) (σ:=(9::0::1::1::1::1::1::1::1::1::1::1::0::σ)) rfl (S2820.sl (i:=1) rfl).y h2823 rfl (by decide) (by decide) rfl
     refine .op (e2826) ?_
     obtain ⟨c2833,cs2834,H2828,e2829,h2831,h2832,S2830⟩:=S2827.expOwn (i:=0) (τ:=0::1::σ) rfl rfl rfl
     exact .fin (S2830.finE (Ex.st e2829 Ex.nil)) ⟨c2833,cs2834,h2831,h2832,rfl⟩
    refine .fa ?_
    refine .op ((S2680.atG (i:=0) rfl).ld (j:=0) rfl) ?_
    refine .ci ?_
    have h2835:=SlF.int1 .u8 (IntKind.wrap .u8 yg59.Kind)
    refine .op (bldS (pC rfl pN) (by kernel_rfl : _ = some (vOf h2835))) ?_
    refine .op ((S2680.sl (i:=0) rfl).len) ?_
    refine .ci ?_
    refine .call (zr1_Put_ok k ([(IntKind.wrap .u8 yg59.Kind)]) (h2835.h H2678) (IntKind.wrap .u64 ((r2666.length : Int))) 2) fun r2836 cs2837 H2838 h2839 q2840 => ?_
    obtain ⟨c2841,cs2842,h2843,h2844,q2840⟩:=q2840
    cases q2840
    obtain ⟨v2845,H2846,e2847,S2848⟩:=S2680.land (dt:=(dI .u8)) (d:=88) (e:=0) (n:=0) h2843 h2844 (by decide) rfl
    erw [e2847]
    refine .bd fun a2850 h2851 => ?_
    obtain ⟨v2852,H2853,e2854,S2855⟩:=S2848.app (i:=0) (d:=90) (e:=1) (own:=true) (σ:=(9::0::1::1::1::1::1::1::1::1::1::1::0::σ)) rfl (S2848.sl (i:=1) rfl).y h2851 rfl (by decide) (by decide) rfl
    refine .op (e2854) ?_
    obtain ⟨c2861,cs2862,H2856,e2857,h2859,h2860,S2858⟩:=S2855.expOwn (i:=0) (τ:=0::1::σ) rfl rfl rfl
    exact .fin (S2858.finE (Ex.st e2857 Ex.nil)) ⟨c2861,cs2862,h2859,h2860,rfl⟩
   refine .call (zr8_in_ok k r1783_4 121) fun r2863 cs2864 H2865 h2866 q2867 => ?_
   cases q2867
   refine .ab ?_
   refine .cq ?_ ?_
   ·refine .fa ?_
    refine .op ((S2657.atG (i:=0) rfl).ld (j:=6) rfl) ?_
    refine .ci ?_
    have h2869:=SlF.int1 .u8 (IntKind.wrap .u8 yg59.Layer)
    refine .op (bldS (pC rfl pN) (by kernel_rfl : _ = some (vOf h2869))) ?_
    refine .call (zr8_field_ok r2643 (S2657.ownA (i:=0) rfl) 6 ([(IntKind.wrap .u8 yg59.Layer)]) (fun _ _ => h2869.h _)) fun r2870 cs2871 H2872 h2873 q2874 => ?_
    obtain ⟨c2875,cs2876,h2877,h2878,h2879,q2874⟩:=q2874
    obtain rfl : cs2871 = [c2875]:=q2874
    have S2880:=S2657.killA (i:=0) rfl rfl h2879
    obtain ⟨v2881,H2882,e2883,S2884⟩:=S2880.land (dt:=(dI .u8)) (d:=72) (e:=0) (n:=0) h2877 h2878 (by decide) rfl
    erw [e2883]
    refine .call (zr8_in_ok k r1783_4 101) fun r2886 cs2887 H2888 h2889 q2890 => ?_
    cases q2890
    refine .ab ?_
    refine .cq ?_ ?_
    ·refine .fa ?_
     refine .op ((S2884.atG (i:=0) rfl).ld (j:=7) rfl) ?_
     refine .ci ?_
     have h2892:=SlF.int1 .u8 (IntKind.wrap .u8 yg59.Code)
     refine .op (bldS (pC rfl pN) (by kernel_rfl : _ = some (vOf h2892))) ?_
     refine .call (zr8_field_ok r2870 (S2884.ownA (i:=0) rfl) 7 ([(IntKind.wrap .u8 yg59.Code)]) (fun _ _ => h2892.h _)) fun r2893 cs2894 H2895 h2896 q2897 => ?_
     obtain ⟨c2898,cs2899,h2900,h2901,h2902,q2897⟩:=q2897
     obtain rfl : cs2894 = [c2898]:=q2897
     have S2903:=S2884.killA (i:=0) rfl rfl h2902
     obtain ⟨v2904,H2905,e2906,S2907⟩:=S2903.land (dt:=(dI .u8)) (d:=80) (e:=0) (n:=0) h2900 h2901 (by decide) rfl
     erw [e2906]
     refine .fa ?_
     refine .op ((S2907.atG (i:=0) rfl).ld (j:=0) rfl) ?_
     refine .ci ?_
     have h2909:=SlF.int1 .u8 (IntKind.wrap .u8 yg59.Kind)
     refine .op (bldS (pC rfl pN) (by kernel_rfl : _ = some (vOf h2909))) ?_
     refine .op ((S2907.sl (i:=0) rfl).len) ?_
     refine .ci ?_
     refine .call (zr1_Put_ok k ([(IntKind.wrap .u8 yg59.Kind)]) (h2909.h H2905) (IntKind.wrap .u64 ((r2893.length : Int))) 2) fun r2910 cs2911 H2912 h2913 q2914 => ?_
     obtain ⟨c2915,cs2916,h2917,h2918,q2914⟩:=q2914
     cases q2914
     obtain ⟨v2919,H2920,e2921,S2922⟩:=S2907.land (dt:=(dI .u8)) (d:=88) (e:=0) (n:=0) h2917 h2918 (by decide) rfl
     erw [e2921]
     refine .bd fun a2924 h2925 => ?_
     obtain ⟨v2926,H2927,e2928,S2929⟩:=S2922.app (i:=0) (d:=90) (e:=1) (own:=true) (σ:=(9::0::1::1::1::1::1::1::1::1::1::1::0::σ)) rfl (S2922.sl (i:=1) rfl).y h2925 rfl (by decide) (by decide) rfl
     refine .op (e2928) ?_
     obtain ⟨c2935,cs2936,H2930,e2931,h2933,h2934,S2932⟩:=S2929.expOwn (i:=0) (τ:=0::1::σ) rfl rfl rfl
     exact .fin (S2932.finE (Ex.st e2931 Ex.nil)) ⟨c2935,cs2936,h2933,h2934,rfl⟩
    refine .fa ?_
    refine .op ((S2884.atG (i:=0) rfl).ld (j:=0) rfl) ?_
    refine .ci ?_
    have h2937:=SlF.int1 .u8 (IntKind.wrap .u8 yg59.Kind)
    refine .op (bldS (pC rfl pN) (by kernel_rfl : _ = some (vOf h2937))) ?_
    refine .op ((S2884.sl (i:=0) rfl).len) ?_
    refine .ci ?_
    refine .call (zr1_Put_ok k ([(IntKind.wrap .u8 yg59.Kind)]) (h2937.h H2882) (IntKind.wrap .u64 ((r2870.length : Int))) 2) fun r2938 cs2939 H2940 h2941 q2942 => ?_
    obtain ⟨c2943,cs2944,h2945,h2946,q2942⟩:=q2942
    cases q2942
    obtain ⟨v2947,H2948,e2949,S2950⟩:=S2884.land (dt:=(dI .u8)) (d:=88) (e:=0) (n:=0) h2945 h2946 (by decide) rfl
    erw [e2949]
    refine .bd fun a2952 h2953 => ?_
    obtain ⟨v2954,H2955,e2956,S2957⟩:=S2950.app (i:=0) (d:=90) (e:=1) (own:=true) (σ:=(9::0::1::1::1::1::1::1::1::1::1::1::0::σ)) rfl (S2950.sl (i:=1) rfl).y h2953 rfl (by decide) (by decide) rfl
    refine .op (e2956) ?_
    obtain ⟨c2963,cs2964,H2958,e2959,h2961,h2962,S2960⟩:=S2957.expOwn (i:=0) (τ:=0::1::σ) rfl rfl rfl
    exact .fin (S2960.finE (Ex.st e2959 Ex.nil)) ⟨c2963,cs2964,h2961,h2962,rfl⟩
   refine .call (zr8_in_ok k r1783_4 101) fun r2965 cs2966 H2967 h2968 q2969 => ?_
   cases q2969
   refine .ab ?_
   refine .cq ?_ ?_
   ·refine .fa ?_
    refine .op ((S2657.atG (i:=0) rfl).ld (j:=7) rfl) ?_
    refine .ci ?_
    have h2971:=SlF.int1 .u8 (IntKind.wrap .u8 yg59.Code)
    refine .op (bldS (pC rfl pN) (by kernel_rfl : _ = some (vOf h2971))) ?_
    refine .call (zr8_field_ok r2643 (S2657.ownA (i:=0) rfl) 7 ([(IntKind.wrap .u8 yg59.Code)]) (fun _ _ => h2971.h _)) fun r2972 cs2973 H2974 h2975 q2976 => ?_
    obtain ⟨c2977,cs2978,h2979,h2980,h2981,q2976⟩:=q2976
    obtain rfl : cs2973 = [c2977]:=q2976
    have S2982:=S2657.killA (i:=0) rfl rfl h2981
    obtain ⟨v2983,H2984,e2985,S2986⟩:=S2982.land (dt:=(dI .u8)) (d:=80) (e:=0) (n:=0) h2979 h2980 (by decide) rfl
    erw [e2985]
    refine .fa ?_
    refine .op ((S2986.atG (i:=0) rfl).ld (j:=0) rfl) ?_
    refine .ci ?_
    have h2988:=SlF.int1 .u8 (IntKind.wrap .u8 yg59.Kind)
    refine .op (bldS (pC rfl pN) (by kernel_rfl : _ = some (vOf h2988))) ?_
    refine .op ((S2986.sl (i:=0) rfl).len) ?_
    refine .ci ?_
    refine .call (zr1_Put_ok k ([(IntKind.wrap .u8 yg59.Kind)]) (h2988.h H2984) (IntKind.wrap .u64 ((r2972.length : Int))) 2) fun r2989 cs2990 H2991 h2992 q2993 => ?_
    obtain ⟨c2994,cs2995,h2996,h2997,q2993⟩:=q2993
    cases q2993
    obtain ⟨v2998,H2999,e3000,S3001⟩:=S2986.land (dt:=(dI .u8)) (d:=88) (e:=0) (n:=0) h2996 h2997 (by decide) rfl
    erw [e3000]
    refine .bd fun a3003 h3004 => ?_
    obtain ⟨v3005,H3006,e3007,S3008⟩:=S3001.app (i:=0) (d:=90) (e:=1) (own:=true) (σ:=(9::0::1::1::1::1::1::1::1::1::1::1::0::σ)) rfl (S3001.sl (i:=1) rfl).y h3004 rfl (by decide) (by decide) rfl
    refine .op (e3007) ?_
    obtain ⟨c3014,cs3015,H3009,e3010,h3012,h3013,S3011⟩:=S3008.expOwn (i:=0) (τ:=0::1::σ) rfl rfl rfl
    exact .fin (S3011.finE (Ex.st e3010 Ex.nil)) ⟨c3014,cs3015,h3012,h3013,rfl⟩
   refine .fa ?_
   refine .op ((S2657.atG (i:=0) rfl).ld (j:=0) rfl) ?_
   refine .ci ?_
   have h3016:=SlF.int1 .u8 (IntKind.wrap .u8 yg59.Kind)
   refine .op (bldS (pC rfl pN) (by kernel_rfl : _ = some (vOf h3016))) ?_
   refine .op ((S2657.sl (i:=0) rfl).len) ?_
   refine .ci ?_
   refine .call (zr1_Put_ok k ([(IntKind.wrap .u8 yg59.Kind)]) (h3016.h H2655) (IntKind.wrap .u64 ((r2643.length : Int))) 2) fun r3017 cs3018 H3019 h3020 q3021 => ?_
   obtain ⟨c3022,cs3023,h3024,h3025,q3021⟩:=q3021
   cases q3021
   obtain ⟨v3026,H3027,e3028,S3029⟩:=S2657.land (dt:=(dI .u8)) (d:=88) (e:=0) (n:=0) h3024 h3025 (by decide) rfl
   erw [e3028]
   refine .bd fun a3031 h3032 => ?_
   obtain ⟨v3033,H3034,e3035,S3036⟩:=S3029.app (i:=0) (d:=90) (e:=1) (own:=true) (σ:=(9::0::1::1::1::1::1::1::1::1::1::1::0::σ)) rfl (S3029.sl (i:=1) rfl).y h3032 rfl (by decide) (by decide) rfl
   refine .op (e3035) ?_
   obtain ⟨c3042,cs3043,H3037,e3038,h3040,h3041,S3039⟩:=S3036.expOwn (i:=0) (τ:=0::1::σ) rfl rfl rfl
   exact .fin (S3039.finE (Ex.st e3038 Ex.nil)) ⟨c3042,cs3043,h3040,h3041,rfl⟩
  refine .call (zr8_in_ok k r1783_4 107) fun r3044 cs3045 H3046 h3047 q3048 => ?_
  cases q3048
  refine .ab ?_
  refine .cq ?_ ?_
  ·refine .fa ?_
   refine .op ((S1785.atG (i:=0) rfl).ld (j:=5) rfl) ?_
   refine .ci ?_
   have h3050:=SlF.int1 .u8 (IntKind.wrap .u8 yg59.Class)
   refine .op (bldS (pC rfl pN) (by kernel_rfl : _ = some (vOf h3050))) ?_
   refine .call (zr8_field_ok r1783_3 (S1785.ownA (i:=0) rfl) 5 ([(IntKind.wrap .u8 yg59.Class)]) (fun _ _ => h3050.h _)) fun r3051 cs3052 H3053 h3054 q3055 => ?_
   obtain ⟨c3056,cs3057,h3058,h3059,h3060,q3055⟩:=q3055
   obtain rfl : cs3052 = [c3056]:=q3055
   have S3061:=S1785.killA (i:=0) rfl rfl h3060
   obtain ⟨v3062,H3063,e3064,S3065⟩:=S3061.land (dt:=(dI .u8)) (d:=64) (e:=0) (n:=0) h3058 h3059 (by decide) rfl
   erw [e3064]
   refine .call (zr8_in_ok k r1783_4 121) fun r3067 cs3068 H3069 h3070 q3071 => ?_
   cases q3071
   refine .ab ?_
   refine .cq ?_ ?_
   ·refine .fa ?_
    refine .op ((S3065.atG (i:=0) rfl).ld (j:=6) rfl) ?_
    refine .ci ?_
    have h3073:=SlF.int1 .u8 (IntKind.wrap .u8 yg59.Layer)
    refine .op (bldS (pC rfl pN) (by kernel_rfl : _ = some (vOf h3073))) ?_
    refine .call (zr8_field_ok r3051 (S3065.ownA (i:=0) rfl) 6 ([(IntKind.wrap .u8 yg59.Layer)]) (fun _ _ => h3073.h _)) fun r3074 cs3075 H3076 h3077 q3078 => ?_
    obtain ⟨c3079,cs3080,h3081,h3082,h3083,q3078⟩:=q3078
    obtain rfl : cs3075 = [c3079]:=q3078
    have S3084:=S3065.killA (i:=0) rfl rfl h3083
    obtain ⟨v3085,H3086,e3087,S3088⟩:=S3084.land (dt:=(dI .u8)) (d:=72) (e:=0) (n:=0) h3081 h3082 (by decide) rfl
    erw [e3087]
    refine .call (zr8_in_ok k r1783_4 101) fun r3090 cs3091 H3092 h3093 q3094 => ?_
    cases q3094
    refine .ab ?_
    refine .cq ?_ ?_
    ·refine .fa ?_
     refine .op ((S3088.atG (i:=0) rfl).ld (j:=7) rfl) ?_
     refine .ci ?_
     have h3096:=SlF.int1 .u8 (IntKind.wrap .u8 yg59.Code)
     refine .op (bldS (pC rfl pN) (by kernel_rfl : _ = some (vOf h3096))) ?_
     refine .call (zr8_field_ok r3074 (S3088.ownA (i:=0) rfl) 7 ([(IntKind.wrap .u8 yg59.Code)]) (fun _ _ => h3096.h _)) fun r3097 cs3098 H3099 h3100 q3101 => ?_
     obtain ⟨c3102,cs3103,h3104,h3105,h3106,q3101⟩:=q3101
     obtain rfl : cs3098 = [c3102]:=q3101
     have S3107:=S3088.killA (i:=0) rfl rfl h3106
     obtain ⟨v3108,H3109,e3110,S3111⟩:=S3107.land (dt:=(dI .u8)) (d:=80) (e:=0) (n:=0) h3104 h3105 (by decide) rfl
     erw [e3110]
     refine .fa ?_
     refine .op ((S3111.atG (i:=0) rfl).ld (j:=0) rfl) ?_
     refine .ci ?_
     have h3113:=SlF.int1 .u8 (IntKind.wrap .u8 yg59.Kind)
     refine .op (bldS (pC rfl pN) (by kernel_rfl : _ = some (vOf h3113))) ?_
     refine .op ((S3111.sl (i:=0) rfl).len) ?_
     refine .ci ?_
     refine .call (zr1_Put_ok k ([(IntKind.wrap .u8 yg59.Kind)]) (h3113.h H3109) (IntKind.wrap .u64 ((r3097.length : Int))) 2) fun r3114 cs3115 H3116 h3117 q3118 => ?_
     obtain ⟨c3119,cs3120,h3121,h3122,q3118⟩:=q3118
     cases q3118
     obtain ⟨v3123,H3124,e3125,S3126⟩:=S3111.land (dt:=(dI .u8)) (d:=88) (e:=0) (n:=0) h3121 h3122 (by decide) rfl
     erw [e3125]
     refine .bd fun a3128 h3129 => ?_
     obtain ⟨v3130,H3131,e3132,S3133⟩:=S3126.app (i:=0) (d:=90) (e:=1) (own:=true) (σ:=(9::0::1::1::1::1::1::1::1::1::1::1::0::σ)) rfl (S3126.sl (i:=1) rfl).y h3129 rfl (by decide) (by decide) rfl
     refine .op (e3132) ?_
     obtain ⟨c3139,cs3140,H3134,e3135,h3137,h3138,S3136⟩:=S3133.expOwn (i:=0) (τ:=0::1::σ) rfl rfl rfl
     exact .fin (S3136.finE (Ex.st e3135 Ex.nil)) ⟨c3139,cs3140,h3137,h3138,rfl⟩
    refine .fa ?_
    refine .op ((S3088.atG (i:=0) rfl).ld (j:=0) rfl) ?_
    refine .ci ?_
    have h3141:=SlF.int1 .u8 (IntKind.wrap .u8 yg59.Kind)
    refine .op (bldS (pC rfl pN) (by kernel_rfl : _ = some (vOf h3141))) ?_
    refine .op ((S3088.sl (i:=0) rfl).len) ?_
    refine .ci ?_
    refine .call (zr1_Put_ok k ([(IntKind.wrap .u8 yg59.Kind)]) (h3141.h H3086) (IntKind.wrap .u64 ((r3074.length : Int))) 2) fun r3142 cs3143 H3144 h3145 q3146 => ?_
    obtain ⟨c3147,cs3148,h3149,h3150,q3146⟩:=q3146
    cases q3146
    obtain ⟨v3151,H3152,e3153,S3154⟩:=S3088.land (dt:=(dI .u8)) (d:=88) (e:=0) (n:=0) h3149 h3150 (by decide) rfl
    erw [e3153]
    refine .bd fun a3156 h3157 => ?_
    obtain ⟨v3158,H3159,e3160,S3161⟩:=S3154.app (i:=0) (d:=90) (e:=1) (own:=true) (σ:=(9::0::1::1::1::1::1::1::1::1::1::1::0::σ)) rfl (S3154.sl (i:=1) rfl).y h3157 rfl (by decide) (by decide) rfl
    refine .op (e3160) ?_
    obtain ⟨c3167,cs3168,H3162,e3163,h3165,h3166,S3164⟩:=S3161.expOwn (i:=0) (τ:=0::1::σ) rfl rfl rfl
    exact .fin (S3164.finE (Ex.st e3163 Ex.nil)) ⟨c3167,cs3168,h3165,h3166,rfl⟩
   refine .call (zr8_in_ok k r1783_4 101) fun r3169 cs3170 H3171 h3172 q3173 => ?_
   cases q3173
   refine .ab ?_
   refine .cq ?_ ?_
   ·refine .fa ?_
    refine .op ((S3065.atG (i:=0) rfl).ld (j:=7) rfl) ?_
    refine .ci ?_
    have h3175:=SlF.int1 .u8 (IntKind.wrap .u8 yg59.Code)
    refine .op (bldS (pC rfl pN) (by kernel_rfl : _ = some (vOf h3175))) ?_
    refine .call (zr8_field_ok r3051 (S3065.ownA (i:=0) rfl) 7 ([(IntKind.wrap .u8 yg59.Code)]) (fun _ _ => h3175.h _)) fun r3176 cs3177 H3178 h3179 q3180 => ?_
    obtain ⟨c3181,cs3182,h3183,h3184,h3185,q3180⟩:=q3180
    obtain rfl : cs3177 = [c3181]:=q3180
    have S3186:=S3065.killA (i:=0) rfl rfl h3185
    obtain ⟨v3187,H3188,e3189,S3190⟩:=S3186.land (dt:=(dI .u8)) (d:=80) (e:=0) (n:=0) h3183 h3184 (by decide) rfl
    erw [e3189]
    refine .fa ?_
    refine .op ((S3190.atG (i:=0) rfl).ld (j:=0) rfl) ?_
    refine .ci ?_
    have h3192:=SlF.int1 .u8 (IntKind.wrap .u8 yg59.Kind)
    refine .op (bldS (pC rfl pN) (by kernel_rfl : _ = some (vOf h3192))) ?_
    refine .op ((S3190.sl (i:=0) rfl).len) ?_
    refine .ci ?_
    refine .call (zr1_Put_ok k ([(IntKind.wrap .u8 yg59.Kind)]) (h3192.h H3188) (IntKind.wrap .u64 ((r3176.length : Int))) 2) fun r3193 cs3194 H3195 h3196 q3197 => ?_
    obtain ⟨c3198,cs3199,h3200,h3201,q3197⟩:=q3197
    cases q3197
    obtain ⟨v3202,H3203,e3204,S3205⟩:=S3190.land (dt:=(dI .u8)) (d:=88) (e:=0) (n:=0) h3200 h3201 (by decide) rfl
    erw [e3204]
    refine .bd fun a3207 h3208 => ?_
    obtain ⟨v3209,H3210,e3211,S3212⟩:=S3205.app (i:=0) (d:=90) (e:=1) (own:=true) (σ:=(9::0::1::1::1::1::1::1::1::1::1::1::0::σ)) rfl (S3205.sl (i:=1) rfl).y h3208 rfl (by decide) (by decide) rfl
    refine .op (e3211) ?_
    obtain ⟨c3218,cs3219,H3213,e3214,h3216,h3217,S3215⟩:=S3212.expOwn (i:=0) (τ:=0::1::σ) rfl rfl rfl
    exact .fin (S3215.finE (Ex.st e3214 Ex.nil)) ⟨c3218,cs3219,h3216,h3217,rfl⟩
   refine .fa ?_
   refine .op ((S3065.atG (i:=0) rfl).ld (j:=0) rfl) ?_
   refine .ci ?_
   have h3220:=SlF.int1 .u8 (IntKind.wrap .u8 yg59.Kind)
   refine .op (bldS (pC rfl pN) (by kernel_rfl : _ = some (vOf h3220))) ?_
   refine .op ((S3065.sl (i:=0) rfl).len) ?_
   refine .ci ?_
   refine .call (zr1_Put_ok k ([(IntKind.wrap .u8 yg59.Kind)]) (h3220.h H3063) (IntKind.wrap .u64 ((r3051.length : Int))) 2) fun r3221 cs3222 H3223 h3224 q3225 => ?_
   obtain ⟨c3226,cs3227,h3228,h3229,q3225⟩:=q3225
   cases q3225
   obtain ⟨v3230,H3231,e3232,S3233⟩:=S3065.land (dt:=(dI .u8)) (d:=88) (e:=0) (n:=0) h3228 h3229 (by decide) rfl
   erw [e3232]
   refine .bd fun a3235 h3236 => ?_
   obtain ⟨v3237,H3238,e3239,S3240⟩:=S3233.app (i:=0) (d:=90) (e:=1) (own:=true) (σ:=(9::0::1::1::1::1::1::1::1::1::1::1::0::σ)) rfl (S3233.sl (i:=1) rfl).y h3236 rfl (by decide) (by decide) rfl
   refine .op (e3239) ?_
   obtain ⟨c3246,cs3247,H3241,e3242,h3244,h3245,S3243⟩:=S3240.expOwn (i:=0) (τ:=0::1::σ) rfl rfl rfl
   exact .fin (S3243.finE (Ex.st e3242 Ex.nil)) ⟨c3246,cs3247,h3244,h3245,rfl⟩
  refine .call (zr8_in_ok k r1783_4 121) fun r3248 cs3249 H3250 h3251 q3252 => ?_
  cases q3252
  refine .ab ?_
  refine .cq ?_ ?_
  ·refine .fa ?_
   refine .op ((S1785.atG (i:=0) rfl).ld (j:=6) rfl) ?_
   refine .ci ?_
   have h3254:=SlF.int1 .u8 (IntKind.wrap .u8 yg59.Layer)
   refine .op (bldS (pC rfl pN) (by kernel_rfl : _ = some (vOf h3254))) ?_
   refine .call (zr8_field_ok r1783_3 (S1785.ownA (i:=0) rfl) 6 ([(IntKind.wrap .u8 yg59.Layer)]) (fun _ _ => h3254.h _)) fun r3255 cs3256 H3257 h3258 q3259 => ?_
   obtain ⟨c3260,cs3261,h3262,h3263,h3264,q3259⟩:=q3259
   obtain rfl : cs3256 = [c3260]:=q3259
   have S3265:=S1785.killA (i:=0) rfl rfl h3264
   obtain ⟨v3266,H3267,e3268,S3269⟩:=S3265.land (dt:=(dI .u8)) (d:=72) (e:=0) (n:=0) h3262 h3263 (by decide) rfl
   erw [e3268]
   refine .call (zr8_in_ok k r1783_4 101) fun r3271 cs3272 H3273 h3274 q3275 => ?_
   cases q3275
   refine .ab ?_
   refine .cq ?_ ?_
   ·refine .fa ?_
    refine .op ((S3269.atG (i:=0) rfl).ld (j:=7) rfl) ?_
    refine .ci ?_
    have h3277:=SlF.int1 .u8 (IntKind.wrap .u8 yg59.Code)
    refine .op (bldS (pC rfl pN) (by kernel_rfl : _ = some (vOf h3277))) ?_
    refine .call (zr8_field_ok r3255 (S3269.ownA (i:=0) rfl) 7 ([(IntKind.wrap .u8 yg59.Code)]) (fun _ _ => h3277.h _)) fun r3278 cs3279 H3280 h3281 q3282 => ?_
    obtain ⟨c3283,cs3284,h3285,h3286,h3287,q3282⟩:=q3282
    obtain rfl : cs3279 = [c3283]:=q3282
    have S3288:=S3269.killA (i:=0) rfl rfl h3287
    obtain ⟨v3289,H3290,e3291,S3292⟩:=S3288.land (dt:=(dI .u8)) (d:=80) (e:=0) (n:=0) h3285 h3286 (by decide) rfl
    erw [e3291]
    refine .fa ?_
    refine .op ((S3292.atG (i:=0) rfl).ld (j:=0) rfl) ?_
    refine .ci ?_
    have h3294:=SlF.int1 .u8 (IntKind.wrap .u8 yg59.Kind)
    refine .op (bldS (pC rfl pN) (by kernel_rfl : _ = some (vOf h3294))) ?_
    refine .op ((S3292.sl (i:=0) rfl).len) ?_
    refine .ci ?_
    refine .call (zr1_Put_ok k ([(IntKind.wrap .u8 yg59.Kind)]) (h3294.h H3290) (IntKind.wrap .u64 ((r3278.length : Int))) 2) fun r3295 cs3296 H3297 h3298 q3299 => ?_
    obtain ⟨c3300,cs3301,h3302,h3303,q3299⟩:=q3299
    cases q3299
    obtain ⟨v3304,H3305,e3306,S3307⟩:=S3292.land (dt:=(dI .u8)) (d:=88) (e:=0) (n:=0) h3302 h3303 (by decide) rfl
    erw [e3306]
    refine .bd fun a3309 h3310 => ?_
    obtain ⟨v3311,H3312,e3313,S3314⟩:=S3307.app (i:=0) (d:=90) (e:=1) (own:=true) (σ:=(9::0::1::1::1::1::1::1::1::1::1::1::0::σ)) rfl (S3307.sl (i:=1) rfl).y h3310 rfl (by decide) (by decide) rfl
    refine .op (e3313) ?_
    obtain ⟨c3320,cs3321,H3315,e3316,h3318,h3319,S3317⟩:=S3314.expOwn (i:=0) (τ:=0::1::σ) rfl rfl rfl
    exact .fin (S3317.finE (Ex.st e3316 Ex.nil)) ⟨c3320,cs3321,h3318,h3319,rfl⟩
   refine .fa ?_
   refine .op ((S3269.atG (i:=0) rfl).ld (j:=0) rfl) ?_
   refine .ci ?_
   have h3322:=SlF.int1 .u8 (IntKind.wrap .u8 yg59.Kind)
   refine .op (bldS (pC rfl pN) (by kernel_rfl : _ = some (vOf h3322))) ?_
   refine .op ((S3269.sl (i:=0) rfl).len) ?_
   refine .ci ?_
   refine .call (zr1_Put_ok k ([(IntKind.wrap .u8 yg59.Kind)]) (h3322.h H3267) (IntKind.wrap .u64 ((r3255.length : Int))) 2) fun r3323 cs3324 H3325 h3326 q3327 => ?_
   obtain ⟨c3328,cs3329,h3330,h3331,q3327⟩:=q3327
   cases q3327
   obtain ⟨v3332,H3333,e3334,S3335⟩:=S3269.land (dt:=(dI .u8)) (d:=88) (e:=0) (n:=0) h3330 h3331 (by decide) rfl
   erw [e3334]
   refine .bd fun a3337 h3338 => ?_
   obtain ⟨v3339,H3340,e3341,S3342⟩:=S3335.app (i:=0) (d:=90) (e:=1) (own:=true) (σ:=(9::0::1::1::1::1::1::1::1::1::1::1::0::σ)) rfl (S3335.sl (i:=1) rfl).y h3338 rfl (by decide) (by decide) rfl
   refine .op (e3341) ?_
   obtain ⟨c3348,cs3349,H3343,e3344,h3346,h3347,S3345⟩:=S3342.expOwn (i:=0) (τ:=0::1::σ) rfl rfl rfl
   exact .fin (S3345.finE (Ex.st e3344 Ex.nil)) ⟨c3348,cs3349,h3346,h3347,rfl⟩
  refine .call (zr8_in_ok k r1783_4 101) fun r3350 cs3351 H3352 h3353 q3354 => ?_
  cases q3354
  refine .ab ?_
  refine .cq ?_ ?_
  ·refine .fa ?_
   refine .op ((S1785.atG (i:=0) rfl).ld (j:=7) rfl) ?_
   refine .ci ?_
   have h3356:=SlF.int1 .u8 (IntKind.wrap .u8 yg59.Code)
   refine .op (bldS (pC rfl pN) (by kernel_rfl : _ = some (vOf h3356))) ?_
   refine .call (zr8_field_ok r1783_3 (S1785.ownA (i:=0) rfl) 7 ([(IntKind.wrap .u8 yg59.Code)]) (fun _ _ => h3356.h _)) fun r3357 cs3358 H3359 h3360 q3361 => ?_
   obtain ⟨c3362,cs3363,h3364,h3365,h3366,q3361⟩:=q3361
   obtain rfl : cs3358 = [c3362]:=q3361
   have S3367:=S1785.killA (i:=0) rfl rfl h3366
   obtain ⟨v3368,H3369,e3370,S3371⟩:=S3367.land (dt:=(dI .u8)) (d:=80) (e:=0) (n:=0) h3364 h3365 (by decide) rfl
   erw [e3370]
   refine .fa ?_
   refine .op ((S3371.atG (i:=0) rfl).ld (j:=0) rfl) ?_
   refine .ci ?_
   have h3373:=SlF.int1 .u8 (IntKind.wrap .u8 yg59.Kind)
   refine .op (bldS (pC rfl pN) (by kernel_rfl : _ = some (vOf h3373))) ?_
   refine .op ((S3371.sl (i:=0) rfl).len) ?_
   refine .ci ?_
   refine .call (zr1_Put_ok k ([(IntKind.wrap .u8 yg59.Kind)]) (h3373.h H3369) (IntKind.wrap .u64 ((r3357.length : Int))) 2) fun r3374 cs3375 H3376 h3377 q3378 => ?_
   obtain ⟨c3379,cs3380,h3381,h3382,q3378⟩:=q3378
   cases q3378
   obtain ⟨v3383,H3384,e3385,S3386⟩:=S3371.land (dt:=(dI .u8)) (d:=88) (e:=0) (n:=0) h3381 h3382 (by decide) rfl
   erw [e3385]
   refine .bd fun a3388 h3389 => ?_
   obtain ⟨v3390,H3391,e3392,S3393⟩:=S3386.app (i:=0) (d:=90) (e:=1) (own:=true) (σ:=(9::0::1::1::1::1::1::1::1::1::1::1::0::σ)) rfl (S3386.sl (i:=1) rfl).y h3389 rfl (by decide) (by decide) rfl
   refine .op (e3392) ?_
   obtain ⟨c3399,cs3400,H3394,e3395,h3397,h3398,S3396⟩:=S3393.expOwn (i:=0) (τ:=0::1::σ) rfl rfl rfl
   exact .fin (S3396.finE (Ex.st e3395 Ex.nil)) ⟨c3399,cs3400,h3397,h3398,rfl⟩
  refine .fa ?_
  refine .op ((S1785.atG (i:=0) rfl).ld (j:=0) rfl) ?_
  refine .ci ?_
  have h3401:=SlF.int1 .u8 (IntKind.wrap .u8 yg59.Kind)
  refine .op (bldS (pC rfl pN) (by kernel_rfl : _ = some (vOf h3401))) ?_
  refine .op ((S1785.sl (i:=0) rfl).len) ?_
  refine .ci ?_
  refine .call (zr1_Put_ok k ([(IntKind.wrap .u8 yg59.Kind)]) (h3401.h H1784) (IntKind.wrap .u64 ((r1783_3.length : Int))) 2) fun r3402 cs3403 H3404 h3405 q3406 => ?_
  obtain ⟨c3407,cs3408,h3409,h3410,q3406⟩:=q3406
  cases q3406
  obtain ⟨v3411,H3412,e3413,S3414⟩:=S1785.land (dt:=(dI .u8)) (d:=88) (e:=0) (n:=0) h3409 h3410 (by decide) rfl
  erw [e3413]
  refine .bd fun a3416 h3417 => ?_
  obtain ⟨v3418,H3419,e3420,S3421⟩:=S3414.app (i:=0) (d:=90) (e:=1) (own:=true) (σ:=(9::0::1::1::1::1::1::1::1::1::1::1::0::σ)) rfl (S3414.sl (i:=1) rfl).y h3417 rfl (by decide) (by decide) rfl
  refine .op (e3420) ?_
  obtain ⟨c3427,cs3428,H3422,e3423,h3425,h3426,S3424⟩:=S3421.expOwn (i:=0) (τ:=0::1::σ) rfl rfl rfl
  exact .fin (S3424.finE (Ex.st e3423 Ex.nil)) ⟨c3427,cs3428,h3425,h3426,rfl⟩
def p_zr8_Bytes (k : Nat) (x0 : TaiCtl) : Option ((List Int) × Int) :=
(p_zr8_Right k x0).bind fun r7 =>
bif r7 != 0 then (
some ((([] : List Int)),r7))
else (
(p_zr8_write k x0).bind fun r13 =>
some (r13,0))
theorem zr8_Bytes_ok (k : Nat) {h : H} {σ : Stamp} (x0 : TaiCtl) {u0 : List V} (hu0 : dTaiCtl.R x0 u0) : Sim (p_zr8_Bytes k x0) (ev G X0 35 σ [(.agg u0)] h) (fun r s => ∃ (c0 : C),∃ (a0 : List V),OwnS c0 (dI .u8).sz r.1.length a0∧(dI .u8).L r.1 a0∧s = ([c0,.v (.p (.int .i64 r.2))],h)):=by
 refine .ev rfl (Sim.ext (zr8_Bytes_entry _ _ _ _ _) ?_)
 rw [p_zr8_Bytes]
 obtain ⟨v1,rfl,h2⟩:=dTaiCtl.inv hu0
 have S0 : Fm 12 h [] [] [] (List.replicate 12 []::h):=Fm.start0
 obtain ⟨H3,e4,S5⟩:=S0.box (own:=false) (d:=1) (s:=(0::0::0::σ)) (xs:=[(.p (.int .i64 x0.Kind)),(.p (.int .i64 x0.Cap)),v1,(.p (.int .i64 x0.Peer)),(.p (.int .i64 x0.Height)),(.p (.int .i64 x0.Class)),(.p (.int .i64 x0.Layer)),(.p (.int .i64 x0.Code))]) (sC (sI _ _) (sC (sI _ _) (sC h2.still (sC (sI _ _) (sC (sI _ _) (sC (sI _ _) (sC (sI _ _) (sC (sI _ _) sN)))))))) (by decide) rfl
 refine .op (e4) ?_
 refine .op ((S5.atG (i:=0) rfl).ldVs (j:=0) (xs:=[(.p (.int .i64 x0.Kind)),(.p (.int .i64 x0.Cap)),v1,(.p (.int .i64 x0.Peer)),(.p (.int .i64 x0.Height)),(.p (.int .i64 x0.Class)),(.p (.int .i64 x0.Layer)),(.p (.int .i64 x0.Code))]) rfl rfl (by decide)) ?_
 refine .call (zr8_Right_ok k x0 hu0) fun r7 cs8 H9 h10 q11 => ?_
 cases q11
 refine .ci ?_
 refine .cq ?_ ?_
 ·exact .fin (S5.finN (lC (SlF.nil (dI .u8)).still.lv (lC (sI _ _).lv lN))) ⟨(.v (.p (.slice none 0 0))),[],⟨by simp,.inl ⟨rfl,rfl,.inl rfl⟩⟩,rfl,rfl⟩
 refine .op ((S5.atG (i:=0) rfl).ldVs (j:=0) (xs:=[(.p (.int .i64 x0.Kind)),(.p (.int .i64 x0.Cap)),v1,(.p (.int .i64 x0.Peer)),(.p (.int .i64 x0.Height)),(.p (.int .i64 x0.Class)),(.p (.int .i64 x0.Layer)),(.p (.int .i64 x0.Code))]) rfl rfl (by decide)) ?_
 refine .call (zr8_write_ok k x0 hu0) fun r13 cs14 H15 h16 q17 => ?_
 obtain ⟨c18,cs19,h20,h21,q17⟩:=q17
 cases q17
 obtain ⟨v22,H23,e24,S25⟩:=S5.land (dt:=(dI .u8)) (d:=11) (e:=0) (n:=0) h20 h21 (by decide) rfl
 erw [e24]
 obtain ⟨c32,cs33,H27,e28,h30,h31,S29⟩:=S25.expOwn (i:=0) (τ:=0::1::σ) rfl rfl rfl
 exact .fin (S29.finE (Ex.st e28 (Ex.pl (sI _ _).lv Ex.nil))) ⟨c32,cs33,h30,h31,rfl⟩
end
end Go.Ev
namespace Go.Ev
set_option maxRecDepth 100000
set_option linter.unusedSimpArgs false
theorem in8 {K : Int} (hK : 1 ≤ K∧K ≤ 10) (k : Nat) : ∃ s,p_zr8_has K = some s∧p_zr8_in (k + 5) s 99 = some (hasB K 1)∧p_zr8_in (k + 5) s 108 = some (hasB K 2)∧p_zr8_in (k + 5) s 112 = some (hasB K 3)∧p_zr8_in (k + 5) s 104 = some (hasB K 4)∧p_zr8_in (k + 5) s 107 = some (hasB K 5)∧p_zr8_in (k + 5) s 121 = some (hasB K 6)∧p_zr8_in (k + 5) s 101 = some (hasB K 7):=by
 have hr : K = 1 ∨ K = 2 ∨ K = 3 ∨ K = 4 ∨ K = 5 ∨ K = 6 ∨ K = 7 ∨ K = 8 ∨ K = 9 ∨ K = 10:=by omega
 rcases hr with rfl | rfl | rfl | rfl | rfl | rfl | rfl | rfl | rfl | rfl <;> exact ⟨_,rfl,rfl,rfl,rfl,rfl,rfl,rfl,rfl⟩
theorem r8_l1 {β : Type} (kE0 : List TaiLayer→List TaiLayer→Int→Int→Option β) (kE1 : Int→Option β) (l x14 : List TaiLayer) (x15 x16 : Int) (a : TaiLayer) (ha : a.Rid.size < 2 ^ 40) (hl : l.length < 100) (hs : ∀ b ∈ l,b.Rid.size < 2 ^ 40) : ∀ (rest pre suf : List TaiLayer) (j : Nat),l = pre ++ (rest ++ suf)→(rest.any fun b => sameL b a) = false →
  p_zr8_Layers_l1 (j + rest.length + 1) kE0 kE1 l ((pre.length + rest.length : Nat) : Int) (pre.length : Int) x14 x15 x16 a = kE0 l x14 x15 x16
 | [],pre,suf,j,h,_ => by
  rw [p_zr8_Layers_l1]
  have h1 : decide ((pre.length : Int) < ((pre.length + ([] : List TaiLayer).length : Nat) : Int)) = false:=by simp
  rw [h1,cond_false]
 | b::rest,pre,suf,j,h,hn => by
  rw [List.any_cons] at hn
  have hn1 : sameL b a = false:=by cases h : sameL b a <;> simp_all
  have hn2 : (rest.any fun b => sameL b a) = false:=by rw [hn1,Bool.false_or] at hn; exact hn
  have hplen : pre.length + 1 ≤ l.length:=by rw [h]; simp only [List.length_append,List.length_cons]; omega
  rw [List.length_cons,show j + (rest.length + 1) + 1 = (j + rest.length + 1) + 1 from rfl,p_zr8_Layers_l1]
  have h1 : decide ((pre.length : Int) < ((pre.length + (rest.length + 1) : Nat) : Int)) = true:=decide_eq_true (by omega)
  have h2 : ix l (pre.length : Int) = some b:=ix_mid' h rfl
  have h4 : IntKind.wrap .i64 ((pre.length : Int) + 1) = (((pre ++ [b]).length : Nat) : Int):=by rw [wrap_i64 (by omega) (by omega)]; simp
  have hb:=hs b (by rw [h]; simp)
  have h3 : (bif b.Ssrc == a.Ssrc then (some true) else ((some b).bind fun a72 => (p_zr1_Fold a72.Rid).bind fun r80 => (p_zr1_Fold a.Rid).bind fun r85 => some (r80.toList == r85.toList))) = some false:=by
   unfold p_zr1_Fold
   rw [Option.bind_some,if_pos hb,if_pos ha,Option.bind_some,Option.bind_some]
   unfold sameL at hn1
   rw [Bool.or_eq_false_iff] at hn1
   rw [hn1.1,cond_false,hn1.2]
  rw [h1,cond_true,h2,Option.bind_some,h3,Option.bind_some,cond_false,h4]
  have ih:=r8_l1 kE0 kE1 l x14 x15 x16 a ha hl hs rest (pre ++ [b]) suf j (by rw [h]; simp) hn2
  rw [show (pre ++ [b]).length + rest.length = pre.length + (rest.length + 1) by simp; omega] at ih
  exact ih
theorem r8_l0 {β : Type} (kE0 : Unit→Option β) (kE1 : Int→Option β) (l : List TaiLayer) (hl : l.length ≤ 3) (hs : ∀ b ∈ l,b.Rid.size < 2 ^ 40) : ∀ (rest pre : List TaiLayer) (j : Nat),l = pre ++ rest→6 ≤ j→chkL pre rest = true →
  p_zr8_Layers_l0 (j + rest.length + 1) kE0 kE1 l l (l.length : Int) (pre.length : Int) = kE0 ()
 | [],pre,j,h,_,_ => by
  rw [p_zr8_Layers_l0]
  have h1 : decide ((pre.length : Int) < (l.length : Int)) = false:=by subst h; simp
  rw [h1,cond_false]
 | a::rest,pre,j,h,hj,hc => by
  have hplen : pre.length + 1 ≤ l.length:=by rw [h,List.length_append,List.length_cons]; omega
  rw [List.length_cons,show j + (rest.length + 1) + 1 = (j + rest.length + 1) + 1 from rfl,p_zr8_Layers_l0]
  rw [chkL] at hc
  simp only [Bool.and_eq_true,Bool.not_eq_true'] at hc
  obtain ⟨c1,c2,c3⟩:=hc
  unfold okL at c1
  simp only [Bool.and_eq_true,decide_eq_true_eq] at c1
  obtain ⟨o1,o2,o3,o4⟩:=c1
  have h1 : decide ((pre.length : Int) < (l.length : Int)) = true:=decide_eq_true (by omega)
  have h2 : ix l (pre.length : Int) = some a:=ix_mid' h rfl
  have h4 : IntKind.wrap .i64 ((pre.length : Int) + 1) = (((pre ++ [a]).length : Nat) : Int):=by
   rw [wrap_i64 (by omega) (by omega)]
   simp
  have hprev : (bif decide ((pre.length : Int) > 0) then ((ix l (IntKind.wrap .i64 ((pre.length : Int) - 1))).bind fun a36 => some (decide (a.Height ≤ a36.Height))) else (some false)) = some false:=by
   rcases List.eq_nil_or_concat pre with rfl | ⟨q,b,rfl⟩
   ·rfl
   ·rw [List.concat_eq_append] at h hplen o4 ⊢
    have g1 : decide ((((q ++ [b]).length : Nat) : Int) > 0) = true:=decide_eq_true (by rw [List.length_append,List.length_cons]; omega)
    have g2 : IntKind.wrap .i64 ((((q ++ [b]).length : Nat) : Int) - 1) = (q.length : Int):=by
     rw [List.length_append,List.length_cons,List.length_nil] at hplen ⊢
     rw [wrap_i64 (by omega) (by omega)]; omega
    have g3 : ix l (q.length : Int) = some b:=ix_mid' (ys:=a::rest) (by rw [h]; simp) rfl
    rw [List.getLast?_concat] at o4
    have o4' : b.Height < a.Height:=by simpa using o4
    rw [g1,cond_true,g2,g3,Option.bind_some,decide_eq_false (by omega)]
  have e1 : decide (a.Height < 1) = false:=decide_eq_false (by omega)
  have e2 : decide (a.Height > 8192) = false:=decide_eq_false (by omega)
  have hin:=fun kE0 => r8_l1 (β:=β) kE0 (fun r110_2 => kE1 r110_2) l l (l.length : Int) (pre.length : Int) a (hs a (by rw [h]; simp)) (by omega) hs pre [] (a::rest) (j + rest.length - pre.length) h c2
  simp only [List.length_nil,Nat.zero_add,show j + rest.length - pre.length + pre.length + 1 = j + rest.length + 1 by omega] at hin
  rw [show ((0 : Nat) : Int) = 0 from rfl] at hin
  rw [h1,cond_true,h2,Option.bind_some]
  simp only [p_zr1_Rid,Option.bind_some,o1,Bool.not_true,cond_false,e1,e2,hprev]
  rw [hin,h4]
  exact r8_l0 kE0 kE1 l hl hs rest (pre ++ [a]) j (by rw [h]; simp) hj c3
theorem rlayers {l : List TaiLayer} {k : Nat} (hk : 12 ≤ k) (h1 : 1 ≤ l.length) (h3 : l.length ≤ 3) (hs : ∀ b ∈ l,b.Rid.size < 2 ^ 40) (hc : chkL [] l = true) : p_zr8_Layers k l = some 0:=by
 unfold p_zr8_Layers
 have d1 : decide ((l.length : Int) < 1) = false:=decide_eq_false (by omega)
 have d2 : decide ((l.length : Int) > 3) = false:=decide_eq_false (by omega)
 simp only [d1,d2,cond_false,Option.bind_some]
 have:=r8_l0 (fun (_ : Unit) => (some 0 : Option Int)) (fun r => some r) l h3 hs l [] (k - l.length - 1) rfl (by omega) hc
 simp only [show k - l.length - 1 + l.length + 1 = k by omega,List.length_nil] at this
 exact this
theorem rright {c : TaiCtl} (h : TC c) (k : Nat) : p_zr8_Right (k + 20) c = some 0:=by
 obtain ⟨hK,hf,hv,hl,_⟩:=h
 have hf' : ((c.Cap == 0 || hasB c.Kind 1) && (((c.Layers.length : Int) == 0 || hasB c.Kind 2) && ((c.Peer == 0 || hasB c.Kind 3) && ((c.Height == 0 || hasB c.Kind 4) && ((c.Class == 0 || hasB c.Kind 5) && ((c.Layer == 0 || hasB c.Kind 6) && ((c.Code == 0 || hasB c.Kind 7) && true))))))) = true:=hf
 unfold valB at hv
 simp only [Bool.and_eq_true] at hf' hv
 obtain ⟨f1,f2,f3,f4,f5,f6,f7,_⟩:=hf'
 obtain ⟨⟨⟨⟨⟨v1,v3⟩,v4⟩,v5⟩,v6⟩,v7⟩:=hv
 have g : ∀ {n lo hi : Int} {b : Bool},(n == 0 || b) = true→(!b || decide (n ≥ lo) && decide (n ≤ hi)) = true→(b = true→lo ≤ n∧n ≤ hi)∧(b = false→n = 0):=fun {n lo hi b} q1 q2 => by
  cases b <;> simp at q1 q2 <;> simp [q1,q2]
 have z : ∀ {n : Int} {b : Bool},(n == 0 || b) = true→(bif !b then some (n != 0) else some false) = some false:=fun {n b} q => by
  cases b with
  | true => rfl
  | false =>
   rw [Bool.or_false] at q
   have : n = 0:=by simpa using q
   subst this; rfl
 have r : ∀ {n lo hi : Int} {b : Bool},(n == 0 || b) = true→(!b || decide (n ≥ lo) && decide (n ≤ hi)) = true→lo ≤ 0→0 ≤ hi→lo ≤ n∧n ≤ hi:=fun {n lo hi b} q1 q2 h1 h2 => by
  cases b <;> simp at q1 q2 <;> omega
 have zl : (bif !(hasB c.Kind 2) then some (decide ((c.Layers.length : Int) > 0)) else some false) = some false:=by
  cases hb : hasB c.Kind 2 with
  | true => rfl
  | false =>
   rw [hb,Bool.or_false] at f2
   have : (c.Layers.length : Int) = 0:=by simpa using f2
   rw [this]; rfl
 have q3:=r f3 v3 (by omega) (by omega)
 have q5:=r f5 v5 (by omega) (by omega)
 have q6:=r f6 v6 (by omega) (by omega)
 have q7:=r f7 v7 (by omega) (by omega)
 have q1:=(g f1 v1).1
 have q4:=(g f4 v4).1
 obtain ⟨s,hs,i1,i2,i3,i4,i5,i6,i7⟩:=in8 hK (k + 15)
 have d1 : decide (c.Kind < 1) = false:=decide_eq_false (by omega)
 have d2 : decide (c.Kind > 10) = false:=decide_eq_false (by omega)
 have p1 : decide (c.Peer < 0) = false:=decide_eq_false (by omega)
 have p2 : decide (c.Peer ≥ 6) = false:=decide_eq_false (by omega)
 have p3 : decide (c.Class < 0) = false:=decide_eq_false (by omega)
 have p4 : decide (c.Class > 3) = false:=decide_eq_false (by omega)
 have p5 : decide (c.Layer < 0) = false:=decide_eq_false (by omega)
 have p6 : decide (c.Layer ≥ 3) = false:=decide_eq_false (by omega)
 have p7 : decide (c.Code < 0) = false:=decide_eq_false (by omega)
 have p8 : decide (c.Code > 255) = false:=decide_eq_false (by omega)
 have y1 : (bif hasB c.Kind 1 then ((bif decide (c.Cap < 1) then (some true) else (some (decide (c.Cap > 1099511627776)))).bind fun b110 => some b110) else (some false)) = some false:=by
  cases hb : hasB c.Kind 1 with
  | false => rfl
  | true =>
   have:=q1 hb
   rw [cond_true,decide_eq_false (by omega),cond_false,decide_eq_false (by omega)]; rfl
 have y4 : (bif hasB c.Kind 4 then ((bif decide (c.Height < 1) then (some true) else (some (decide (c.Height > 8192)))).bind fun b131 => some b131) else (some false)) = some false:=by
  cases hb : hasB c.Kind 4 with
  | false => rfl
  | true =>
   have:=q4 hb
   rw [cond_true,decide_eq_false (by omega),cond_false,decide_eq_false (by omega)]; rfl
 unfold p_zr8_Right
 simp only [d1,d2,cond_false,Option.bind_some,hs,i1,i2,i3,i4,i5,i6,i7,z f1,zl,z f3,z f4,z f5,z f6,z f7,p1,p2,p3,p4,p5,p6,p7,p8,y1,y4]
 cases hb : hasB c.Kind 2 with
 | false => rfl
 | true =>
  rcases hl with ⟨_,⟨p,hp,hl⟩,_⟩ | ⟨hn,_⟩
  ·obtain ⟨⟨l1,l3⟩,l4,_⟩:=hl.ok hp
   rw [cond_true,rlayers (by omega) l1 l3 (fun b hb => by have:=(l4 b hb).2.2; omega) (hl.chk hp)]
   rfl
  ·have : (c.Kind == 3) = true:=hb
   exact absurd (by simpa using this) hn
def Gd (n : Nat) (y : List Int) : Prop:=isB y∧y.length ≤ 300 * n
def Res (o : Option (List Int)) : Prop:=∃ y,o = some y∧isB y∧1 ≤ y.length∧y.length < 10000
theorem u8_range (n : Int) : 0 ≤ IntKind.wrap .u8 n∧IntKind.wrap .u8 n < 256:=by
 rw [wrap_u8_mod]; omega
theorem u64_range (n : Int) : 0 ≤ IntKind.wrap .u64 n:=by
 have : IntKind.wrap .u64 n = n % 18446744073709551616:=by simp [IntKind.wrap,IntKind.signed,IntKind.bits]
 omega
theorem isB_app {x y : List Int} (hx : isB x) (hy : isB y) : isB (x ++ y):=fun a ha => by
 rcases List.mem_append.1 ha with ha | ha
 ·exact hx a ha
 ·exact hy a ha
theorem isB_one {n : Int} (h : 0 ≤ n∧n < 256) : isB [n]:=fun a ha => by
 rw [List.mem_singleton] at ha; subst ha; exact h
theorem rput_l0 {β : Type} (kE0 : List Int→Option β) (n : Int) : ∀ (s j : Nat) (out : List Int),s ≤ 8→out.length + s < 2 ^ 20→isB out→∃ o,p_zr1_Put_l0 (j + s + 1) kE0 n out ((s : Int) - 1) = kE0 o∧isB o∧o.length = out.length + s
 | 0,j,out,_,_,h => by
  rw [p_zr1_Put_l0]
  have d : decide (((0 : Nat) : Int) - 1 ≥ 0) = false:=by decide
  rw [d,cond_false]
  exact ⟨out,rfl,h,rfl⟩
 | s + 1,j,out,hs,ho,h => by
  rw [show j + (s + 1) + 1 = (j + s + 1) + 1 from rfl,p_zr1_Put_l0]
  have d : decide (((s + 1 : Nat) : Int) - 1 ≥ 0) = true:=decide_eq_true (by omega)
  have w2 : IntKind.wrap .i64 (((s + 1 : Nat) : Int) - 1 - 1) = (s : Int) - 1:=by rw [wrap_i64 (by omega) (by omega)]; omega
  obtain ⟨v,hsh⟩ : ∃ v,shP .shr .u64 n (IntKind.wrap .u64 (IntKind.wrap .i64 (8 * (((s + 1 : Nat) : Int) - 1)))) = some v:=by
   unfold shP
   rw [if_neg (by have:=u64_range (IntKind.wrap .i64 (8 * (((s + 1 : Nat) : Int) - 1))); omega)]
   exact ⟨_,rfl⟩
  rw [d,cond_true,hsh,Option.bind_some,ap_eq (by decide) (by simp only [List.length_cons,List.length_nil]; omega),Option.bind_some,w2]
  obtain ⟨o,h1,h2,h3⟩:=rput_l0 kE0 n s j (out ++ [IntKind.wrap .u8 v]) (by omega) (by rw [List.length_append,List.length_cons,List.length_nil]; omega) (isB_app h (isB_one (u8_range v)))
  exact ⟨o,h1,h2,by rw [h3,List.length_append,List.length_cons,List.length_nil]; omega⟩
theorem rput {k : Nat} (hk : 10 ≤ k) {b : List Int} (hb : isB b) (hl : b.length < 1000) (n : Int) {s : Nat} (h1 : 1 ≤ s) (h8 : s ≤ 8) : ∃ o,p_zr1_Put k b n (s : Int) = some o∧isB o∧o.length = b.length + s:=by
 unfold p_zr1_Put
 have d1 : decide ((s : Int) < 1) = false:=decide_eq_false (by omega)
 have d2 : decide ((s : Int) > 8) = false:=decide_eq_false (by omega)
 rw [ap_eq (by decide) (by rw [List.length_nil]; omega),Option.bind_some,List.nil_append]
 simp only [d1,d2,cond_false,Option.bind_some]
 rw [wrap_i64 (by omega) (by omega)]
 have:=rput_l0 (fun r => some r) n s (k - s - 1) b h8 (by omega) hb
 rwa [show k - s - 1 + s + 1 = k by omega] at this
theorem w_in {k : Nat} {s : ByteArray} {n : Int} {x y : Option (List Int)} (hb : ∃ b,p_zr8_in k s n = some b) (A : Res x) (B : Res y) : Res ((p_zr8_in k s n).bind fun r => bif r then x else y):=by
 obtain ⟨b,hb⟩:=hb
 rw [hb,Option.bind_some]
 cases b with
 | true => exact A
 | false => exact B
theorem r8field {n : Nat} {y d : List Int} {nm : Int} (hg : Gd n y) (hn : n ≤ 12) (hd : isB d) (hl : d.length ≤ 255) (hm : 0 ≤ nm∧nm < 256) : ∃ z,p_zr8_field y nm d = some z∧Gd (n + 1) z:=by
 obtain ⟨h1,h2⟩:=hg
 unfold p_zr8_field
 rw [ap_eq (by decide) (by simp only [List.length_cons,List.length_nil]; omega),Option.bind_some,ap_eq (by decide) (by rw [List.length_append]; simp only [List.length_cons,List.length_nil]; omega),Option.bind_some]
 refine ⟨_,rfl,isB_app (isB_app h1 fun a ha => ?_) hd,?_⟩
 ·rcases List.mem_cons.1 ha with rfl | ha
  ·exact hm
  ·exact isB_one (u8_range _) a ha
 ·simp only [List.length_append,List.length_cons,List.length_nil]
  omega
theorem w_fd1 {n : Nat} {y : List Int} {nm v : Int} {f : List Int→Option (List Int)} (hg : Gd n y) (hn : n ≤ 12) (hm : 0 ≤ nm∧nm < 256) (hf : ∀ z,Gd (n + 1) z→Res (f z)) : Res ((p_zr8_field y nm [IntKind.wrap .u8 v]).bind f):=by
 obtain ⟨z,e,hz⟩:=r8field hg hn (isB_one (u8_range v)) (by simp) hm
 rw [e,Option.bind_some]
 exact hf z hz
theorem w_fd2 {k n s : Nat} {y : List Int} {nm v : Int} {f : List Int→Option (List Int)} (hg : Gd n y) (hk : 10 ≤ k) (hs : 1 ≤ s∧s ≤ 8) (hn : n ≤ 12) (hm : 0 ≤ nm∧nm < 256) (hf : ∀ z,Gd (n + 1) z→Res (f z)) : Res ((p_zr1_Put k ([] : List Int) v (s : Int)).bind fun d => (p_zr8_field y nm d).bind f):=by
 obtain ⟨d,ed,h1,h2⟩:=rput hk (b:=[]) (fun _ h => by cases h) (by simp) v hs.1 hs.2
 rw [ed,Option.bind_some]
 obtain ⟨z,e,hz⟩:=r8field hg hn h1 (by rw [h2,List.length_nil]; omega) hm
 rw [e,Option.bind_some]
 exact hf z hz
theorem w_end {k n : Nat} {y : List Int} {v w : Int} (hg : Gd n y) (hk : 10 ≤ k) (hn : n ≤ 14) : Res ((p_zr1_Put k [IntKind.wrap .u8 v] w 2).bind fun r => (ap 1 r y).bind fun a => some a):=by
 obtain ⟨h1,h2⟩:=hg
 obtain ⟨d,ed,h3,h4⟩:=rput hk (isB_one (u8_range v)) (by simp) w (s:=2) (by omega) (by omega)
 have ed' : p_zr1_Put k [IntKind.wrap .u8 v] w 2 = some d:=ed
 rw [List.length_cons,List.length_nil] at h4
 rw [ed',Option.bind_some,ap_eq (by decide) (by omega),Option.bind_some]
 refine ⟨_,rfl,isB_app h3 h1,?_,?_⟩ <;> rw [List.length_append] <;> omega
theorem w_lay {k : Nat} (hk : 10 ≤ k) (l : List TaiLayer) (hl : l.length ≤ 3) (hs : ∀ a ∈ l,a.Rid.size ≤ 249) (x4 : ByteArray) (yg : TaiCtl) (kE0 : List Int→ByteArray→TaiCtl→Option (List Int)) (hE : ∀ z,Gd 4 z→Res (kE0 z x4 yg)) : ∀ (rest pre : List TaiLayer) (j n : Nat) (b : List Int),l = pre ++ rest→10 ≤ j→Gd n b→n + rest.length ≤ 4 →
  Res (p_zr8_write_l0 (j + rest.length + 1) kE0 b x4 l (l.length : Int) (pre.length : Int) yg)
 | [],pre,j,n,b,h,hj,hb,hn => by
  rw [p_zr8_write_l0]
  have h1 : decide ((pre.length : Int) < (l.length : Int)) = false:=by subst h; simp
  rw [h1,cond_false]
  refine hE b ⟨hb.1,by have:=hb.2; rw [List.length_nil] at hn; omega⟩
 | a::rest,pre,j,n,b,h,hj,hb,hn => by
  have hplen : pre.length + 1 ≤ l.length:=by rw [h,List.length_append,List.length_cons]; omega
  rw [List.length_cons] at hn
  rw [List.length_cons,show j + (rest.length + 1) + 1 = (j + rest.length + 1) + 1 from rfl,p_zr8_write_l0]
  have h1 : decide ((pre.length : Int) < (l.length : Int)) = true:=decide_eq_true (by omega)
  have h2 : ix l (pre.length : Int) = some a:=ix_mid' h rfl
  have h4 : IntKind.wrap .i64 ((pre.length : Int) + 1) = (((pre ++ [a]).length : Nat) : Int):=by rw [wrap_i64 (by omega) (by omega)]; simp
  obtain ⟨d1,e1,i1,n1⟩:=rput (k:=j + rest.length + 1) (by omega) (b:=[]) (fun _ h => by cases h) (by simp) (IntKind.wrap .u64 a.Ssrc) (s:=4) (by omega) (by omega)
  obtain ⟨d2,e2,i2,n2⟩:=rput (k:=j + rest.length + 1) (by omega) (b:=d1) i1 (by rw [n1,List.length_nil]; omega) (IntKind.wrap .u64 a.Height) (s:=2) (by omega) (by omega)
  have e1' : p_zr1_Put (j + rest.length + 1) ([] : List Int) (IntKind.wrap .u64 a.Ssrc) 4 = some d1:=e1
  have e2' : p_zr1_Put (j + rest.length + 1) d1 (IntKind.wrap .u64 a.Height) 2 = some d2:=e2
  have hr:=hs a (by rw [h]; simp)
  rw [List.length_nil] at n1
  have hB : isB (d2 ++ bytesS a.Rid):=isB_app i2 fun x hx => by
   simp only [bytesS,List.mem_map] at hx
   obtain ⟨u,_,rfl⟩:=hx
   have:=u.toNat_lt
   omega
  obtain ⟨z,ez,hz⟩:=r8field (nm:=2) hb (by omega) hB (by rw [List.length_append,bytesS_len]; omega) (by omega)
  rw [h1,cond_true,h2,Option.bind_some,e1',Option.bind_some,e2',Option.bind_some,ap_eq (by decide) (by rw [bytesS_len]; omega),Option.bind_some,ez,Option.bind_some,h4]
  exact w_lay hk l hl hs x4 yg kE0 hE rest (pre ++ [a]) j (n + 1) z (by rw [h]; simp) hj hz (by omega)
theorem gd_nil : Gd 0 []:=⟨fun _ h => (by cases h),by simp⟩
attribute [local irreducible] p_zr8_in p_zr8_field p_zr1_Put p_zr8_write_l0 in
theorem rwrite {c : TaiCtl} (hK : 1 ≤ c.Kind∧c.Kind ≤ 10) (hl : c.Layers.length ≤ 3) (hs : ∀ a ∈ c.Layers,a.Rid.size ≤ 249) (k : Nat) : Res (p_zr8_write (k + 20) c):=by
 obtain ⟨s,hs8,i1,i2,i3,i4,i5,i6,i7⟩:=in8 hK (k + 15)
 have lay:=fun (kE0 : List Int→ByteArray→TaiCtl→Option (List Int)) (hE : ∀ z,Gd 4 z→Res (kE0 z s c)) n b hb hn => w_lay (k:=k + 20) (by omega) c.Layers hl hs s c kE0 hE c.Layers [] (k + 20 - c.Layers.length - 1) n b rfl (by omega) hb hn
 simp only [show k + 20 - c.Layers.length - 1 + c.Layers.length + 1 = k + 20 by omega,List.length_nil] at lay
 unfold p_zr8_write
 rw [hs8,Option.bind_some]
 refine w_in ⟨_,i1⟩ ?_ ?_
 ·refine w_fd2 (s:=8) gd_nil (by omega) (by decide) (by decide) (by decide) fun z hz => lay _ (fun z hz => ?_) 1 z hz (by omega)
  repeat' (first
   | exact w_end (by assumption) (by omega) (by decide)
   | refine w_in (by first | exact ⟨_,i3⟩ | exact ⟨_,i4⟩ | exact ⟨_,i5⟩ | exact ⟨_,i6⟩ | exact ⟨_,i7⟩) ?_ ?_
   | refine w_fd1 (by assumption) (by decide) (by decide) fun _ _ => ?_
   | refine w_fd2 (s:=2) (by assumption) (by omega) (by decide) (by decide) (by decide) fun _ _ => ?_)
 ·refine lay _ (fun z hz => ?_) 0 _ gd_nil (by omega)
  repeat' (first
   | exact w_end (by assumption) (by omega) (by decide)
   | refine w_in (by first | exact ⟨_,i3⟩ | exact ⟨_,i4⟩ | exact ⟨_,i5⟩ | exact ⟨_,i6⟩ | exact ⟨_,i7⟩) ?_ ?_
   | refine w_fd1 (by assumption) (by decide) (by decide) fun _ _ => ?_
   | refine w_fd2 (s:=2) (by assumption) (by omega) (by decide) (by decide) (by decide) fun _ _ => ?_)
theorem rbytes {c : TaiCtl} (h : TC c) (k : Nat) : ∃ y,p_zr8_Bytes (k + 20) c = some (y,0)∧isB y∧1 ≤ y.length∧y.length < 10000:=by
 have ho:=h.okC
 obtain ⟨y,e,h1,h2,h3⟩:=rwrite h.1 ho.2.1 (fun a ha => (ho.2.2.1 a ha).2.2) k
 have e1 : p_zr8_Right (k + 20) c = some 0:=rright h k
 have e2 : p_zr8_write (k + 20) c = some y:=e
 refine ⟨y,?_,h1,h2,h3⟩
 unfold p_zr8_Bytes
 simp only [e1,Option.bind_some,show ((0 : Int) != 0) = false from rfl,cond_false,e2]
end Go.Ev
namespace Go.Ev
open Go.Proofs
set_option linter.unusedVariables false
set_option linter.unusedSimpArgs false
set_option maxRecDepth 100000
noncomputable section
abbrev KT21:=Exit→Env→H→Option (List C × H)
variable (rec : CallF) (loop : LoopV) (σ : Stamp)
def zl8_CtlReads_c0 : Code:=(codeAt (bodyOf Try.f11) [1,1,1,0,1,0,0])
def zl8_CtlReads_l0 : Lv:=⟨0,256,[(0,0)]⟩
def zl8_CtlReads_k0 : KT21:=(kBlock 0 (kSeq G rec loop (codeAt (bodyOf Try.f11) [1,1,1,1]) ⟨256,256,[]⟩ (1::1::1::0::σ) (finC G false Try.f11 (1::σ))))
theorem zl8_CtlReads_entry (x0 : V) (x1 : V) (x2 : Int) (x3 : Int) (h : H) : cvBody G rec loop 11 σ [x0,x1,(.p (.int .i64 x2)),(.p (.int .u8 x3))] h =
(buildV Try.prog 26 [(0,x0)]).bind fun t1 =>
(boxO false (2::0::1::0::σ) 20 (List.replicate 81 []::h) t1).bind fun q2 =>
(callO rec 28 (3::0::1::0::σ) [q2.1] q2.2 (some 21)).bind fun q3 =>
(callFO rec 35 (4::0::1::0::σ) [q3.1] q3.2 (some 22)).bind fun q4 =>
(extV q4.1 0).bind fun t5 =>
(extV q4.1 1).bind fun t6 =>
(castI .i64 t6).bind fun n7 =>
(lenO t5).bind fun t8 =>
(castI .i64 t8).bind fun n9 =>
(callO rec 21 (5::0::1::1::0::σ) [(.p (.int .i64 x2)),(.p (.int .i64 0)),(.p (.int .i64 (IntKind.wrap .i64 (n9 - 1))))] q4.2 (some 30)).bind fun q10 =>
(castI .i64 q10.1).bind fun n11 =>
(iS 1 t5 n11).bind fun t12 =>
(ldO false 1 q10.2 t12).bind fun t13 =>
(castI .u8 t13).bind fun n14 =>
(iS 1 t5 n11).bind fun t15 =>
((stO true 1 (11::0::1::1::0::σ) q10.2 t15 (.p (.int .u8 (intBits .xor .u8 n14 x3)))).map fun h => (udf,h)).bind fun q16 =>
(bSV Try.prog 72 2 [(0,t5),(1,x1)]).bind fun t17 =>
(lenO t17).bind fun t18 =>
(castI .i64 t18).bind fun n19 =>
(loop zl8_CtlReads_c0 zl8_CtlReads_l0 (1::0::1::1::1::0::σ) (envL [(38,t17),(39,(.p (.int .i64 n19))),(40,(.p (.int .i64 0)))]) q16.2).bind fun r20 => zl8_CtlReads_k0 rec loop σ r20.1 r20.2.1 r20.2.2:=by kernel_rfl
theorem zl8_CtlReads_r0 (x38 : V) (x39 : Int) (x40 : Int) (h : H) : cvRound G rec loop zl8_CtlReads_c0 zl8_CtlReads_l0 σ (envL [(38,x38),(39,(.p (.int .i64 x39))),(40,(.p (.int .i64 x40)))]) h =
bif decide (x40 < x39) then (
(iS 1 x38 x40).bind fun t21 =>
(ldO false 1 h t21).bind fun t22 =>
(callO rec 30 (1::0::1::0::1::1::0::σ) [t22] h (some 46)).bind fun q23 =>
(extV q23.1 0).bind fun t24 =>
(extV q23.1 1).bind fun t25 =>
(castI .i64 t25).bind fun n26 =>
(some (alO [.p (.int .i64 0),.p (.int .i64 0),.p (.slice none 0 0),.p (.int .i64 0),.p (.int .i64 0),.p (.int .i64 0),.p (.int .i64 0),.p (.int .i64 0)] (5::0::1::0::1::1::0::σ) 13 q23.2)).bind fun q27 =>
((stO false 8 (6::0::1::0::1::1::0::σ) q27.2 q27.1 t24).map fun h => (udf,h)).bind fun q28 =>
bif n26 == 0 then (
(ldO true 8 q28.2 q27.1).bind fun t29 =>
(callFO rec 29 (1::0::1::1::1::0::1::1::0::σ) [t29] q28.2 (some 53)).bind fun q30 =>
(extV q30.1 0).bind fun t31 =>
(extV q30.1 1).bind fun t32 =>
(castI .i64 t32).bind fun n33 =>
(bif n33 != 0 then (some true) else ((strO q30.2 t31).bind fun t34 =>
(castS t34).bind fun s35 =>
(strO q30.2 t22).bind fun t36 =>
(castS t36).bind fun s37 =>
some (!(s35.toList == s37.toList)))).bind fun b38 =>
(bif b38 then (some ((.p (.bool true)),q30.2)) else ((ldO true 8 q30.2 q27.1).bind fun t39 =>
(callO rec 36 (11::0::1::1::1::1::0::1::1::0::σ) [t39] q30.2 (some 67)).bind fun q40 =>
(castI .i64 q40.1).bind fun n41 =>
some ((.p (.bool (n41 != 0))),q40.2))).bind fun q42 =>
(asB q42.1).bind fun b43 =>
bif b43 then (
some (.ret,(envL [(8,(.p (.bool false)))]),q42.2))
else (
loop zl8_CtlReads_c0 zl8_CtlReads_l0 (1::σ) (envL [(38,x38),(39,(.p (.int .i64 x39))),(40,(.p (.int .i64 (IntKind.wrap .i64 (x40 + 1)))))]) q42.2))
else (
(fA q27.1 0).bind fun t44 =>
(ldO false 1 q28.2 t44).bind fun t45 =>
(castI .i64 t45).bind fun n46 =>
(bif n46 != 0 then (some true) else ((fA q27.1 2).bind fun t47 =>
(ldO false 1 q28.2 t47).bind fun t48 =>
(lenO t48).bind fun t49 =>
(castI .i64 t49).bind fun n50 =>
some (n50 != 0))).bind fun b51 =>
bif b51 then (
some (.ret,(envL [(8,(.p (.bool false)))]),q28.2))
else (
loop zl8_CtlReads_c0 zl8_CtlReads_l0 (1::σ) (envL [(38,x38),(39,(.p (.int .i64 x39))),(40,(.p (.int .i64 (IntKind.wrap .i64 (x40 + 1)))))]) q28.2)))
else (
some ((.exit 0),(envL []),h)):=by kernel_rfl
theorem zl8_CtlReads_a0_0  (h : H) : zl8_CtlReads_k0 rec loop σ (.exit 0) (envL []) h =
(callO rec 32 (0::0::1::1::1::1::0::σ) [] h (some 80)).bind fun q52 =>
(asB q52.1).bind fun b53 =>
fin false σ q52.2 [(.p (.bool b53))]:=by kernel_rfl
theorem zl8_CtlReads_a0_ret (x8 : Bool) (h : H) : zl8_CtlReads_k0 rec loop σ .ret (envL [(8,(.p (.bool x8)))]) h =
fin false σ h [(.p (.bool x8))]:=by kernel_rfl
theorem zl8_known_entry  (h : H) : cvBody G rec loop 32 σ [] h =
(buildV Try.prog 58 [(0,(.p (.int .i64 2)))]).bind fun t1 =>
(callFO rec 29 (1::0::1::0::σ) [t1] (List.replicate 81 []::h) (some 11)).bind fun q2 =>
(extV q2.1 0).bind fun t3 =>
(extV q2.1 1).bind fun t4 =>
(castI .i64 t4).bind fun n5 =>
(buildV Try.prog 58 [(0,(.p (.int .i64 4))),(3,(.p (.int .i64 2))),(4,(.p (.int .i64 300))),(5,(.p (.int .i64 1)))]).bind fun t6 =>
(callFO rec 29 (1::0::1::1::0::σ) [t6] q2.2 (some 16)).bind fun q7 =>
(extV q7.1 0).bind fun t8 =>
(extV q7.1 1).bind fun t9 =>
(castI .i64 t9).bind fun n10 =>
(callO rec 30 (1::0::1::1::1::0::σ) [t8] q7.2 (some 21)).bind fun q11 =>
(extV q11.1 0).bind fun t12 =>
(extV q11.1 1).bind fun t13 =>
(castI .i64 t13).bind fun n14 =>
(some (alO [.p (.int .i64 0),.p (.int .i64 0),.p (.slice none 0 0),.p (.int .i64 0),.p (.int .i64 0),.p (.int .i64 0),.p (.int .i64 0),.p (.int .i64 0)] (5::0::1::1::1::0::σ) 5 q11.2)).bind fun q15 =>
((stO false 8 (6::0::1::1::1::0::σ) q15.2 q15.1 t12).map fun h => (udf,h)).bind fun q16 =>
(callO rec 30 (0::0::1::1::1::1::0::σ) [(.p (.slice .none 0 0))] q16.2 (some 25)).bind fun q17 =>
(extV q17.1 0).bind fun t18 =>
(extV q17.1 1).bind fun t19 =>
(castI .i64 t19).bind fun n20 =>
(some (alO [.p (.int .i64 0),.p (.int .i64 0),.p (.slice none 0 0),.p (.int .i64 0),.p (.int .i64 0),.p (.int .i64 0),.p (.int .i64 0),.p (.int .i64 0)] (4::0::1::1::1::1::0::σ) 7 q17.2)).bind fun q21 =>
((stO false 8 (5::0::1::1::1::1::0::σ) q21.2 q21.1 t18).map fun h => (udf,h)).bind fun q22 =>
(bif n5 == 0 then ((strO q22.2 t3).bind fun t23 =>
(castS t23).bind fun s24 =>
some (s24.toList == ((⟨#[2,0,0]⟩ : ByteArray)).toList)) else (some false)).bind fun b25 =>
(bif b25 then (some (n10 == 0)) else (some false)).bind fun b26 =>
(bif b26 then ((strO q22.2 t8).bind fun t27 =>
(castS t27).bind fun s28 =>
some (s28.toList == ((⟨#[4,0,10,3,1,2,4,2,1,44,5,1,1]⟩ : ByteArray)).toList)) else (some false)).bind fun b29 =>
(bif b29 then (some (n14 == 0)) else (some false)).bind fun b30 =>
(bif b30 then ((fA q15.1 3).bind fun t31 =>
(ldO false 1 q22.2 t31).bind fun t32 =>
(castI .i64 t32).bind fun n33 =>
some (n33 == 2)) else (some false)).bind fun b34 =>
(bif b34 then ((fA q15.1 4).bind fun t35 =>
(ldO false 1 q22.2 t35).bind fun t36 =>
(castI .i64 t36).bind fun n37 =>
some (n37 == 300)) else (some false)).bind fun b38 =>
(bif b38 then (some (n20 == 13)) else (some false)).bind fun b39 =>
(bif b39 then ((callO rec 34 (35::0::1::1::1::1::1::0::σ) [(.p (.slice .none 0 0))] q22.2 (some 63)).bind fun q40 =>
(castI .i64 q40.1).bind fun n41 =>
some ((.p (.bool (n41 == 26))),q40.2)) else (some ((.p (.bool false)),q22.2))).bind fun q42 =>
(asB q42.1).bind fun b43 =>
(bif b43 then ((buildV Try.prog 58 []).bind fun t44 =>
(callO rec 36 (40::0::1::1::1::1::1::0::σ) [t44] q42.2 (some 68)).bind fun q45 =>
(castI .i64 q45.1).bind fun n46 =>
some ((.p (.bool (n46 == 12))),q45.2)) else (some ((.p (.bool false)),q42.2))).bind fun q47 =>
(asB q47.1).bind fun b48 =>
(bif b48 then ((ldO true 8 q47.2 q15.1).bind fun t49 =>
(ldO true 8 q47.2 q15.1).bind fun t50 =>
(callO rec 73 (46::0::1::1::1::1::1::0::σ) [t49,t50] q47.2 (some 74)).bind fun q51 =>
(asB q51.1).bind fun b52 =>
some ((.p (.bool b52)),q51.2)) else (some ((.p (.bool false)),q47.2))).bind fun q53 =>
(asB q53.1).bind fun b54 =>
(bif b54 then ((buildV Try.prog 58 [(0,(.p (.int .i64 2))),(1,(.p (.int .i64 1)))]).bind fun t55 =>
(callO rec 36 (50::0::1::1::1::1::1::0::σ) [t55] q53.2 (some 78)).bind fun q56 =>
(castI .i64 q56.1).bind fun n57 =>
some ((.p (.bool (n57 == 12))),q56.2)) else (some ((.p (.bool false)),q53.2))).bind fun q58 =>
(asB q58.1).bind fun b59 =>
fin false σ q58.2 [(.p (.bool b59))]:=by kernel_rfl
theorem ctl_Same_entry (x0 : V) (x1 : V) (h : H) : cvBody G rec loop 73 σ [x0,x1] h =
(boxO false (0::0::0::σ) 2 (List.replicate 59 []::h) x0).bind fun q1 =>
(boxO false (1::0::0::σ) 3 q1.2 x1).bind fun q2 =>
(fA q1.1 0).bind fun t3 =>
(ldO false 1 q2.2 t3).bind fun t4 =>
(castI .i64 t4).bind fun n5 =>
(fA q2.1 0).bind fun t6 =>
(ldO false 1 q2.2 t6).bind fun t7 =>
(castI .i64 t7).bind fun n8 =>
(bif n5 == n8 then ((fA q1.1 1).bind fun t9 =>
(ldO false 1 q2.2 t9).bind fun t10 =>
(castI .i64 t10).bind fun n11 =>
(fA q2.1 1).bind fun t12 =>
(ldO false 1 q2.2 t12).bind fun t13 =>
(castI .i64 t13).bind fun n14 =>
some (n11 == n14)) else (some false)).bind fun b15 =>
(bif b15 then ((fA q1.1 2).bind fun t16 =>
(ldO false 1 q2.2 t16).bind fun t17 =>
(fA q2.1 2).bind fun t18 =>
(ldO false 1 q2.2 t18).bind fun t19 =>
(callO rec 107 (17::0::1::0::σ) [t17,t19] q2.2 (some 22)).bind fun q20 =>
(asB q20.1).bind fun b21 =>
some ((.p (.bool b21)),q20.2)) else (some ((.p (.bool false)),q2.2))).bind fun q22 =>
(asB q22.1).bind fun b23 =>
(bif b23 then ((fA q1.1 3).bind fun t24 =>
(ldO false 1 q22.2 t24).bind fun t25 =>
(castI .i64 t25).bind fun n26 =>
(fA q2.1 3).bind fun t27 =>
(ldO false 1 q22.2 t27).bind fun t28 =>
(castI .i64 t28).bind fun n29 =>
some (n26 == n29)) else (some false)).bind fun b30 =>
(bif b30 then ((fA q1.1 4).bind fun t31 =>
(ldO false 1 q22.2 t31).bind fun t32 =>
(castI .i64 t32).bind fun n33 =>
(fA q2.1 4).bind fun t34 =>
(ldO false 1 q22.2 t34).bind fun t35 =>
(castI .i64 t35).bind fun n36 =>
some (n33 == n36)) else (some false)).bind fun b37 =>
(bif b37 then ((fA q1.1 5).bind fun t38 =>
(ldO false 1 q22.2 t38).bind fun t39 =>
(castI .i64 t39).bind fun n40 =>
(fA q2.1 5).bind fun t41 =>
(ldO false 1 q22.2 t41).bind fun t42 =>
(castI .i64 t42).bind fun n43 =>
some (n40 == n43)) else (some false)).bind fun b44 =>
(bif b44 then ((fA q1.1 6).bind fun t45 =>
(ldO false 1 q22.2 t45).bind fun t46 =>
(castI .i64 t46).bind fun n47 =>
(fA q2.1 6).bind fun t48 =>
(ldO false 1 q22.2 t48).bind fun t49 =>
(castI .i64 t49).bind fun n50 =>
some (n47 == n50)) else (some false)).bind fun b51 =>
(bif b51 then ((fA q1.1 7).bind fun t52 =>
(ldO false 1 q22.2 t52).bind fun t53 =>
(castI .i64 t53).bind fun n54 =>
(fA q2.1 7).bind fun t55 =>
(ldO false 1 q22.2 t55).bind fun t56 =>
(castI .i64 t56).bind fun n57 =>
some (n54 == n57)) else (some false)).bind fun b58 =>
fin false σ q22.2 [(.p (.bool b58))]:=by kernel_rfl
def slices_Equal_Lapi_Layer_api_Layer_c0 : Code:=(codeAt (bodyOf Try.f107) [1,1,0,1,0,0])
def slices_Equal_Lapi_Layer_api_Layer_l0 : Lv:=⟨0,16,[(0,0)]⟩
def slices_Equal_Lapi_Layer_api_Layer_k0 : KT21:=(kBlock 0 (kSeq G rec loop (codeAt (bodyOf Try.f107) [1,1,1]) ⟨16,16,[]⟩ (1::1::0::σ) (finC G false Try.f107 (1::σ))))
theorem slices_Equal_Lapi_Layer_api_Layer_entry (x0 : V) (x1 : V) (h : H) : cvBody G rec loop 107 σ [x0,x1] h =
(lenO x0).bind fun t1 =>
(castI .i64 t1).bind fun n2 =>
(lenO x1).bind fun t3 =>
(castI .i64 t3).bind fun n4 =>
bif n2 != n4 then (
fin false σ (List.replicate 26 []::h) [(.p (.bool false))])
else (
(lenO x0).bind fun t5 =>
(castI .i64 t5).bind fun n6 =>
(loop slices_Equal_Lapi_Layer_api_Layer_c0 slices_Equal_Lapi_Layer_api_Layer_l0 (1::0::1::1::0::σ) (envL [(0,x0),(1,x1),(12,(.p (.int .i64 n6))),(13,(.p (.int .i64 0)))]) (List.replicate 26 []::h)).bind fun r7 => slices_Equal_Lapi_Layer_api_Layer_k0 rec loop σ r7.1 r7.2.1 r7.2.2):=by kernel_rfl
theorem slices_Equal_Lapi_Layer_api_Layer_r0 (x0 : V) (x1 : V) (x12 : Int) (x13 : Int) (h : H) : cvRound G rec loop slices_Equal_Lapi_Layer_api_Layer_c0 slices_Equal_Lapi_Layer_api_Layer_l0 σ (envL [(0,x0),(1,x1),(12,(.p (.int .i64 x12))),(13,(.p (.int .i64 x13)))]) h =
bif decide (x13 < x12) then (
(iS 3 x0 x13).bind fun t8 =>
(ldO true 3 h t8).bind fun t9 =>
(iS 3 x1 x13).bind fun t10 =>
(ldO true 3 h t10).bind fun t11 =>
(binV Try.prog h .neq 70 t9 t11).bind fun t12 =>
(asB t12).bind fun b13 =>
bif b13 then (
some (.ret,(envL [(4,(.p (.bool false)))]),h))
else (
loop slices_Equal_Lapi_Layer_api_Layer_c0 slices_Equal_Lapi_Layer_api_Layer_l0 (1::σ) (envL [(0,x0),(1,x1),(12,(.p (.int .i64 x12))),(13,(.p (.int .i64 (IntKind.wrap .i64 (x13 + 1)))))]) h))
else (
some ((.exit 0),(envL []),h)):=by kernel_rfl
theorem slices_Equal_Lapi_Layer_api_Layer_a0_0  (h : H) : slices_Equal_Lapi_Layer_api_Layer_k0 rec loop σ (.exit 0) (envL []) h =
fin false σ h [(.p (.bool true))]:=by kernel_rfl
theorem slices_Equal_Lapi_Layer_api_Layer_a0_ret (x4 : Bool) (h : H) : slices_Equal_Lapi_Layer_api_Layer_k0 rec loop σ .ret (envL [(4,(.p (.bool x4)))]) h =
fin false σ h [(.p (.bool x4))]:=by kernel_rfl
end
end Go.Ev
namespace Go.Ev
open Go.Proofs
set_option linter.unusedVariables false
set_option linter.unusedSimpArgs false
set_option maxRecDepth 100000
section
variable {β α : Type} {Q : β→α→Prop} {K : Exit × Env × H→Option α}
def p_slices_Equal_Lapi_Layer_api_Layer_l0 {β : Type} (k : Nat) (kE0 : Unit→Option β) (kE1 : Bool→Option β) (x0 : (List TaiLayer)) (x1 : (List TaiLayer)) (x12 : Int) (x13 : Int) : Option β:=match k with
| 0 => none
| k + 1 =>
bif decide (x13 < x12) then (
(ix x0 x13).bind fun a9 =>
(ix x1 x13).bind fun a14 =>
bif !(andB [a9.Rid.toList == a14.Rid.toList,a9.Ssrc == a14.Ssrc,a9.Height == a14.Height]) then (
kE1 false)
else (
p_slices_Equal_Lapi_Layer_api_Layer_l0 k kE0 kE1 x0 x1 x12 (IntKind.wrap .i64 (x13 + 1))))
else (
kE0 ())
def p_slices_Equal_Lapi_Layer_api_Layer (k : Nat) (x0 : (List TaiLayer)) (x1 : (List TaiLayer)) : Option (Bool) :=
bif ((x0.length : Int)) != ((x1.length : Int)) then (
some (false))
else (
p_slices_Equal_Lapi_Layer_api_Layer_l0 k (fun (_ : Unit) =>
some (true)) (fun r27_4 =>
some (r27_4)) x0 x1 ((x0.length : Int)) 0)
theorem slices_Equal_Lapi_Layer_api_Layer_l0_ok {h : H}  {kE0 : Unit→Option β} {kE1 : Bool→Option β} (hE0 : ∀ (_u : Unit) (H20 : Go.Ev.H) (_ : Fm 26 h [] [] [] H20),Sim (kE0 ()) (K ((.exit 0),(envL []),H20)) Q) (hE1 : ∀ (q4 : Bool) (H22 : Go.Ev.H) (_ : Fm 26 h [] [] [] H22),Sim (kE1 q4) (K (.ret,(envL [(4,(.p (.bool q4)))]),H22)) Q) (k : Nat) : ∀ (x0 : (List TaiLayer)) (x1 : (List TaiLayer)) (x12 : Int) (x13 : Int) (v4 : V) (h5 : SlH h dTaiLayer x0 v4) (v6 : V) (h7 : SlH h dTaiLayer x1 v6) (H2 : Go.Ev.H) (_ : Fm 26 h [] [] [] H2) {σ : Stamp},Sim (p_slices_Equal_Lapi_Layer_api_Layer_l0 k kE0 kE1 x0 x1 x12 x13) ((cvL G X0 slices_Equal_Lapi_Layer_api_Layer_c0 slices_Equal_Lapi_Layer_api_Layer_l0 σ (envL [(0,v4),(1,v6),(12,(.p (.int .i64 x12))),(13,(.p (.int .i64 x13)))]) H2).bind K) Q:=by
 induction k with
 | zero => intros; exact .no
 | succ k ih =>
  intro x0 x1 x12 x13 v4 h5 v6 h7 H2 S3 σ
  rw [p_slices_Equal_Lapi_Layer_api_Layer_l0]
  refine .round (Sim.ext (slices_Equal_Lapi_Layer_api_Layer_r0 _ _ _ _ _ _ _ _) ?_)
  refine .cq ?_ ?_
  ·refine .bd fun a9 h10 => ?_
   refine .op ((S3.low h5).iS h10 rfl) ?_
   obtain ⟨w12,h13,hE11⟩:=(S3.low h5).el h10 rfl
   obtain rfl:=dTaiLayer.inv h13
   refine .op (hE11.all (by simp)) ?_
   refine .bd fun a14 h15 => ?_
   refine .op ((S3.low h7).iS h15 rfl) ?_
   obtain ⟨w17,h18,hE16⟩:=(S3.low h7).el h15 rfl
   obtain rfl:=dTaiLayer.inv h18
   refine .op (hE16.all (by simp)) ?_
   refine .op (nqS_ok (by kernel_rfl : _ = andL [a9.Rid.toList == a14.Rid.toList,a9.Ssrc == a14.Ssrc,a9.Height == a14.Height])) ?_
   refine .ab ?_
   refine .cq ?_ ?_
   ·exact hE1 false H2 (S3.wk2 aN aN)
   exact ih x0 x1 x12 (IntKind.wrap .i64 (x13 + 1)) v4 h5 v6 h7 H2 (S3.wk2 aN aN)
  exact hE0 () H2 (S3.wk2 aN aN)
theorem slices_Equal_Lapi_Layer_api_Layer_ok (k : Nat) {h : H} {σ : Stamp} (x0 : List TaiLayer) {u0 : V} (hu0 : SlH h dTaiLayer x0 u0) (x1 : List TaiLayer) {u1 : V} (hu1 : SlH h dTaiLayer x1 u1) : Sim (p_slices_Equal_Lapi_Layer_api_Layer k x0 x1) (ev G X0 107 σ [u0,u1] h) (fun r s => s = ([.v (.p (.bool r))],h)):=by
 refine .ev rfl (Sim.ext (slices_Equal_Lapi_Layer_api_Layer_entry _ _ _ _ _ _) ?_)
 rw [p_slices_Equal_Lapi_Layer_api_Layer]
 have S0 : Fm 26 h [] [] [] (List.replicate 26 []::h):=Fm.start0
 refine .op ((S0.low hu0).len) ?_
 refine .ci ?_
 refine .op ((S0.low hu1).len) ?_
 refine .ci ?_
 refine .cq ?_ ?_
 ·exact .fin (S0.finN (lC (sB _).lv lN)) rfl
 refine .op ((S0.low hu0).len) ?_
 refine .ci ?_
 refine .as (slices_Equal_Lapi_Layer_api_Layer_l0_ok ?_ ?_ k x0 x1 ((x0.length : Int)) 0 u0 hu0 u1 hu1 (List.replicate 26 []::h) (S0.wk2 aN aN))
 ·intro _u H25 S26
  refine .ext (slices_Equal_Lapi_Layer_api_Layer_a0_0 _ _ _ _) ?_
  exact .fin (S26.finN (lC (sB _).lv lN)) rfl
 ·intro r27_4 H28 S29
  refine .ext (slices_Equal_Lapi_Layer_api_Layer_a0_ret _ _ _ _ _) ?_
  exact .fin (S29.finN (lC (sB _).lv lN)) rfl
def p_ctl_Same (k : Nat) (x0 : TaiCtl) (x1 : TaiCtl) : Option (Bool) :=
(bif x0.Kind == x1.Kind then (some (x0.Cap == x1.Cap)) else (some false)).bind fun b13 =>
(bif b13 then ((p_slices_Equal_Lapi_Layer_api_Layer k x0.Layers x1.Layers).bind fun r17 =>
some r17) else (some false)).bind fun b22 =>
(bif b22 then (some (x0.Peer == x1.Peer)) else (some false)).bind fun b26 =>
(bif b26 then (some (x0.Height == x1.Height)) else (some false)).bind fun b30 =>
(bif b30 then (some (x0.Class == x1.Class)) else (some false)).bind fun b34 =>
(bif b34 then (some (x0.Layer == x1.Layer)) else (some false)).bind fun b38 =>
(bif b38 then (some (x0.Code == x1.Code)) else (some false)).bind fun b42 =>
some (b42)
theorem ctl_Same_ok (k : Nat) {h : H} {σ : Stamp} (x0 : TaiCtl) {u0 : List V} (hu0 : dTaiCtl.R x0 u0) (x1 : TaiCtl) {u1 : List V} (hu1 : dTaiCtl.R x1 u1) : Sim (p_ctl_Same k x0 x1) (ev G X0 73 σ [(.agg u0),(.agg u1)] h) (fun r s => s = ([.v (.p (.bool r))],h)):=by
 refine .ev rfl (Sim.ext (ctl_Same_entry _ _ _ _ _ _) ?_)
 rw [p_ctl_Same]
 obtain ⟨v1,rfl,h2⟩:=dTaiCtl.inv hu0
 obtain ⟨v3,rfl,h4⟩:=dTaiCtl.inv hu1
 have S0 : Fm 59 h [] [] [] (List.replicate 59 []::h):=Fm.start0
 obtain ⟨H5,e6,S7⟩:=S0.box (own:=false) (d:=2) (s:=(0::0::0::σ)) (xs:=[(.p (.int .i64 x0.Kind)),(.p (.int .i64 x0.Cap)),v1,(.p (.int .i64 x0.Peer)),(.p (.int .i64 x0.Height)),(.p (.int .i64 x0.Class)),(.p (.int .i64 x0.Layer)),(.p (.int .i64 x0.Code))]) (sC (sI _ _) (sC (sI _ _) (sC h2.still (sC (sI _ _) (sC (sI _ _) (sC (sI _ _) (sC (sI _ _) (sC (sI _ _) sN)))))))) (by decide) rfl
 refine .op (e6) ?_
 obtain ⟨H9,e10,S11⟩:=S7.box (own:=false) (d:=3) (s:=(1::0::0::σ)) (xs:=[(.p (.int .i64 x1.Kind)),(.p (.int .i64 x1.Cap)),v3,(.p (.int .i64 x1.Peer)),(.p (.int .i64 x1.Height)),(.p (.int .i64 x1.Class)),(.p (.int .i64 x1.Layer)),(.p (.int .i64 x1.Code))]) (sC (sI _ _) (sC (sI _ _) (sC h4.still (sC (sI _ _) (sC (sI _ _) (sC (sI _ _) (sC (sI _ _) (sC (sI _ _) sN)))))))) (by decide) rfl
 refine .op (e10) ?_
 refine .fa ?_
 refine .op ((S11.atG (i:=1) rfl).ld (j:=0) rfl) ?_
 refine .ci ?_
 refine .fa ?_
 refine .op ((S11.atG (i:=0) rfl).ld (j:=0) rfl) ?_
 refine .ci ?_
 refine .ch (P:=fun r y => r = y) ?_ (fun b13 y14 h15 h16 => ?_)
 ·refine .cq ?_ ?_
  ·refine .fa ?_
   refine .op ((S11.atG (i:=1) rfl).ld (j:=1) rfl) ?_
   refine .ci ?_
   refine .fa ?_
   refine .op ((S11.atG (i:=0) rfl).ld (j:=1) rfl) ?_
   refine .ci ?_
   exact .ret rfl rfl
  ·exact .ret rfl rfl
 subst h16
 refine .ch (P:=fun r y => (.p (.bool r),H9) = y) ?_ (fun b22 y23 h24 h25 => ?_)
 ·refine .cq ?_ ?_
  ·refine .fa ?_
   refine .op ((S11.atG (i:=1) rfl).ld (j:=2) rfl) ?_
   refine .fa ?_
   refine .op ((S11.atG (i:=0) rfl).ld (j:=2) rfl) ?_
   refine .call (slices_Equal_Lapi_Layer_api_Layer_ok k x0.Layers (h2.h H9) x1.Layers (h4.h H9)) fun r17 cs18 H19 h20 q21 => ?_
   cases q21
   refine .ab ?_
   exact .ret rfl rfl
  ·exact .ret rfl rfl
 subst h25
 refine .ab ?_
 refine .ch (P:=fun r y => r = y) ?_ (fun b26 y27 h28 h29 => ?_)
 ·refine .cq ?_ ?_
  ·refine .fa ?_
   refine .op ((S11.atG (i:=1) rfl).ld (j:=3) rfl) ?_
   refine .ci ?_
   refine .fa ?_
   refine .op ((S11.atG (i:=0) rfl).ld (j:=3) rfl) ?_
   refine .ci ?_
   exact .ret rfl rfl
  ·exact .ret rfl rfl
 subst h29
 refine .ch (P:=fun r y => r = y) ?_ (fun b30 y31 h32 h33 => ?_)
 ·refine .cq ?_ ?_
  ·refine .fa ?_
   refine .op ((S11.atG (i:=1) rfl).ld (j:=4) rfl) ?_
   refine .ci ?_
   refine .fa ?_
   refine .op ((S11.atG (i:=0) rfl).ld (j:=4) rfl) ?_
   refine .ci ?_
   exact .ret rfl rfl
  ·exact .ret rfl rfl
 subst h33
 refine .ch (P:=fun r y => r = y) ?_ (fun b34 y35 h36 h37 => ?_)
 ·refine .cq ?_ ?_
  ·refine .fa ?_
   refine .op ((S11.atG (i:=1) rfl).ld (j:=5) rfl) ?_
   refine .ci ?_
   refine .fa ?_
   refine .op ((S11.atG (i:=0) rfl).ld (j:=5) rfl) ?_
   refine .ci ?_
   exact .ret rfl rfl
  ·exact .ret rfl rfl
 subst h37
 refine .ch (P:=fun r y => r = y) ?_ (fun b38 y39 h40 h41 => ?_)
 ·refine .cq ?_ ?_
  ·refine .fa ?_
   refine .op ((S11.atG (i:=1) rfl).ld (j:=6) rfl) ?_
   refine .ci ?_
   refine .fa ?_
   refine .op ((S11.atG (i:=0) rfl).ld (j:=6) rfl) ?_
   refine .ci ?_
   exact .ret rfl rfl
  ·exact .ret rfl rfl
 subst h41
 refine .ch (P:=fun r y => r = y) ?_ (fun b42 y43 h44 h45 => ?_)
 ·refine .cq ?_ ?_
  ·refine .fa ?_
   refine .op ((S11.atG (i:=1) rfl).ld (j:=7) rfl) ?_
   refine .ci ?_
   refine .fa ?_
   refine .op ((S11.atG (i:=0) rfl).ld (j:=7) rfl) ?_
   refine .ci ?_
   exact .ret rfl rfl
  ·exact .ret rfl rfl
 subst h45
 exact .fin (S11.finN (lC (sB _).lv lN)) rfl
def p_zl8_known (k : Nat)  : Option (Bool) :=
(p_ctl_Bytes k ((⟨2,0,(([] : List TaiLayer)),0,0,0,0,0⟩ : TaiCtl))).bind fun r1 =>
(p_ctl_Bytes k ((⟨4,0,(([] : List TaiLayer)),2,300,1,0,0⟩ : TaiCtl))).bind fun r15 =>
(p_ctl_Read k r15.1).bind fun r29 =>
(p_ctl_Read k (([] : List Int))).bind fun r45 =>
(bif r1.2 == 0 then (some ((strB r1.1).toList == ((⟨#[2,0,0]⟩ : ByteArray)).toList)) else (some false)).bind fun b61 =>
(bif b61 then (some (r15.2 == 0)) else (some false)).bind fun b65 =>
(bif b65 then (some ((strB r15.1).toList == ((⟨#[4,0,10,3,1,2,4,2,1,44,5,1,1]⟩ : ByteArray)).toList)) else (some false)).bind fun b69 =>
(bif b69 then (some (r29.2 == 0)) else (some false)).bind fun b73 =>
(bif b73 then (some (r29.1.Peer == 2)) else (some false)).bind fun b77 =>
(bif b77 then (some (r29.1.Height == 300)) else (some false)).bind fun b81 =>
(bif b81 then (some (r45.2 == 13)) else (some false)).bind fun b85 =>
(bif b85 then ((p_ctl_Layers k (([] : List TaiLayer))).bind fun r89 =>
some (r89 == 26)) else (some false)).bind fun b94 =>
(bif b94 then ((p_ctl_Right k ((⟨0,0,(([] : List TaiLayer)),0,0,0,0,0⟩ : TaiCtl))).bind fun r98 =>
some (r98 == 12)) else (some false)).bind fun b103 =>
(bif b103 then ((p_ctl_Same k r29.1 r29.1).bind fun r107 =>
some r107) else (some false)).bind fun b112 =>
(bif b112 then ((p_ctl_Right k ((⟨2,1,(([] : List TaiLayer)),0,0,0,0,0⟩ : TaiCtl))).bind fun r116 =>
some (r116 == 12)) else (some false)).bind fun b121 =>
some (b121)
theorem zl8_known_ok (k : Nat) {h : H} {σ : Stamp}  : Sim (p_zl8_known k ) (ev G X0 32 σ [] h) (fun r s => s = ([.v (.p (.bool r))],h)):=by
 refine .ev rfl (Sim.ext (zl8_known_entry _ _ _ _) ?_)
 rw [p_zl8_known]
 have S0 : Fm 81 h [] [] [] (List.replicate 81 []::h):=Fm.start0
 refine .op (bldV (pC rfl pN) (by kernel_rfl : _ = some (.agg [.p (.int .i64 2),.p (.int .i64 0),.p (.slice none 0 0),.p (.int .i64 0),.p (.int .i64 0),.p (.int .i64 0),.p (.int .i64 0),.p (.int .i64 0)]))) ?_
 erw [callFO_eq (frzAs_cons (frzA_agg (dTaiCtl.still (dTaiCtl.mk (SlF.nil dTaiLayer)))) frzAs_nil)]
 refine .call (ctl_Bytes_ok k ((⟨2,0,(([] : List TaiLayer)),0,0,0,0,0⟩ : TaiCtl)) (show dTaiCtl.R ((⟨2,0,(([] : List TaiLayer)),0,0,0,0,0⟩ : TaiCtl)) [.p (.int .i64 2),.p (.int .i64 0),.p (.slice none 0 0),.p (.int .i64 0),.p (.int .i64 0),.p (.int .i64 0),.p (.int .i64 0),.p (.int .i64 0)] from (dTaiCtl.mk (SlF.nil dTaiLayer)))) fun r1 cs2 H3 h4 q5 => ?_
 obtain ⟨c6,cs7,h8,h9,q5⟩:=q5
 cases q5
 obtain ⟨v10,H11,e12,S13⟩:=S0.landN (dt:=(dI .u8)) (d:=11) h8 h9 (by decide) rfl (.p (.int .i64 r1.2)) []
 erw [e12]
 refine .or ?_
 refine .or ?_
 refine .ci ?_
 refine .op (bldV (pC rfl (pC rfl (pC rfl (pC rfl pN)))) (by kernel_rfl : _ = some (.agg [.p (.int .i64 4),.p (.int .i64 0),.p (.slice none 0 0),.p (.int .i64 2),.p (.int .i64 300),.p (.int .i64 1),.p (.int .i64 0),.p (.int .i64 0)]))) ?_
 erw [callFO_eq (frzAs_cons (frzA_agg (dTaiCtl.still (dTaiCtl.mk (SlF.nil dTaiLayer)))) frzAs_nil)]
 refine .call (ctl_Bytes_ok k ((⟨4,0,(([] : List TaiLayer)),2,300,1,0,0⟩ : TaiCtl)) (show dTaiCtl.R ((⟨4,0,(([] : List TaiLayer)),2,300,1,0,0⟩ : TaiCtl)) [.p (.int .i64 4),.p (.int .i64 0),.p (.slice none 0 0),.p (.int .i64 2),.p (.int .i64 300),.p (.int .i64 1),.p (.int .i64 0),.p (.int .i64 0)] from (dTaiCtl.mk (SlF.nil dTaiLayer)))) fun r15 cs16 H17 h18 q19 => ?_
 obtain ⟨c20,cs21,h22,h23,q19⟩:=q19
 cases q19
 obtain ⟨v24,H25,e26,S27⟩:=S13.landN (dt:=(dI .u8)) (d:=16) h22 h23 (by decide) rfl (.p (.int .i64 r15.2)) []
 erw [e26]
 refine .or ?_
 refine .or ?_
 refine .ci ?_
 refine .call (ctl_Read_ok k r15.1 (S27.sl (i:=0) rfl)) fun r29 cs30 H31 h32 q33 => ?_
 obtain ⟨w34,h35,q33⟩:=q33
 cases q33
 obtain ⟨v36,rfl,h37⟩:=dTaiCtl.inv h35
 refine .or ?_
 refine .or ?_
 refine .ci ?_
 obtain ⟨H38,e39,S40⟩:=S27.al (d:=5) (s:=(5::0::1::1::1::0::σ)) (z:=[(.p (.int .i64 0)),(.p (.int .i64 0)),(.p (.slice none 0 0)),(.p (.int .i64 0)),(.p (.int .i64 0)),(.p (.int .i64 0)),(.p (.int .i64 0)),(.p (.int .i64 0))]) (by decide) rfl
 refine .op (congrArg some e39) ?_
 obtain ⟨H42,e43,S44⟩:=S40.stGv (i:=0) (j:=0) (own:=false) (σ:=(6::0::1::1::1::0::σ)) (xs:=[(.p (.int .i64 r29.1.Kind)),(.p (.int .i64 r29.1.Cap)),v36,(.p (.int .i64 r29.1.Peer)),(.p (.int .i64 r29.1.Height)),(.p (.int .i64 r29.1.Class)),(.p (.int .i64 r29.1.Layer)),(.p (.int .i64 r29.1.Code))]) rfl rfl (sC (sI _ _) (sC (sI _ _) (sC h37.still (sC (sI _ _) (sC (sI _ _) (sC (sI _ _) (sC (sI _ _) (sC (sI _ _) sN)))))))) rfl rfl
 refine .op (sM e43) ?_
 refine .call (ctl_Read_ok k (([] : List Int)) ((SlF.nil (dI .u8)).h H42)) fun r45 cs46 H47 h48 q49 => ?_
 obtain ⟨w50,h51,q49⟩:=q49
 cases q49
 obtain ⟨v52,rfl,h53⟩:=dTaiCtl.inv h51
 refine .or ?_
 refine .or ?_
 refine .ci ?_
 obtain ⟨H54,e55,S56⟩:=S44.al (d:=7) (s:=(4::0::1::1::1::1::0::σ)) (z:=[(.p (.int .i64 0)),(.p (.int .i64 0)),(.p (.slice none 0 0)),(.p (.int .i64 0)),(.p (.int .i64 0)),(.p (.int .i64 0)),(.p (.int .i64 0)),(.p (.int .i64 0))]) (by decide) rfl
 refine .op (congrArg some e55) ?_
 obtain ⟨H58,e59,S60⟩:=S56.stGv (i:=0) (j:=0) (own:=false) (σ:=(5::0::1::1::1::1::0::σ)) (xs:=[(.p (.int .i64 r45.1.Kind)),(.p (.int .i64 r45.1.Cap)),v52,(.p (.int .i64 r45.1.Peer)),(.p (.int .i64 r45.1.Height)),(.p (.int .i64 r45.1.Class)),(.p (.int .i64 r45.1.Layer)),(.p (.int .i64 r45.1.Code))]) rfl rfl (sC (sI _ _) (sC (sI _ _) (sC h53.still (sC (sI _ _) (sC (sI _ _) (sC (sI _ _) (sC (sI _ _) (sC (sI _ _) sN)))))))) rfl rfl
 refine .op (sM e59) ?_
 refine .ch (P:=fun r y => r = y) ?_ (fun b61 y62 h63 h64 => ?_)
 ·refine .cq ?_ ?_
  ·refine .op ((S60.sl (i:=1) rfl).str) ?_
   refine .op (castS_p _) ?_
   exact .ret rfl rfl
  ·exact .ret rfl rfl
 subst h64
 refine .ch (P:=fun r y => r = y) ?_ (fun b65 y66 h67 h68 => ?_)
 ·refine .cq ?_ ?_
  ·exact .ret rfl rfl
  ·exact .ret rfl rfl
 subst h68
 refine .ch (P:=fun r y => r = y) ?_ (fun b69 y70 h71 h72 => ?_)
 ·refine .cq ?_ ?_
  ·refine .op ((S60.sl (i:=0) rfl).str) ?_
   refine .op (castS_p _) ?_
   exact .ret rfl rfl
  ·exact .ret rfl rfl
 subst h72
 refine .ch (P:=fun r y => r = y) ?_ (fun b73 y74 h75 h76 => ?_)
 ·refine .cq ?_ ?_
  ·exact .ret rfl rfl
  ·exact .ret rfl rfl
 subst h76
 refine .ch (P:=fun r y => r = y) ?_ (fun b77 y78 h79 h80 => ?_)
 ·refine .cq ?_ ?_
  ·refine .fa ?_
   refine .op ((S60.atG (i:=1) rfl).ld (j:=3) rfl) ?_
   refine .ci ?_
   exact .ret rfl rfl
  ·exact .ret rfl rfl
 subst h80
 refine .ch (P:=fun r y => r = y) ?_ (fun b81 y82 h83 h84 => ?_)
 ·refine .cq ?_ ?_
  ·refine .fa ?_
   refine .op ((S60.atG (i:=1) rfl).ld (j:=4) rfl) ?_
   refine .ci ?_
   exact .ret rfl rfl
  ·exact .ret rfl rfl
 subst h84
 refine .ch (P:=fun r y => r = y) ?_ (fun b85 y86 h87 h88 => ?_)
 ·refine .cq ?_ ?_
  ·exact .ret rfl rfl
  ·exact .ret rfl rfl
 subst h88
 refine .ch (P:=fun r y => (.p (.bool r),H58) = y) ?_ (fun b94 y95 h96 h97 => ?_)
 ·refine .cq ?_ ?_
  ·refine .call (ctl_Layers_ok k (([] : List TaiLayer)) ((SlF.nil dTaiLayer).h H58)) fun r89 cs90 H91 h92 q93 => ?_
   cases q93
   refine .ci ?_
   exact .ret rfl rfl
  ·exact .ret rfl rfl
 subst h97
 refine .ab ?_
 refine .ch (P:=fun r y => (.p (.bool r),H58) = y) ?_ (fun b103 y104 h105 h106 => ?_)
 ·refine .cq ?_ ?_
  ·refine .op (bldV pN (by kernel_rfl : _ = some (.agg [.p (.int .i64 0),.p (.int .i64 0),.p (.slice none 0 0),.p (.int .i64 0),.p (.int .i64 0),.p (.int .i64 0),.p (.int .i64 0),.p (.int .i64 0)]))) ?_
   refine .call (ctl_Right_ok k ((⟨0,0,(([] : List TaiLayer)),0,0,0,0,0⟩ : TaiCtl)) (show dTaiCtl.R ((⟨0,0,(([] : List TaiLayer)),0,0,0,0,0⟩ : TaiCtl)) [.p (.int .i64 0),.p (.int .i64 0),.p (.slice none 0 0),.p (.int .i64 0),.p (.int .i64 0),.p (.int .i64 0),.p (.int .i64 0),.p (.int .i64 0)] from (dTaiCtl.mk (SlF.nil dTaiLayer)))) fun r98 cs99 H100 h101 q102 => ?_
   cases q102
   refine .ci ?_
   exact .ret rfl rfl
  ·exact .ret rfl rfl
 subst h106
 refine .ab ?_
 refine .ch (P:=fun r y => (.p (.bool r),H58) = y) ?_ (fun b112 y113 h114 h115 => ?_)
 ·refine .cq ?_ ?_
  ·refine .op ((S60.atG (i:=1) rfl).ldVs (j:=0) (xs:=[(.p (.int .i64 r29.1.Kind)),(.p (.int .i64 r29.1.Cap)),v36,(.p (.int .i64 r29.1.Peer)),(.p (.int .i64 r29.1.Height)),(.p (.int .i64 r29.1.Class)),(.p (.int .i64 r29.1.Layer)),(.p (.int .i64 r29.1.Code))]) rfl rfl (by decide)) ?_
   refine .op ((S60.atG (i:=1) rfl).ldVs (j:=0) (xs:=[(.p (.int .i64 r29.1.Kind)),(.p (.int .i64 r29.1.Cap)),v36,(.p (.int .i64 r29.1.Peer)),(.p (.int .i64 r29.1.Height)),(.p (.int .i64 r29.1.Class)),(.p (.int .i64 r29.1.Layer)),(.p (.int .i64 r29.1.Code))]) rfl rfl (by decide)) ?_
   refine .call (ctl_Same_ok k r29.1 h35 r29.1 h35) fun r107 cs108 H109 h110 q111 => ?_
   cases q111
   refine .ab ?_
   exact .ret rfl rfl
  ·exact .ret rfl rfl
 subst h115
 refine .ab ?_
 refine .ch (P:=fun r y => (.p (.bool r),H58) = y) ?_ (fun b121 y122 h123 h124 => ?_)
 ·refine .cq ?_ ?_
  ·refine .op (bldV (pC rfl (pC rfl pN)) (by kernel_rfl : _ = some (.agg [.p (.int .i64 2),.p (.int .i64 1),.p (.slice none 0 0),.p (.int .i64 0),.p (.int .i64 0),.p (.int .i64 0),.p (.int .i64 0),.p (.int .i64 0)]))) ?_
   refine .call (ctl_Right_ok k ((⟨2,1,(([] : List TaiLayer)),0,0,0,0,0⟩ : TaiCtl)) (show dTaiCtl.R ((⟨2,1,(([] : List TaiLayer)),0,0,0,0,0⟩ : TaiCtl)) [.p (.int .i64 2),.p (.int .i64 1),.p (.slice none 0 0),.p (.int .i64 0),.p (.int .i64 0),.p (.int .i64 0),.p (.int .i64 0),.p (.int .i64 0)] from (dTaiCtl.mk (SlF.nil dTaiLayer)))) fun r116 cs117 H118 h119 q120 => ?_
   cases q120
   refine .ci ?_
   exact .ret rfl rfl
  ·exact .ret rfl rfl
 subst h124
 refine .ab ?_
 exact .fin (S60.finN (lC (sB _).lv lN)) rfl
def p_zl8_CtlReads_l0 {β : Type} (k : Nat) (kE0 : Unit→Option β) (kE1 : Bool→Option β) (x38_0 : (List Int)) (x38_1 : (List Int)) (x39 : Int) (x40 : Int) : Option β:=match k with
| 0 => none
| k + 1 =>
bif decide (x40 < x39) then (
(ix [x38_0,x38_1] x40).bind fun a53 =>
(p_ctl_Read k a53).bind fun r57 =>
bif r57.2 == 0 then (
(p_ctl_Bytes k r57.1).bind fun r74 =>
(bif r74.2 != 0 then (some true) else (some (!((strB r74.1).toList == (strB a53).toList)))).bind fun b88 =>
(bif b88 then (some true) else ((p_ctl_Right k r57.1).bind fun r92 =>
some (r92 != 0))).bind fun b97 =>
bif b97 then (
kE1 false)
else (
p_zl8_CtlReads_l0 k kE0 kE1 x38_0 x38_1 x39 (IntKind.wrap .i64 (x40 + 1))))
else (
(bif r57.1.Kind != 0 then (some true) else (some (((r57.1.Layers.length : Int)) != 0))).bind fun b102 =>
bif b102 then (
kE1 false)
else (
p_zl8_CtlReads_l0 k kE0 kE1 x38_0 x38_1 x39 (IntKind.wrap .i64 (x40 + 1)))))
else (
kE0 ())
def p_zl8_CtlReads (k : Nat) (x0 : (List Int)) (x1 : (List Int)) (x2 : Int) (x3 : Int) : Option (Bool) :=
(p_zk_Tape_Ctl k (⟨x0,0⟩ : TzTape)).bind fun r5 =>
(p_zr8_Bytes k r5.1).bind fun r17 =>
(p_zb_Within x2 0 (IntKind.wrap .i64 (((r17.1.length : Int)) - 1))).bind fun r31 =>
(ix r17.1 r31).bind fun a36 =>
(ix r17.1 r31).bind fun a39 =>
(stx r17.1 r31 (intBits .xor .u8 a36 x3)).bind fun a44 =>
p_zl8_CtlReads_l0 k (fun (_ : Unit) =>
(p_zl8_known k).bind fun r114 =>
some (r114)) (fun r119_8 =>
some (r119_8)) a44 x1 2 0
theorem zl8_CtlReads_l0_ok {h : H}  {kE0 : Unit→Option β} {kE1 : Bool→Option β} (hE0 : ∀ (_u : Unit) (H107 : Go.Ev.H) (_ : Fm 81 h [] [] [] H107),Sim (kE0 ()) (K ((.exit 0),(envL []),H107)) Q) (hE1 : ∀ (q8 : Bool) (H109 : Go.Ev.H) (_ : Fm 81 h [] [] [] H109),Sim (kE1 q8) (K (.ret,(envL [(8,(.p (.bool q8)))]),H109)) Q) (k : Nat) : ∀ (x38_0 : (List Int)) (x38_1 : (List Int)) (x39 : Int) (x40 : Int) (v48 : V) (v50 : V) (h51 : SlF (dI .u8) x38_1 v50) (H46 : Go.Ev.H) (_ : Fm 81 h [] [] [⟨[22],v48,(dI .u8),x38_0⟩] H46) {σ : Stamp},Sim (p_zl8_CtlReads_l0 k kE0 kE1 x38_0 x38_1 x39 x40) ((cvL G X0 zl8_CtlReads_c0 zl8_CtlReads_l0 σ (envL [(38,(.fz [v48,v50] 2 1 true)),(39,(.p (.int .i64 x39))),(40,(.p (.int .i64 x40)))]) H46).bind K) Q:=by
 induction k with
 | zero => intros; exact .no
 | succ k ih =>
  intro x38_0 x38_1 x39 x40 v48 v50 h51 H46 S47 σ
  rw [p_zl8_CtlReads_l0]
  refine .round (Sim.ext (zl8_CtlReads_r0 _ _ _ _ _ _ _) ?_)
  refine .cq ?_ ?_
  ·refine .bd fun a53 h54 => ?_
   rcases lz2 h54 with ⟨h55,h56⟩ | ⟨h55,h56⟩
   ·refine .op (lz_iS (m:=0) h55 (by decide)) ?_
    refine .or ?_
    refine .call (ctl_Read_ok k a53 (h56 ▸ (S47.sl (i:=0) rfl))) fun r57 cs58 H59 h60 q61 => ?_
    obtain ⟨w62,h63,q61⟩:=q61
    cases q61
    obtain ⟨v64,rfl,h65⟩:=dTaiCtl.inv h63
    refine .or ?_
    refine .or ?_
    refine .ci ?_
    obtain ⟨H66,e67,S68⟩:=S47.al (d:=13) (s:=(5::0::1::0::1::1::0::σ)) (z:=[(.p (.int .i64 0)),(.p (.int .i64 0)),(.p (.slice none 0 0)),(.p (.int .i64 0)),(.p (.int .i64 0)),(.p (.int .i64 0)),(.p (.int .i64 0)),(.p (.int .i64 0))]) (by decide) rfl
    refine .op (congrArg some e67) ?_
    obtain ⟨H70,e71,S72⟩:=S68.stGv (i:=0) (j:=0) (own:=false) (σ:=(6::0::1::0::1::1::0::σ)) (xs:=[(.p (.int .i64 r57.1.Kind)),(.p (.int .i64 r57.1.Cap)),v64,(.p (.int .i64 r57.1.Peer)),(.p (.int .i64 r57.1.Height)),(.p (.int .i64 r57.1.Class)),(.p (.int .i64 r57.1.Layer)),(.p (.int .i64 r57.1.Code))]) rfl rfl (sC (sI _ _) (sC (sI _ _) (sC h65.still (sC (sI _ _) (sC (sI _ _) (sC (sI _ _) (sC (sI _ _) (sC (sI _ _) sN)))))))) rfl rfl
    refine .op (sM e71) ?_
    refine .cq ?_ ?_
    ·refine .op ((S72.atG (i:=0) rfl).ldVs (j:=0) (xs:=[(.p (.int .i64 r57.1.Kind)),(.p (.int .i64 r57.1.Cap)),v64,(.p (.int .i64 r57.1.Peer)),(.p (.int .i64 r57.1.Height)),(.p (.int .i64 r57.1.Class)),(.p (.int .i64 r57.1.Layer)),(.p (.int .i64 r57.1.Code))]) rfl rfl (by decide)) ?_
     erw [callFO_eq (frzAs_cons (frzA_agg (dTaiCtl.still h63)) frzAs_nil)]
     refine .call (ctl_Bytes_ok k r57.1 h63) fun r74 cs75 H76 h77 q78 => ?_
     obtain ⟨c79,cs80,h81,h82,q78⟩:=q78
     cases q78
     obtain ⟨v83,H84,e85,S86⟩:=S72.landN (dt:=(dI .u8)) (d:=53) h81 h82 (by decide) rfl (.p (.int .i64 r74.2)) []
     erw [e85]
     refine .or ?_
     refine .or ?_
     refine .ci ?_
     refine .ch (P:=fun r y => r = y) ?_ (fun b88 y89 h90 h91 => ?_)
     ·refine .cq ?_ ?_
      ·exact .ret rfl rfl
      ·refine .op ((S86.sl (i:=0) rfl).str) ?_
       refine .op (castS_p _) ?_
       refine .op ((h56 ▸ (S86.sl (i:=1) rfl)).str) ?_
       refine .op (castS_p _) ?_
       exact .ret rfl rfl
     subst h91
     refine .ch (P:=fun r y => (.p (.bool r),H84) = y) ?_ (fun b97 y98 h99 h100 => ?_)
     ·refine .cq ?_ ?_
      ·exact .ret rfl rfl
      ·refine .op ((S86.atG (i:=0) rfl).ldVs (j:=0) (xs:=[(.p (.int .i64 r57.1.Kind)),(.p (.int .i64 r57.1.Cap)),v64,(.p (.int .i64 r57.1.Peer)),(.p (.int .i64 r57.1.Height)),(.p (.int .i64 r57.1.Class)),(.p (.int .i64 r57.1.Layer)),(.p (.int .i64 r57.1.Code))]) rfl rfl (by decide)) ?_
       refine .call (ctl_Right_ok k r57.1 h63) fun r92 cs93 H94 h95 q96 => ?_
       cases q96
       refine .ci ?_
       exact .ret rfl rfl
     subst h100
     refine .ab ?_
     refine .cq ?_ ?_
     ·exact hE1 false H84 (S86.wk2 aN aN)
     exact ih x38_0 x38_1 x39 (IntKind.wrap .i64 (x40 + 1)) v48 v50 h51 H84 (S86.wk2 aN (aC ⟨[22],by simp,aM 1 rfl⟩ aN))
    refine .fa ?_
    refine .op ((S72.atG (i:=0) rfl).ld (j:=0) rfl) ?_
    refine .ci ?_
    refine .ch (P:=fun r y => r = y) ?_ (fun b102 y103 h104 h105 => ?_)
    ·refine .cq ?_ ?_
     ·exact .ret rfl rfl
     ·refine .fa ?_
      refine .op ((S72.atG (i:=0) rfl).ld (j:=2) rfl) ?_
      refine .op ((h65.h H70).len) ?_
      refine .ci ?_
      exact .ret rfl rfl
    subst h105
    refine .cq ?_ ?_
    ·exact hE1 false H70 (S72.wk2 aN aN)
    exact ih x38_0 x38_1 x39 (IntKind.wrap .i64 (x40 + 1)) v48 v50 h51 H70 (S72.wk2 aN (aC ⟨[22],by simp,aM 0 rfl⟩ aN))
   ·refine .op (lz_iS (m:=1) h55 (by decide)) ?_
    refine .or ?_
    refine .call (ctl_Read_ok k a53 (h56 ▸ (h51.h H46))) fun r57 cs58 H59 h60 q61 => ?_
    obtain ⟨w62,h63,q61⟩:=q61
    cases q61
    obtain ⟨v64,rfl,h65⟩:=dTaiCtl.inv h63
    refine .or ?_
    refine .or ?_
    refine .ci ?_
    obtain ⟨H66,e67,S68⟩:=S47.al (d:=13) (s:=(5::0::1::0::1::1::0::σ)) (z:=[(.p (.int .i64 0)),(.p (.int .i64 0)),(.p (.slice none 0 0)),(.p (.int .i64 0)),(.p (.int .i64 0)),(.p (.int .i64 0)),(.p (.int .i64 0)),(.p (.int .i64 0))]) (by decide) rfl
    refine .op (congrArg some e67) ?_
    obtain ⟨H70,e71,S72⟩:=S68.stGv (i:=0) (j:=0) (own:=false) (σ:=(6::0::1::0::1::1::0::σ)) (xs:=[(.p (.int .i64 r57.1.Kind)),(.p (.int .i64 r57.1.Cap)),v64,(.p (.int .i64 r57.1.Peer)),(.p (.int .i64 r57.1.Height)),(.p (.int .i64 r57.1.Class)),(.p (.int .i64 r57.1.Layer)),(.p (.int .i64 r57.1.Code))]) rfl rfl (sC (sI _ _) (sC (sI _ _) (sC h65.still (sC (sI _ _) (sC (sI _ _) (sC (sI _ _) (sC (sI _ _) (sC (sI _ _) sN)))))))) rfl rfl
    refine .op (sM e71) ?_
    refine .cq ?_ ?_
    ·refine .op ((S72.atG (i:=0) rfl).ldVs (j:=0) (xs:=[(.p (.int .i64 r57.1.Kind)),(.p (.int .i64 r57.1.Cap)),v64,(.p (.int .i64 r57.1.Peer)),(.p (.int .i64 r57.1.Height)),(.p (.int .i64 r57.1.Class)),(.p (.int .i64 r57.1.Layer)),(.p (.int .i64 r57.1.Code))]) rfl rfl (by decide)) ?_
     erw [callFO_eq (frzAs_cons (frzA_agg (dTaiCtl.still h63)) frzAs_nil)]
     refine .call (ctl_Bytes_ok k r57.1 h63) fun r74 cs75 H76 h77 q78 => ?_
     obtain ⟨c79,cs80,h81,h82,q78⟩:=q78
     cases q78
     obtain ⟨v83,H84,e85,S86⟩:=S72.landN (dt:=(dI .u8)) (d:=53) h81 h82 (by decide) rfl (.p (.int .i64 r74.2)) []
     erw [e85]
     refine .or ?_
     refine .or ?_
     refine .ci ?_
     refine .ch (P:=fun r y => r = y) ?_ (fun b88 y89 h90 h91 => ?_)
     ·refine .cq ?_ ?_
      ·exact .ret rfl rfl
      ·refine .op ((S86.sl (i:=0) rfl).str) ?_
       refine .op (castS_p _) ?_
       refine .op ((h56 ▸ (h51.h H84)).str) ?_
       refine .op (castS_p _) ?_
       exact .ret rfl rfl
     subst h91
     refine .ch (P:=fun r y => (.p (.bool r),H84) = y) ?_ (fun b97 y98 h99 h100 => ?_)
     ·refine .cq ?_ ?_
      ·exact .ret rfl rfl
      ·refine .op ((S86.atG (i:=0) rfl).ldVs (j:=0) (xs:=[(.p (.int .i64 r57.1.Kind)),(.p (.int .i64 r57.1.Cap)),v64,(.p (.int .i64 r57.1.Peer)),(.p (.int .i64 r57.1.Height)),(.p (.int .i64 r57.1.Class)),(.p (.int .i64 r57.1.Layer)),(.p (.int .i64 r57.1.Code))]) rfl rfl (by decide)) ?_
       refine .call (ctl_Right_ok k r57.1 h63) fun r92 cs93 H94 h95 q96 => ?_
       cases q96
       refine .ci ?_
       exact .ret rfl rfl
     subst h100
     refine .ab ?_
     refine .cq ?_ ?_
     ·exact hE1 false H84 (S86.wk2 aN aN)
     exact ih x38_0 x38_1 x39 (IntKind.wrap .i64 (x40 + 1)) v48 v50 h51 H84 (S86.wk2 aN (aC ⟨[22],by simp,aM 1 rfl⟩ aN))
    refine .fa ?_
    refine .op ((S72.atG (i:=0) rfl).ld (j:=0) rfl) ?_
    refine .ci ?_
    refine .ch (P:=fun r y => r = y) ?_ (fun b102 y103 h104 h105 => ?_)
    ·refine .cq ?_ ?_
     ·exact .ret rfl rfl
     ·refine .fa ?_
      refine .op ((S72.atG (i:=0) rfl).ld (j:=2) rfl) ?_
      refine .op ((h65.h H70).len) ?_
      refine .ci ?_
      exact .ret rfl rfl
    subst h105
    refine .cq ?_ ?_
    ·exact hE1 false H70 (S72.wk2 aN aN)
    exact ih x38_0 x38_1 x39 (IntKind.wrap .i64 (x40 + 1)) v48 v50 h51 H70 (S72.wk2 aN (aC ⟨[22],by simp,aM 0 rfl⟩ aN))
  exact hE0 () H46 (S47.wk2 aN aN)
theorem zl8_CtlReads_ok (k : Nat) {h : H} {σ : Stamp} (x0 : List Int) {u0 : V} (hu0 : SlF (dI .i64) x0 u0) (x1 : List Int) {u1 : V} (hu1 : SlF (dI .u8) x1 u1) (x2 : Int) (x3 : Int) : Sim (p_zl8_CtlReads k x0 x1 x2 x3) (ev G X0 11 σ [u0,u1,(.p (.int .i64 x2)),(.p (.int .u8 x3))] h) (fun r s => s = ([.v (.p (.bool r))],h)):=by
 refine .ev rfl (Sim.ext (zl8_CtlReads_entry _ _ _ _ _ _ _ _) ?_)
 rw [p_zl8_CtlReads]
 have S0 : Fm 81 h [] [] [] (List.replicate 81 []::h):=Fm.start0
 refine .op (bldV (pC hu0.still.cells pN) (by kernel_rfl : _ = some (.agg [u0,.p (.int .i64 0)]))) ?_
 obtain ⟨H1,e2,S3⟩:=S0.box (own:=false) (d:=20) (s:=(2::0::1::0::σ)) (xs:=[u0,.p (.int .i64 0)]) (sC hu0.still (sC (sI _ _) sN)) (by decide) rfl
 refine .op (e2) ?_
 refine .call (zk_Tape_Ctl_ok k (⟨x0,0⟩ : TzTape) hu0 (S3.atG (i:=0) rfl)) fun r5 cs6 H7 h8 q9 => ?_
 obtain ⟨w10,v12,h11,h13,q9⟩:=q9
 cases q9
 obtain ⟨v15,rfl,h16⟩:=dTaiCtl.inv h11
 have S14:=S3.setG (i:=0) (cs':=List.map C.v [v12,(.p (.int .i64 r5.2.f_At))]) rfl rfl rfl
 erw [callFO_eq (frzAs_cons (frzA_agg (dTaiCtl.still h11)) frzAs_nil)]
 refine .call (zr8_Bytes_ok k r5.1 h11) fun r17 cs18 H19 h20 q21 => ?_
 obtain ⟨c22,cs23,h24,h25,q21⟩:=q21
 cases q21
 obtain ⟨v26,H27,e28,S29⟩:=S14.landN (dt:=(dI .u8)) (d:=22) h24 h25 (by decide) rfl (.p (.int .i64 r17.2)) []
 erw [e28]
 refine .or ?_
 refine .or ?_
 refine .ci ?_
 refine .op ((S29.sl (i:=0) rfl).len) ?_
 refine .ci ?_
 refine .call (zb_Within_ok x2 0 (IntKind.wrap .i64 (((r17.1.length : Int)) - 1))) fun r31 cs32 H33 h34 q35 => ?_
 cases q35
 refine .ci ?_
 refine .bd fun a36 h37 => ?_
 refine .op ((S29.sl (i:=0) rfl).iS h37 rfl) ?_
 obtain ⟨_,rfl,hE38⟩:=(S29.sl (i:=0) rfl).el h37 rfl
 refine .op (hE38.ld (j:=0) rfl) ?_
 refine .ci ?_
 refine .bd fun a39 h40 => ?_
 refine .op ((S29.sl (i:=0) rfl).iS h40 rfl) ?_
 refine .bd fun a44 h45 => ?_
 obtain ⟨H41,e42,S43⟩:=S29.setD (i:=0) (e:=1) (own:=true) (σ:=(11::0::1::1::0::σ)) (xv:=(.p (.int .u8 (intBits .xor .u8 a36 x3)))) rfl h45 rfl rfl rfl rfl
 refine .op (sM e42) ?_
 refine .op (bldS (pC (S43.cellsD (i:=0) rfl) (pC hu1.still.cells pN)) (by kernel_rfl : _ = some (.fz [v26,u1] 2 1 true))) ?_
 refine .or ?_
 refine .ci ?_
 refine .as (zl8_CtlReads_l0_ok ?_ ?_ k a44 x1 2 0 v26 u1 hu1 H41 (S43.wk2 aN (aC ⟨[22],by simp,aM 0 rfl⟩ aN)))
 ·intro _u H112 S113
  refine .ext (zl8_CtlReads_a0_0 _ _ _ _) ?_
  refine .call (zl8_known_ok k ) fun r114 cs115 H116 h117 q118 => ?_
  cases q118
  refine .ab ?_
  exact .fin (S113.finN (lC (sB _).lv lN)) rfl
 ·intro r119_8 H120 S121
  refine .ext (zl8_CtlReads_a0_ret _ _ _ _ _) ?_
  exact .fin (S121.finN (lC (sB _).lv lN)) rfl
end
end Go.Ev
namespace Go.Ev
set_option maxRecDepth 100000
set_option linter.unusedSimpArgs false
theorem reads_round {β : Type} {k : Nat} (kE0 : Unit→Option β) (kE1 : Bool→Option β) (x y : List Int) {xs : List Int} (i : Int) (hi : decide (i < 2) = true) (hix : ix [x,y] i = some xs) (hx : isB xs) (hl : xs.length < 2 ^ 30) (hk : xs.length + 3000 ≤ k) :
  p_zl8_CtlReads_l0 (k + 1) kE0 kE1 x y 2 i = p_zl8_CtlReads_l0 k kE0 kE1 x y 2 (IntKind.wrap .i64 (i + 1)):=by
 obtain ⟨c,e,e1,h1,h2⟩:=read_any8 (k:=k) hx hl (by omega) (by omega)
 rw [p_zl8_CtlReads_l0,hi,cond_true,hix,Option.bind_some,e1,Option.bind_some]
 by_cases h0 : e = 0
 ·subst h0
  obtain ⟨b1,b2⟩:=h2 rfl
  have d : (((strB xs).toList == (strB xs).toList)) = true:=by simp
  simp only [beq_self_eq_true,cond_true,b1,b2,Option.bind_some,show ((0 : Int) != 0) = false from rfl,cond_false,d,Bool.not_true]
 ·have hc:=h1 h0
  subst hc
  have d : (e == 0) = false:=by simpa using h0
  simp only [d,cond_false,show ((0 : Int) != 0) = false from rfl,Option.bind_some,List.length_nil,show (((0 : Nat) : Int) != 0) = false from rfl]
theorem ctlReads_true {k : Nat} (hk : 1073741000 ≤ k) (hkn : p_zl8_known (k + 20) = some true) (x0 : List Int) (h0 : x0.length < 2 ^ 50) (x1 : List Int) (h1 : isB x1) (h1l : x1.length ≤ 536870912) (x2 x3 : Int) :
  p_zl8_CtlReads (k + 20) x0 x1 x2 x3 = some true:=by
 obtain ⟨c,t,ea,h⟩:=tape_ctlK (k + 16) (t:=⟨x0,0⟩) ⟨by simp,by simp,h0⟩
 obtain ⟨y,eb,yB,y1,yL⟩:=rbytes h k
 have eb' : p_zr8_Bytes (k + 20) c = some (y,0):=eb
 have w : IntKind.wrap .i64 ((y.length : Int) - 1) = ((y.length - 1 : Nat) : Int):=by rw [wrap_i64 (by omega) (by omega)]; omega
 obtain ⟨r,hr,r0,r1⟩:=within_lo (x:=x2) (hi:=((y.length - 1 : Nat) : Int)) (by omega) (by omega)
 obtain ⟨i,rfl⟩ : ∃ i : Nat,r = i:=⟨r.toNat,by omega⟩
 have hi : i < y.length:=by omega
 have hix : ix y (i : Int) = some y[i]:=ix_at (by simp [hi])
 have hst : ∀ v,stx y (i : Int) v = some (y.set i v):=fun v => by
  unfold stx
  rw [if_pos ⟨by omega,by omega⟩,Int.toNat_natCast]
 have hB : isB (y.set i (intBits .xor .u8 y[i] x3)):=fun x hx => by
  rcases List.mem_or_eq_of_mem_set hx with hx | rfl
  ·exact yB x hx
  ·exact u8_range _
 have hL : (y.set i (intBits .xor .u8 y[i] x3)).length < 10000:=by rw [List.length_set]; exact yL
 have s0:=fun (kE0 : Unit→Option Bool) kE1 => reads_round (k:=k + 19) kE0 kE1 (y.set i (intBits .xor .u8 y[i] x3)) x1 0 rfl rfl hB (by omega) (by omega)
 have s1:=fun (kE0 : Unit→Option Bool) kE1 => reads_round (k:=k + 18) kE0 kE1 (y.set i (intBits .xor .u8 y[i] x3)) x1 1 rfl rfl h1 (by omega) (by omega)
 have s2:=fun (kE0 : Unit→Option Bool) (kE1 : Bool→Option Bool) => show p_zl8_CtlReads_l0 (k + 17 + 1) kE0 kE1 (y.set i (intBits .xor .u8 y[i] x3)) x1 2 2 = kE0 () by
  rw [p_zl8_CtlReads_l0,show decide ((2 : Int) < 2) = false from rfl,cond_false]
 have s:=fun kE0 kE1 => ((s0 kE0 kE1).trans (s1 kE0 kE1)).trans (s2 kE0 kE1)
 unfold p_zl8_CtlReads
 rw [ea,Option.bind_some,eb',Option.bind_some]
 simp only [w,hr,hix,hst,Option.bind_some]
 refine (s _ _).trans ?_
 simp only [hkn,Option.bind_some]
theorem known8big : p_zl8_known (1073741000 + 20) = some true:=by kernel_rfl
theorem okM_bytes8 {M : Nat} {x : (DT.slice 1 (.int .u8)).D} (h : DT.okM M (DT.slice 1 (.int .u8)) x) : isB (Option.getD x [])∧(Option.getD x []).length ≤ M:=by
 cases x with
 | none => exact ⟨fun x hx => (by cases hx),Nat.zero_le _⟩
 | some l =>
  obtain ⟨h1,h2⟩:=h
  refine ⟨fun x hx => wf_u8 (h2 x hx),?_⟩
  show l.length ≤ M
  omega
theorem ctlReads_ev (a0 : (DT.slice 8 (.int .i64)).D) (a1 : (DT.slice 1 (.int .u8)).D) (a2 : (DT.int .i64).D) (a3 : (DT.int .u8).D)
  (w0 : DT.okM 536870912 (DT.slice 8 (.int .i64)) a0) (w1 : DT.okM 536870912 (DT.slice 1 (.int .u8)) a1) (_ : DT.okM 536870912 (DT.int .i64) a2) (_ : DT.okM 536870912 (DT.int .u8) a3) :
  ev G X0 11 [] [(DT.slice 8 (.int .i64)).val a0,(DT.slice 1 (.int .u8)).val a1,(DT.int .i64).val a2,(DT.int .u8).val a3] [] = some ([.v (bV true)],[]):=by
 have hl : (Option.getD a0 []).length < 2 ^ 50:=by
  cases a0 with
  | none => exact Nat.two_pow_pos 50
  | some l =>
   have:=w0.1
   have e : (Option.getD (some l) []).length = l.length:=rfl
   omega
 have h1:=okM_bytes8 w1
 obtain ⟨_,h3,rfl⟩:=zl8_CtlReads_ok (1073741000 + 20) (h:=[]) (σ:=[]) (Option.getD a0 []) (slF_ints a0) (Option.getD a1 []) (slF_ints a1) a2 a3 _
  (ctlReads_true (Nat.le_refl _) known8big _ hl _ h1.1 h1.2 a2 a3)
 exact h3
end Go.Ev
namespace Go.Ev
open Go.Proofs Go.Proofs.Ytigkdihkmihmmaa.Rows
theorem bulk_pos {H : Type} (d : DataW H) : 1 ≤ uptoBulk d:=by
 cases d with
 | lit l => cases l <;> simp [uptoBulk]
 | _ => simp [uptoBulk]
theorem bulk_len {H : Type} : ∀ l : List (DataW H),l.length ≤ uptoBulkAll l
 | [] => by simp
 | d::l => by
  have:=bulk_len l
  have:=bulk_pos d
  rw [List.length_cons,uptoBulkAll]
  omega
theorem bulk_mem {H : Type} {d : DataW H} : ∀ {l : List (DataW H)},d ∈ l→uptoBulk d ≤ uptoBulkAll l
 | [],h => by cases h
 | x::l,h => by
  rw [uptoBulkAll]
  rcases List.mem_cons.1 h with rfl | h
  ·omega
  ·have:=bulk_mem h; omega
theorem wAll_mem {H : Type} {P : Program} {e : TypeId} {n : Nat} : ∀ {l : List (DataW H)},n ∈ DataW.weightsAll P e l→∃ d ∈ l,n ∈ d.weights P e
 | [],h => by simp [DataW.weightsAll] at h
 | x::l,h => by
  simp only [DataW.weightsAll] at h
  rcases List.mem_append.1 h with h | h
  ·exact ⟨x,List.mem_cons_self ..,h⟩
  ·obtain ⟨d,h1,h2⟩:=wAll_mem h; exact ⟨d,List.mem_cons_of_mem _ h1,h2⟩
def DT.smB (B : Nat) : DT→Bool
 | .slice b d => decide (b ≤ B) && d.smB B
 | .strct d => d.smB B
 | .pair a b => a.smB B && b.smB B
 | _ => true
theorem w_lit {H : Type} {P : Program} {B n : Nat} (hB : 1 ≤ B) {l : Lit} {t : TypeId} (h : n ∈ (DataW.lit l : DataW H).weights P t) : n ≤ uptoBulk (DataW.lit l : DataW H) * B:=by
 cases l with
 | string b =>
  simp only [DataW.weights,List.mem_singleton] at h
  subst h
  simp only [uptoBulk]
  calc b.length ≤ (b.length + 1) * 1:=by omega
   _ ≤ _:=Nat.mul_le_mul_left _ hB
 | _ => simp [DataW.weights] at h
mutual
theorem wD_le {H : Type} {P : Program} {B : Nat} (hB : 1 ≤ B) : ∀ (d : DT) (t : TypeId) (x : DataW H),fit P d t = true→d.smB B = true→∀ n ∈ x.weights P t,n ≤ uptoBulk x * B
 | .int k,t,x,hf,_,n,h => by
  simp only [fit,Bool.and_eq_true] at hf
  have hu:=hf.1
  split at hu
  ·rename_i k' hk
   cases x with
   | lit l => exact w_lit hB h
   | _ => simp [DataW.weights,hk] at h
  ·cases hu
 | .bool,t,x,hf,_,n,h => by
  simp only [fit,Bool.and_eq_true] at hf
  have hu:=hf.1
  split at hu
  ·rename_i hk
   cases x with
   | lit l => exact w_lit hB h
   | _ => simp [DataW.weights,hk] at h
  ·cases hu
 | .str,t,x,hf,_,n,h => by
  simp only [fit,Bool.and_eq_true] at hf
  have hu:=hf.1
  split at hu
  ·rename_i hk
   cases x with
   | lit l => exact w_lit hB h
   | _ => simp [DataW.weights,hk] at h
  ·cases hu
 | .slice b d,t,x,hf,hs,n,h => by
  simp only [fit,Bool.and_eq_true] at hf
  simp only [DT.smB,Bool.and_eq_true,decide_eq_true_eq] at hs
  have hu:=hf.1
  split at hu
  ·rename_i e hk
   simp only [Bool.and_eq_true,beq_iff_eq] at hu
   obtain ⟨hfe,hbe,_⟩:=hu
   cases x with
   | lit l => exact w_lit hB h
   | slice es sp =>
    simp only [DataW.weights,hk] at h
    simp only [uptoBulk]
    rcases List.mem_cons.1 h with rfl | h
    ·have h1:=bulk_len es
     have h2:=bulk_len sp
     rw [hbe]
     exact Nat.mul_le_mul (by omega) hs.1
    ·have one : ∀ l : List (DataW H),n ∈ DataW.weightsAll P e l→n ≤ uptoBulkAll l * B:=fun l hl => by
      obtain ⟨y,hy,hn⟩:=wAll_mem hl
      exact Nat.le_trans (wD_le hB d e y hfe hs.2 n hn) (Nat.mul_le_mul_right _ (bulk_mem hy))
     simp only [Nat.add_mul]
     rcases List.mem_append.1 h with h | h
     ·have:=one _ h; omega
     ·have:=one _ h; omega
   | _ => simp [DataW.weights,hk] at h
  ·cases hu
 | .strct d,t,x,hf,hs,n,h => by
  simp only [fit] at hf
  split at hf
  ·rename_i fs hk
   simp only [Bool.and_eq_true] at hf
   cases x with
   | lit l => exact w_lit hB h
   | agg ps =>
    simp only [DataW.weights,hk] at h
    have:=wF_le hB d 0 fs.toList ps hf.1 hs n h
    simp only [uptoBulk,Nat.add_mul]
    omega
   | _ => simp [DataW.weights,hk] at h
  ·cases hf
 | .unit,t,x,hf,_,n,h => by simp [fit] at hf
 | .pair a b,t,x,hf,_,n,h => by simp [fit] at hf
theorem wF_le {H : Type} {P : Program} {B : Nat} (hB : 1 ≤ B) : ∀ (d : DT) (o : Nat) (fs : List Field) (xs : List (DataW H)),fitF P d o fs = true→d.smB B = true→∀ n ∈ DataW.weightsEach P (fs.map (·.type)) xs,n ≤ uptoBulkAll xs * B
 | .unit,o,[],xs,_,_,n,h => by cases xs <;> simp [DataW.weightsEach] at h
 | .unit,o,f::fs,xs,hf,_,n,h => by simp [fitF] at hf
 | .pair a b,o,[],xs,hf,_,n,h => by simp [fitF] at hf
 | .pair a b,o,f::fs,xs,hf,hs,n,h => by
  simp only [fitF,Bool.and_eq_true] at hf
  simp only [DT.smB,Bool.and_eq_true] at hs
  cases xs with
  | nil => simp [DataW.weightsEach] at h
  | cons x xs =>
   simp only [List.map_cons,DataW.weightsEach] at h
   simp only [uptoBulkAll,Nat.add_mul]
   rcases List.mem_append.1 h with h | h
   ·have:=wD_le hB a f.type x hf.2.1 hs.1 n h; omega
   ·have:=wF_le hB b _ fs xs hf.2.2 hs.2 n h; omega
 | .int _,o,fs,xs,hf,_,n,h => by simp [fitF] at hf
 | .bool,o,fs,xs,hf,_,n,h => by simp [fitF] at hf
 | .str,o,fs,xs,hf,_,n,h => by simp [fitF] at hf
 | .slice _ _,o,fs,xs,hf,_,n,h => by simp [fitF] at hf
 | .strct _,o,fs,xs,hf,_,n,h => by simp [fitF] at hf
end
end Go.Ev
